/-
  Part 5 of the proof: see the last text.
-/
import Derived.Test.YthlopjpofmcdmaaP4
import Derived.Test.YthlopjpofmcdmaaProg
import Derived.KernelRfl
import Derived.Sort.Statements
import Derived.Ground.SlgmProg
import Derived.Shelf.SortM.Plain
import Derived.Shelf.SortM.SortNone
import Derived.OpenShut
import Derived.ProofKit
import Derived.Carry
import GoSem.Claim
import GoSem.ClaimJoined
import Derived.JoinedTies
set_option linter.unusedVariables false
set_option linter.unusedSimpArgs false
set_option linter.unusedSectionVars false
section
namespace Go.Abs
open Go
set_option maxRecDepth 10000
set_option maxHeartbeats 4000000
theorem Qvd {P:Program} {c:Nat} {Q4:Int→Option Bool} {f_slices_Sort_int:List Int→Option (List Int)}
    (H_timedsynthesis_event:Qf0 P 65 Q4)
    (H_slices_Sort_int:RowK P 73 (eI .i64) 1 [] f_slices_Sort_int) (hcf:Q1 P c = some Qhv) (fuel:Nat):Qhu P c (Qct Q4 f_slices_Sort_int fuel):=by
 intro xfrom1 to2 ticks3 tick4 marked5 lead6 g7 cp8 r h
 intro M nb hc9 ho11 hf10
 refine Qg8 hcf rfl M nb fun Γ hP hnt hn0 hM=>?_
 subst hP hn0
 refine Tr.init [(0,(i_ xfrom1)),(1,(i_ to2)),(2,(i_ ticks3)),(3,(i_ tick4)),(4,(b_ marked5)),(5,.clo g7 cp8)] rfl ?_
 unfold Qct at h
 unfold Qhv
 refine sr ((Rn.alloc tv rfl (md rfl (nt ((Tr.seq (Tr.block ?_)))))))
 refine Tr.cutB (fun (x22:Bool)=>⟨look [(0,(i_ xfrom1)),(1,(i_ to2)),(2,(i_ ticks3)),(3,(i_ tick4)),(4,(b_ marked5)),(5,.clo g7 cp8),(12,.ptr (Γ.n0 + 12) 0),(19,(b_ x22))],Qr Γ.n0 (bxs [(12,.cells ([.nils 1,(i_ 0),.nils 1,.nils 3]))]) M,Γ.n0 + 113⟩) h (fun z h=>?_) (fun z h=>?_)
 ·refine Tr.rgn (md rfl ?_)
  obtain ⟨x15,h14,h⟩:=bnd h
  refine Rn.call (args:=[(i_ xfrom1)]) tv rfl (H_timedsynthesis_event _ _ h14) pc9 (Rn.un tv rfl rfl (md rfl ?_))
  refine Q8 x15 (fun hb16=>?_) (fun hb16=>?_)
  ·replace h:=bT hb16 h
   refine Rn.movD (gw rfl (nT hb16)) rfl ?_
   obtain ⟨x18,h17,h⟩:=bnd h
   refine Rn.call (args:=[(i_ to2)]) (gw rfl (nT hb16)) rfl (H_timedsynthesis_event _ _ h17) pc9 (Rn.un (gw rfl (nT hb16)) rfl rfl (Rn.pickF (v:=(b_ (!x18))) tv rfl (nT hb16) rfl (md rfl ?_)))
   refine Q8 x18 (fun hb19=>?_) (fun hb19=>?_)
   ·replace h:=bT hb19 h
    refine Rn.movD (gw rfl (nT hb19)) rfl ?_
    obtain ⟨x21,h20,h⟩:=bnd h
    refine Rn.call (args:=[(i_ tick4)]) (gw rfl (nT hb19)) rfl (H_timedsynthesis_event _ _ h20) pc9 (Rn.un (gw rfl (nT hb19)) rfl rfl (Rn.pickF (v:=(b_ (!x21))) tv rfl (nT hb19) rfl (md rfl (Rn.nil ?_))))
    replace h:=si h; subst h
    exact Qn [] ⟨(sm rfl),(sm rfl),(sm rfl),(sm rfl),(sm rfl),(kFun hM ho11),(kPtr rfl),(sm rfl),tv⟩ ⟨⟨_,rfl,rfl,(.same rfl)⟩,tv⟩ rfl
   ·replace h:=bF hb19 h
    refine Rn.sk (nw rfl (nF hb19)) (Rn.sk (nw rfl (nF hb19)) (Rn.sk (nw rfl (nF hb19)) (Rn.pickT (v:=(b_ true)) tv rfl (nF hb19) rfl (md rfl (Rn.nil ?_)))))
    replace h:=si h; subst h
    exact Qn [] ⟨(sm rfl),(sm rfl),(sm rfl),(sm rfl),(sm rfl),(kFun hM ho11),(kPtr rfl),(sm rfl),tv⟩ ⟨⟨_,rfl,rfl,(.same rfl)⟩,tv⟩ rfl
  ·replace h:=bF hb16 h
   refine Rn.sk (nw rfl (nF hb16)) (Rn.sk (nw rfl (nF hb16)) (Rn.sk (nw rfl (nF hb16)) (Rn.pickT (v:=(b_ true)) tv rfl (nF hb16) rfl (md rfl (Rn.sk (nw (b:=true) rfl rfl) (Rn.sk (nw (b:=true) rfl rfl) (Rn.sk (nw (b:=true) rfl rfl) (Rn.pickT (v:=(b_ true)) tv rfl rfl rfl (md rfl (Rn.nil ?_))))))))))
   replace h:=si h; subst h
   exact Qn [] ⟨(sm rfl),(sm rfl),(sm rfl),(sm rfl),(sm rfl),(kFun hM ho11),(kPtr rfl),(sm rfl),tv⟩ ⟨⟨_,rfl,rfl,(.same rfl)⟩,tv⟩ rfl
 ·obtain ⟨x22,rfl⟩ : ∃ x,x = z:=⟨_,rfl⟩
  refine Tr.cond rfl (fun hb23=>?_) (fun hb23=>?_)
  ·replace h:=bT hb23 h
   refine sr ((Rn.build (v:=.agg [.nils 1,(i_ 0),.nils 1,.nils 3]) tv rfl (Rn.storeT (v:=.agg [.nils 1,(i_ 0),.nils 1,.nils 3]) (ds:=[.nils 1,(i_ 0),.nils 1,.nils 3]) (cs':=[.nils 1,(i_ 0),.nils 1,.nils 3]) tv rfl rfl rfl rfl rfl rfl rfl (md rfl (nt ((Tr.ret ?_)))))))
   replace h:=si h; subst h
   exact ⟨.inr rfl,.tup [.agg [.nils 1,(i_ 0),.nils 1,.nils 3],(i_ 2)],res2 (Qyc rfl rfl rfl rfl) rfl,(WkV.tup (.cons (WkV.agg (.cons (WkV.nilsD _) (.cons (.same rfl) (.cons (WkV.nilsD _) (.cons (WkV.nilsD _) .nil))))) (.cons (.same rfl) .nil))).rd,⟨⟨tv,tv,tv,tv,tv⟩,tv,tv⟩,fun k hk=>Qf hk⟩
  ·replace h:=bF hb23 h
   refine Tr.cutB (fun (x26:Bool)=>⟨look [(0,(i_ xfrom1)),(1,(i_ to2)),(2,(i_ ticks3)),(3,(i_ tick4)),(4,(b_ marked5)),(5,.clo g7 cp8),(12,.ptr (Γ.n0 + 12) 0),(34,(b_ x26))],Qr Γ.n0 (bxs [(12,.cells ([.nils 1,(i_ 0),.nils 1,.nils 3]))]) M,Γ.n0 + 113⟩) h (fun z h=>?_) (fun z h=>?_)
   ·refine Tr.rgn (md rfl (md rfl (Rn.bin tv rfl rfl rfl (md rfl ?_))))
    refine Q8 (xfrom1 == to2) (fun hb24=>?_) (fun hb24=>?_)
    ·replace h:=bT hb24 h
     refine Rn.sk (nw rfl hb24) (Rn.sk (nw rfl hb24) (Rn.sk (nw rfl hb24) (Rn.pickT (v:=(b_ true)) tv rfl hb24 rfl (md rfl (Rn.sk (nw (b:=true) rfl rfl) (Rn.sk (nw (b:=true) rfl rfl) (Rn.sk (nw (b:=true) rfl rfl) (Rn.pickT (v:=(b_ true)) tv rfl rfl rfl (md rfl (Rn.nil ?_))))))))))
     replace h:=si h; subst h
     exact Qn [] ⟨(sm rfl),(sm rfl),(sm rfl),(sm rfl),(sm rfl),(kFun hM ho11),(kPtr rfl),(sm rfl),tv⟩ ⟨⟨_,rfl,rfl,(.same rfl)⟩,tv⟩ rfl
    ·replace h:=bF hb24 h
     refine Rn.movD (gw rfl hb24) rfl (Rn.movD (gw rfl hb24) rfl (Rn.bin (gw rfl hb24) rfl rfl rfl (Rn.pickF (v:=(b_ (xfrom1 == tick4))) tv rfl hb24 rfl (md rfl ?_))))
     refine Q8 (xfrom1 == tick4) (fun hb25=>?_) (fun hb25=>?_)
     ·replace h:=bT hb25 h
      refine Rn.sk (nw rfl hb25) (Rn.sk (nw rfl hb25) (Rn.sk (nw rfl hb25) (Rn.pickT (v:=(b_ true)) tv rfl hb25 rfl (md rfl (Rn.nil ?_)))))
      replace h:=si h; subst h
      exact Qn [] ⟨(sm rfl),(sm rfl),(sm rfl),(sm rfl),(sm rfl),(kFun hM ho11),(kPtr rfl),(sm rfl),tv⟩ ⟨⟨_,rfl,rfl,(.same rfl)⟩,tv⟩ rfl
     ·replace h:=bF hb25 h
      refine Rn.movD (gw rfl hb25) rfl (Rn.movD (gw rfl hb25) rfl (Rn.bin (gw rfl hb25) rfl rfl rfl (Rn.pickF (v:=(b_ (to2 == tick4))) tv rfl hb25 rfl (md rfl (Rn.nil ?_)))))
      replace h:=si h; subst h
      exact Qn [] ⟨(sm rfl),(sm rfl),(sm rfl),(sm rfl),(sm rfl),(kFun hM ho11),(kPtr rfl),(sm rfl),tv⟩ ⟨⟨_,rfl,rfl,(.same rfl)⟩,tv⟩ rfl
   ·obtain ⟨x26,rfl⟩ : ∃ x,x = z:=⟨_,rfl⟩
    refine Tr.cond rfl (fun hb27=>?_) (fun hb27=>?_)
    ·replace h:=bT hb27 h
     refine sr ((Rn.build (v:=.agg [.nils 1,(i_ 0),.nils 1,.nils 3]) tv rfl (Rn.storeT (v:=.agg [.nils 1,(i_ 0),.nils 1,.nils 3]) (ds:=[.nils 1,(i_ 0),.nils 1,.nils 3]) (cs':=[.nils 1,(i_ 0),.nils 1,.nils 3]) tv rfl rfl rfl rfl rfl rfl rfl (md rfl (nt ((Tr.ret ?_)))))))
     replace h:=si h; subst h
     exact ⟨.inr rfl,.tup [.agg [.nils 1,(i_ 0),.nils 1,.nils 3],(i_ 13)],res2 (Qyc rfl rfl rfl rfl) rfl,(WkV.tup (.cons (WkV.agg (.cons (WkV.nilsD _) (.cons (.same rfl) (.cons (WkV.nilsD _) (.cons (WkV.nilsD _) .nil))))) (.cons (.same rfl) .nil))).rd,⟨⟨tv,tv,tv,tv,tv⟩,tv,tv⟩,fun k hk=>Qf hk⟩
    ·replace h:=bF hb27 h
     refine Tr.cutB (fun (x29:Bool)=>⟨look [(0,(i_ xfrom1)),(1,(i_ to2)),(2,(i_ ticks3)),(3,(i_ tick4)),(4,(b_ marked5)),(5,.clo g7 cp8),(12,.ptr (Γ.n0 + 12) 0),(49,(b_ x29))],Qr Γ.n0 (bxs [(12,.cells ([.nils 1,(i_ 0),.nils 1,.nils 3]))]) M,Γ.n0 + 113⟩) h (fun z h=>?_) (fun z h=>?_)
     ·refine Tr.rgn (md rfl (Rn.bin tv rfl rfl rfl (md rfl ?_)))
      refine Q8 (decide (ticks3 < 0)) (fun hb28=>?_) (fun hb28=>?_)
      ·replace h:=ifT hb28 h
       refine Rn.sk (nw rfl hb28) (Rn.sk (nw rfl hb28) (Rn.pickT (v:=(b_ true)) tv rfl hb28 rfl (md rfl (Rn.nil ?_))))
       replace h:=si h; subst h
       exact Qn [] ⟨(sm rfl),(sm rfl),(sm rfl),(sm rfl),(sm rfl),(kFun hM ho11),(kPtr rfl),(sm rfl),tv⟩ ⟨⟨_,rfl,rfl,(.same rfl)⟩,tv⟩ rfl
      ·replace h:=ifF hb28 h
       refine Rn.movD (gw rfl hb28) rfl (Rn.bin (gw rfl hb28) rfl rfl rfl (Rn.pickF (v:=(b_ (decide (ticks3 > 16)))) tv rfl hb28 rfl (md rfl (Rn.nil ?_))))
       replace h:=si h; subst h
       exact Qn [] ⟨(sm rfl),(sm rfl),(sm rfl),(sm rfl),(sm rfl),(kFun hM ho11),(kPtr rfl),(sm rfl),tv⟩ ⟨⟨_,rfl,rfl,(.same rfl)⟩,tv⟩ rfl
     ·obtain ⟨x29,rfl⟩ : ∃ x,x = z:=⟨_,rfl⟩
      refine Tr.cond rfl (fun hb30=>?_) (fun hb30=>?_)
      ·replace h:=bT hb30 h
       refine sr ((Rn.build (v:=.agg [.nils 1,(i_ 0),.nils 1,.nils 3]) tv rfl (Rn.storeT (v:=.agg [.nils 1,(i_ 0),.nils 1,.nils 3]) (ds:=[.nils 1,(i_ 0),.nils 1,.nils 3]) (cs':=[.nils 1,(i_ 0),.nils 1,.nils 3]) tv rfl rfl rfl rfl rfl rfl rfl (md rfl (nt ((Tr.ret ?_)))))))
       replace h:=si h; subst h
       exact ⟨.inr rfl,.tup [.agg [.nils 1,(i_ 0),.nils 1,.nils 3],(i_ 2)],res2 (Qyc rfl rfl rfl rfl) rfl,(WkV.tup (.cons (WkV.agg (.cons (WkV.nilsD _) (.cons (.same rfl) (.cons (WkV.nilsD _) (.cons (WkV.nilsD _) .nil))))) (.cons (.same rfl) .nil))).rd,⟨⟨tv,tv,tv,tv,tv⟩,tv,tv⟩,fun k hk=>Qf hk⟩
      ·replace h:=bF hb30 h
       refine Tr.skip (toN (sr ((md rfl (md rfl (md rfl (Rn.bslice (xs:=[(i_ xfrom1),(i_ to2),(i_ tick4)]) (cs:=[(i_ xfrom1),(i_ to2),(i_ tick4)]) tv rfl rfl rfl rfl (md rfl (Rn.bin tv rfl rfl rfl (Rn.buildT (v:=.agg [.sl 1 (Γ.n0 + 60) 0 3 3,(i_ (IntKind.wrap .i64 (ticks3 + 2))),.nils 1,.nils 3]) tv rfl (Rn.alloc tv rfl (Rn.storeT (v:=.agg [.sl 1 (Γ.n0 + 60) 0 3 3,(i_ (IntKind.wrap .i64 (ticks3 + 2))),.nils 1,.nils 3]) (ds:=[.sl 1 (Γ.n0 + 60) 0 3 3,(i_ (IntKind.wrap .i64 (ticks3 + 2))),.nils 1,.nils 3]) (cs':=[.sl 1 (Γ.n0 + 60) 0 3 3,(i_ (IntKind.wrap .i64 (ticks3 + 2))),.nils 1,.nils 3]) tv rfl rfl rfl rfl rfl rfl rfl (nt ((sr ((Rn.fldP (o':=0) tv rfl rfl (Rn.load (v:=.sl 1 (Γ.n0 + 60) 0 3 3) tv rfl (Qi rfl) rfl rfl ?_))))))))))))))))))
       obtain ⟨row31,hs32,h⟩:=bnd h
       obtain ⟨hl33,hn34,hr35⟩:=H_slices_Sort_int _ _ hs32
       refine Rn.callRow (args:=[.sl 1 (Γ.n0 + 60) 0 3 3]) (t:=60) (cs:=Qz (fun (x:Int)=>[V.d (.int .i64 x)]) [xfrom1,to2,tick4]) (cs':=Qz (fun (x:Int)=>[V.d (.int .i64 x)]) row31) tv rfl rfl (fun M2 hM2=>Qbgp (fun _=>rfl) hr35 (Nat.le_of_ble_eq_true rfl) hM2) rfl ?_
       refine Rn.nil (toN ?_)
       refine Tr.cutB (fun ((c71,c72,c73,a74,a75,a76):(List Int)×(List Int)×(List Qe)×Int×(List Int)×(List Qe))=>⟨look [(12,.ptr (Γ.n0 + 12) 0),(14,.ptr (Γ.n0 + 14) 0)],Qr Γ.n0 (bxs [(12,.cells ([(o_ c71),(i_ 0),(o_ c72),.own 3 (List.map Qb c73)])),(14,.cells ([.sl 1 (Γ.n0 + 60) 0 3 3,(i_ a74),(o_ a75),.own 3 (List.map Qb a76)])),(60,.cells (Qz (fun (x:Int)=>[V.d (.int .i64 x)]) row31))]) M,Γ.n0 + 113⟩) h (fun z h=>?_) (fun z h=>?_)
       ·refine sr ((Rn.fldP (o':=1) tv rfl rfl (Rn.load (v:=(i_ (IntKind.wrap .i64 (ticks3 + 2)))) tv rfl (Qi rfl) rfl rfl (md rfl (nt ((Tr.block ?_)))))))
        refine Tr.loop (mk:=fun ((x36,x37,c38,c39,c40,a41,a42,a43):Int×Int×(List Int)×(List Int)×(List Qe)×Int×(List Int)×(List Qe))=>⟨look [(0,(i_ xfrom1)),(4,(b_ marked5)),(5,.clo g7 cp8),(12,.ptr (Γ.n0 + 12) 0),(14,.ptr (Γ.n0 + 14) 0),(68,(i_ x36)),(69,(i_ x37))],Qr Γ.n0 (bxs [(12,.cells ([(o_ c38),(i_ 0),(o_ c39),.own 3 (List.map Qb c40)])),(14,.cells ([.sl 1 (Γ.n0 + 60) 0 3 3,(i_ a41),(o_ a42),.own 3 (List.map Qb a43)])),(60,.cells (Qz (fun (x:Int)=>[V.d (.int .i64 x)]) row31))]) M,Γ.n0 + 113⟩) h (by exact Qx ⟨(sm rfl),(sm rfl),(kFun hM ho11),(kPtr rfl),(kPtr rfl),(sm rfl),(sm rfl),tv⟩ ⟨⟨_,rfl,rfl,(.cons (WkV.nilsO _) (.cons (sm rfl) (.cons (WkV.nilsO _) (.cons (WkV.nilsO _) .nil))))⟩,⟨_,rfl,rfl,(.cons (kSl rfl) (.cons (sm rfl) (.cons (WkV.nilsO _) (.cons (WkV.nilsO _) .nil))))⟩,⟨_,rfl,rfl,(Qu fun _=>rfl)⟩,tv⟩ rfl) (fun k44 z h=>?_)
        ·obtain ⟨x36,x37,c38,c39,c40,a41,a42,a43⟩:=z
         replace h:_ = some _:=h
         refine sr ((Rn.bin tv rfl rfl rfl (nt ((Tr.seq ?_)))))
         refine Tr.cond rfl (fun hb45=>?_) (fun hb45=>?_)
         ·replace h:=ifT hb45 h
          refine Tr.skip (toN ?_)
          refine Tr.cutB (fun ((a69,a70):(List Int)×(List Qe))=>⟨look [(0,(i_ xfrom1)),(4,(b_ marked5)),(5,.clo g7 cp8),(12,.ptr (Γ.n0 + 12) 0),(14,.ptr (Γ.n0 + 14) 0),(68,(i_ x36)),(69,(i_ x37))],Qr Γ.n0 (bxs [(12,.cells ([(o_ c38),(i_ 0),(o_ c39),.own 3 (List.map Qb c40)])),(14,.cells ([.sl 1 (Γ.n0 + 60) 0 3 3,(i_ a41),(o_ a69),.own 3 (List.map Qb a70)])),(60,.cells (Qz (fun (x:Int)=>[V.d (.int .i64 x)]) row31))]) M,Γ.n0 + 113⟩) h (fun z h=>?_) (fun z h=>?_)
          ·refine Tr.block (sr ((md rfl (md rfl (Rn.nil (toN ?_))))))
           refine Tr.cutB (fun (a51:List Int)=>⟨look [(0,(i_ xfrom1)),(4,(b_ marked5)),(5,.clo g7 cp8),(12,.ptr (Γ.n0 + 12) 0),(14,.ptr (Γ.n0 + 14) 0),(15,(i_ x37)),(68,(i_ x36)),(69,(i_ x37))],Qr Γ.n0 (bxs [(12,.cells ([(o_ c38),(i_ 0),(o_ c39),.own 3 (List.map Qb c40)])),(14,.cells ([.sl 1 (Γ.n0 + 60) 0 3 3,(i_ a41),(o_ a51),.own 3 (List.map Qb a43)])),(60,.cells (Qz (fun (x:Int)=>[V.d (.int .i64 x)]) row31))]) M,Γ.n0 + 113⟩) h (fun z h=>?_) (fun z h=>?_)
           ·refine Tr.cutB (fun (x47:Bool)=>⟨look [(0,(i_ xfrom1)),(4,(b_ marked5)),(5,.clo g7 cp8),(12,.ptr (Γ.n0 + 12) 0),(14,.ptr (Γ.n0 + 14) 0),(15,(i_ x37)),(68,(i_ x36)),(69,(i_ x37)),(76,(b_ x47))],Qr Γ.n0 (bxs [(12,.cells ([(o_ c38),(i_ 0),(o_ c39),.own 3 (List.map Qb c40)])),(14,.cells ([.sl 1 (Γ.n0 + 60) 0 3 3,(i_ a41),(o_ a42),.own 3 (List.map Qb a43)])),(60,.cells (Qz (fun (x:Int)=>[V.d (.int .i64 x)]) row31))]) M,Γ.n0 + 113⟩) h (fun z h=>?_) (fun z h=>?_)
            ·refine Tr.rgn (md rfl (Rn.bin tv rfl rfl rfl (md rfl ?_)))
             refine Q8 (x37 == 0) (fun hb46=>?_) (fun hb46=>?_)
             ·replace h:=bT hb46 h
              refine Rn.sk (nw rfl hb46) (Rn.pickT (v:=(b_ true)) tv rfl hb46 rfl (Rn.nil ?_))
              replace h:=si h; subst h
              exact Qn [] ⟨(sm rfl),(sm rfl),(kFun hM ho11),(kPtr rfl),(kPtr rfl),(sm rfl),(sm rfl),(sm rfl),(sm rfl),tv⟩ ⟨⟨_,rfl,rfl,(.same rfl)⟩,⟨_,rfl,rfl,(.cons (kSl rfl) (.cons (sm rfl) (.cons (sm rfl) (.cons (sm rfl) .nil))))⟩,⟨_,rfl,rfl,(Qu fun _=>rfl)⟩,tv⟩ rfl
             ·replace h:=bF hb46 h
              refine Rn.movD (gw rfl hb46) rfl (Rn.pickF (v:=(b_ marked5)) tv rfl hb46 rfl (Rn.nil ?_))
              replace h:=si h; subst h
              exact Qn [] ⟨(sm rfl),(sm rfl),(kFun hM ho11),(kPtr rfl),(kPtr rfl),(sm rfl),(sm rfl),(sm rfl),(sm rfl),tv⟩ ⟨⟨_,rfl,rfl,(.same rfl)⟩,⟨_,rfl,rfl,(.cons (kSl rfl) (.cons (sm rfl) (.cons (sm rfl) (.cons (sm rfl) .nil))))⟩,⟨_,rfl,rfl,(Qu fun _=>rfl)⟩,tv⟩ rfl
            ·obtain ⟨x47,rfl⟩ : ∃ x,x = z:=⟨_,rfl⟩
             refine Tr.cond rfl (fun hb48=>?_) (fun hb48=>?_)
             ·replace h:=bT hb48 h
              refine Tr.rgn (Rn.fldP (o':=2) tv rfl rfl (Rn.loadT (cs':=[.sl 1 (Γ.n0 + 60) 0 3 3,(i_ a41),(l_ a42),.own 3 (List.map Qb a43)]) tv rfl rfl rfl rfl (md rfl (Rn.bslice (xs:=[(i_ x37)]) (cs:=[(i_ x37)]) tv rfl rfl rfl rfl ?_))))
              obtain ⟨x49,h50,h⟩:=bnd h
              refine Rn.app (e:=(eI .i64)) tv rfl rfl rfl (Qg2 rfl rfl rfl) h50 rfl (Rn.fldP (o':=2) tv rfl rfl (Rn.storeO (cs':=[.sl 1 (Γ.n0 + 60) 0 3 3,(i_ a41),(o_ x49),.own 3 (List.map Qb a43)]) tv rfl rfl rfl rfl rfl (Rn.nil ?_)))
              replace h:=si h; subst h
              exact Qn [80] ⟨(sm rfl),(sm rfl),(kFun hM ho11),(kPtr rfl),(kPtr rfl),(sm rfl),(sm rfl),(sm rfl),tv⟩ ⟨⟨_,rfl,rfl,(.same rfl)⟩,⟨_,rfl,rfl,(.cons (kSl rfl) (.cons (sm rfl) (.cons (sm rfl) (.cons (sm rfl) .nil))))⟩,⟨_,rfl,rfl,(Qu fun _=>rfl)⟩,tv⟩ rfl
             ·replace h:=bF hb48 h
              refine Tr.skip ?_
              replace h:=si h; subst h
              exact Qn [] ⟨(sm rfl),(sm rfl),(kFun hM ho11),(kPtr rfl),(kPtr rfl),(sm rfl),(sm rfl),(sm rfl),tv⟩ ⟨⟨_,rfl,rfl,(.same rfl)⟩,⟨_,rfl,rfl,(.cons (kSl rfl) (.cons (sm rfl) (.cons (sm rfl) (.cons (sm rfl) .nil))))⟩,⟨_,rfl,rfl,(Qu fun _=>rfl)⟩,tv⟩ rfl
           ·obtain ⟨a51,rfl⟩ : ∃ x,x = z:=⟨_,rfl⟩
            refine sr ((Rn.fldP (o':=0) tv rfl rfl (Rn.load (v:=.sl 1 (Γ.n0 + 60) 0 3 3) tv rfl (Qi rfl) rfl rfl (Rn.lenA tv rfl (md rfl (nt ((Tr.block ?_))))))))
            refine Tr.loop (mk:=fun ((x52,a53):Int×(List Qe))=>⟨look [(0,(i_ xfrom1)),(4,(b_ marked5)),(5,.clo g7 cp8),(12,.ptr (Γ.n0 + 12) 0),(14,.ptr (Γ.n0 + 14) 0),(15,(i_ x37)),(68,(i_ x36)),(69,(i_ x37)),(84,.sl 1 (Γ.n0 + 60) 0 3 3),(85,(i_ (3:Int))),(86,(i_ x52))],Qr Γ.n0 (bxs [(12,.cells ([(o_ c38),(i_ 0),(o_ c39),.own 3 (List.map Qb c40)])),(14,.cells ([.sl 1 (Γ.n0 + 60) 0 3 3,(i_ a41),(o_ a51),.own 3 (List.map Qb a53)])),(60,.cells (Qz (fun (x:Int)=>[V.d (.int .i64 x)]) row31))]) M,Γ.n0 + 113⟩) h (by exact Qx ⟨(sm rfl),(sm rfl),(kFun hM ho11),(kPtr rfl),(kPtr rfl),(sm rfl),(sm rfl),(sm rfl),(kSl rfl),(sm rfl),(sm rfl),tv⟩ ⟨⟨_,rfl,rfl,(.same rfl)⟩,⟨_,rfl,rfl,(.cons (kSl rfl) (.cons (sm rfl) (.cons (sm rfl) (.cons (sm rfl) .nil))))⟩,⟨_,rfl,rfl,(Qu fun _=>rfl)⟩,tv⟩ rfl) (fun k54 z h=>?_)
            ·obtain ⟨x52,a53⟩:=z
             replace h:_ = some _:=h
             refine sr ((Rn.bin tv rfl rfl rfl (nt ((Tr.seq ?_)))))
             refine Tr.cond rfl (fun hb55=>?_) (fun hb55=>?_)
             ·replace h:=ifT hb55 h
              refine Tr.skip (toN ?_)
              refine Tr.cutB (fun (a68:List Qe)=>⟨look [(0,(i_ xfrom1)),(4,(b_ marked5)),(5,.clo g7 cp8),(12,.ptr (Γ.n0 + 12) 0),(14,.ptr (Γ.n0 + 14) 0),(15,(i_ x37)),(68,(i_ x36)),(69,(i_ x37)),(84,.sl 1 (Γ.n0 + 60) 0 3 3),(85,(i_ (3:Int))),(86,(i_ x52))],Qr Γ.n0 (bxs [(12,.cells ([(o_ c38),(i_ 0),(o_ c39),.own 3 (List.map Qb c40)])),(14,.cells ([.sl 1 (Γ.n0 + 60) 0 3 3,(i_ a41),(o_ a51),.own 3 (List.map Qb a68)])),(60,.cells (Qz (fun (x:Int)=>[V.d (.int .i64 x)]) row31))]) M,Γ.n0 + 113⟩) h (fun z h=>?_) (fun z h=>?_)
              ·refine Tr.block (Tr.seq (Tr.rgn ?_))
               obtain ⟨⟨⟩,h57,h⟩:=bnd h
               refine Rn.idxA tv rfl rfl h57 ?_
               obtain ⟨x58,h59,h⟩:=bnd h
               refine Rn.loadA (g:=(fun (x:Int)=>[V.d (.int .i64 x)])) (v:=(i_ x58)) (f:=0) (fun _=>rfl) tv rfl (Qi rfl) h59 rfl rfl (md rfl (nt ((sr ((Rn.mov (v:=.clo g7 cp8) tv rfl (md rfl (md rfl ?_))))))))
               obtain ⟨x61,h60,h⟩:=bnd h
               refine Rn.callvM (args:=[(i_ x37),(i_ x58)] ++ cp8) tv rfl (by rw [hc9]; rfl) (fun M2 nb2 hn hx=>hf10 _ _ _ h60 M2 nb2 (by omega) ((Q02 hM).trans hx)) rfl pc9 ?_
               refine md rfl (Rn.nil (toN ?_))
               refine Tr.cutB (fun (next64:Int)=>⟨look [(0,(i_ xfrom1)),(4,(b_ marked5)),(5,.clo g7 cp8),(12,.ptr (Γ.n0 + 12) 0),(14,.ptr (Γ.n0 + 14) 0),(15,(i_ x37)),(17,(i_ x58)),(18,(i_ next64)),(68,(i_ x36)),(69,(i_ x37)),(84,.sl 1 (Γ.n0 + 60) 0 3 3),(85,(i_ (3:Int))),(86,(i_ x52))],Qr Γ.n0 (bxs [(12,.cells ([(o_ c38),(i_ 0),(o_ c39),.own 3 (List.map Qb c40)])),(14,.cells ([.sl 1 (Γ.n0 + 60) 0 3 3,(i_ a41),(o_ a51),.own 3 (List.map Qb a53)])),(60,.cells (Qz (fun (x:Int)=>[V.d (.int .i64 x)]) row31))]) M,Γ.n0 + 113⟩) h (fun z h=>?_) (fun z h=>?_)
               ·refine sr ((md rfl (Rn.bin tv rfl rfl rfl (Rn.nil (toN ?_)))))
                refine Tr.cond rfl (fun hb62=>?_) (fun hb62=>?_)
                ·replace h:=bT hb62 h
                 refine sr ((md rfl (nt ((sr ((md rfl (md rfl (Rn.bin tv rfl rfl rfl (Rn.nil (toN ?_)))))))))))
                 refine Tr.cond rfl (fun hb63=>?_) (fun hb63=>?_)
                 ·replace h:=bT hb63 h
                  refine Tr.rgn (md rfl (Rn.nil ?_))
                  replace h:=si h; subst h
                  exact Qn [] ⟨(sm rfl),(sm rfl),(kFun hM ho11),(kPtr rfl),(kPtr rfl),(sm rfl),(sm rfl),(sm rfl),(sm rfl),(sm rfl),(kSl rfl),(sm rfl),(sm rfl),tv⟩ ⟨⟨_,rfl,rfl,(.same rfl)⟩,⟨_,rfl,rfl,(.cons (kSl rfl) (.cons (sm rfl) (.cons (sm rfl) (.cons (sm rfl) .nil))))⟩,⟨_,rfl,rfl,(Qu fun _=>rfl)⟩,tv⟩ rfl
                 ·replace h:=bF hb63 h
                  refine Tr.skip ?_
                  replace h:=si h; subst h
                  exact Qn [] ⟨(sm rfl),(sm rfl),(kFun hM ho11),(kPtr rfl),(kPtr rfl),(sm rfl),(sm rfl),(sm rfl),(sm rfl),(sm rfl),(kSl rfl),(sm rfl),(sm rfl),tv⟩ ⟨⟨_,rfl,rfl,(.same rfl)⟩,⟨_,rfl,rfl,(.cons (kSl rfl) (.cons (sm rfl) (.cons (sm rfl) (.cons (sm rfl) .nil))))⟩,⟨_,rfl,rfl,(Qu fun _=>rfl)⟩,tv⟩ rfl
                ·replace h:=bF hb62 h
                 refine Tr.skip ?_
                 replace h:=si h; subst h
                 exact Qn [] ⟨(sm rfl),(sm rfl),(kFun hM ho11),(kPtr rfl),(kPtr rfl),(sm rfl),(sm rfl),(sm rfl),(sm rfl),(sm rfl),(kSl rfl),(sm rfl),(sm rfl),tv⟩ ⟨⟨_,rfl,rfl,(.same rfl)⟩,⟨_,rfl,rfl,(.cons (kSl rfl) (.cons (sm rfl) (.cons (sm rfl) (.cons (sm rfl) .nil))))⟩,⟨_,rfl,rfl,(Qu fun _=>rfl)⟩,tv⟩ rfl
               ·obtain ⟨next64,rfl⟩ : ∃ x,x = z:=⟨_,rfl⟩
                refine sr ((md rfl (Rn.bin tv rfl rfl rfl (Rn.nil (toN ?_)))))
                refine Tr.cond rfl (fun hb65=>?_) (fun hb65=>?_)
                ·replace h:=bT hb65 h
                 refine Tr.rgn (Rn.fldP (o':=3) tv rfl rfl (Rn.loadT (cs':=[.sl 1 (Γ.n0 + 60) 0 3 3,(i_ a41),(o_ a51),.d (.lst 3 (List.map Qb a53))]) tv rfl rfl rfl rfl (md rfl (md rfl (md rfl (Rn.build (v:=.agg [(i_ x37),(i_ x58),(i_ next64)]) tv rfl (Rn.bslice (xs:=[.agg [(i_ x37),(i_ x58),(i_ next64)]]) (cs:=[(i_ x37),(i_ x58),(i_ next64)]) tv rfl rfl rfl rfl ?_)))))))
                 obtain ⟨x66,h67,h⟩:=bnd h
                 refine Rn.app (e:=Qb) tv rfl rfl rfl (Qg2 rfl rfl rfl) h67 rfl (Rn.fldP (o':=3) tv rfl rfl (Rn.storeO (cs':=[.sl 1 (Γ.n0 + 60) 0 3 3,(i_ a41),(o_ a51),.own 3 (List.map Qb x66)]) tv rfl rfl rfl rfl rfl (Rn.nil ?_)))
                 replace h:=si h; subst h
                 exact Qn [107] ⟨(sm rfl),(sm rfl),(kFun hM ho11),(kPtr rfl),(kPtr rfl),(sm rfl),(sm rfl),(sm rfl),(kSl rfl),(sm rfl),(sm rfl),tv⟩ ⟨⟨_,rfl,rfl,(.same rfl)⟩,⟨_,rfl,rfl,(.cons (kSl rfl) (.cons (sm rfl) (.cons (sm rfl) (.cons (sm rfl) .nil))))⟩,⟨_,rfl,rfl,(Qu fun _=>rfl)⟩,tv⟩ rfl
                ·replace h:=bF hb65 h
                 refine Tr.skip ?_
                 replace h:=si h; subst h
                 exact Qn [] ⟨(sm rfl),(sm rfl),(kFun hM ho11),(kPtr rfl),(kPtr rfl),(sm rfl),(sm rfl),(sm rfl),(kSl rfl),(sm rfl),(sm rfl),tv⟩ ⟨⟨_,rfl,rfl,(.same rfl)⟩,⟨_,rfl,rfl,(.cons (kSl rfl) (.cons (sm rfl) (.cons (sm rfl) (.cons (sm rfl) .nil))))⟩,⟨_,rfl,rfl,(Qu fun _=>rfl)⟩,tv⟩ rfl
              ·obtain ⟨a68,rfl⟩ : ∃ x,x = z:=⟨_,rfl⟩
               refine Tr.rgn (Rn.bin tv rfl rfl rfl (md rfl (Rn.nil ?_)))
               exact ⟨_,h,(by exact Qx ⟨(sm rfl),(sm rfl),(kFun hM ho11),(kPtr rfl),(kPtr rfl),(sm rfl),(sm rfl),(sm rfl),(kSl rfl),(sm rfl),(sm rfl),tv⟩ ⟨⟨_,rfl,rfl,(.same rfl)⟩,⟨_,rfl,rfl,(.cons (kSl rfl) (.cons (sm rfl) (.cons (sm rfl) (.cons (sm rfl) .nil))))⟩,⟨_,rfl,rfl,(Qu fun _=>rfl)⟩,tv⟩ rfl)⟩
             ·replace h:=ifF hb55 h
              refine Tr.exit ?_
              replace h:=si h; subst h
              exact Qn [] ⟨(sm rfl),(sm rfl),(kFun hM ho11),(kPtr rfl),(kPtr rfl),(sm rfl),(sm rfl),tv⟩ ⟨⟨_,rfl,rfl,(.same rfl)⟩,⟨_,rfl,rfl,(.cons (kSl rfl) (.cons (sm rfl) (.cons (sm rfl) (.cons (sm rfl) .nil))))⟩,⟨_,rfl,rfl,(Qu fun _=>rfl)⟩,tv⟩ rfl
          ·obtain ⟨a69,a70⟩:=z
           refine Tr.rgn (Rn.bin tv rfl rfl rfl (md rfl (Rn.nil ?_)))
           exact ⟨_,h,(by exact Qx ⟨(sm rfl),(sm rfl),(kFun hM ho11),(kPtr rfl),(kPtr rfl),(sm rfl),(sm rfl),tv⟩ ⟨⟨_,rfl,rfl,(.same rfl)⟩,⟨_,rfl,rfl,(.cons (kSl rfl) (.cons (sm rfl) (.cons (sm rfl) (.cons (sm rfl) .nil))))⟩,⟨_,rfl,rfl,(Qu fun _=>rfl)⟩,tv⟩ rfl)⟩
         ·replace h:=ifF hb45 h
          refine Tr.exit ?_
          replace h:=si h; subst h
          exact Qn [] ⟨(kPtr rfl),(kPtr rfl),tv⟩ ⟨⟨_,rfl,rfl,(.same rfl)⟩,⟨_,rfl,rfl,(.cons (kSl rfl) (.cons (sm rfl) (.cons (sm rfl) (.cons (sm rfl) .nil))))⟩,⟨_,rfl,rfl,(Qu fun _=>rfl)⟩,tv⟩ rfl
       ·obtain ⟨c71,c72,c73,a74,a75,a76⟩:=z
        refine sr ((Rn.load (v:=.agg [.sl 1 (Γ.n0 + 60) 0 3 3,(i_ a74),(l_ a75),.d (.lst 3 (List.map Qb a76))]) tv rfl (Qi rfl) rfl rfl (Rn.storeT (v:=.agg [.sl 1 (Γ.n0 + 60) 0 3 3,(i_ a74),(l_ a75),.d (.lst 3 (List.map Qb a76))]) (ds:=[.sl 1 (Γ.n0 + 60) 0 3 3,(i_ a74),(l_ a75),.d (.lst 3 (List.map Qb a76))]) (cs':=[.sl 1 (Γ.n0 + 60) 0 3 3,(i_ a74),(l_ a75),.d (.lst 3 (List.map Qb a76))]) tv rfl rfl rfl rfl rfl rfl rfl (md rfl (Rn.nil (toN ?_))))))
        obtain ⟨⟨⟩,hl77,h⟩:=bnd h
        refine Tr.weak (by show WeakSt Γ _ ⟨look [(12,.ptr (Γ.n0 + 12) 0),(13,(i_ 0)),(14,.ptr (Γ.n0 + 14) 0),(112,.agg [(l_ row31),(i_ a74),(l_ a75),.d (.lst 3 (List.map Qb a76))])],Qr Γ.n0 (bxs [(12,.cells ([(l_ row31),(i_ a74),(l_ a75),.d (.lst 3 (List.map Qb a76))])),(14,.cells ([(l_ row31),(i_ a74),(o_ a75),.own 3 (List.map Qb a76)]))]) M,Γ.n0 + 113⟩; exact Qha 60 _ rfl (Q53 (fun _=>rfl) _) ⟨(fPtr rfl),(.same rfl),(fPtr rfl),(WkV.agg (.cons (fSlA (fun _=>rfl) (Qd4 hl77)) (.cons (.same rfl) (.cons (.same rfl) (.cons (.same rfl) .nil))))),tv⟩ ⟨⟨_,rfl,rfl,(.cons (fSlA (fun _=>rfl) (Qd4 hl77)) (.cons (.same rfl) (.cons (.same rfl) (.cons (.same rfl) .nil))))⟩,⟨_,rfl,rfl,(.cons (fSlA (fun _=>rfl) (Qd4 hl77)) (.cons (.same rfl) (.cons (.same rfl) (.cons (.same rfl) .nil))))⟩,tv⟩ rfl) ?_
        refine Tr.ret ?_
        replace h:=si h; subst h
        exact ⟨.inr rfl,.tup [.agg [(l_ row31),(i_ a74),(l_ a75),.d (.lst 3 (List.map Qb a76))],(i_ 0)],res2 (Qyc rfl rfl rfl rfl) rfl,(WkV.tup (.cons (.same rfl) (.cons (.same rfl) .nil))).rd,⟨⟨tv,tv,tv,tv,tv⟩,tv,tv⟩,fun k hk=>Qf hk⟩
theorem Qrc {P:Program} {c:Nat} {Qct:Int→Int→Int→Int→Bool→(Int→Int→Option Int)→Option (Qm×Int)} {Qb5:Int→Int→Int→Int→Int→Option Int}
    (H_timedsynthesis_clock:Qhu P 47 Qct)
    (H_timedsynthesis_Deadline_1:Qfu P 48 Qb5) (hcf:Q1 P c = some Qgj):Qgi P c (Qb8 Qct Qb5):=by
 intro xfrom1 to2 ticks3 tick4 r h
 refine Qf3 hcf rfl fun Γ M hP hnt hM=>?_
 subst hP
 refine Tr.init [(0,(i_ xfrom1)),(1,(i_ to2)),(2,(i_ ticks3)),(3,(i_ tick4))] rfl ?_
 unfold Qb8 at h
 unfold Qgj
 refine sr ((Rn.box (v:=(i_ xfrom1)) (cs:=[(i_ xfrom1)]) tv rfl rfl rfl rfl rfl (Rn.box (v:=(i_ to2)) (cs:=[(i_ to2)]) tv rfl rfl rfl rfl rfl (Rn.box (v:=(i_ ticks3)) (cs:=[(i_ ticks3)]) tv rfl rfl rfl rfl rfl (Rn.alloc tv rfl (md rfl (nt ((sr ((Rn.load (v:=(i_ xfrom1)) tv rfl (Qi rfl) rfl rfl (Rn.load (v:=(i_ to2)) tv rfl (Qi rfl) rfl rfl (Rn.load (v:=(i_ ticks3)) tv rfl (Qi rfl) rfl rfl (md rfl (Rn.k (v:=.clo 48 [.ptr (Γ.n0 + 4) 0,.ptr (Γ.n0 + 5) 0,.ptr (Γ.n0 + 6) 0]) tv rfl rfl rfl ?_)))))))))))))))
 obtain ⟨⟨r10,r11⟩,h9,h⟩:=bnd h
 refine Rn.callM (args:=[(i_ xfrom1),(i_ to2),(i_ ticks3),(i_ tick4),(b_ false),.clo 48 [.ptr (Γ.n0 + 4) 0,.ptr (Γ.n0 + 5) 0,.ptr (Γ.n0 + 6) 0]]) tv rfl (fun M2 nb2 hn hx=>H_timedsynthesis_clock _ _ _ _ _ _ 48 [.ptr (Γ.n0 + 4) 0,.ptr (Γ.n0 + 5) 0,.ptr (Γ.n0 + 6) 0] _ h9 M2 nb2 rfl ⟨Qfq (hx _ _ (Qi rfl)),Qfq (hx _ _ (Qi rfl)),Qfq (hx _ _ (Qi rfl)),tv⟩ (fun a5 a6 r7 h8 M3 nb3 hn3 hx3=>H_timedsynthesis_Deadline_1 a5 a6 xfrom1 to2 ticks3 (Γ.n0 + 4) (Γ.n0 + 5) (Γ.n0 + 6) r7 h8 M3 nb3 ((hx.trans hx3) _ _ (Qi rfl)) ((hx.trans hx3) _ _ (Qi rfl)) ((hx.trans hx3) _ _ (Qi rfl)))) rfl pc9 ?_
 refine Rn.ext (v:=(Qo r10)) (vs:=[(Qo r10),(i_ r11)]) tv rfl rfl rfl (Rn.ext (v:=(i_ r11)) (vs:=[(Qo r10),(i_ r11)]) tv rfl rfl rfl (Rn.storeT (v:=(Qo r10)) (ds:=(Qbq r10)) (cs':=(Qbq r10)) tv rfl rfl rfl rfl rfl rfl rfl (md rfl (nt ((Tr.ret ?_))))))
 replace h:=si h; subst h
 exact ⟨.inr rfl,.tup [(Qo r10),(i_ r11)],res2 (Qyc rfl rfl rfl rfl) rfl,(WkV.tup (.cons (.same rfl) (.cons (.same rfl) .nil))).rd,⟨⟨tv,tv,tv,tv,tv⟩,tv,tv⟩,fun k hk=>Qf hk⟩
theorem Q17 {P:Program} {c:Nat} (hcf:Q1 P c = some Ql0) (fuel:Nat):Qh1 P c (Qbs fuel):=by
 intro s1 s2 r h
 refine Qf3 hcf rfl fun Γ M hP hnt hM=>?_
 subst hP
 refine Tr.init [(0,(l_ s1)),(1,(l_ s2))] rfl ?_
 unfold Qbs at h
 unfold Ql0
 refine sr ((md rfl (nt ((Tr.seq (sr ((md rfl (Rn.lenD tv rfl (md rfl (Rn.lenD tv rfl (Rn.bin tv rfl rfl rfl (Rn.nil (toN ?_))))))))))))))
 refine Tr.cond rfl (fun hb3=>?_) (fun hb3=>?_)
 ·replace h:=bT hb3 h
  refine sr ((md rfl (nt ((Tr.ret ?_)))))
  replace h:=si h; subst h
  exact ⟨.inr rfl,(b_ false),rfl,fun _ _ _ _ h=>h,tv,fun k hk=>Qf hk⟩
 ·replace h:=bF hb3 h
  refine Tr.skip (toN (Tr.seq (sr ((md rfl (Rn.lenD tv rfl (md rfl (nt ((Tr.block ?_))))))))))
  refine Tr.loop (mk:=fun (x4:Int)=>⟨look [(0,(l_ s1)),(1,(l_ s2)),(12,(i_ (s1.length:Int))),(13,(i_ x4))],Qr Γ.n0 (bxs []) M,Γ.n0 + 26⟩) h (by exact Qx ⟨(sm rfl),(sm rfl),(sm rfl),(sm rfl),tv⟩ tv rfl) (fun k5 z h=>?_)
  ·obtain ⟨x4,rfl⟩ : ∃ x,x = z:=⟨_,rfl⟩
   replace h:_ = some _:=h
   refine sr ((Rn.bin tv rfl rfl rfl (nt ((Tr.seq ?_)))))
   refine Tr.cond rfl (fun hb6=>?_) (fun hb6=>?_)
   ·replace h:=ifT hb6 h
    refine Tr.skip (toN (Tr.seq (Tr.block (sr ((md rfl (md rfl (nt ((Tr.seq ?_))))))))))
    refine Tr.rgnD (by decide) ?_
    refine md rfl (md rfl ?_)
    obtain ⟨x7,h8,h⟩:=bnd h
    refine Rn.idxD (e:=(eI .i64)) tv rfl rfl h8 (Rn.loadC (x:=.int .i64 x7) tv rfl (md rfl (md rfl ?_)))
    obtain ⟨x9,h10,h⟩:=bnd h
    refine Rn.idxD (e:=(eI .i64)) tv rfl rfl h10 (Rn.loadC (x:=.int .i64 x9) tv rfl (Rn.bin tv rfl rfl rfl ?_))
    refine Rn.nil ⟨rfl,?_⟩
    refine toN ?_
    refine Tr.cond rfl (fun hb11=>?_) (fun hb11=>?_)
    ·replace h:=bT hb11 h
     refine sr ((md rfl (nt ((Tr.ret ?_)))))
     replace h:=si h; subst h
     exact ⟨.inr rfl,(b_ false),rfl,fun _ _ _ _ h=>h,tv,fun k hk=>Qf hk⟩
    ·replace h:=bF hb11 h
     refine Tr.skip (toN (Tr.rgn (Rn.bin tv rfl rfl rfl (md rfl (Rn.nil ?_)))))
     exact ⟨_,h,(by exact Qx ⟨(sm rfl),(sm rfl),(sm rfl),(sm rfl),tv⟩ tv rfl)⟩
   ·replace h:=ifF hb6 h
    refine Tr.exit (toN (sr ((md rfl (nt ((Tr.ret ?_)))))))
    replace h:=si h; subst h
    exact ⟨.inr rfl,(b_ true),rfl,fun _ _ _ _ h=>h,tv,fun k hk=>Qf hk⟩
theorem Q8b {P:Program} {c:Nat} {Qbs:(List Int)→(List Int)→Option Bool}
    (H_slices_Equal_int:Qh1 P 45 Qbs) (hcf:Q1 P c = some Q1k):Qtl P c (Qdi Qbs):=by
 intro a1 b2 r h
 refine Qf3 hcf rfl fun Γ M hP hnt hM=>?_
 subst hP
 refine Tr.init [(0,(l_ a1)),(1,(l_ b2))] rfl ?_
 unfold Qdi at h
 unfold Q1k
 refine sr ((md rfl (nt ((sr ((md rfl (md rfl ?_))))))))
 obtain ⟨x4,h3,h⟩:=bnd h
 refine Rn.call (args:=[(l_ a1),(l_ b2)]) tv rfl (H_slices_Equal_int _ _ _ h3) pc9 (md rfl (nt ((Tr.ret ?_))))
 replace h:=si h; subst h
 exact ⟨.inr rfl,(b_ x4),rfl,fun _ _ _ _ h=>h,tv,fun k hk=>Qf hk⟩
theorem Qxs {P:Program} {c:Nat} {Q0:Qa→Option (Qbu×Int)} {Qdi:(List Int)→(List Int)→Option Bool} {Qb8:Int→Int→Int→Int→Option (Qm×Int)} {Qcj:(List Int)→Option Qa}
    (H_timedsynthesis_Synthesize:Qd5 P 11 Q0)
    (H_word_Equal:Qtl P 16 Qdi)
    (H_timedsynthesis_Deadline:Qgi P 17 Qb8)
    (H_overseerlaw46_clock:Qia P 35 Qcj) (hcf:Q1 P c = some Qif):Qie P c (Qcl Q0 Qdi Qb8 Qcj):=by
 intro  r h
 refine Qf3 hcf rfl fun Γ M hP hnt hM=>?_
 subst hP
 refine Tr.init [] rfl ?_
 unfold Qcl at h
 unfold Qif
 refine sr ((md rfl (nt ((sr ((Rn.bslice (xs:=[(i_ 0)]) (cs:=[(i_ 0)]) tv rfl rfl rfl rfl ?_)))))))
 refine Rn.weak (by show WeakSt Γ _ ⟨look [(0,(b_ false)),(8,(l_ [0]))],Qr Γ.n0 (bxs []) M,Γ.n0 + 77⟩; exact Qha 8 [.int .i64 0] rfl rfl ⟨(.same rfl),(fSl rfl rfl),tv⟩ tv rfl) ?_
 obtain ⟨x2,h1,h⟩:=bnd h
 refine Rn.call (args:=[(l_ [0])]) tv rfl (H_overseerlaw46_clock _ _ h1) pc9 ?_
 obtain ⟨⟨r4,r5⟩,h3,h⟩:=bnd h
 refine Rn.call (args:=[.agg [(l_ x2.zA.zJ),(i_ x2.zA.zM),(l_ x2.zA.zK),.d (.lst 3 (List.map Qb x2.zA.zL)),(l_ x2.zC),.nils 1,(l_ x2.zD),(i_ x2.Tick)]]) tv rfl (fun M2 nb2=>ACalls.weak (args':=[.agg [(l_ x2.zA.zJ),(i_ x2.zA.zM),(l_ x2.zA.zK),.d (.lst 3 (List.map Qb x2.zA.zL)),(l_ x2.zC),(l_ []),(l_ x2.zD),(i_ x2.Tick)]]) (H_timedsynthesis_Synthesize _ _ h3 M2 nb2) (.cons (WkV.agg (.cons (sm rfl) (.cons (sm rfl) (.cons (sm rfl) (.cons (sm rfl) (.cons (sm rfl) (.cons (WkV.nilsD _) (.cons (sm rfl) (.cons (sm rfl) .nil))))))))) .nil) rfl) pc9 ?_
 refine Rn.mov (v:=.tup [.agg [(l_ r4.zE.Kept),(l_ r4.zE.zF),.d (.lst 4 (List.map Qg r4.zE.zG)),(i_ r4.Rounds),(l_ r4.zH.zJ),(i_ r4.zH.zM),(l_ r4.zH.zK),.d (.lst 3 (List.map Qb r4.zH.zL)),(l_ r4.zO),(l_ r4.zI)],(i_ r5)]) tv rfl (Rn.ext (v:=.agg [(l_ r4.zE.Kept),(l_ r4.zE.zF),.d (.lst 4 (List.map Qg r4.zE.zG)),(i_ r4.Rounds),(l_ r4.zH.zJ),(i_ r4.zH.zM),(l_ r4.zH.zK),.d (.lst 3 (List.map Qb r4.zH.zL)),(l_ r4.zO),(l_ r4.zI)]) (vs:=[.agg [(l_ r4.zE.Kept),(l_ r4.zE.zF),.d (.lst 4 (List.map Qg r4.zE.zG)),(i_ r4.Rounds),(l_ r4.zH.zJ),(i_ r4.zH.zM),(l_ r4.zH.zK),.d (.lst 3 (List.map Qb r4.zH.zL)),(l_ r4.zO),(l_ r4.zI)],(i_ r5)]) tv rfl rfl rfl (Rn.ext (v:=(i_ r5)) (vs:=[.agg [(l_ r4.zE.Kept),(l_ r4.zE.zF),.d (.lst 4 (List.map Qg r4.zE.zG)),(i_ r4.Rounds),(l_ r4.zH.zJ),(i_ r4.zH.zM),(l_ r4.zH.zK),.d (.lst 3 (List.map Qb r4.zH.zL)),(l_ r4.zO),(l_ r4.zI)],(i_ r5)]) tv rfl rfl rfl (Rn.alloc tv rfl (Rn.storeT (v:=.agg [(l_ r4.zE.Kept),(l_ r4.zE.zF),.d (.lst 4 (List.map Qg r4.zE.zG)),(i_ r4.Rounds),(l_ r4.zH.zJ),(i_ r4.zH.zM),(l_ r4.zH.zK),.d (.lst 3 (List.map Qb r4.zH.zL)),(l_ r4.zO),(l_ r4.zI)]) (ds:=[(l_ r4.zE.Kept),(l_ r4.zE.zF),.d (.lst 4 (List.map Qg r4.zE.zG)),(i_ r4.Rounds),(l_ r4.zH.zJ),(i_ r4.zH.zM),(l_ r4.zH.zK),.d (.lst 3 (List.map Qb r4.zH.zL)),(l_ r4.zO),(l_ r4.zI)]) (cs':=[(l_ r4.zE.Kept),(l_ r4.zE.zF),.d (.lst 4 (List.map Qg r4.zE.zG)),(i_ r4.Rounds),(l_ r4.zH.zJ),(i_ r4.zH.zM),(l_ r4.zH.zK),.d (.lst 3 (List.map Qb r4.zH.zL)),(l_ r4.zO),(l_ r4.zI)]) tv rfl rfl rfl rfl rfl rfl rfl (md rfl (nt ((Tr.seq (Tr.rgn ?_)))))))))
 obtain ⟨x7,h6,h⟩:=bnd h
 refine Rn.call (args:=[.nils 1]) tv rfl (fun M2 nb2=>ACalls.weak (args':=[(l_ [])]) (H_overseerlaw46_clock _ _ h6 M2 nb2) (.cons (WkV.nilsD _) .nil) rfl) pc9 ?_
 obtain ⟨⟨r9,r10⟩,h8,h⟩:=bnd h
 refine Rn.call (args:=[.agg [(l_ x7.zA.zJ),(i_ x7.zA.zM),(l_ x7.zA.zK),.d (.lst 3 (List.map Qb x7.zA.zL)),(l_ x7.zC),.nils 1,(l_ x7.zD),(i_ x7.Tick)]]) tv rfl (fun M2 nb2=>ACalls.weak (args':=[.agg [(l_ x7.zA.zJ),(i_ x7.zA.zM),(l_ x7.zA.zK),.d (.lst 3 (List.map Qb x7.zA.zL)),(l_ x7.zC),(l_ []),(l_ x7.zD),(i_ x7.Tick)]]) (H_timedsynthesis_Synthesize _ _ h8 M2 nb2) (.cons (WkV.agg (.cons (sm rfl) (.cons (sm rfl) (.cons (sm rfl) (.cons (sm rfl) (.cons (sm rfl) (.cons (WkV.nilsD _) (.cons (sm rfl) (.cons (sm rfl) .nil))))))))) .nil) rfl) pc9 ?_
 refine Rn.mov (v:=.tup [.agg [(l_ r9.zE.Kept),(l_ r9.zE.zF),.d (.lst 4 (List.map Qg r9.zE.zG)),(i_ r9.Rounds),(l_ r9.zH.zJ),(i_ r9.zH.zM),(l_ r9.zH.zK),.d (.lst 3 (List.map Qb r9.zH.zL)),(l_ r9.zO),(l_ r9.zI)],(i_ r10)]) tv rfl (Rn.ext (v:=.agg [(l_ r9.zE.Kept),(l_ r9.zE.zF),.d (.lst 4 (List.map Qg r9.zE.zG)),(i_ r9.Rounds),(l_ r9.zH.zJ),(i_ r9.zH.zM),(l_ r9.zH.zK),.d (.lst 3 (List.map Qb r9.zH.zL)),(l_ r9.zO),(l_ r9.zI)]) (vs:=[.agg [(l_ r9.zE.Kept),(l_ r9.zE.zF),.d (.lst 4 (List.map Qg r9.zE.zG)),(i_ r9.Rounds),(l_ r9.zH.zJ),(i_ r9.zH.zM),(l_ r9.zH.zK),.d (.lst 3 (List.map Qb r9.zH.zL)),(l_ r9.zO),(l_ r9.zI)],(i_ r10)]) tv rfl rfl rfl (Rn.ext (v:=(i_ r10)) (vs:=[.agg [(l_ r9.zE.Kept),(l_ r9.zE.zF),.d (.lst 4 (List.map Qg r9.zE.zG)),(i_ r9.Rounds),(l_ r9.zH.zJ),(i_ r9.zH.zM),(l_ r9.zH.zK),.d (.lst 3 (List.map Qb r9.zH.zL)),(l_ r9.zO),(l_ r9.zI)],(i_ r10)]) tv rfl rfl rfl (Rn.alloc tv rfl (Rn.storeT (v:=.agg [(l_ r9.zE.Kept),(l_ r9.zE.zF),.d (.lst 4 (List.map Qg r9.zE.zG)),(i_ r9.Rounds),(l_ r9.zH.zJ),(i_ r9.zH.zM),(l_ r9.zH.zK),.d (.lst 3 (List.map Qb r9.zH.zL)),(l_ r9.zO),(l_ r9.zI)]) (ds:=[(l_ r9.zE.Kept),(l_ r9.zE.zF),.d (.lst 4 (List.map Qg r9.zE.zG)),(i_ r9.Rounds),(l_ r9.zH.zJ),(i_ r9.zH.zM),(l_ r9.zH.zK),.d (.lst 3 (List.map Qb r9.zH.zL)),(l_ r9.zO),(l_ r9.zI)]) (cs':=[(l_ r9.zE.Kept),(l_ r9.zE.zF),.d (.lst 4 (List.map Qg r9.zE.zG)),(i_ r9.Rounds),(l_ r9.zH.zJ),(i_ r9.zH.zM),(l_ r9.zH.zK),.d (.lst 3 (List.map Qb r9.zH.zL)),(l_ r9.zO),(l_ r9.zI)]) tv rfl rfl rfl rfl rfl rfl rfl (md rfl (nt ((Tr.seq (Tr.rgn ?_)))))))))
 obtain ⟨⟨r12,r13⟩,h11,h⟩:=bnd h
 refine Rn.call (args:=[(i_ 0),(i_ 1),(i_ 1),(i_ 2)]) tv rfl (H_timedsynthesis_Deadline _ _ _ _ _ h11) pc9 (Rn.mov (v:=.tup [(Qo r12),(i_ r13)]) tv rfl (Rn.ext (v:=(Qo r12)) (vs:=[(Qo r12),(i_ r13)]) tv rfl rfl rfl (Rn.ext (v:=(i_ r13)) (vs:=[(Qo r12),(i_ r13)]) tv rfl rfl rfl (Rn.alloc tv rfl (Rn.storeT (v:=(Qo r12)) (ds:=(Qbq r12)) (cs':=(Qbq r12)) tv rfl rfl rfl rfl rfl rfl rfl (md rfl (Rn.nil (toN ?_))))))))
 refine Tr.cutB (fun (x27:Bool)=>⟨look [(0,(b_ x27))],Qr Γ.n0 (bxs [(1,.cells ([(l_ r4.zE.Kept),(l_ r4.zE.zF),.d (.lst 4 (List.map Qg r4.zE.zG)),(i_ r4.Rounds),(l_ r4.zH.zJ),(i_ r4.zH.zM),(l_ r4.zH.zK),.d (.lst 3 (List.map Qb r4.zH.zL)),(l_ r4.zO),(l_ r4.zI)])),(3,.cells ([(l_ r9.zE.Kept),(l_ r9.zE.zF),.d (.lst 4 (List.map Qg r9.zE.zG)),(i_ r9.Rounds),(l_ r9.zH.zJ),(i_ r9.zH.zM),(l_ r9.zH.zK),.d (.lst 3 (List.map Qb r9.zH.zL)),(l_ r9.zO),(l_ r9.zI)])),(5,.cells ((Qbq r12)))]) M,Γ.n0 + 77⟩) h (fun z h=>?_) (fun z h=>?_)
 ·refine Tr.rgn (md rfl (Rn.bin tv rfl rfl rfl (md rfl ?_)))
  refine Q8 (r5 == 0) (fun hb14=>?_) (fun hb14=>?_)
  ·replace h:=bT hb14 h
   refine Rn.fldP (o':=9) (gw rfl hb14) rfl rfl (Rn.load (v:=(l_ r4.zI)) (gw rfl hb14) rfl (Qi rfl) rfl rfl (Rn.bslice (xs:=[(i_ 0)]) (cs:=[(i_ 0)]) (gw rfl hb14) rfl rfl rfl rfl ?_))
   refine Rn.weak (by show WeakSt Γ _ ⟨look [(0,(b_ false)),(1,.ptr (Γ.n0 + 1) 0),(2,(i_ r5)),(3,.ptr (Γ.n0 + 3) 0),(4,(i_ r10)),(5,.ptr (Γ.n0 + 5) 0),(6,(i_ r13)),(7,.tup [.agg [(l_ r4.zE.Kept),(l_ r4.zE.zF),.d (.lst 4 (List.map Qg r4.zE.zG)),(i_ r4.Rounds),(l_ r4.zH.zJ),(i_ r4.zH.zM),(l_ r4.zH.zK),.d (.lst 3 (List.map Qb r4.zH.zL)),(l_ r4.zO),(l_ r4.zI)],(i_ r5)]),(8,(l_ [0])),(9,.agg [(l_ x2.zA.zJ),(i_ x2.zA.zM),(l_ x2.zA.zK),.d (.lst 3 (List.map Qb x2.zA.zL)),(l_ x2.zC),.nils 1,(l_ x2.zD),(i_ x2.Tick)]),(10,.tup [.agg [(l_ r4.zE.Kept),(l_ r4.zE.zF),.d (.lst 4 (List.map Qg r4.zE.zG)),(i_ r4.Rounds),(l_ r4.zH.zJ),(i_ r4.zH.zM),(l_ r4.zH.zK),.d (.lst 3 (List.map Qb r4.zH.zL)),(l_ r4.zO),(l_ r4.zI)],(i_ r5)]),(11,.agg [(l_ r4.zE.Kept),(l_ r4.zE.zF),.d (.lst 4 (List.map Qg r4.zE.zG)),(i_ r4.Rounds),(l_ r4.zH.zJ),(i_ r4.zH.zM),(l_ r4.zH.zK),.d (.lst 3 (List.map Qb r4.zH.zL)),(l_ r4.zO),(l_ r4.zI)]),(12,(i_ r5)),(13,.tup [.agg [(l_ r9.zE.Kept),(l_ r9.zE.zF),.d (.lst 4 (List.map Qg r9.zE.zG)),(i_ r9.Rounds),(l_ r9.zH.zJ),(i_ r9.zH.zM),(l_ r9.zH.zK),.d (.lst 3 (List.map Qb r9.zH.zL)),(l_ r9.zO),(l_ r9.zI)],(i_ r10)]),(14,.agg [(l_ x7.zA.zJ),(i_ x7.zA.zM),(l_ x7.zA.zK),.d (.lst 3 (List.map Qb x7.zA.zL)),(l_ x7.zC),.nils 1,(l_ x7.zD),(i_ x7.Tick)]),(15,.tup [.agg [(l_ r9.zE.Kept),(l_ r9.zE.zF),.d (.lst 4 (List.map Qg r9.zE.zG)),(i_ r9.Rounds),(l_ r9.zH.zJ),(i_ r9.zH.zM),(l_ r9.zH.zK),.d (.lst 3 (List.map Qb r9.zH.zL)),(l_ r9.zO),(l_ r9.zI)],(i_ r10)]),(16,.agg [(l_ r9.zE.Kept),(l_ r9.zE.zF),.d (.lst 4 (List.map Qg r9.zE.zG)),(i_ r9.Rounds),(l_ r9.zH.zJ),(i_ r9.zH.zM),(l_ r9.zH.zK),.d (.lst 3 (List.map Qb r9.zH.zL)),(l_ r9.zO),(l_ r9.zI)]),(17,(i_ r10)),(18,.tup [(Qo r12),(i_ r13)]),(19,.tup [(Qo r12),(i_ r13)]),(20,(Qo r12)),(21,(i_ r13)),(22,(i_ r5)),(23,(b_ (r5 == 0))),(24,(b_ (r5 == 0))),(25,.ptr (Γ.n0 + 1) 9),(26,(l_ r4.zI)),(27,(l_ [0]))],Qr Γ.n0 (bxs [(1,.cells ([(l_ r4.zE.Kept),(l_ r4.zE.zF),.d (.lst 4 (List.map Qg r4.zE.zG)),(i_ r4.Rounds),(l_ r4.zH.zJ),(i_ r4.zH.zM),(l_ r4.zH.zK),.d (.lst 3 (List.map Qb r4.zH.zL)),(l_ r4.zO),(l_ r4.zI)])),(3,.cells ([(l_ r9.zE.Kept),(l_ r9.zE.zF),.d (.lst 4 (List.map Qg r9.zE.zG)),(i_ r9.Rounds),(l_ r9.zH.zJ),(i_ r9.zH.zM),(l_ r9.zH.zK),.d (.lst 3 (List.map Qb r9.zH.zL)),(l_ r9.zO),(l_ r9.zI)])),(5,.cells ((Qbq r12)))]) M,Γ.n0 + 77⟩; exact Qha 27 [.int .i64 0] rfl rfl ⟨(.same rfl),(fPtr rfl),(.same rfl),(fPtr rfl),(.same rfl),(fPtr rfl),(.same rfl),(.same rfl),(.same rfl),(.same rfl),(.same rfl),(.same rfl),(.same rfl),(.same rfl),(.same rfl),(.same rfl),(.same rfl),(.same rfl),(.same rfl),(.same rfl),(.same rfl),(.same rfl),(.same rfl),(.same rfl),(.same rfl),(fPtr rfl),(.same rfl),(fSl rfl rfl),tv⟩ ⟨⟨_,rfl,rfl,(.same rfl)⟩,⟨_,rfl,rfl,(.same rfl)⟩,⟨_,rfl,rfl,(.same rfl)⟩,tv⟩ rfl) ?_
   obtain ⟨x16,h15,h⟩:=bnd h
   refine Rn.call (args:=[(l_ r4.zI),(l_ [0])]) (gw rfl hb14) rfl (H_word_Equal _ _ _ h15) pc9 (Rn.pickT (v:=(b_ x16)) tv rfl hb14 rfl (md rfl ?_))
   refine Q8 x16 (fun hb17=>?_) (fun hb17=>?_)
   ·replace h:=bT hb17 h
    refine Rn.fldP (o':=9) (gw rfl hb17) rfl rfl (Rn.load (v:=(l_ r4.zI)) (gw rfl hb17) rfl (Qi rfl) rfl rfl (Rn.lenD (gw rfl hb17) rfl (Rn.bin (gw rfl hb17) rfl rfl rfl (Rn.pickT (v:=(b_ ((r4.zI.length:Int) == 1))) tv rfl hb17 rfl (md rfl ?_)))))
    refine Q8 ((r4.zI.length:Int) == 1) (fun hb18=>?_) (fun hb18=>?_)
    ·replace h:=bT hb18 h
     refine Rn.fldP (o':=4) (gw rfl hb18) rfl rfl (Rn.fldP (o':=5) (gw rfl hb18) rfl rfl (Rn.load (v:=(i_ r4.zH.zM)) (gw rfl hb18) rfl (Qi rfl) rfl rfl (Rn.bin (gw rfl hb18) rfl rfl rfl (Rn.pickT (v:=(b_ (r4.zH.zM == 1))) tv rfl hb18 rfl (md rfl ?_)))))
     refine Q8 (r4.zH.zM == 1) (fun hb19=>?_) (fun hb19=>?_)
     ·replace h:=bT hb19 h
      refine Rn.movD (gw rfl hb19) rfl (Rn.bin (gw rfl hb19) rfl rfl rfl (Rn.pickT (v:=(b_ (r10 == 0))) tv rfl hb19 rfl (md rfl ?_)))
      refine Q8 (r10 == 0) (fun hb20=>?_) (fun hb20=>?_)
      ·replace h:=bT hb20 h
       refine Rn.fldP (o':=0) (gw rfl hb20) rfl rfl (Rn.fldP (o':=2) (gw rfl hb20) rfl rfl (Rn.load (v:=.d (.lst 4 (List.map Qg r9.zE.zG))) (gw rfl hb20) rfl (Qi rfl) rfl rfl (Rn.lenD (gw rfl hb20) rfl (Rn.bin (gw rfl hb20) rfl rfl rfl (Rn.pickT (v:=(b_ ((r9.zE.zG.length:Int) == 2))) tv rfl hb20 rfl (md rfl ?_))))))
       refine Q8 ((r9.zE.zG.length:Int) == 2) (fun hb21=>?_) (fun hb21=>?_)
       ·replace h:=bT hb21 h
        refine Rn.fldP (o':=0) (gw rfl hb21) rfl rfl (Rn.fldP (o':=2) (gw rfl hb21) rfl rfl (Rn.load (v:=.d (.lst 4 (List.map Qg r9.zE.zG))) (gw rfl hb21) rfl (Qi rfl) rfl rfl ?_))
        obtain ⟨x22,h23,h⟩:=bnd h
        refine Rn.idxD (e:=Qg) (gw rfl hb21) rfl rfl h23 (Rn.loadCA (vs:=(Qcu x22)) (gw rfl hb21) rfl rfl rfl (Rn.build (v:=.agg [(i_ 0),(i_ 2),(i_ 4),(i_ 2)]) (gw rfl hb21) rfl (Rn.eqa (r:=((x22.State == 0) && ((x22.Rank == 2) && ((x22.Reason == 4) && ((x22.Event == 2) && true))))) (gw rfl hb21) rfl rfl rfl (Rn.pickT (v:=(b_ ((x22.State == 0) && ((x22.Rank == 2) && ((x22.Reason == 4) && ((x22.Event == 2) && true)))))) tv rfl hb21 rfl (md rfl ?_)))))
        refine Q8 ((x22.State == 0) && ((x22.Rank == 2) && ((x22.Reason == 4) && ((x22.Event == 2) && true)))) (fun hb24=>?_) (fun hb24=>?_)
        ·replace h:=bT hb24 h
         refine Rn.movD (gw rfl hb24) rfl (Rn.bin (gw rfl hb24) rfl rfl rfl (Rn.pickT (v:=(b_ (r13 == 0))) tv rfl hb24 rfl (md rfl ?_)))
         refine Q8 (r13 == 0) (fun hb25=>?_) (fun hb25=>?_)
         ·replace h:=bT hb25 h
          refine Rn.fldP (o':=1) (gw rfl hb25) rfl rfl (Rn.load (v:=(i_ r12.zM)) (gw rfl hb25) rfl (Qi rfl) rfl rfl (Rn.bin (gw rfl hb25) rfl rfl rfl (Rn.pickT (v:=(b_ (r12.zM == 3))) tv rfl hb25 rfl (md rfl ?_))))
          refine Q8 (r12.zM == 3) (fun hb26=>?_) (fun hb26=>?_)
          ·replace h:=bT hb26 h
           refine Rn.fldP (o':=3) (gw rfl hb26) rfl rfl (Rn.load (v:=.d (.lst 3 (List.map Qb r12.zL))) (gw rfl hb26) rfl (Qi rfl) rfl rfl (Rn.lenD (gw rfl hb26) rfl (Rn.bin (gw rfl hb26) rfl rfl rfl (Rn.pickT (v:=(b_ ((r12.zL.length:Int) == 8))) tv rfl hb26 rfl (md rfl (Rn.nil ?_))))))
           replace h:=si h; subst h
           exact Qn [] ⟨(sm rfl),tv⟩ ⟨⟨_,rfl,rfl,(.same rfl)⟩,⟨_,rfl,rfl,(.same rfl)⟩,⟨_,rfl,rfl,(.same rfl)⟩,tv⟩ rfl
          ·replace h:=bF hb26 h
           refine Rn.sk (nw rfl hb26) (Rn.sk (nw rfl hb26) (Rn.sk (nw rfl hb26) (Rn.sk (nw rfl hb26) (Rn.pickF (v:=(b_ false)) tv rfl hb26 rfl (md rfl (Rn.nil ?_))))))
           replace h:=si h; subst h
           exact Qn [] ⟨(sm rfl),tv⟩ ⟨⟨_,rfl,rfl,(.same rfl)⟩,⟨_,rfl,rfl,(.same rfl)⟩,⟨_,rfl,rfl,(.same rfl)⟩,tv⟩ rfl
         ·replace h:=bF hb25 h
          refine Rn.sk (nw rfl hb25) (Rn.sk (nw rfl hb25) (Rn.sk (nw rfl hb25) (Rn.pickF (v:=(b_ false)) tv rfl hb25 rfl (md rfl (Rn.sk (nw (b:=false) rfl rfl) (Rn.sk (nw (b:=false) rfl rfl) (Rn.sk (nw (b:=false) rfl rfl) (Rn.sk (nw (b:=false) rfl rfl) (Rn.pickF (v:=(b_ false)) tv rfl rfl rfl (md rfl (Rn.nil ?_)))))))))))
          replace h:=si h; subst h
          exact Qn [] ⟨(sm rfl),tv⟩ ⟨⟨_,rfl,rfl,(.same rfl)⟩,⟨_,rfl,rfl,(.same rfl)⟩,⟨_,rfl,rfl,(.same rfl)⟩,tv⟩ rfl
        ·replace h:=bF hb24 h
         refine Rn.sk (nw rfl hb24) (Rn.sk (nw rfl hb24) (Rn.pickF (v:=(b_ false)) tv rfl hb24 rfl (md rfl (Rn.sk (nw (b:=false) rfl rfl) (Rn.sk (nw (b:=false) rfl rfl) (Rn.sk (nw (b:=false) rfl rfl) (Rn.pickF (v:=(b_ false)) tv rfl rfl rfl (md rfl (Rn.sk (nw (b:=false) rfl rfl) (Rn.sk (nw (b:=false) rfl rfl) (Rn.sk (nw (b:=false) rfl rfl) (Rn.sk (nw (b:=false) rfl rfl) (Rn.pickF (v:=(b_ false)) tv rfl rfl rfl (md rfl (Rn.nil ?_)))))))))))))))
         replace h:=si h; subst h
         exact Qn [] ⟨(sm rfl),tv⟩ ⟨⟨_,rfl,rfl,(.same rfl)⟩,⟨_,rfl,rfl,(.same rfl)⟩,⟨_,rfl,rfl,(.same rfl)⟩,tv⟩ rfl
       ·replace h:=bF hb21 h
        refine Rn.sk (nw rfl hb21) (Rn.sk (nw rfl hb21) (Rn.sk (nw rfl hb21) (Rn.sk (nw rfl hb21) (Rn.sk (nw rfl hb21) (Rn.sk (nw rfl hb21) (Rn.sk (nw rfl hb21) (Rn.pickF (v:=(b_ false)) tv rfl hb21 rfl (md rfl (Rn.sk (nw (b:=false) rfl rfl) (Rn.sk (nw (b:=false) rfl rfl) (Rn.pickF (v:=(b_ false)) tv rfl rfl rfl (md rfl (Rn.sk (nw (b:=false) rfl rfl) (Rn.sk (nw (b:=false) rfl rfl) (Rn.sk (nw (b:=false) rfl rfl) (Rn.pickF (v:=(b_ false)) tv rfl rfl rfl (md rfl (Rn.sk (nw (b:=false) rfl rfl) (Rn.sk (nw (b:=false) rfl rfl) (Rn.sk (nw (b:=false) rfl rfl) (Rn.sk (nw (b:=false) rfl rfl) (Rn.pickF (v:=(b_ false)) tv rfl rfl rfl (md rfl (Rn.nil ?_))))))))))))))))))))))))
        replace h:=si h; subst h
        exact Qn [] ⟨(sm rfl),tv⟩ ⟨⟨_,rfl,rfl,(.same rfl)⟩,⟨_,rfl,rfl,(.same rfl)⟩,⟨_,rfl,rfl,(.same rfl)⟩,tv⟩ rfl
      ·replace h:=bF hb20 h
       refine Rn.sk (nw rfl hb20) (Rn.sk (nw rfl hb20) (Rn.sk (nw rfl hb20) (Rn.sk (nw rfl hb20) (Rn.sk (nw rfl hb20) (Rn.pickF (v:=(b_ false)) tv rfl hb20 rfl (md rfl (Rn.sk (nw (b:=false) rfl rfl) (Rn.sk (nw (b:=false) rfl rfl) (Rn.sk (nw (b:=false) rfl rfl) (Rn.sk (nw (b:=false) rfl rfl) (Rn.sk (nw (b:=false) rfl rfl) (Rn.sk (nw (b:=false) rfl rfl) (Rn.sk (nw (b:=false) rfl rfl) (Rn.pickF (v:=(b_ false)) tv rfl rfl rfl (md rfl (Rn.sk (nw (b:=false) rfl rfl) (Rn.sk (nw (b:=false) rfl rfl) (Rn.pickF (v:=(b_ false)) tv rfl rfl rfl (md rfl (Rn.sk (nw (b:=false) rfl rfl) (Rn.sk (nw (b:=false) rfl rfl) (Rn.sk (nw (b:=false) rfl rfl) (Rn.pickF (v:=(b_ false)) tv rfl rfl rfl (md rfl (Rn.sk (nw (b:=false) rfl rfl) (Rn.sk (nw (b:=false) rfl rfl) (Rn.sk (nw (b:=false) rfl rfl) (Rn.sk (nw (b:=false) rfl rfl) (Rn.pickF (v:=(b_ false)) tv rfl rfl rfl (md rfl (Rn.nil ?_)))))))))))))))))))))))))))))))
       replace h:=si h; subst h
       exact Qn [] ⟨(sm rfl),tv⟩ ⟨⟨_,rfl,rfl,(.same rfl)⟩,⟨_,rfl,rfl,(.same rfl)⟩,⟨_,rfl,rfl,(.same rfl)⟩,tv⟩ rfl
     ·replace h:=bF hb19 h
      refine Rn.sk (nw rfl hb19) (Rn.sk (nw rfl hb19) (Rn.pickF (v:=(b_ false)) tv rfl hb19 rfl (md rfl (Rn.sk (nw (b:=false) rfl rfl) (Rn.sk (nw (b:=false) rfl rfl) (Rn.sk (nw (b:=false) rfl rfl) (Rn.sk (nw (b:=false) rfl rfl) (Rn.sk (nw (b:=false) rfl rfl) (Rn.pickF (v:=(b_ false)) tv rfl rfl rfl (md rfl (Rn.sk (nw (b:=false) rfl rfl) (Rn.sk (nw (b:=false) rfl rfl) (Rn.sk (nw (b:=false) rfl rfl) (Rn.sk (nw (b:=false) rfl rfl) (Rn.sk (nw (b:=false) rfl rfl) (Rn.sk (nw (b:=false) rfl rfl) (Rn.sk (nw (b:=false) rfl rfl) (Rn.pickF (v:=(b_ false)) tv rfl rfl rfl (md rfl (Rn.sk (nw (b:=false) rfl rfl) (Rn.sk (nw (b:=false) rfl rfl) (Rn.pickF (v:=(b_ false)) tv rfl rfl rfl (md rfl (Rn.sk (nw (b:=false) rfl rfl) (Rn.sk (nw (b:=false) rfl rfl) (Rn.sk (nw (b:=false) rfl rfl) (Rn.pickF (v:=(b_ false)) tv rfl rfl rfl (md rfl (Rn.sk (nw (b:=false) rfl rfl) (Rn.sk (nw (b:=false) rfl rfl) (Rn.sk (nw (b:=false) rfl rfl) (Rn.sk (nw (b:=false) rfl rfl) (Rn.pickF (v:=(b_ false)) tv rfl rfl rfl (md rfl (Rn.nil ?_)))))))))))))))))))))))))))))))))))
      replace h:=si h; subst h
      exact Qn [] ⟨(sm rfl),tv⟩ ⟨⟨_,rfl,rfl,(.same rfl)⟩,⟨_,rfl,rfl,(.same rfl)⟩,⟨_,rfl,rfl,(.same rfl)⟩,tv⟩ rfl
    ·replace h:=bF hb18 h
     refine Rn.sk (nw rfl hb18) (Rn.sk (nw rfl hb18) (Rn.sk (nw rfl hb18) (Rn.sk (nw rfl hb18) (Rn.pickF (v:=(b_ false)) tv rfl hb18 rfl (md rfl (Rn.sk (nw (b:=false) rfl rfl) (Rn.sk (nw (b:=false) rfl rfl) (Rn.pickF (v:=(b_ false)) tv rfl rfl rfl (md rfl (Rn.sk (nw (b:=false) rfl rfl) (Rn.sk (nw (b:=false) rfl rfl) (Rn.sk (nw (b:=false) rfl rfl) (Rn.sk (nw (b:=false) rfl rfl) (Rn.sk (nw (b:=false) rfl rfl) (Rn.pickF (v:=(b_ false)) tv rfl rfl rfl (md rfl (Rn.sk (nw (b:=false) rfl rfl) (Rn.sk (nw (b:=false) rfl rfl) (Rn.sk (nw (b:=false) rfl rfl) (Rn.sk (nw (b:=false) rfl rfl) (Rn.sk (nw (b:=false) rfl rfl) (Rn.sk (nw (b:=false) rfl rfl) (Rn.sk (nw (b:=false) rfl rfl) (Rn.pickF (v:=(b_ false)) tv rfl rfl rfl (md rfl (Rn.sk (nw (b:=false) rfl rfl) (Rn.sk (nw (b:=false) rfl rfl) (Rn.pickF (v:=(b_ false)) tv rfl rfl rfl (md rfl (Rn.sk (nw (b:=false) rfl rfl) (Rn.sk (nw (b:=false) rfl rfl) (Rn.sk (nw (b:=false) rfl rfl) (Rn.pickF (v:=(b_ false)) tv rfl rfl rfl (md rfl (Rn.sk (nw (b:=false) rfl rfl) (Rn.sk (nw (b:=false) rfl rfl) (Rn.sk (nw (b:=false) rfl rfl) (Rn.sk (nw (b:=false) rfl rfl) (Rn.pickF (v:=(b_ false)) tv rfl rfl rfl ?_)))))))))))))))))))))))))))))))))))))))
     refine md rfl (Rn.nil ?_)
     replace h:=si h; subst h
     exact Qn [] ⟨(sm rfl),tv⟩ ⟨⟨_,rfl,rfl,(.same rfl)⟩,⟨_,rfl,rfl,(.same rfl)⟩,⟨_,rfl,rfl,(.same rfl)⟩,tv⟩ rfl
   ·replace h:=bF hb17 h
    refine Rn.sk (nw rfl hb17) (Rn.sk (nw rfl hb17) (Rn.sk (nw rfl hb17) (Rn.sk (nw rfl hb17) (Rn.pickF (v:=(b_ false)) tv rfl hb17 rfl (md rfl (Rn.sk (nw (b:=false) rfl rfl) (Rn.sk (nw (b:=false) rfl rfl) (Rn.sk (nw (b:=false) rfl rfl) (Rn.sk (nw (b:=false) rfl rfl) (Rn.pickF (v:=(b_ false)) tv rfl rfl rfl (md rfl (Rn.sk (nw (b:=false) rfl rfl) (Rn.sk (nw (b:=false) rfl rfl) (Rn.pickF (v:=(b_ false)) tv rfl rfl rfl (md rfl (Rn.sk (nw (b:=false) rfl rfl) (Rn.sk (nw (b:=false) rfl rfl) (Rn.sk (nw (b:=false) rfl rfl) (Rn.sk (nw (b:=false) rfl rfl) (Rn.sk (nw (b:=false) rfl rfl) (Rn.pickF (v:=(b_ false)) tv rfl rfl rfl (md rfl (Rn.sk (nw (b:=false) rfl rfl) (Rn.sk (nw (b:=false) rfl rfl) (Rn.sk (nw (b:=false) rfl rfl) (Rn.sk (nw (b:=false) rfl rfl) (Rn.sk (nw (b:=false) rfl rfl) (Rn.sk (nw (b:=false) rfl rfl) (Rn.sk (nw (b:=false) rfl rfl) (Rn.pickF (v:=(b_ false)) tv rfl rfl rfl (md rfl (Rn.sk (nw (b:=false) rfl rfl) (Rn.sk (nw (b:=false) rfl rfl) (Rn.pickF (v:=(b_ false)) tv rfl rfl rfl (md rfl (Rn.sk (nw (b:=false) rfl rfl) (Rn.sk (nw (b:=false) rfl rfl) (Rn.sk (nw (b:=false) rfl rfl) (Rn.pickF (v:=(b_ false)) tv rfl rfl rfl ?_)))))))))))))))))))))))))))))))))))))))
    refine md rfl (Rn.sk (nw (b:=false) rfl rfl) (Rn.sk (nw (b:=false) rfl rfl) (Rn.sk (nw (b:=false) rfl rfl) (Rn.sk (nw (b:=false) rfl rfl) (Rn.pickF (v:=(b_ false)) tv rfl rfl rfl (md rfl (Rn.nil ?_)))))))
    replace h:=si h; subst h
    exact Qn [] ⟨(sm rfl),tv⟩ ⟨⟨_,rfl,rfl,(.same rfl)⟩,⟨_,rfl,rfl,(.same rfl)⟩,⟨_,rfl,rfl,(.same rfl)⟩,tv⟩ rfl
  ·replace h:=bF hb14 h
   refine Rn.sk (nw rfl hb14) (Rn.sk (nw rfl hb14) (Rn.sk (nw rfl hb14) (Rn.sk (nw rfl hb14) (Rn.pickF (v:=(b_ false)) tv rfl hb14 rfl (md rfl (Rn.sk (nw (b:=false) rfl rfl) (Rn.sk (nw (b:=false) rfl rfl) (Rn.sk (nw (b:=false) rfl rfl) (Rn.sk (nw (b:=false) rfl rfl) (Rn.pickF (v:=(b_ false)) tv rfl rfl rfl (md rfl (Rn.sk (nw (b:=false) rfl rfl) (Rn.sk (nw (b:=false) rfl rfl) (Rn.sk (nw (b:=false) rfl rfl) (Rn.sk (nw (b:=false) rfl rfl) (Rn.pickF (v:=(b_ false)) tv rfl rfl rfl (md rfl (Rn.sk (nw (b:=false) rfl rfl) (Rn.sk (nw (b:=false) rfl rfl) (Rn.pickF (v:=(b_ false)) tv rfl rfl rfl (md rfl (Rn.sk (nw (b:=false) rfl rfl) (Rn.sk (nw (b:=false) rfl rfl) (Rn.sk (nw (b:=false) rfl rfl) (Rn.sk (nw (b:=false) rfl rfl) (Rn.sk (nw (b:=false) rfl rfl) (Rn.pickF (v:=(b_ false)) tv rfl rfl rfl (md rfl (Rn.sk (nw (b:=false) rfl rfl) (Rn.sk (nw (b:=false) rfl rfl) (Rn.sk (nw (b:=false) rfl rfl) (Rn.sk (nw (b:=false) rfl rfl) (Rn.sk (nw (b:=false) rfl rfl) (Rn.sk (nw (b:=false) rfl rfl) (Rn.sk (nw (b:=false) rfl rfl) (Rn.pickF (v:=(b_ false)) tv rfl rfl rfl (md rfl (Rn.sk (nw (b:=false) rfl rfl) (Rn.sk (nw (b:=false) rfl rfl) ?_)))))))))))))))))))))))))))))))))))))))
   refine Rn.pickF (v:=(b_ false)) tv rfl rfl rfl (md rfl (Rn.sk (nw (b:=false) rfl rfl) (Rn.sk (nw (b:=false) rfl rfl) (Rn.sk (nw (b:=false) rfl rfl) (Rn.pickF (v:=(b_ false)) tv rfl rfl rfl (md rfl (Rn.sk (nw (b:=false) rfl rfl) (Rn.sk (nw (b:=false) rfl rfl) (Rn.sk (nw (b:=false) rfl rfl) (Rn.sk (nw (b:=false) rfl rfl) (Rn.pickF (v:=(b_ false)) tv rfl rfl rfl (md rfl (Rn.nil ?_)))))))))))))
   replace h:=si h; subst h
   exact Qn [] ⟨(sm rfl),tv⟩ ⟨⟨_,rfl,rfl,(.same rfl)⟩,⟨_,rfl,rfl,(.same rfl)⟩,⟨_,rfl,rfl,(.same rfl)⟩,tv⟩ rfl
 ·obtain ⟨x27,rfl⟩ : ∃ x,x = z:=⟨_,rfl⟩
  refine Tr.ret ?_
  replace h:=si h; subst h
  exact ⟨.inr rfl,(b_ x27),rfl,fun _ _ _ _ h=>h,tv,fun k hk=>Qf hk⟩
theorem Q0e {P:Program} {c:Nat} {Qbd:Qm→Option Int}
    (H_automaton_Check:Qg4 P 64 Qbd) (hcf:Q1 P c = some Qkb):Qka P c (Qc4 Qbd):=by
 intro a1 r h
 refine Qf3 hcf rfl fun Γ M hP hnt hM=>?_
 subst hP
 refine Tr.init [(0,(Qo a1))] rfl ?_
 unfold Qc4 at h
 unfold Qkb
 refine sr ((Rn.box (v:=(Qo a1)) (cs:=(Qbq a1)) tv rfl rfl rfl rfl rfl (md rfl (Rn.nil (toN ?_)))))
 refine Tr.cutB (fun (x8:Bool)=>⟨look [(2,(b_ x8))],Qr Γ.n0 (bxs [(1,.cells ((Qbq a1)))]) M,Γ.n0 + 29⟩) h (fun z h=>?_) (fun z h=>?_)
 ·refine Tr.rgn (Rn.fldP (o':=0) tv rfl rfl (Rn.load (v:=(l_ a1.zJ)) tv rfl (Qi rfl) rfl rfl (Rn.lenD tv rfl (Rn.bin tv rfl rfl rfl (md rfl ?_)))))
  refine Q8 (decide ((a1.zJ.length:Int)≤10)) (fun hb2=>?_) (fun hb2=>?_)
  ·replace h:=ifT hb2 h
   refine Rn.fldP (o':=2) (gw rfl hb2) rfl rfl (Rn.load (v:=(l_ a1.zK)) (gw rfl hb2) rfl (Qi rfl) rfl rfl (Rn.lenD (gw rfl hb2) rfl (Rn.bin (gw rfl hb2) rfl rfl rfl (Rn.pickT (v:=(b_ (decide ((a1.zK.length:Int)≤10)))) tv rfl hb2 rfl (md rfl ?_)))))
   refine Q8 (decide ((a1.zK.length:Int)≤10)) (fun hb3=>?_) (fun hb3=>?_)
   ·replace h:=ifT hb3 h
    refine Rn.fldP (o':=3) (gw rfl hb3) rfl rfl (Rn.load (v:=.d (.lst 3 (List.map Qb a1.zL))) (gw rfl hb3) rfl (Qi rfl) rfl rfl (Rn.lenD (gw rfl hb3) rfl (Rn.bin (gw rfl hb3) rfl rfl rfl (Rn.pickT (v:=(b_ (decide ((a1.zL.length:Int)≤10)))) tv rfl hb3 rfl (md rfl ?_)))))
    refine Q8 (decide ((a1.zL.length:Int)≤10)) (fun hb4=>?_) (fun hb4=>?_)
    ·replace h:=ifT hb4 h
     refine Rn.fldP (o':=1) (gw rfl hb4) rfl rfl (Rn.load (v:=(i_ a1.zM)) (gw rfl hb4) rfl (Qi rfl) rfl rfl (Rn.bin (gw rfl hb4) rfl rfl rfl (Rn.movD (gw rfl hb4) rfl ?_)))
     refine Q8 (decide (a1.zM≤40)) (fun hb5=>?_) (fun hb5=>?_)
     ·replace h:=ifT hb5 h
      refine Rn.sk (nw rfl hb5) (Rn.sk (nw rfl hb5) (Rn.sk (nw rfl hb5) (Rn.pickT (v:=(b_ true)) (gw rfl hb4) rfl hb5 rfl (Rn.pickT (v:=(b_ true)) tv rfl hb4 rfl (md rfl (Rn.nil ?_))))))
      replace h:=si h; subst h
      exact Qn [] ⟨(sm rfl),tv⟩ ⟨⟨_,rfl,rfl,(.same rfl)⟩,tv⟩ rfl
     ·replace h:=ifF hb5 h
      refine Rn.load (v:=(Qo a1)) (gw rfl hb5) rfl (Qi rfl) rfl rfl ?_
      obtain ⟨x7,h6,h⟩:=bnd h
      refine Rn.call (args:=[(Qo a1)]) (gw rfl hb5) rfl (H_automaton_Check _ _ h6) pc9 (Rn.bin (gw rfl hb5) rfl rfl rfl (Rn.pickF (v:=(b_ (x7 != 0))) (gw rfl hb4) rfl hb5 rfl (Rn.pickT (v:=(b_ (x7 != 0))) tv rfl hb4 rfl (md rfl (Rn.nil ?_)))))
      replace h:=si h; subst h
      exact Qn [] ⟨(sm rfl),tv⟩ ⟨⟨_,rfl,rfl,(.same rfl)⟩,tv⟩ rfl
    ·replace h:=ifF hb4 h
     refine Rn.sk (nw rfl hb4) (Rn.sk (nw rfl hb4) (Rn.sk (nw rfl hb4) (Rn.sk (nw rfl hb4) (Rn.sk (nu rfl) (Rn.sk (nu rfl) (Rn.sk (nu rfl) (Rn.sk (nw rfl hb4) (Rn.pickF (v:=(b_ false)) tv rfl hb4 rfl (md rfl (Rn.nil ?_))))))))))
     replace h:=si h; subst h
     exact Qn [] ⟨(sm rfl),tv⟩ ⟨⟨_,rfl,rfl,(.same rfl)⟩,tv⟩ rfl
   ·replace h:=ifF hb3 h
    refine Rn.sk (nw rfl hb3) (Rn.sk (nw rfl hb3) (Rn.sk (nw rfl hb3) (Rn.sk (nw rfl hb3) (Rn.pickF (v:=(b_ false)) tv rfl hb3 rfl (md rfl (Rn.sk (nw (b:=false) rfl rfl) (Rn.sk (nw (b:=false) rfl rfl) (Rn.sk (nw (b:=false) rfl rfl) (Rn.sk (nw (b:=false) rfl rfl) (Rn.sk (nu rfl) (Rn.sk (nu rfl) (Rn.sk (nu rfl) (Rn.sk (nw (b:=false) rfl rfl) (Rn.pickF (v:=(b_ false)) tv rfl rfl rfl (md rfl (Rn.nil ?_))))))))))))))))
    replace h:=si h; subst h
    exact Qn [] ⟨(sm rfl),tv⟩ ⟨⟨_,rfl,rfl,(.same rfl)⟩,tv⟩ rfl
  ·replace h:=ifF hb2 h
   refine Rn.sk (nw rfl hb2) (Rn.sk (nw rfl hb2) (Rn.sk (nw rfl hb2) (Rn.sk (nw rfl hb2) (Rn.pickF (v:=(b_ false)) tv rfl hb2 rfl (md rfl (Rn.sk (nw (b:=false) rfl rfl) (Rn.sk (nw (b:=false) rfl rfl) (Rn.sk (nw (b:=false) rfl rfl) (Rn.sk (nw (b:=false) rfl rfl) (Rn.pickF (v:=(b_ false)) tv rfl rfl rfl (md rfl (Rn.sk (nw (b:=false) rfl rfl) (Rn.sk (nw (b:=false) rfl rfl) (Rn.sk (nw (b:=false) rfl rfl) (Rn.sk (nw (b:=false) rfl rfl) (Rn.sk (nu rfl) (Rn.sk (nu rfl) (Rn.sk (nu rfl) (Rn.sk (nw (b:=false) rfl rfl) (Rn.pickF (v:=(b_ false)) tv rfl rfl rfl (md rfl (Rn.nil ?_))))))))))))))))))))))
   replace h:=si h; subst h
   exact Qn [] ⟨(sm rfl),tv⟩ ⟨⟨_,rfl,rfl,(.same rfl)⟩,tv⟩ rfl
 ·obtain ⟨x8,rfl⟩ : ∃ x,x = z:=⟨_,rfl⟩
  refine Tr.ret ?_
  replace h:=si h; subst h
  exact ⟨.inr rfl,(b_ x8),rfl,fun _ _ _ _ h=>h,tv,fun k hk=>Qf hk⟩
theorem Q0f {P:Program} {c:Nat} (hcf:Q1 P c = some Qkd) (fuel:Nat):Qkc P c (Qcq fuel):=by
 intro l1 n2 r h
 refine Qf3 hcf rfl fun Γ M hP hnt hM=>?_
 subst hP
 refine Tr.init [(0,(l_ l1)),(1,(i_ n2))] rfl ?_
 unfold Qcq at h
 unfold Qkd
 refine sr ((md rfl (nt ((Tr.seq (sr ((md rfl (nt ((Tr.block ?_)))))))))))
 refine Tr.loop (mk:=fun (i3:Int)=>⟨look [(0,(l_ l1)),(1,(i_ n2)),(5,(i_ i3))],Qr Γ.n0 (bxs []) M,Γ.n0 + 18⟩) h (by exact Qx ⟨(sm rfl),(sm rfl),(sm rfl),tv⟩ tv rfl) (fun k4 z h=>?_)
 ·obtain ⟨i3,rfl⟩ : ∃ x,x = z:=⟨_,rfl⟩
  replace h:_ = some _:=h
  refine Tr.seq (sr ((md rfl (md rfl (Rn.lenD tv rfl (Rn.bin tv rfl rfl rfl (Rn.nil (toN ?_))))))))
  refine Tr.cond rfl (fun hb5=>?_) (fun hb5=>?_)
  ·replace h:=ifT hb5 h
   refine Tr.skip (toN (Tr.seq (Tr.block (sr ((md rfl (md rfl ?_)))))))
   obtain ⟨x6,h7,h⟩:=bnd h
   refine Rn.idxD (e:=(eI .i64)) tv rfl rfl h7 (Rn.loadC (x:=.int .i64 x6) tv rfl (md rfl (Rn.bin tv rfl rfl rfl (Rn.nil (toN ?_)))))
   refine Tr.cond rfl (fun hb8=>?_) (fun hb8=>?_)
   ·replace h:=bT hb8 h
    refine sr ((md rfl (nt ((Tr.ret ?_)))))
    replace h:=si h; subst h
    exact ⟨.inr rfl,(b_ true),rfl,fun _ _ _ _ h=>h,tv,fun k hk=>Qf hk⟩
   ·replace h:=bF hb8 h
    refine Tr.skip (toN (Tr.rgn (md rfl (Rn.bin tv rfl rfl rfl (md rfl (Rn.nil ?_))))))
    exact ⟨_,h,(by exact Qx ⟨(sm rfl),(sm rfl),(sm rfl),tv⟩ tv rfl)⟩
  ·replace h:=ifF hb5 h
   refine Tr.exit (toN (sr ((md rfl (nt ((Tr.ret ?_)))))))
   replace h:=si h; subst h
   exact ⟨.inr rfl,(b_ false),rfl,fun _ _ _ _ h=>h,tv,fun k hk=>Qf hk⟩
theorem Qxt {P:Program} {c:Nat} {Qcq:(List Int)→Int→Option Bool} {Qy:(List Int)→Int→Option Int} {Qbd:Qm→Option Int}
    (H_overseerlaw46_has:Qkc P 23 Qcq)
    (H_alphabet_CheckSet:Qei P 31 Qy)
    (H_automaton_Check:Qg4 P 64 Qbd) (hcf:Q1 P c = some Qih):Qig P c (Qcm Qcq Qy Qbd):=by
 intro p1 r h
 refine Qf3 hcf rfl fun Γ M hP hnt hM=>?_
 subst hP
 refine Tr.init [(0,.agg [(l_ p1.zA.zJ),(i_ p1.zA.zM),(l_ p1.zA.zK),.d (.lst 3 (List.map Qb p1.zA.zL)),(l_ p1.zC),(l_ p1.zB),(l_ p1.zD),(i_ p1.Tick)])] rfl ?_
 unfold Qcm at h
 unfold Qih
 refine sr ((Rn.box (v:=.agg [(l_ p1.zA.zJ),(i_ p1.zA.zM),(l_ p1.zA.zK),.d (.lst 3 (List.map Qb p1.zA.zL)),(l_ p1.zC),(l_ p1.zB),(l_ p1.zD),(i_ p1.Tick)]) (cs:=[(l_ p1.zA.zJ),(i_ p1.zA.zM),(l_ p1.zA.zK),.d (.lst 3 (List.map Qb p1.zA.zL)),(l_ p1.zC),(l_ p1.zB),(l_ p1.zD),(i_ p1.Tick)]) tv rfl rfl rfl rfl rfl (md rfl (nt ((Tr.seq (sr ((Rn.fldP (o':=0) tv rfl rfl (Rn.load (v:=(Qo p1.zA)) tv rfl (Qi rfl) rfl rfl ?_))))))))))
 obtain ⟨x3,h2,h⟩:=bnd h
 refine Rn.call (args:=[(Qo p1.zA)]) tv rfl (H_automaton_Check _ _ h2) pc9 (md rfl (nt ((sr ((md rfl (Rn.bin tv rfl rfl rfl (Rn.nil (toN ?_)))))))))
 refine Tr.cond rfl (fun hb4=>?_) (fun hb4=>?_)
 ·replace h:=bT hb4 h
  refine sr ((md rfl (md rfl (nt ((Tr.ret ?_))))))
  replace h:=si h; subst h
  exact ⟨.inr rfl,(i_ x3),rfl,fun _ _ _ _ h=>h,tv,fun k hk=>Qf hk⟩
 ·replace h:=bF hb4 h
  refine Tr.skip (toN (Tr.seq (sr ((Rn.fldP (o':=4) tv rfl rfl (Rn.load (v:=(l_ p1.zC)) tv rfl (Qi rfl) rfl rfl (Rn.fldP (o':=0) tv rfl rfl (Rn.fldP (o':=1) tv rfl rfl (Rn.load (v:=(i_ p1.zA.zM)) tv rfl (Qi rfl) rfl rfl ?_)))))))))
  obtain ⟨x6,h5,h⟩:=bnd h
  refine Rn.call (args:=[(l_ p1.zC),(i_ p1.zA.zM)]) tv rfl (H_alphabet_CheckSet _ _ _ h5) pc9 (md rfl (nt ((sr ((md rfl (Rn.bin tv rfl rfl rfl (Rn.nil (toN ?_)))))))))
  refine Tr.cond rfl (fun hb7=>?_) (fun hb7=>?_)
  ·replace h:=bT hb7 h
   refine sr ((md rfl (md rfl (nt ((Tr.ret ?_))))))
   replace h:=si h; subst h
   exact ⟨.inr rfl,(i_ x6),rfl,fun _ _ _ _ h=>h,tv,fun k hk=>Qf hk⟩
  ·replace h:=bF hb7 h
   refine Tr.skip (toN (Tr.seq (sr ((Rn.fldP (o':=5) tv rfl rfl (Rn.load (v:=(l_ p1.zB)) tv rfl (Qi rfl) rfl rfl ?_))))))
   obtain ⟨x9,h8,h⟩:=bnd h
   refine Rn.call (args:=[(l_ p1.zB),(i_ 32)]) tv rfl (H_alphabet_CheckSet _ _ _ h8) pc9 (md rfl (nt ((sr ((md rfl (Rn.bin tv rfl rfl rfl (Rn.nil (toN ?_)))))))))
   refine Tr.cond rfl (fun hb10=>?_) (fun hb10=>?_)
   ·replace h:=bT hb10 h
    refine sr ((md rfl (md rfl (nt ((Tr.ret ?_))))))
    replace h:=si h; subst h
    exact ⟨.inr rfl,(i_ x9),rfl,fun _ _ _ _ h=>h,tv,fun k hk=>Qf hk⟩
   ·replace h:=bF hb10 h
    refine Tr.skip (toN (Tr.seq (sr ((Rn.fldP (o':=6) tv rfl rfl (Rn.load (v:=(l_ p1.zD)) tv rfl (Qi rfl) rfl rfl ?_))))))
    obtain ⟨x12,h11,h⟩:=bnd h
    refine Rn.call (args:=[(l_ p1.zD),(i_ 32)]) tv rfl (H_alphabet_CheckSet _ _ _ h11) pc9 (md rfl (nt ((sr ((md rfl (Rn.bin tv rfl rfl rfl (Rn.nil (toN ?_)))))))))
    refine Tr.cond rfl (fun hb13=>?_) (fun hb13=>?_)
    ·replace h:=bT hb13 h
     refine sr ((md rfl (md rfl (nt ((Tr.ret ?_))))))
     replace h:=si h; subst h
     exact ⟨.inr rfl,(i_ x12),rfl,fun _ _ _ _ h=>h,tv,fun k hk=>Qf hk⟩
    ·replace h:=bF hb13 h
     refine Tr.skip (toN (Tr.seq ?_))
     refine Tr.cutB (fun (x15:Bool)=>⟨look [(1,.ptr (Γ.n0 + 1) 0),(41,(b_ x15))],Qr Γ.n0 (bxs [(1,.cells ([(l_ p1.zA.zJ),(i_ p1.zA.zM),(l_ p1.zA.zK),.d (.lst 3 (List.map Qb p1.zA.zL)),(l_ p1.zC),(l_ p1.zB),(l_ p1.zD),(i_ p1.Tick)]))]) M,Γ.n0 + 54⟩) h (fun z h=>?_) (fun z h=>?_)
     ·refine Tr.rgn (Rn.fldP (o':=7) tv rfl rfl (Rn.load (v:=(i_ p1.Tick)) tv rfl (Qi rfl) rfl rfl (Rn.bin tv rfl rfl rfl (md rfl ?_))))
      refine Q8 (decide (p1.Tick < 0)) (fun hb14=>?_) (fun hb14=>?_)
      ·replace h:=ifT hb14 h
       refine Rn.sk (nw rfl hb14) (Rn.sk (nw rfl hb14) (Rn.sk (nw rfl hb14) (Rn.pickT (v:=(b_ true)) tv rfl hb14 rfl (Rn.nil ?_))))
       replace h:=si h; subst h
       exact Qn [] ⟨(kPtr rfl),(sm rfl),tv⟩ ⟨⟨_,rfl,rfl,(.same rfl)⟩,tv⟩ rfl
      ·replace h:=ifF hb14 h
       refine Rn.fldP (o':=7) (gw rfl hb14) rfl rfl (Rn.load (v:=(i_ p1.Tick)) (gw rfl hb14) rfl (Qi rfl) rfl rfl (Rn.bin (gw rfl hb14) rfl rfl rfl (Rn.pickF (v:=(b_ (decide (p1.Tick≥32)))) tv rfl hb14 rfl (Rn.nil ?_))))
       replace h:=si h; subst h
       exact Qn [] ⟨(kPtr rfl),(sm rfl),tv⟩ ⟨⟨_,rfl,rfl,(.same rfl)⟩,tv⟩ rfl
     ·obtain ⟨x15,rfl⟩ : ∃ x,x = z:=⟨_,rfl⟩
      refine Tr.cond rfl (fun hb16=>?_) (fun hb16=>?_)
      ·replace h:=bT hb16 h
       refine sr ((md rfl (nt ((Tr.ret ?_)))))
       replace h:=si h; subst h
       exact ⟨.inr rfl,(i_ 2),rfl,fun _ _ _ _ h=>h,tv,fun k hk=>Qf hk⟩
      ·replace h:=bF hb16 h
       refine Tr.skip (toN (Tr.seq ?_))
       refine Tr.cutB (fun (x22:Bool)=>⟨look [(53,(b_ x22))],Qr Γ.n0 (bxs [(1,.cells ([(l_ p1.zA.zJ),(i_ p1.zA.zM),(l_ p1.zA.zK),.d (.lst 3 (List.map Qb p1.zA.zL)),(l_ p1.zC),(l_ p1.zB),(l_ p1.zD),(i_ p1.Tick)]))]) M,Γ.n0 + 54⟩) h (fun z h=>?_) (fun z h=>?_)
       ·refine Tr.rgn (Rn.fldP (o':=5) tv rfl rfl (Rn.load (v:=(l_ p1.zB)) tv rfl (Qi rfl) rfl rfl (Rn.fldP (o':=7) tv rfl rfl (Rn.load (v:=(i_ p1.Tick)) tv rfl (Qi rfl) rfl rfl ?_))))
        obtain ⟨x18,h17,h⟩:=bnd h
        refine Rn.call (args:=[(l_ p1.zB),(i_ p1.Tick)]) tv rfl (H_overseerlaw46_has _ _ _ h17) pc9 (md rfl ?_)
        refine Q8 x18 (fun hb19=>?_) (fun hb19=>?_)
        ·replace h:=bT hb19 h
         refine Rn.sk (nw rfl hb19) (Rn.sk (nw rfl hb19) (Rn.sk (nw rfl hb19) (Rn.sk (nw rfl hb19) (Rn.sk (nw rfl hb19) (Rn.pickT (v:=(b_ true)) tv rfl hb19 rfl (Rn.nil ?_))))))
         replace h:=si h; subst h
         exact Qn [] ⟨(sm rfl),tv⟩ ⟨⟨_,rfl,rfl,(.same rfl)⟩,tv⟩ rfl
        ·replace h:=bF hb19 h
         refine Rn.fldP (o':=6) (gw rfl hb19) rfl rfl (Rn.load (v:=(l_ p1.zD)) (gw rfl hb19) rfl (Qi rfl) rfl rfl (Rn.fldP (o':=7) (gw rfl hb19) rfl rfl (Rn.load (v:=(i_ p1.Tick)) (gw rfl hb19) rfl (Qi rfl) rfl rfl ?_)))
         obtain ⟨x21,h20,h⟩:=bnd h
         refine Rn.call (args:=[(l_ p1.zD),(i_ p1.Tick)]) (gw rfl hb19) rfl (H_overseerlaw46_has _ _ _ h20) pc9 (Rn.pickF (v:=(b_ x21)) tv rfl hb19 rfl (Rn.nil ?_))
         replace h:=si h; subst h
         exact Qn [] ⟨(sm rfl),tv⟩ ⟨⟨_,rfl,rfl,(.same rfl)⟩,tv⟩ rfl
       ·obtain ⟨x22,rfl⟩ : ∃ x,x = z:=⟨_,rfl⟩
        refine Tr.cond rfl (fun hb23=>?_) (fun hb23=>?_)
        ·replace h:=bT hb23 h
         refine sr ((md rfl (nt ((Tr.ret ?_)))))
         replace h:=si h; subst h
         exact ⟨.inr rfl,(i_ 13),rfl,fun _ _ _ _ h=>h,tv,fun k hk=>Qf hk⟩
        ·replace h:=bF hb23 h
         refine Tr.skip (toN (sr ((md rfl (nt ((Tr.ret ?_)))))))
         replace h:=si h; subst h
         exact ⟨.inr rfl,(i_ 0),rfl,fun _ _ _ _ h=>h,tv,fun k hk=>Qf hk⟩
theorem Qpg {P:Program} {c:Nat} {Qh:(List Int)→Int→Option Bool} {Qs:Qd→Int→Option (Int×Int)}
    (H_alphabet_Contains:Qbz P 50 Qh)
    (H_timedsynthesis_task_escape:Qdb P 53 Qs) (hcf:Q1 P c = some Qfx):Qfw P c (Qbt Qh Qs):=by
 intro i1 x2 x11 x14 k3 k5 k7 k9 k12 k15 r h
 intro M nb hk4 hk6 hk8 hk10 hk13 hk16
 refine Qg8 hcf rfl M nb fun Γ hP hnt hn0 hM=>?_
 subst hP hn0
 refine Tr.init [(0,(i_ i1)),(1,.ptr k3 0),(2,.ptr k12 0),(3,.ptr k15 0)] rfl ?_
 unfold Qbt at h
 unfold Qfx
 refine sr ((md rfl (nt ((sr ((Rn.load (v:=.ptr k5 0) tv rfl (Qk hM hk4) rfl rfl (md rfl ?_))))))))
 obtain ⟨⟨r18,r19⟩,h17,h⟩:=bnd h
 refine Rn.callM (args:=[.ptr k5 0,(i_ i1)]) tv rfl (fun M2 nb2 hn hx=>H_timedsynthesis_task_escape _ _ k5 k7 k9 _ h17 M2 nb2 (hx _ _ (Qk hM hk6)) (hx _ _ (Qk hM hk8)) (hx _ _ (Qk hM hk10))) rfl pc9 ?_
 refine Rn.mov (v:=.tup [(i_ r18),(i_ r19)]) tv rfl (Rn.ext (v:=(i_ r18)) (vs:=[(i_ r18),(i_ r19)]) tv rfl rfl rfl (Rn.ext (v:=(i_ r19)) (vs:=[(i_ r18),(i_ r19)]) tv rfl rfl rfl (md rfl (md rfl (nt ((sr ((md rfl (Rn.bin tv rfl rfl rfl (md rfl ?_)))))))))))
 refine Q8 (r18 != 0) (fun hb20=>?_) (fun hb20=>?_)
 ·replace h:=bT hb20 h
  refine Rn.sk (nw rfl hb20) (Rn.sk (nw rfl hb20) (Rn.sk (nw rfl hb20) (Rn.sk (nw rfl hb20) (Rn.sk (nw rfl hb20) (Rn.pickT (v:=(b_ true)) tv rfl hb20 rfl (md rfl (Rn.sk (nw (b:=true) rfl rfl) (Rn.sk (nw (b:=true) rfl rfl) (Rn.sk (nw (b:=true) rfl rfl) (Rn.sk (nw (b:=true) rfl rfl) (Rn.pickT (v:=(b_ true)) tv rfl rfl rfl (md rfl (nt ((Tr.ret ?_)))))))))))))))
  replace h:=si h; subst h
  exact ⟨.inr rfl,(b_ true),rfl,fun _ _ _ _ h=>h,tv,fun k hk=>Qf hk⟩
 ·replace h:=bF hb20 h
  refine Rn.load (v:=(l_ x11)) (gw rfl hb20) rfl (Qk hM hk13) rfl rfl (Rn.movD (gw rfl hb20) rfl ?_)
  obtain ⟨x21,h22,h⟩:=bnd h
  refine Rn.idxD (e:=(eI .i64)) (gw rfl hb20) rfl rfl h22 (Rn.loadC (x:=.int .i64 x21) (gw rfl hb20) rfl (Rn.bin (gw rfl hb20) rfl rfl rfl (Rn.pickF (v:=(b_ (decide (x21 < 0)))) tv rfl hb20 rfl (md rfl ?_))))
  refine Q8 (decide (x21 < 0)) (fun hb23=>?_) (fun hb23=>?_)
  ·replace h:=ifT hb23 h
   refine Rn.sk (nw rfl hb23) (Rn.sk (nw rfl hb23) (Rn.sk (nw rfl hb23) (Rn.sk (nw rfl hb23) (Rn.pickT (v:=(b_ true)) tv rfl hb23 rfl (md rfl (nt ((Tr.ret ?_))))))))
   replace h:=si h; subst h
   exact ⟨.inr rfl,(b_ true),rfl,fun _ _ _ _ h=>h,tv,fun k hk=>Qf hk⟩
  ·replace h:=ifF hb23 h
   refine Rn.fldP (o':=4) (gw rfl hb23) rfl rfl (Rn.load (v:=(l_ x14.zC)) (gw rfl hb23) rfl (Qk hM hk16) rfl rfl (Rn.movD (gw rfl hb23) rfl ?_))
   obtain ⟨x25,h24,h⟩:=bnd h
   refine Rn.call (args:=[(l_ x14.zC),(i_ i1)]) (gw rfl hb23) rfl (H_alphabet_Contains _ _ _ h24) pc9 (Rn.pickF (v:=(b_ x25)) tv rfl hb23 rfl (md rfl (nt ((Tr.ret ?_)))))
   replace h:=si h; subst h
   exact ⟨.inr rfl,(b_ x25),rfl,fun _ _ _ _ h=>h,tv,fun k hk=>Qf hk⟩
theorem Qve {P:Program} {c:Nat} (hcf:Q1 P c = some Qhx) (fuel:Nat):Qhw P c (Qce fuel):=by
 intro s1 f2 g3 cp4 r h
 intro M nb hc5 ho7 hf6
 refine Qg8 hcf rfl M nb fun Γ hP hnt hn0 hM=>?_
 subst hP hn0
 refine Tr.init [(0,(l_ s1)),(1,.clo g3 cp4)] rfl ?_
 unfold Qce at h
 unfold Qhx
 refine sr ((md rfl (nt ((Tr.seq (sr ((md rfl (Rn.lenD tv rfl (md rfl (nt ((Tr.block ?_)))))))))))))
 refine Tr.loop (mk:=fun (x9:Int)=>⟨look [(0,(l_ s1)),(1,.clo g3 cp4),(7,(i_ (s1.length:Int))),(8,(i_ x9))],Qr Γ.n0 (bxs []) M,Γ.n0 + 19⟩) h (by exact Qx ⟨(sm rfl),(kFun hM ho7),(sm rfl),(sm rfl),tv⟩ tv rfl) (fun k10 z h=>?_)
 ·obtain ⟨x9,rfl⟩ : ∃ x,x = z:=⟨_,rfl⟩
  replace h:_ = some _:=h
  refine sr ((Rn.bin tv rfl rfl rfl (nt ((Tr.seq ?_)))))
  refine Tr.cond rfl (fun hb11=>?_) (fun hb11=>?_)
  ·replace h:=ifT hb11 h
   refine Tr.skip (toN (Tr.seq (Tr.block (sr ((md rfl (md rfl (nt ((sr ((Rn.mov (v:=.clo g3 cp4) tv rfl (md rfl (md rfl ?_))))))))))))))
   obtain ⟨x12,h13,h⟩:=bnd h
   refine Rn.idxD (e:=(eI .i64)) tv rfl rfl h13 (Rn.loadC (x:=.int .i64 x12) tv rfl ?_)
   obtain ⟨x15,h14,h⟩:=bnd h
   refine Rn.callvM (args:=[(i_ x12)] ++ cp4) tv rfl (by rw [hc5]; rfl) (fun M2 nb2 hn hx=>hf6 _ _ h14 M2 nb2 (by omega) ((Q02 hM).trans hx)) rfl pc9 ?_
   refine Rn.nil (toN ?_)
   refine Tr.cond rfl (fun hb16=>?_) (fun hb16=>?_)
   ·replace h:=bT hb16 h
    refine sr ((md rfl (md rfl (nt ((Tr.ret ?_))))))
    replace h:=si h; subst h
    exact ⟨.inr rfl,(i_ x9),rfl,fun _ _ _ _ h=>h,tv,fun k hk=>Qf hk⟩
   ·replace h:=bF hb16 h
    refine Tr.skip (toN (Tr.rgn (Rn.bin tv rfl rfl rfl (md rfl (Rn.nil ?_)))))
    exact ⟨_,h,(by exact Qx ⟨(sm rfl),(kFun hM ho7),(sm rfl),(sm rfl),tv⟩ tv rfl)⟩
  ·replace h:=ifF hb11 h
   refine Tr.exit (toN (sr ((md rfl (nt ((Tr.ret ?_)))))))
   replace h:=si h; subst h
   exact ⟨.inr rfl,(i_ (-1)),rfl,fun _ _ _ _ h=>h,tv,fun k hk=>Qf hk⟩
theorem Qrd {P:Program} {c:Nat} {Qce:(List Int)→(Int→Option Bool)→Option Int}
    (H_slices_IndexFunc_int:Qhw P 75 Qce) (hcf:Q1 P c = some Qgk):Qel P c (Q3 Qce):=by
 intro s1 f2 g3 cp4 r h
 intro M nb hc5 ho7 hf6
 refine Qg8 hcf rfl M nb fun Γ hP hnt hn0 hM=>?_
 subst hP hn0
 refine Tr.init [(0,(l_ s1)),(1,.clo g3 cp4)] rfl ?_
 unfold Q3 at h
 unfold Qgk
 refine sr ((md rfl (nt ((sr ((md rfl (Rn.mov (v:=.clo g3 cp4) tv rfl ?_))))))))
 obtain ⟨x13,h12,h⟩:=bnd h
 refine Rn.callM (args:=[(l_ s1),.clo g3 cp4]) tv rfl (fun M2 nb2 hn hx=>H_slices_IndexFunc_int _ _ g3 cp4 _ h12 M2 nb2 hc5 (Qbgf ((Q02 hM).trans hx) ho7) (fun a9 r10 h11 M3 nb3 hn3 hx3=>hf6 a9 r10 h11 M3 nb3 (by omega) ((Q02 hM).trans (hx.trans hx3)))) rfl pc9 ?_
 refine Rn.bin tv rfl rfl rfl (md rfl (nt ((Tr.ret ?_))))
 replace h:=si h; subst h
 exact ⟨.inr rfl,(b_ (decide (x13≥0))),rfl,fun _ _ _ _ h=>h,tv,fun k hk=>Qf hk⟩
theorem Qre {P:Program} {c:Nat} {Qw:Qa→Option Int} {Qy:(List Int)→Int→Option Int} {Q2:Qa→Option Qd} {Qq:Qd→Option ((List Int))} {Qh:(List Int)→Int→Option Bool} {Q3:(List Int)→(Int→Option Bool)→Option Bool} {Qbt:Int→Qd→(List Int)→Qa→Option Bool}
    (H_timedsynthesis_Check:Qdr P 30 Qw)
    (H_alphabet_CheckSet:Qei P 31 Qy)
    (H_timedsynthesis_begin:Qeh P 37 Q2)
    (H_timedsynthesis_task_distances:Qcz P 39 Qq)
    (H_alphabet_Contains:Qbz P 50 Qh)
    (H_slices_ContainsFunc_int:Qel P 51 Q3)
    (H_timedsynthesis_Conforms_1:Qfw P 52 Qbt) (hcf:Q1 P c = some Qgm) (fuel:Nat):Qgl P c (Qbj Qw Qy Q2 Qq Qh Q3 Qbt fuel):=by
 intro p1 xset2 r h
 refine Qf3 hcf rfl fun Γ M hP hnt hM=>?_
 subst hP
 refine Tr.init [(0,.agg [(l_ p1.zA.zJ),(i_ p1.zA.zM),(l_ p1.zA.zK),.d (.lst 3 (List.map Qb p1.zA.zL)),(l_ p1.zC),(l_ p1.zB),(l_ p1.zD),(i_ p1.Tick)]),(1,(l_ xset2))] rfl ?_
 unfold Qbj at h
 unfold Qgm
 refine sr ((Rn.box (v:=.agg [(l_ p1.zA.zJ),(i_ p1.zA.zM),(l_ p1.zA.zK),.d (.lst 3 (List.map Qb p1.zA.zL)),(l_ p1.zC),(l_ p1.zB),(l_ p1.zD),(i_ p1.Tick)]) (cs:=[(l_ p1.zA.zJ),(i_ p1.zA.zM),(l_ p1.zA.zK),.d (.lst 3 (List.map Qb p1.zA.zL)),(l_ p1.zC),(l_ p1.zB),(l_ p1.zD),(i_ p1.Tick)]) tv rfl rfl rfl rfl rfl (md rfl (md rfl (nt ((Tr.seq (sr ((Rn.load (v:=.agg [(l_ p1.zA.zJ),(i_ p1.zA.zM),(l_ p1.zA.zK),.d (.lst 3 (List.map Qb p1.zA.zL)),(l_ p1.zC),(l_ p1.zB),(l_ p1.zD),(i_ p1.Tick)]) tv rfl (Qi rfl) rfl rfl ?_))))))))))
 obtain ⟨x4,h3,h⟩:=bnd h
 refine Rn.call (args:=[.agg [(l_ p1.zA.zJ),(i_ p1.zA.zM),(l_ p1.zA.zK),.d (.lst 3 (List.map Qb p1.zA.zL)),(l_ p1.zC),(l_ p1.zB),(l_ p1.zD),(i_ p1.Tick)]]) tv rfl (H_timedsynthesis_Check _ _ h3) pc9 (md rfl (nt ((sr ((md rfl (Rn.bin tv rfl rfl rfl (Rn.nil (toN ?_)))))))))
 refine Tr.cond rfl (fun hb5=>?_) (fun hb5=>?_)
 ·replace h:=bT hb5 h
  refine sr ((md rfl (md rfl (md rfl (nt ((Tr.ret ?_)))))))
  replace h:=si h; subst h
  exact ⟨.inr rfl,.tup [(b_ false),(i_ x4)],res2 rfl rfl,(WkV.tup (.cons (.same rfl) (.cons (.same rfl) .nil))).rd,⟨tv,tv,tv⟩,fun k hk=>Qf hk⟩
 ·replace h:=bF hb5 h
  refine Tr.skip (toN (Tr.seq (sr ((md rfl (Rn.fldP (o':=0) tv rfl rfl (Rn.fldP (o':=1) tv rfl rfl (Rn.load (v:=(i_ p1.zA.zM)) tv rfl (Qi rfl) rfl rfl ?_))))))))
  obtain ⟨x7,h6,h⟩:=bnd h
  refine Rn.call (args:=[(l_ xset2),(i_ p1.zA.zM)]) tv rfl (H_alphabet_CheckSet _ _ _ h6) pc9 (md rfl (nt ((sr ((md rfl (Rn.bin tv rfl rfl rfl (Rn.nil (toN ?_)))))))))
  refine Tr.cond rfl (fun hb8=>?_) (fun hb8=>?_)
  ·replace h:=bT hb8 h
   refine sr ((md rfl (md rfl (md rfl (nt ((Tr.ret ?_)))))))
   replace h:=si h; subst h
   exact ⟨.inr rfl,.tup [(b_ false),(i_ x7)],res2 rfl rfl,(WkV.tup (.cons (.same rfl) (.cons (.same rfl) .nil))).rd,⟨tv,tv,tv⟩,fun k hk=>Qf hk⟩
  ·replace h:=bF hb8 h
   refine Tr.skip (toN (sr ((Rn.load (v:=.agg [(l_ p1.zA.zJ),(i_ p1.zA.zM),(l_ p1.zA.zK),.d (.lst 3 (List.map Qb p1.zA.zL)),(l_ p1.zC),(l_ p1.zB),(l_ p1.zD),(i_ p1.Tick)]) tv rfl (Qi rfl) rfl rfl ?_))))
   obtain ⟨x9,h10,h⟩:=bnd h
   refine Rn.callNew (m:=50) (args:=[.agg [(l_ p1.zA.zJ),(i_ p1.zA.zM),(l_ p1.zA.zK),.d (.lst 3 (List.map Qb p1.zA.zL)),(l_ p1.zC),(l_ p1.zB),(l_ p1.zD),(i_ p1.Tick)]]) (r':=.ptr (Γ.n0 + 67) 0) (L':=[(67,.cells [(l_ x9.zN.zA.zJ),(i_ x9.zN.zA.zM),(l_ x9.zN.zA.zK),.d (.lst 3 (List.map Qb x9.zN.zA.zL)),(l_ x9.zN.zC),(l_ x9.zN.zB),(l_ x9.zN.zD),(i_ x9.zN.Tick),.sl 1 (Γ.n0 + 61) 0 x9.from_.length x9.from_.length,.sl 1 (Γ.n0 + 65) 0 x9.left_.length x9.left_.length]),(61,.cells (Qz (fun (x:List Qe)=>[V.d (.lst 3 (List.map Qb x))]) x9.from_)),(65,.cells (Qz (fun (x:Bool)=>[V.d (.bool x)]) x9.left_))]) tv rfl (H_timedsynthesis_begin _ _ h10 _ _) rfl rfl rfl hM rfl (Rn.alloc tv rfl (Rn.store (v:=.ptr (Γ.n0 + 67) 0) (cs':=[.ptr (Γ.n0 + 67) 0]) tv rfl rfl rfl rfl rfl rfl (Rn.nil (toN ?_))))
   refine Tr.cutB (fun (c21:List Bool)=>⟨look [(1,(l_ xset2)),(2,.ptr (Γ.n0 + 2) 0),(8,.ptr (Γ.n0 + 8) 0)],Qr Γ.n0 (bxs [(2,.cells ([(l_ p1.zA.zJ),(i_ p1.zA.zM),(l_ p1.zA.zK),.d (.lst 3 (List.map Qb p1.zA.zL)),(l_ p1.zC),(l_ p1.zB),(l_ p1.zD),(i_ p1.Tick)])),(8,.cells ([.ptr (Γ.n0 + 67) 0])),(61,.cells (Qz (fun (x:List Qe)=>[V.d (.lst 3 (List.map Qb x))]) x9.from_)),(65,.cells (Qz (fun (x:Bool)=>[V.d (.bool x)]) c21)),(67,.cells ([(l_ x9.zN.zA.zJ),(i_ x9.zN.zA.zM),(l_ x9.zN.zA.zK),.d (.lst 3 (List.map Qb x9.zN.zA.zL)),(l_ x9.zN.zC),(l_ x9.zN.zB),(l_ x9.zN.zD),(i_ x9.zN.Tick),.sl 1 (Γ.n0 + 61) 0 x9.from_.length x9.from_.length,.sl 1 (Γ.n0 + 65) 0 x9.left_.length x9.left_.length]))]) M,Γ.n0 + 116⟩) h (fun z h=>?_) (fun z h=>?_)
   ·refine sr ((Rn.load (v:=.ptr (Γ.n0 + 67) 0) tv rfl (Qi rfl) rfl rfl (Rn.nilchkP tv rfl (Rn.fldP (o':=9) tv rfl rfl (Rn.load (v:=.sl 1 (Γ.n0 + 65) 0 x9.left_.length x9.left_.length) tv rfl (Qi rfl) rfl rfl (Rn.lenA tv rfl (md rfl (nt ((Tr.block ?_))))))))))
    refine Tr.loop (mk:=fun ((x11,c12):Int×(List Bool))=>⟨look [(1,(l_ xset2)),(2,.ptr (Γ.n0 + 2) 0),(8,.ptr (Γ.n0 + 8) 0),(30,(i_ (x9.left_.length:Int))),(31,(i_ x11))],Qr Γ.n0 (bxs [(2,.cells ([(l_ p1.zA.zJ),(i_ p1.zA.zM),(l_ p1.zA.zK),.d (.lst 3 (List.map Qb p1.zA.zL)),(l_ p1.zC),(l_ p1.zB),(l_ p1.zD),(i_ p1.Tick)])),(8,.cells ([.ptr (Γ.n0 + 67) 0])),(61,.cells (Qz (fun (x:List Qe)=>[V.d (.lst 3 (List.map Qb x))]) x9.from_)),(65,.cells (Qz (fun (x:Bool)=>[V.d (.bool x)]) c12)),(67,.cells ([(l_ x9.zN.zA.zJ),(i_ x9.zN.zA.zM),(l_ x9.zN.zA.zK),.d (.lst 3 (List.map Qb x9.zN.zA.zL)),(l_ x9.zN.zC),(l_ x9.zN.zB),(l_ x9.zN.zD),(i_ x9.zN.Tick),.sl 1 (Γ.n0 + 61) 0 x9.from_.length x9.from_.length,.sl 1 (Γ.n0 + 65) 0 x9.left_.length x9.left_.length]))]) M,Γ.n0 + 116⟩) h (by exact Qx ⟨(sm rfl),(kPtr rfl),(kPtr rfl),(sm rfl),(sm rfl),tv⟩ ⟨⟨_,rfl,rfl,(.same rfl)⟩,⟨_,rfl,rfl,(.cons (kPtr rfl) .nil)⟩,⟨_,rfl,rfl,(Qu fun _=>rfl)⟩,⟨_,rfl,rfl,(Qu fun _=>rfl)⟩,⟨_,rfl,rfl,(.cons (sm rfl) (.cons (sm rfl) (.cons (sm rfl) (.cons (sm rfl) (.cons (sm rfl) (.cons (sm rfl) (.cons (sm rfl) (.cons (sm rfl) (.cons (kSl rfl) (.cons (kSl rfl) .nil))))))))))⟩,tv⟩ rfl) (fun k13 z h=>?_)
    ·obtain ⟨x11,c12⟩:=z
     replace h:_ = some _:=h
     refine sr ((Rn.bin tv rfl rfl rfl (nt ((Tr.seq ?_)))))
     refine Tr.cond rfl (fun hb14=>?_) (fun hb14=>?_)
     ·replace h:=ifT hb14 h
      refine Tr.skip (toN (Tr.seq (Tr.block (sr ((md rfl (md rfl (Rn.nil (toN ?_)))))))))
      refine Tr.rgnD (by decide) ?_
      refine Rn.load (v:=.ptr (Γ.n0 + 67) 0) tv rfl (Qi rfl) rfl rfl (Rn.nilchkP tv rfl (Rn.fldP (o':=9) tv rfl rfl (Rn.load (v:=.sl 1 (Γ.n0 + 65) 0 x9.left_.length x9.left_.length) tv rfl (Qi rfl) rfl rfl (md rfl (md rfl (md rfl ?_))))))
      obtain ⟨x16,h15,h⟩:=bnd h
      refine Rn.call (args:=[(l_ xset2),(i_ x11)]) tv rfl (H_alphabet_Contains _ _ _ h15) (fun _=>Qbd0 hM rfl) ?_
      obtain ⟨⟨⟩,h18,h⟩:=bnd h
      refine Rn.idxA tv rfl rfl h18 ?_
      obtain ⟨x19,h20,h⟩:=bnd h
      refine Rn.storeA (g:=(fun (x:Bool)=>[V.d (.bool x)])) (v:=(b_ x16)) (fun _=>rfl) tv rfl rfl rfl rfl rfl h20 ?_
      refine Rn.nil ⟨rfl,?_⟩
      refine toN (Tr.rgn (Rn.bin tv rfl rfl rfl (md rfl (Rn.nil ?_))))
      exact ⟨_,h,(by exact Qx ⟨(sm rfl),(kPtr rfl),(kPtr rfl),(sm rfl),(sm rfl),tv⟩ ⟨⟨_,rfl,rfl,(.same rfl)⟩,⟨_,rfl,rfl,(.cons (kPtr rfl) .nil)⟩,⟨_,rfl,rfl,(Qu fun _=>rfl)⟩,⟨_,rfl,rfl,(Qu fun _=>rfl)⟩,⟨_,rfl,rfl,(.cons (sm rfl) (.cons (sm rfl) (.cons (sm rfl) (.cons (sm rfl) (.cons (sm rfl) (.cons (sm rfl) (.cons (sm rfl) (.cons (sm rfl) (.cons (kSl rfl) (.cons (kSl rfl) .nil))))))))))⟩,tv⟩ rfl)⟩
     ·replace h:=ifF hb14 h
      refine Tr.exit ?_
      replace h:=si h; subst h
      exact Qn [] ⟨(sm rfl),(kPtr rfl),(kPtr rfl),tv⟩ ⟨⟨_,rfl,rfl,(.same rfl)⟩,⟨_,rfl,rfl,(.cons (kPtr rfl) .nil)⟩,⟨_,rfl,rfl,(Qu fun _=>rfl)⟩,⟨_,rfl,rfl,(Qu fun _=>rfl)⟩,⟨_,rfl,rfl,(.cons (sm rfl) (.cons (sm rfl) (.cons (sm rfl) (.cons (sm rfl) (.cons (sm rfl) (.cons (sm rfl) (.cons (sm rfl) (.cons (sm rfl) (.cons (kSl rfl) (.cons (kSl rfl) .nil))))))))))⟩,tv⟩ rfl
   ·obtain ⟨c21,rfl⟩ : ∃ x,x = z:=⟨_,rfl⟩
    refine sr ((Rn.load (v:=.ptr (Γ.n0 + 67) 0) tv rfl (Qi rfl) rfl rfl ?_))
    obtain ⟨⟨⟩,hl22,h⟩:=bnd h
    obtain ⟨x24,h23,h⟩:=bnd h
    refine Rn.callM (args:=[.ptr (Γ.n0 + 67) 0]) tv rfl (fun M2 nb2 hn hx=>H_timedsynthesis_task_distances _ (Γ.n0 + 67) (Γ.n0 + 61) (Γ.n0 + 65) _ h23 M2 nb2 (by rw [Qd4 hl22]; exact (hx _ _ (Qi rfl))) (hx _ _ (Qi rfl)) (hx _ _ (Qi rfl))) rfl pc9 ?_
    refine Rn.alloc tv rfl (Rn.storeD (cs':=[(l_ x24)]) tv rfl rfl rfl rfl rfl (nt ((sr ((md rfl (Rn.k (v:=.clo 52 [.ptr (Γ.n0 + 8) 0,.ptr (Γ.n0 + 10) 0,.ptr (Γ.n0 + 2) 0]) tv rfl rfl rfl ?_)))))))
    obtain ⟨⟨⟩,hl28,h⟩:=bnd h
    obtain ⟨x30,h29,h⟩:=bnd h
    refine Rn.callM (args:=[(l_ xset2),.clo 52 [.ptr (Γ.n0 + 8) 0,.ptr (Γ.n0 + 10) 0,.ptr (Γ.n0 + 2) 0]]) tv rfl (fun M2 nb2 hn hx=>H_slices_ContainsFunc_int _ _ 52 [.ptr (Γ.n0 + 8) 0,.ptr (Γ.n0 + 10) 0,.ptr (Γ.n0 + 2) 0] _ h29 M2 nb2 rfl ⟨Qfq (hx _ _ (Qi rfl)),Qfq (hx _ _ (Qi rfl)),Qfq (hx _ _ (Qi rfl)),tv⟩ (fun a25 r26 h27 M3 nb3 hn3 hx3=>H_timedsynthesis_Conforms_1 a25 (Qd.mk x9.zN x9.from_ c21) x24 p1 (Γ.n0 + 8) (Γ.n0 + 67) (Γ.n0 + 61) (Γ.n0 + 65) (Γ.n0 + 10) (Γ.n0 + 2) r26 h27 M3 nb3 ((hx.trans hx3) _ _ (Qi rfl)) (by rw [Qd4 hl28]; exact ((hx.trans hx3) _ _ (Qi rfl))) ((hx.trans hx3) _ _ (Qi rfl)) ((hx.trans hx3) _ _ (Qi rfl)) ((hx.trans hx3) _ _ (Qi rfl)) ((hx.trans hx3) _ _ (Qi rfl)))) rfl pc9 ?_
    refine Rn.un tv rfl rfl (md rfl (md rfl (nt ((Tr.ret ?_)))))
    replace h:=si h; subst h
    exact ⟨.inr rfl,.tup [(b_ (!x30)),(i_ 0)],res2 rfl rfl,(WkV.tup (.cons (.same rfl) (.cons (.same rfl) .nil))).rd,⟨tv,tv,tv⟩,fun k hk=>Qf hk⟩
theorem Qxu {P:Program} {c:Nat} (hcf:Q1 P c = some Qij) (fuel:Nat):Qii P c (Qcn fuel):=by
 intro t1 c8 k2 k4 k6 r h
 intro M nb hk3 hk5 hk7 hne9 hne10
 refine Qbjq hcf rfl M _ nb (fun hM=>Qbgn hM ⟨(ltB hM hk7),tv⟩) fun Γ hP hnt hn0 hM=>?_
 subst hP hn0
 refine Tr.init [(0,.ptr k2 0),(1,(Q7 c8))] rfl ?_
 refine Tr.puts [(k6,.cells (Qz (fun (x:Bool)=>[V.d (.bool x)]) t1.left_))] ⟨hk7,tv⟩ ?_
 unfold Qcn at h
 unfold Qij
 refine sr ((Rn.box (v:=(Q7 c8)) (cs:=(Qby c8)) tv rfl rfl rfl rfl rfl (Rn.mov (v:=.nilp) tv rfl (md rfl (nt ((sr ((Rn.mov (v:=.ptr k2 0) tv rfl (Rn.nilchkP tv rfl (Rn.fldP (o':=9) tv rfl rfl (Rn.load (v:=.sl 1 k6 0 t1.left_.length t1.left_.length) tv rfl (Qban (ltB hM hk3) (pgS hne9.symm hk3)) rfl rfl (Rn.lenA tv rfl (md rfl (nt ((Tr.seq ?_)))))))))))))))))
 refine Tr.cutB (fun (x12:Bool)=>⟨look [(0,.ptr k2 0),(3,.ptr (Γ.n0 + 3) 0),(6,(i_ (t1.left_.length:Int))),(35,(b_ x12))],Qr Γ.n0 (bxs [(3,.cells ((Qby c8)))]) (Mem.puts M [(k6,.cells (Qz (fun (x:Bool)=>[V.d (.bool x)]) t1.left_))]),Γ.n0 + 169⟩) h (fun z h=>?_) (fun z h=>?_)
 ·refine Tr.rgn (Rn.fldP (o':=0) tv rfl rfl (Rn.load (v:=(l_ c8.Kept)) tv rfl (Qi rfl) rfl rfl (Rn.lenD tv rfl (Rn.fldP (o':=2) tv rfl rfl (Rn.load (v:=.d (.lst 4 (List.map Qg c8.zG))) tv rfl (Qi rfl) rfl rfl (Rn.lenD tv rfl (Rn.bin tv rfl rfl rfl (md rfl (Rn.bin tv rfl rfl rfl (md rfl ?_))))))))))
  refine Q8 ((IntKind.wrap .i64 ((c8.Kept.length:Int) + (c8.zG.length:Int))) != (t1.left_.length:Int)) (fun hb11=>?_) (fun hb11=>?_)
  ·replace h:=bT hb11 h
   refine Rn.sk (nw rfl hb11) (Rn.sk (nw rfl hb11) (Rn.sk (nw rfl hb11) (Rn.sk (nw rfl hb11) (Rn.sk (nw rfl hb11) (Rn.sk (nw rfl hb11) (Rn.sk (nw rfl hb11) (Rn.pickT (v:=(b_ true)) tv rfl hb11 rfl (Rn.nil ?_))))))))
   replace h:=si h; subst h
   exact Qn [] ⟨(Qcg (ltB hM hk3)),(kPtr rfl),(sm rfl),(sm rfl),tv⟩ ⟨⟨_,rfl,rfl,(.same rfl)⟩,tv⟩ rfl
  ·replace h:=bF hb11 h
   refine Rn.fldP (o':=1) (gw rfl hb11) rfl rfl (Rn.load (v:=(l_ c8.zF)) (gw rfl hb11) rfl (Qi rfl) rfl rfl (Rn.lenD (gw rfl hb11) rfl (Rn.fldP (o':=0) (gw rfl hb11) rfl rfl (Rn.load (v:=(l_ c8.Kept)) (gw rfl hb11) rfl (Qi rfl) rfl rfl (Rn.lenD (gw rfl hb11) rfl (Rn.bin (gw rfl hb11) rfl rfl rfl (Rn.pickF (v:=(b_ ((c8.zF.length:Int) != (c8.Kept.length:Int)))) tv rfl hb11 rfl (Rn.nil ?_))))))))
   replace h:=si h; subst h
   exact Qn [] ⟨(Qcg (ltB hM hk3)),(kPtr rfl),(sm rfl),(sm rfl),tv⟩ ⟨⟨_,rfl,rfl,(.same rfl)⟩,tv⟩ rfl
 ·obtain ⟨x12,rfl⟩ : ∃ x,x = z:=⟨_,rfl⟩
  refine Tr.cond rfl (fun hb13=>?_) (fun hb13=>?_)
  ·replace h:=bT hb13 h
   refine sr ((Rn.mov (v:=.nilp) tv rfl (md rfl (nt ((Tr.ret ?_))))))
   replace h:=si h; subst h
   exact ⟨.inr rfl,.tup [.nilp,(b_ false)],res2 rfl rfl,(WkV.tup (.cons (.same rfl) (.cons (.same rfl) .nil))).rd,⟨tv,tv,tv⟩,tv,fun k hk=>Qf hk,fun _ _ h=>(by cases h),rfl⟩
  ·replace h:=bF hb13 h
   refine Tr.skip (toN (Tr.seq ?_))
   refine Tr.rgnD (by decide) ?_
   refine Rn.mov (v:=.ptr k2 0) tv rfl (md rfl ?_)
   obtain ⟨x14,h15,h⟩:=bnd h
   refine Rn.makes (g:=(fun (x:Int)=>[V.d (.int .i64 x)])) tv rfl rfl rfl rfl rfl h15 (md rfl ?_)
   obtain ⟨x16,h17,h⟩:=bnd h
   refine Rn.makes (g:=(fun (x:Int)=>[V.d (.int .i64 x)])) tv rfl rfl rfl rfl rfl h17 (md rfl ?_)
   obtain ⟨x18,h19,h⟩:=bnd h
   refine Rn.makes (g:=(fun (x:Int)=>[V.d (.int .i64 x)])) tv rfl rfl rfl rfl rfl h19 (Rn.buildT (v:=.agg [.ptr k2 0,.sl 1 (Γ.n0 + 38) 0 (Int.toNat (t1.left_.length:Int)) (Int.toNat (t1.left_.length:Int)),.sl 1 (Γ.n0 + 40) 0 (Int.toNat (t1.left_.length:Int)) (Int.toNat (t1.left_.length:Int)),.sl 1 (Γ.n0 + 42) 0 (Int.toNat (t1.left_.length:Int)) (Int.toNat (t1.left_.length:Int))]) tv rfl (Rn.box (v:=.agg [.ptr k2 0,.sl 1 (Γ.n0 + 38) 0 (Int.toNat (t1.left_.length:Int)) (Int.toNat (t1.left_.length:Int)),.sl 1 (Γ.n0 + 40) 0 (Int.toNat (t1.left_.length:Int)) (Int.toNat (t1.left_.length:Int)),.sl 1 (Γ.n0 + 42) 0 (Int.toNat (t1.left_.length:Int)) (Int.toNat (t1.left_.length:Int))]) (cs:=[.ptr k2 0,.sl 1 (Γ.n0 + 38) 0 (Int.toNat (t1.left_.length:Int)) (Int.toNat (t1.left_.length:Int)),.sl 1 (Γ.n0 + 40) 0 (Int.toNat (t1.left_.length:Int)) (Int.toNat (t1.left_.length:Int)),.sl 1 (Γ.n0 + 42) 0 (Int.toNat (t1.left_.length:Int)) (Int.toNat (t1.left_.length:Int))]) tv rfl rfl rfl rfl rfl (Rn.mov (v:=.ptr (Γ.n0 + 44) 0) tv rfl ?_)))
   refine Rn.nil ⟨rfl,?_⟩
   refine toN (sr ((md rfl ?_)))
   obtain ⟨x20,h21,h⟩:=bnd h
   refine Rn.makes (g:=(fun (x:Bool)=>[V.d (.bool x)])) tv rfl rfl rfl rfl rfl h21 (Rn.movTF (v:=.sl 1 (Γ.n0 + 46) 0 (Int.toNat (t1.left_.length:Int)) (Int.toNat (t1.left_.length:Int))) tv rfl rfl (nt ((Tr.seq (sr ((Rn.fldP (o':=0) tv rfl rfl (Rn.load (v:=(l_ c8.Kept)) tv rfl (Qi rfl) rfl rfl (Rn.lenD tv rfl (md rfl (nt ((Tr.block ?_)))))))))))))
   refine Tr.loop (mk:=fun ((x22,c23,c24,c25):Int×(List Int)×(List Bool)×(List Bool))=>⟨look [(0,.ptr k2 0),(3,.ptr (Γ.n0 + 3) 0),(6,(i_ (t1.left_.length:Int))),(7,.ptr (Γ.n0 + 44) 0),(8,.sl 1 (Γ.n0 + 46) 0 (Int.toNat (t1.left_.length:Int)) (Int.toNat (t1.left_.length:Int))),(48,(l_ c8.Kept)),(49,(i_ (c8.Kept.length:Int))),(50,(i_ x22))],Qr Γ.n0 (bxs [(3,.cells ((Qby c8))),(38,.cells (Qz (fun (x:Int)=>[V.d (.int .i64 x)]) x14)),(40,.cells (Qz (fun (x:Int)=>[V.d (.int .i64 x)]) c23)),(42,.cells (Qz (fun (x:Int)=>[V.d (.int .i64 x)]) x18)),(44,.cells ([.ptr k2 0,.sl 1 (Γ.n0 + 38) 0 (Int.toNat (t1.left_.length:Int)) (Int.toNat (t1.left_.length:Int)),.sl 1 (Γ.n0 + 40) 0 (Int.toNat (t1.left_.length:Int)) (Int.toNat (t1.left_.length:Int)),.sl 1 (Γ.n0 + 42) 0 (Int.toNat (t1.left_.length:Int)) (Int.toNat (t1.left_.length:Int))])),(46,.cells (Qz (fun (x:Bool)=>[V.d (.bool x)]) c24))]) (Mem.puts M [(k6,.cells (Qz (fun (x:Bool)=>[V.d (.bool x)]) c25))]),Γ.n0 + 169⟩) h (by exact Qx ⟨(Qcg (ltB hM hk3)),(kPtr rfl),(sm rfl),(kPtr rfl),(kSl rfl),(sm rfl),(sm rfl),(sm rfl),tv⟩ ⟨⟨_,rfl,rfl,(.same rfl)⟩,⟨_,rfl,rfl,(Qu fun _=>rfl)⟩,⟨_,rfl,rfl,(Qu fun _=>rfl)⟩,⟨_,rfl,rfl,(Qu fun _=>rfl)⟩,⟨_,rfl,rfl,(.cons (Qcg (ltB hM hk3)) (.cons (kSl rfl) (.cons (kSl rfl) (.cons (kSl rfl) .nil))))⟩,⟨_,rfl,rfl,(Qu fun _=>rfl)⟩,tv⟩ rfl) (fun k26 z h=>?_)
   ·obtain ⟨x22,c23,c24,c25⟩:=z
    replace h:_ = some _:=h
    refine sr ((Rn.bin tv rfl rfl rfl (nt ((Tr.seq ?_)))))
    refine Tr.cond rfl (fun hb27=>?_) (fun hb27=>?_)
    ·replace h:=ifT hb27 h
     refine Tr.skip (toN (Tr.seq (Tr.block (sr ((md rfl ?_))))))
     obtain ⟨x28,h29,h⟩:=bnd h
     refine Rn.idxD (e:=(eI .i64)) tv rfl rfl h29 (Rn.loadC (x:=.int .i64 x28) tv rfl (md rfl (md rfl (nt ((Tr.seq ?_))))))
     refine Tr.cutB (fun (x35:Bool)=>⟨look [(0,.ptr k2 0),(3,.ptr (Γ.n0 + 3) 0),(6,(i_ (t1.left_.length:Int))),(7,.ptr (Γ.n0 + 44) 0),(8,.sl 1 (Γ.n0 + 46) 0 (Int.toNat (t1.left_.length:Int)) (Int.toNat (t1.left_.length:Int))),(9,(i_ x22)),(10,(i_ x28)),(48,(l_ c8.Kept)),(49,(i_ (c8.Kept.length:Int))),(50,(i_ x22)),(75,(b_ x35))],Qr Γ.n0 (bxs [(3,.cells ((Qby c8))),(38,.cells (Qz (fun (x:Int)=>[V.d (.int .i64 x)]) x14)),(40,.cells (Qz (fun (x:Int)=>[V.d (.int .i64 x)]) c23)),(42,.cells (Qz (fun (x:Int)=>[V.d (.int .i64 x)]) x18)),(44,.cells ([.ptr k2 0,.sl 1 (Γ.n0 + 38) 0 (Int.toNat (t1.left_.length:Int)) (Int.toNat (t1.left_.length:Int)),.sl 1 (Γ.n0 + 40) 0 (Int.toNat (t1.left_.length:Int)) (Int.toNat (t1.left_.length:Int)),.sl 1 (Γ.n0 + 42) 0 (Int.toNat (t1.left_.length:Int)) (Int.toNat (t1.left_.length:Int))])),(46,.cells (Qz (fun (x:Bool)=>[V.d (.bool x)]) c24))]) (Mem.puts M [(k6,.cells (Qz (fun (x:Bool)=>[V.d (.bool x)]) c25))]),Γ.n0 + 169⟩) h (fun z h=>?_) (fun z h=>?_)
     ·refine Tr.rgn (md rfl (Rn.bin tv rfl rfl rfl (md rfl ?_)))
      refine Q8 (decide (x28 < 0)) (fun hb30=>?_) (fun hb30=>?_)
      ·replace h:=ifT hb30 h
       refine Rn.sk (nw rfl hb30) (Rn.sk (nw rfl hb30) (Rn.sk (nw rfl hb30) (Rn.pickT (v:=(b_ true)) tv rfl hb30 rfl (md rfl (Rn.sk (nw (b:=true) rfl rfl) (Rn.sk (nw (b:=true) rfl rfl) (Rn.sk (nw (b:=true) rfl rfl) (Rn.sk (nu rfl) (Rn.sk (nu rfl) (Rn.sk (nu rfl) (Rn.sk (nu rfl) (Rn.sk (nu rfl) (Rn.sk (nu rfl) (Rn.sk (nu rfl) (Rn.sk (nu rfl) (Rn.sk (nw (b:=true) rfl rfl) (Rn.pickT (v:=(b_ true)) tv rfl rfl rfl (Rn.nil ?_))))))))))))))))))
       replace h:=si h; subst h
       exact Qn [] ⟨(Qcg (ltB hM hk3)),(kPtr rfl),(sm rfl),(kPtr rfl),(kSl rfl),(sm rfl),(sm rfl),(sm rfl),(sm rfl),(sm rfl),(sm rfl),tv⟩ ⟨⟨_,rfl,rfl,(.same rfl)⟩,⟨_,rfl,rfl,(Qu fun _=>rfl)⟩,⟨_,rfl,rfl,(Qu fun _=>rfl)⟩,⟨_,rfl,rfl,(Qu fun _=>rfl)⟩,⟨_,rfl,rfl,(.cons (Qcg (ltB hM hk3)) (.cons (kSl rfl) (.cons (kSl rfl) (.cons (kSl rfl) .nil))))⟩,⟨_,rfl,rfl,(Qu fun _=>rfl)⟩,tv⟩ rfl
      ·replace h:=ifF hb30 h
       refine Rn.movD (gw rfl hb30) rfl (Rn.movD (gw rfl hb30) rfl (Rn.bin (gw rfl hb30) rfl rfl rfl (Rn.pickF (v:=(b_ (decide (x28≥(t1.left_.length:Int))))) tv rfl hb30 rfl (md rfl ?_))))
       refine Q8 (decide (x28≥(t1.left_.length:Int))) (fun hb31=>?_) (fun hb31=>?_)
       ·replace h:=ifT hb31 h
        refine Rn.sk (nw rfl hb31) (Rn.sk (nw rfl hb31) (Rn.sk (nw rfl hb31) (Rn.sk (nu rfl) (Rn.sk (nu rfl) (Rn.sk (nu rfl) (Rn.sk (nu rfl) (Rn.sk (nu rfl) (Rn.sk (nu rfl) (Rn.sk (nu rfl) (Rn.sk (nu rfl) (Rn.sk (nw rfl hb31) (Rn.pickT (v:=(b_ true)) tv rfl hb31 rfl (Rn.nil ?_)))))))))))))
        replace h:=si h; subst h
        exact Qn [] ⟨(Qcg (ltB hM hk3)),(kPtr rfl),(sm rfl),(kPtr rfl),(kSl rfl),(sm rfl),(sm rfl),(sm rfl),(sm rfl),(sm rfl),(sm rfl),tv⟩ ⟨⟨_,rfl,rfl,(.same rfl)⟩,⟨_,rfl,rfl,(Qu fun _=>rfl)⟩,⟨_,rfl,rfl,(Qu fun _=>rfl)⟩,⟨_,rfl,rfl,(Qu fun _=>rfl)⟩,⟨_,rfl,rfl,(.cons (Qcg (ltB hM hk3)) (.cons (kSl rfl) (.cons (kSl rfl) (.cons (kSl rfl) .nil))))⟩,⟨_,rfl,rfl,(Qu fun _=>rfl)⟩,tv⟩ rfl
       ·replace h:=ifF hb31 h
        refine Rn.movD (gw rfl hb31) rfl (Rn.bin (gw rfl hb31) rfl rfl rfl (Rn.movD (gw rfl hb31) rfl ?_))
        refine Q8 (decide (x22 > 0)) (fun hb32=>?_) (fun hb32=>?_)
        ·replace h:=ifT hb32 h
         refine Rn.movD (gw rfl hb32) rfl (Rn.fldP (o':=0) (gw rfl hb32) rfl rfl (Rn.load (v:=(l_ c8.Kept)) (gw rfl hb32) rfl (Qi rfl) rfl rfl (Rn.movD (gw rfl hb32) rfl (Rn.bin (gw rfl hb32) rfl rfl rfl ?_))))
         obtain ⟨x33,h34,h⟩:=bnd h
         refine Rn.idxD (e:=(eI .i64)) (gw rfl hb32) rfl rfl h34 (Rn.loadC (x:=.int .i64 x33) (gw rfl hb32) rfl (Rn.bin (gw rfl hb32) rfl rfl rfl (Rn.pickT (v:=(b_ (decide (x28≤x33)))) (gw rfl hb31) rfl hb32 rfl (Rn.pickF (v:=(b_ (decide (x28≤x33)))) tv rfl hb31 rfl (Rn.nil ?_)))))
         replace h:=si h; subst h
         exact Qn [] ⟨(Qcg (ltB hM hk3)),(kPtr rfl),(sm rfl),(kPtr rfl),(kSl rfl),(sm rfl),(sm rfl),(sm rfl),(sm rfl),(sm rfl),(sm rfl),tv⟩ ⟨⟨_,rfl,rfl,(.same rfl)⟩,⟨_,rfl,rfl,(Qu fun _=>rfl)⟩,⟨_,rfl,rfl,(Qu fun _=>rfl)⟩,⟨_,rfl,rfl,(Qu fun _=>rfl)⟩,⟨_,rfl,rfl,(.cons (Qcg (ltB hM hk3)) (.cons (kSl rfl) (.cons (kSl rfl) (.cons (kSl rfl) .nil))))⟩,⟨_,rfl,rfl,(Qu fun _=>rfl)⟩,tv⟩ rfl
        ·replace h:=ifF hb32 h
         refine Rn.sk (nw rfl hb32) (Rn.sk (nw rfl hb32) (Rn.sk (nw rfl hb32) (Rn.sk (nw rfl hb32) (Rn.sk (nw rfl hb32) (Rn.sk (nw rfl hb32) (Rn.sk (nw rfl hb32) (Rn.sk (nw rfl hb32) (Rn.pickF (v:=(b_ false)) (gw rfl hb31) rfl hb32 rfl (Rn.pickF (v:=(b_ false)) tv rfl hb31 rfl (Rn.nil ?_))))))))))
         replace h:=si h; subst h
         exact Qn [] ⟨(Qcg (ltB hM hk3)),(kPtr rfl),(sm rfl),(kPtr rfl),(kSl rfl),(sm rfl),(sm rfl),(sm rfl),(sm rfl),(sm rfl),(sm rfl),tv⟩ ⟨⟨_,rfl,rfl,(.same rfl)⟩,⟨_,rfl,rfl,(Qu fun _=>rfl)⟩,⟨_,rfl,rfl,(Qu fun _=>rfl)⟩,⟨_,rfl,rfl,(Qu fun _=>rfl)⟩,⟨_,rfl,rfl,(.cons (Qcg (ltB hM hk3)) (.cons (kSl rfl) (.cons (kSl rfl) (.cons (kSl rfl) .nil))))⟩,⟨_,rfl,rfl,(Qu fun _=>rfl)⟩,tv⟩ rfl
     ·obtain ⟨x35,rfl⟩ : ∃ x,x = z:=⟨_,rfl⟩
      refine Tr.cond rfl (fun hb36=>?_) (fun hb36=>?_)
      ·replace h:=bT hb36 h
       refine sr ((Rn.mov (v:=.nilp) tv rfl (md rfl (nt ((Tr.ret ?_))))))
       replace h:=si h; subst h
       exact ⟨.inr rfl,.tup [.nilp,(b_ false)],res2 rfl rfl,(WkV.tup (.cons (.same rfl) (.cons (.same rfl) .nil))).rd,⟨tv,tv,tv⟩,tv,fun k hk=>Qf hk,fun _ _ h=>(by cases h),rfl⟩
      ·replace h:=bF hb36 h
       refine Tr.skip (toN ?_)
       refine Tr.rgnD (by decide) ?_
       refine Rn.mov (v:=.sl 1 (Γ.n0 + 46) 0 (Int.toNat (t1.left_.length:Int)) (Int.toNat (t1.left_.length:Int))) tv rfl (md rfl (Rn.mov (v:=.ptr k2 0) tv rfl (Rn.nilchkP tv rfl (Rn.fldP (o':=9) tv rfl rfl (Rn.load (v:=.sl 1 k6 0 t1.left_.length t1.left_.length) tv rfl (Qban (ltB hM hk3) (pgS hne9.symm hk3)) rfl rfl (md rfl (Rn.mov (v:=.ptr (Γ.n0 + 44) 0) tv rfl (Rn.nilchkP tv rfl (Rn.fldP (o':=2) tv rfl rfl (Rn.load (v:=.sl 1 (Γ.n0 + 40) 0 (Int.toNat (t1.left_.length:Int)) (Int.toNat (t1.left_.length:Int))) tv rfl (Qi rfl) rfl rfl (md rfl (Rn.fldP (o':=1) tv rfl rfl (Rn.load (v:=(l_ c8.zF)) tv rfl (Qi rfl) rfl rfl (md rfl ?_))))))))))))))
       obtain ⟨x37,h38,h⟩:=bnd h
       refine Rn.idxD (e:=(eI .i64)) tv rfl rfl h38 (Rn.loadC (x:=.int .i64 x37) tv rfl ?_)
       obtain ⟨⟨⟩,h40,h⟩:=bnd h
       refine Rn.idxA tv rfl rfl h40 ?_
       obtain ⟨x41,h42,h⟩:=bnd h
       refine Rn.storeA (g:=(fun (x:Bool)=>[V.d (.bool x)])) (v:=(b_ true)) (fun _=>rfl) tv rfl rfl rfl rfl rfl h42 ?_
       obtain ⟨⟨⟩,h44,h⟩:=bnd h
       refine Rn.idxA tv rfl rfl h44 ?_
       obtain ⟨c45,h46,h⟩:=bnd h
       refine Rn.storeAB (g:=(fun (x:Bool)=>[V.d (.bool x)])) (v:=(b_ true)) (fun _=>rfl) tv rfl rfl rfl (ltB hM hk7) rfl pg0 rfl h46 ps0 ?_
       obtain ⟨⟨⟩,h48,h⟩:=bnd h
       refine Rn.idxA tv rfl rfl h48 ?_
       obtain ⟨x49,h50,h⟩:=bnd h
       refine Rn.storeA (g:=(fun (x:Int)=>[V.d (.int .i64 x)])) (v:=(i_ x37)) (fun _=>rfl) tv rfl rfl rfl rfl rfl h50 ?_
       refine Rn.nil ⟨rfl,?_⟩
       refine toN (Tr.rgn (Rn.bin tv rfl rfl rfl (md rfl (Rn.nil ?_))))
       exact ⟨_,h,(by exact Qx ⟨(Qcg (ltB hM hk3)),(kPtr rfl),(sm rfl),(kPtr rfl),(kSl rfl),(sm rfl),(sm rfl),(sm rfl),tv⟩ ⟨⟨_,rfl,rfl,(.same rfl)⟩,⟨_,rfl,rfl,(Qu fun _=>rfl)⟩,⟨_,rfl,rfl,(Qu fun _=>rfl)⟩,⟨_,rfl,rfl,(Qu fun _=>rfl)⟩,⟨_,rfl,rfl,(.cons (Qcg (ltB hM hk3)) (.cons (kSl rfl) (.cons (kSl rfl) (.cons (kSl rfl) .nil))))⟩,⟨_,rfl,rfl,(Qu fun _=>rfl)⟩,tv⟩ rfl)⟩
    ·replace h:=ifF hb27 h
     refine Tr.exit (toN (Tr.seq (sr ((Rn.fldP (o':=2) tv rfl rfl (Rn.load (v:=.d (.lst 4 (List.map Qg c8.zG))) tv rfl (Qi rfl) rfl rfl (Rn.lenD tv rfl (md rfl (nt ((Tr.block ?_)))))))))))
     refine Tr.loop (mk:=fun ((x51,c52,c53,c54):Int×(List Int)×(List Int)×(List Bool))=>⟨look [(0,.ptr k2 0),(3,.ptr (Γ.n0 + 3) 0),(6,(i_ (t1.left_.length:Int))),(7,.ptr (Γ.n0 + 44) 0),(8,.sl 1 (Γ.n0 + 46) 0 (Int.toNat (t1.left_.length:Int)) (Int.toNat (t1.left_.length:Int))),(98,.d (.lst 4 (List.map Qg c8.zG))),(99,(i_ (c8.zG.length:Int))),(100,(i_ x51))],Qr Γ.n0 (bxs [(3,.cells ((Qby c8))),(38,.cells (Qz (fun (x:Int)=>[V.d (.int .i64 x)]) c52)),(40,.cells (Qz (fun (x:Int)=>[V.d (.int .i64 x)]) c23)),(42,.cells (Qz (fun (x:Int)=>[V.d (.int .i64 x)]) c53)),(44,.cells ([.ptr k2 0,.sl 1 (Γ.n0 + 38) 0 (Int.toNat (t1.left_.length:Int)) (Int.toNat (t1.left_.length:Int)),.sl 1 (Γ.n0 + 40) 0 (Int.toNat (t1.left_.length:Int)) (Int.toNat (t1.left_.length:Int)),.sl 1 (Γ.n0 + 42) 0 (Int.toNat (t1.left_.length:Int)) (Int.toNat (t1.left_.length:Int))])),(46,.cells (Qz (fun (x:Bool)=>[V.d (.bool x)]) c24))]) (Mem.puts M [(k6,.cells (Qz (fun (x:Bool)=>[V.d (.bool x)]) c54))]),Γ.n0 + 169⟩) h (by exact Qx ⟨(Qcg (ltB hM hk3)),(kPtr rfl),(sm rfl),(kPtr rfl),(kSl rfl),(sm rfl),(sm rfl),(sm rfl),tv⟩ ⟨⟨_,rfl,rfl,(.same rfl)⟩,⟨_,rfl,rfl,(Qu fun _=>rfl)⟩,⟨_,rfl,rfl,(Qu fun _=>rfl)⟩,⟨_,rfl,rfl,(Qu fun _=>rfl)⟩,⟨_,rfl,rfl,(.cons (Qcg (ltB hM hk3)) (.cons (kSl rfl) (.cons (kSl rfl) (.cons (kSl rfl) .nil))))⟩,⟨_,rfl,rfl,(Qu fun _=>rfl)⟩,tv⟩ rfl) (fun k55 z h=>?_)
     ·obtain ⟨x51,c52,c53,c54⟩:=z
      replace h:_ = some _:=h
      refine sr ((Rn.bin tv rfl rfl rfl (nt ((Tr.seq ?_)))))
      refine Tr.cond rfl (fun hb56=>?_) (fun hb56=>?_)
      ·replace h:=ifT hb56 h
       refine Tr.skip (toN (Tr.seq (Tr.block (sr ((md rfl ?_))))))
       obtain ⟨x57,h58,h⟩:=bnd h
       refine Rn.idxD (e:=Qg) tv rfl rfl h58 (Rn.loadCA (vs:=(Qcu x57)) tv rfl rfl rfl (Rn.alloc tv rfl (md rfl (Rn.store (v:=(Qci x57)) (cs':=(Qcu x57)) tv rfl rfl rfl rfl rfl rfl (nt ((Tr.seq ?_)))))))
       refine Tr.cutB (fun (x70:Bool)=>⟨look [(0,.ptr k2 0),(3,.ptr (Γ.n0 + 3) 0),(6,(i_ (t1.left_.length:Int))),(7,.ptr (Γ.n0 + 44) 0),(8,.sl 1 (Γ.n0 + 46) 0 (Int.toNat (t1.left_.length:Int)) (Int.toNat (t1.left_.length:Int))),(12,.ptr (Γ.n0 + 12) 0),(98,.d (.lst 4 (List.map Qg c8.zG))),(99,(i_ (c8.zG.length:Int))),(100,(i_ x51)),(141,(b_ x70))],Qr Γ.n0 (bxs [(3,.cells ((Qby c8))),(12,.cells ((Qcu x57))),(38,.cells (Qz (fun (x:Int)=>[V.d (.int .i64 x)]) c52)),(40,.cells (Qz (fun (x:Int)=>[V.d (.int .i64 x)]) c23)),(42,.cells (Qz (fun (x:Int)=>[V.d (.int .i64 x)]) c53)),(44,.cells ([.ptr k2 0,.sl 1 (Γ.n0 + 38) 0 (Int.toNat (t1.left_.length:Int)) (Int.toNat (t1.left_.length:Int)),.sl 1 (Γ.n0 + 40) 0 (Int.toNat (t1.left_.length:Int)) (Int.toNat (t1.left_.length:Int)),.sl 1 (Γ.n0 + 42) 0 (Int.toNat (t1.left_.length:Int)) (Int.toNat (t1.left_.length:Int))])),(46,.cells (Qz (fun (x:Bool)=>[V.d (.bool x)]) c24))]) (Mem.puts M [(k6,.cells (Qz (fun (x:Bool)=>[V.d (.bool x)]) c54))]),Γ.n0 + 169⟩) h (fun z h=>?_) (fun z h=>?_)
       ·refine Tr.rgnD (by decide) ?_
        refine Rn.fldP (o':=0) tv rfl rfl (Rn.load (v:=(i_ x57.State)) tv rfl (Qi rfl) rfl rfl (Rn.bin tv rfl rfl rfl (md rfl ?_)))
        refine Q8 (decide (x57.State < 0)) (fun hb59=>?_) (fun hb59=>?_)
        ·replace h:=ifT hb59 h
         refine Rn.sk (nw rfl hb59) (Rn.sk (nw rfl hb59) (Rn.sk (nw rfl hb59) (Rn.sk (nw rfl hb59) (Rn.pickT (v:=(b_ true)) tv rfl hb59 rfl (md rfl (Rn.sk (nw (b:=true) rfl rfl) (Rn.sk (nw (b:=true) rfl rfl) (Rn.sk (nw (b:=true) rfl rfl) (Rn.sk (nw (b:=true) rfl rfl) (Rn.sk (nw (b:=true) rfl rfl) (Rn.pickT (v:=(b_ true)) tv rfl rfl rfl (md rfl (Rn.sk (nw (b:=true) rfl rfl) (Rn.sk (nw (b:=true) rfl rfl) (Rn.sk (nw (b:=true) rfl rfl) (Rn.sk (nu rfl) (Rn.sk (nu rfl) (Rn.sk (nu rfl) (Rn.sk (nu rfl) (Rn.sk (nu rfl) (Rn.sk (nu rfl) (Rn.sk (nu rfl) (Rn.sk (nu rfl) (Rn.sk (nu rfl) (Rn.sk (nu rfl) (Rn.sk (nw (b:=true) rfl rfl) (Rn.pickT (v:=(b_ true)) tv rfl rfl rfl (md rfl (Rn.sk (nw (b:=true) rfl rfl) (Rn.sk (nw (b:=true) rfl rfl) (Rn.sk (nw (b:=true) rfl rfl) (Rn.pickT (v:=(b_ true)) tv rfl rfl rfl ?_))))))))))))))))))))))))))))))))
         refine Rn.nil ⟨rfl,?_⟩
         replace h:=si h; subst h
         exact Qn [] ⟨(Qcg (ltB hM hk3)),(kPtr rfl),(sm rfl),(kPtr rfl),(kSl rfl),(kPtr rfl),(sm rfl),(sm rfl),(sm rfl),(sm rfl),tv⟩ ⟨⟨_,rfl,rfl,(.same rfl)⟩,⟨_,rfl,rfl,(.same rfl)⟩,⟨_,rfl,rfl,(Qu fun _=>rfl)⟩,⟨_,rfl,rfl,(Qu fun _=>rfl)⟩,⟨_,rfl,rfl,(Qu fun _=>rfl)⟩,⟨_,rfl,rfl,(.cons (Qcg (ltB hM hk3)) (.cons (kSl rfl) (.cons (kSl rfl) (.cons (kSl rfl) .nil))))⟩,⟨_,rfl,rfl,(Qu fun _=>rfl)⟩,tv⟩ rfl
        ·replace h:=ifF hb59 h
         refine Rn.fldP (o':=0) (gw rfl hb59) rfl rfl (Rn.load (v:=(i_ x57.State)) (gw rfl hb59) rfl (Qi rfl) rfl rfl (Rn.movD (gw rfl hb59) rfl (Rn.bin (gw rfl hb59) rfl rfl rfl (Rn.pickF (v:=(b_ (decide (x57.State≥(t1.left_.length:Int))))) tv rfl hb59 rfl (md rfl ?_)))))
         refine Q8 (decide (x57.State≥(t1.left_.length:Int))) (fun hb60=>?_) (fun hb60=>?_)
         ·replace h:=ifT hb60 h
          refine Rn.sk (nw rfl hb60) (Rn.sk (nw rfl hb60) (Rn.sk (nw rfl hb60) (Rn.sk (nw rfl hb60) (Rn.sk (nw rfl hb60) (Rn.pickT (v:=(b_ true)) tv rfl hb60 rfl (md rfl (Rn.sk (nw (b:=true) rfl rfl) (Rn.sk (nw (b:=true) rfl rfl) (Rn.sk (nw (b:=true) rfl rfl) (Rn.sk (nu rfl) (Rn.sk (nu rfl) (Rn.sk (nu rfl) (Rn.sk (nu rfl) (Rn.sk (nu rfl) (Rn.sk (nu rfl) (Rn.sk (nu rfl) (Rn.sk (nu rfl) (Rn.sk (nu rfl) (Rn.sk (nu rfl) (Rn.sk (nw (b:=true) rfl rfl) (Rn.pickT (v:=(b_ true)) tv rfl rfl rfl (md rfl (Rn.sk (nw (b:=true) rfl rfl) (Rn.sk (nw (b:=true) rfl rfl) (Rn.sk (nw (b:=true) rfl rfl) (Rn.pickT (v:=(b_ true)) tv rfl rfl rfl ?_))))))))))))))))))))))))))
          refine Rn.nil ⟨rfl,?_⟩
          replace h:=si h; subst h
          exact Qn [] ⟨(Qcg (ltB hM hk3)),(kPtr rfl),(sm rfl),(kPtr rfl),(kSl rfl),(kPtr rfl),(sm rfl),(sm rfl),(sm rfl),(sm rfl),tv⟩ ⟨⟨_,rfl,rfl,(.same rfl)⟩,⟨_,rfl,rfl,(.same rfl)⟩,⟨_,rfl,rfl,(Qu fun _=>rfl)⟩,⟨_,rfl,rfl,(Qu fun _=>rfl)⟩,⟨_,rfl,rfl,(Qu fun _=>rfl)⟩,⟨_,rfl,rfl,(.cons (Qcg (ltB hM hk3)) (.cons (kSl rfl) (.cons (kSl rfl) (.cons (kSl rfl) .nil))))⟩,⟨_,rfl,rfl,(Qu fun _=>rfl)⟩,tv⟩ rfl
         ·replace h:=ifF hb60 h
          refine Rn.mov (v:=.sl 1 (Γ.n0 + 46) 0 (Int.toNat (t1.left_.length:Int)) (Int.toNat (t1.left_.length:Int))) (gw rfl hb60) rfl (Rn.fldP (o':=0) (gw rfl hb60) rfl rfl (Rn.load (v:=(i_ x57.State)) (gw rfl hb60) rfl (Qi rfl) rfl rfl ?_))
          obtain ⟨⟨⟩,h62,h⟩:=bnd h
          refine Rn.idxA (gw rfl hb60) rfl rfl h62 ?_
          obtain ⟨x63,h64,h⟩:=bnd h
          refine Rn.loadA (g:=(fun (x:Bool)=>[V.d (.bool x)])) (v:=(b_ x63)) (f:=0) (fun _=>rfl) (gw rfl hb60) rfl (Qi rfl) h64 rfl rfl (Rn.pickF (v:=(b_ x63)) tv rfl hb60 rfl (md rfl ?_))
          refine Q8 x63 (fun hb65=>?_) (fun hb65=>?_)
          ·replace h:=bT hb65 h
           refine Rn.sk (nw rfl hb65) (Rn.sk (nw rfl hb65) (Rn.sk (nw rfl hb65) (Rn.sk (nu rfl) (Rn.sk (nu rfl) (Rn.sk (nu rfl) (Rn.sk (nu rfl) (Rn.sk (nu rfl) (Rn.sk (nu rfl) (Rn.sk (nu rfl) (Rn.sk (nu rfl) (Rn.sk (nu rfl) (Rn.sk (nu rfl) (Rn.sk (nw rfl hb65) (Rn.pickT (v:=(b_ true)) tv rfl hb65 rfl (md rfl (Rn.sk (nw (b:=true) rfl rfl) (Rn.sk (nw (b:=true) rfl rfl) (Rn.sk (nw (b:=true) rfl rfl) (Rn.pickT (v:=(b_ true)) tv rfl rfl rfl ?_)))))))))))))))))))
           refine Rn.nil ⟨rfl,?_⟩
           replace h:=si h; subst h
           exact Qn [] ⟨(Qcg (ltB hM hk3)),(kPtr rfl),(sm rfl),(kPtr rfl),(kSl rfl),(kPtr rfl),(sm rfl),(sm rfl),(sm rfl),(sm rfl),tv⟩ ⟨⟨_,rfl,rfl,(.same rfl)⟩,⟨_,rfl,rfl,(.same rfl)⟩,⟨_,rfl,rfl,(Qu fun _=>rfl)⟩,⟨_,rfl,rfl,(Qu fun _=>rfl)⟩,⟨_,rfl,rfl,(Qu fun _=>rfl)⟩,⟨_,rfl,rfl,(.cons (Qcg (ltB hM hk3)) (.cons (kSl rfl) (.cons (kSl rfl) (.cons (kSl rfl) .nil))))⟩,⟨_,rfl,rfl,(Qu fun _=>rfl)⟩,tv⟩ rfl
          ·replace h:=bF hb65 h
           refine Rn.movD (gw rfl hb65) rfl (Rn.bin (gw rfl hb65) rfl rfl rfl (Rn.movD (gw rfl hb65) rfl ?_))
           refine Q8 (decide (x51 > 0)) (fun hb66=>?_) (fun hb66=>?_)
           ·replace h:=ifT hb66 h
            refine Rn.fldP (o':=0) (gw rfl hb66) rfl rfl (Rn.load (v:=(i_ x57.State)) (gw rfl hb66) rfl (Qi rfl) rfl rfl (Rn.fldP (o':=2) (gw rfl hb66) rfl rfl (Rn.load (v:=.d (.lst 4 (List.map Qg c8.zG))) (gw rfl hb66) rfl (Qi rfl) rfl rfl (Rn.movD (gw rfl hb66) rfl (Rn.bin (gw rfl hb66) rfl rfl rfl ?_)))))
            obtain ⟨x67,h68,h⟩:=bnd h
            refine Rn.idxD (e:=Qg) (gw rfl hb66) rfl rfl h68 (Rn.fldC (gw rfl hb66) rfl (Rn.loadC (x:=.int .i64 x67.State) (gw rfl hb66) rfl (Rn.bin (gw rfl hb66) rfl rfl rfl (Rn.pickT (v:=(b_ (decide (x57.State≤x67.State)))) (gw rfl hb65) rfl hb66 rfl (Rn.pickF (v:=(b_ (decide (x57.State≤x67.State)))) tv rfl hb65 rfl (md rfl ?_))))))
            refine Q8 (decide (x57.State≤x67.State)) (fun hb69=>?_) (fun hb69=>?_)
            ·replace h:=ifT hb69 h
             refine Rn.sk (nw rfl hb69) (Rn.sk (nw rfl hb69) (Rn.sk (nw rfl hb69) (Rn.pickT (v:=(b_ true)) tv rfl hb69 rfl ?_)))
             refine Rn.nil ⟨rfl,?_⟩
             replace h:=si h; subst h
             exact Qn [] ⟨(Qcg (ltB hM hk3)),(kPtr rfl),(sm rfl),(kPtr rfl),(kSl rfl),(kPtr rfl),(sm rfl),(sm rfl),(sm rfl),(sm rfl),tv⟩ ⟨⟨_,rfl,rfl,(.same rfl)⟩,⟨_,rfl,rfl,(.same rfl)⟩,⟨_,rfl,rfl,(Qu fun _=>rfl)⟩,⟨_,rfl,rfl,(Qu fun _=>rfl)⟩,⟨_,rfl,rfl,(Qu fun _=>rfl)⟩,⟨_,rfl,rfl,(.cons (Qcg (ltB hM hk3)) (.cons (kSl rfl) (.cons (kSl rfl) (.cons (kSl rfl) .nil))))⟩,⟨_,rfl,rfl,(Qu fun _=>rfl)⟩,tv⟩ rfl
            ·replace h:=ifF hb69 h
             refine Rn.fldP (o':=1) (gw rfl hb69) rfl rfl (Rn.load (v:=(i_ x57.Rank)) (gw rfl hb69) rfl (Qi rfl) rfl rfl (Rn.bin (gw rfl hb69) rfl rfl rfl (Rn.pickF (v:=(b_ (decide (x57.Rank < 1)))) tv rfl hb69 rfl ?_)))
             refine Rn.nil ⟨rfl,?_⟩
             replace h:=si h; subst h
             exact Qn [] ⟨(Qcg (ltB hM hk3)),(kPtr rfl),(sm rfl),(kPtr rfl),(kSl rfl),(kPtr rfl),(sm rfl),(sm rfl),(sm rfl),(sm rfl),tv⟩ ⟨⟨_,rfl,rfl,(.same rfl)⟩,⟨_,rfl,rfl,(.same rfl)⟩,⟨_,rfl,rfl,(Qu fun _=>rfl)⟩,⟨_,rfl,rfl,(Qu fun _=>rfl)⟩,⟨_,rfl,rfl,(Qu fun _=>rfl)⟩,⟨_,rfl,rfl,(.cons (Qcg (ltB hM hk3)) (.cons (kSl rfl) (.cons (kSl rfl) (.cons (kSl rfl) .nil))))⟩,⟨_,rfl,rfl,(Qu fun _=>rfl)⟩,tv⟩ rfl
           ·replace h:=ifF hb66 h
            refine Rn.sk (nw rfl hb66) (Rn.sk (nw rfl hb66) (Rn.sk (nw rfl hb66) (Rn.sk (nw rfl hb66) (Rn.sk (nw rfl hb66) (Rn.sk (nw rfl hb66) (Rn.sk (nw rfl hb66) (Rn.sk (nw rfl hb66) (Rn.sk (nw rfl hb66) (Rn.sk (nw rfl hb66) (Rn.pickF (v:=(b_ false)) (gw rfl hb65) rfl hb66 rfl (Rn.pickF (v:=(b_ false)) tv rfl hb65 rfl (md rfl (Rn.fldP (o':=1) (gw (b:=false) rfl rfl) rfl rfl (Rn.load (v:=(i_ x57.Rank)) (gw (b:=false) rfl rfl) rfl (Qi rfl) rfl rfl (Rn.bin (gw (b:=false) rfl rfl) rfl rfl rfl (Rn.pickF (v:=(b_ (decide (x57.Rank < 1)))) tv rfl rfl rfl ?_))))))))))))))))
            refine Rn.nil ⟨rfl,?_⟩
            replace h:=si h; subst h
            exact Qn [] ⟨(Qcg (ltB hM hk3)),(kPtr rfl),(sm rfl),(kPtr rfl),(kSl rfl),(kPtr rfl),(sm rfl),(sm rfl),(sm rfl),(sm rfl),tv⟩ ⟨⟨_,rfl,rfl,(.same rfl)⟩,⟨_,rfl,rfl,(.same rfl)⟩,⟨_,rfl,rfl,(Qu fun _=>rfl)⟩,⟨_,rfl,rfl,(Qu fun _=>rfl)⟩,⟨_,rfl,rfl,(Qu fun _=>rfl)⟩,⟨_,rfl,rfl,(.cons (Qcg (ltB hM hk3)) (.cons (kSl rfl) (.cons (kSl rfl) (.cons (kSl rfl) .nil))))⟩,⟨_,rfl,rfl,(Qu fun _=>rfl)⟩,tv⟩ rfl
       ·obtain ⟨x70,rfl⟩ : ∃ x,x = z:=⟨_,rfl⟩
        refine Tr.cond rfl (fun hb71=>?_) (fun hb71=>?_)
        ·replace h:=bT hb71 h
         refine sr ((Rn.mov (v:=.nilp) tv rfl (md rfl (nt ((Tr.ret ?_))))))
         replace h:=si h; subst h
         exact ⟨.inr rfl,.tup [.nilp,(b_ false)],res2 rfl rfl,(WkV.tup (.cons (.same rfl) (.cons (.same rfl) .nil))).rd,⟨tv,tv,tv⟩,tv,fun k hk=>Qf hk,fun _ _ h=>(by cases h),rfl⟩
        ·replace h:=bF hb71 h
         refine Tr.skip (toN ?_)
         refine Tr.rgnD (by decide) ?_
         refine Rn.mov (v:=.ptr k2 0) tv rfl (Rn.nilchkP tv rfl (Rn.fldP (o':=9) tv rfl rfl (Rn.load (v:=.sl 1 k6 0 t1.left_.length t1.left_.length) tv rfl (Qban (ltB hM hk3) (pgS hne9.symm hk3)) rfl rfl (Rn.fldP (o':=0) tv rfl rfl (Rn.load (v:=(i_ x57.State)) tv rfl (Qi rfl) rfl rfl (Rn.mov (v:=.ptr (Γ.n0 + 44) 0) tv rfl (Rn.nilchkP tv rfl (Rn.fldP (o':=1) tv rfl rfl (Rn.load (v:=.sl 1 (Γ.n0 + 38) 0 (Int.toNat (t1.left_.length:Int)) (Int.toNat (t1.left_.length:Int))) tv rfl (Qi rfl) rfl rfl (Rn.fldP (o':=0) tv rfl rfl (Rn.load (v:=(i_ x57.State)) tv rfl (Qi rfl) rfl rfl (Rn.mov (v:=.ptr (Γ.n0 + 44) 0) tv rfl (Rn.nilchkP tv rfl (Rn.fldP (o':=3) tv rfl rfl (Rn.load (v:=.sl 1 (Γ.n0 + 42) 0 (Int.toNat (t1.left_.length:Int)) (Int.toNat (t1.left_.length:Int))) tv rfl (Qi rfl) rfl rfl (Rn.fldP (o':=0) tv rfl rfl (Rn.load (v:=(i_ x57.State)) tv rfl (Qi rfl) rfl rfl (Rn.fldP (o':=1) tv rfl rfl (Rn.load (v:=(i_ x57.Rank)) tv rfl (Qi rfl) rfl rfl (Rn.fldP (o':=2) tv rfl rfl (Rn.load (v:=(i_ x57.Reason)) tv rfl (Qi rfl) rfl rfl ?_)))))))))))))))))))))
         obtain ⟨⟨⟩,h73,h⟩:=bnd h
         refine Rn.idxA tv rfl rfl h73 ?_
         obtain ⟨c74,h75,h⟩:=bnd h
         refine Rn.storeAB (g:=(fun (x:Bool)=>[V.d (.bool x)])) (v:=(b_ false)) (fun _=>rfl) tv rfl rfl rfl (ltB hM hk7) rfl pg0 rfl h75 ps0 ?_
         obtain ⟨⟨⟩,h77,h⟩:=bnd h
         refine Rn.idxA tv rfl rfl h77 ?_
         obtain ⟨x78,h79,h⟩:=bnd h
         refine Rn.storeA (g:=(fun (x:Int)=>[V.d (.int .i64 x)])) (v:=(i_ x57.Rank)) (fun _=>rfl) tv rfl rfl rfl rfl rfl h79 ?_
         obtain ⟨⟨⟩,h81,h⟩:=bnd h
         refine Rn.idxA tv rfl rfl h81 ?_
         obtain ⟨x82,h83,h⟩:=bnd h
         refine Rn.storeA (g:=(fun (x:Int)=>[V.d (.int .i64 x)])) (v:=(i_ x57.Reason)) (fun _=>rfl) tv rfl rfl rfl rfl rfl h83 ?_
         refine Rn.nil ⟨by first | rfl | (simp [Qru,Qli,look,Bool.cond_eq_ite,Nat.beq_eq]; done) | (have q0:=(ltB hM hk7); simp [Qru,Qli,look,Bool.cond_eq_ite,Nat.beq_eq]; omega),?_⟩
         refine toN (Tr.rgn (Rn.bin tv rfl rfl rfl (md rfl (Rn.nil ?_))))
         exact ⟨_,h,(by exact Qx ⟨(Qcg (ltB hM hk3)),(kPtr rfl),(sm rfl),(kPtr rfl),(kSl rfl),(sm rfl),(sm rfl),(sm rfl),tv⟩ ⟨⟨_,rfl,rfl,(.same rfl)⟩,⟨_,rfl,rfl,(Qu fun _=>rfl)⟩,⟨_,rfl,rfl,(Qu fun _=>rfl)⟩,⟨_,rfl,rfl,(Qu fun _=>rfl)⟩,⟨_,rfl,rfl,(.cons (Qcg (ltB hM hk3)) (.cons (kSl rfl) (.cons (kSl rfl) (.cons (kSl rfl) .nil))))⟩,⟨_,rfl,rfl,(Qu fun _=>rfl)⟩,tv⟩ rfl)⟩
      ·replace h:=ifF hb56 h
       refine Tr.exit (toN (sr ((Rn.mov (v:=.ptr (Γ.n0 + 44) 0) tv rfl (Rn.mov (v:=.ptr (Γ.n0 + 44) 0) tv rfl (md rfl (nt ((Tr.ret ?_)))))))))
       obtain ⟨⟨⟩,hl84,h⟩:=bnd h
       obtain ⟨⟨⟩,hl85,h⟩:=bnd h
       obtain ⟨⟨⟩,hl86,h⟩:=bnd h
       replace h:=si h; subst h
       exact ⟨.inr rfl,.tup [.ptr (Γ.n0 + 44) 0,(b_ true)],res2 rfl rfl,(WkV.tup (.cons (.same rfl) (.cons (.same rfl) .nil))).rd,⟨(show There _ _ from thN rfl),tv,tv⟩,⟨⟨(show There _ _ from thB hM hk3),(show There _ _ from thN rfl),(show There _ _ from thN rfl),(show There _ _ from thN rfl),tv⟩,Q57 (g:=(fun (x:Int)=>[V.d (.int .i64 x)])) (fun _=>⟨tv,tv⟩) _,Q57 (g:=(fun (x:Int)=>[V.d (.int .i64 x)])) (fun _=>⟨tv,tv⟩) _,Q57 (g:=(fun (x:Int)=>[V.d (.int .i64 x)])) (fun _=>⟨tv,tv⟩) _,tv⟩,fun k hk=>Qf hk,lrAt ⟨(by show Qr Γ.n0 _ _ (Γ.n0 + 44) = some (.cells [.ptr k2 0,.sl 1 (Γ.n0 + 38) 0 c52.length c52.length,.sl 1 (Γ.n0 + 40) 0 c23.length c23.length,.sl 1 (Γ.n0 + 42) 0 c53.length c53.length]); rw [Qd4 hl84,Qd4 hl85,Qd4 hl86]; exact Qi rfl),Qi rfl,Qi rfl,Qi rfl,tv⟩,rfl⟩
theorem Ql6 {P:Program} {c:Nat} (hcf:Q1 P c = some Qev):Qeu P c (Qbh):=by
 intro x1 x2 x19 k3 k5 k7 k15 k17 k8 k10 k12 k20 r h
 intro M nb hk4 hk6 hk14 hk16 hk18 hk9 hk11 hk13 hk21
 refine Qg8 hcf rfl M nb fun Γ hP hnt hn0 hM=>?_
 subst hP hn0
 refine Tr.init [(0,(Qbv x1)),(1,.ptr k3 0),(2,.ptr k20 0)] rfl ?_
 unfold Qbh at h
 unfold Qev
 refine sr ((Rn.box (v:=(Qbv x1)) (cs:=(Qbx x1)) tv rfl rfl rfl rfl rfl (md rfl (nt ((Tr.seq ?_))))))
 refine Tr.rgnD (by decide) ?_
 refine Rn.load (v:=.ptr k5 0) tv rfl (Qk hM hk4) rfl rfl (Rn.nilchkP tv rfl (Rn.fldP (o':=0) tv rfl rfl (Rn.load (v:=.ptr k7 0) tv rfl (Qk hM hk6) rfl rfl (Rn.nilchkP tv rfl (Rn.fldP (o':=9) tv rfl rfl (Rn.load (v:=.sl 1 k17 0 x2.task_.left_.length x2.task_.left_.length) tv rfl (Qk hM hk14) rfl rfl (Rn.fldP (o':=2) tv rfl rfl (Rn.load (v:=(i_ x1.To)) tv rfl (Qi rfl) rfl rfl ?_))))))))
 obtain ⟨⟨⟩,h23,h⟩:=bnd h
 refine Rn.idxA tv rfl rfl h23 ?_
 obtain ⟨x24,h25,h⟩:=bnd h
 refine Rn.loadA (g:=(fun (x:Bool)=>[V.d (.bool x)])) (v:=(b_ x24)) (f:=0) (fun _=>rfl) tv rfl (Qk hM hk18) h25 rfl rfl (md rfl ?_)
 refine Q8 x24 (fun hb26=>?_) (fun hb26=>?_)
 ·replace h:=bT hb26 h
  refine Rn.load (v:=.ptr k5 0) (gw rfl hb26) rfl (Qk hM hk4) rfl rfl (Rn.nilchkP (gw rfl hb26) rfl (Rn.fldP (o':=2) (gw rfl hb26) rfl rfl (Rn.load (v:=.sl 1 k10 0 x2.distances_.length x2.distances_.length) (gw rfl hb26) rfl (Qk hM hk6) rfl rfl (Rn.fldP (o':=2) (gw rfl hb26) rfl rfl (Rn.load (v:=(i_ x1.To)) (gw rfl hb26) rfl (Qi rfl) rfl rfl ?_)))))
  obtain ⟨⟨⟩,h28,h⟩:=bnd h
  refine Rn.idxA (gw rfl hb26) rfl rfl h28 ?_
  obtain ⟨x29,h30,h⟩:=bnd h
  refine Rn.loadA (g:=(fun (x:Int)=>[V.d (.int .i64 x)])) (v:=(i_ x29)) (f:=0) (fun _=>rfl) (gw rfl hb26) rfl (Qk hM hk11) h30 rfl rfl (Rn.load (v:=(i_ x19)) (gw rfl hb26) rfl (Qk hM hk21) rfl rfl (Rn.bin (gw rfl hb26) rfl rfl rfl (Rn.pickT (v:=(b_ (decide (x29 < x19)))) tv rfl hb26 rfl (md rfl ?_))))
  refine Rn.nil ⟨rfl,?_⟩
  refine toN (Tr.ret ?_)
  replace h:=si h; subst h
  exact ⟨.inr rfl,(b_ (decide (x29 < x19))),rfl,fun _ _ _ _ h=>h,tv,fun k hk=>Qf hk⟩
 ·replace h:=bF hb26 h
  refine Rn.sk (nw rfl hb26) (Rn.sk (nw rfl hb26) (Rn.sk (nw rfl hb26) (Rn.sk (nw rfl hb26) (Rn.sk (nw rfl hb26) (Rn.sk (nw rfl hb26) (Rn.sk (nw rfl hb26) (Rn.sk (nw rfl hb26) (Rn.sk (nw rfl hb26) (Rn.sk (nw rfl hb26) (Rn.pickF (v:=(b_ false)) tv rfl hb26 rfl (md rfl ?_)))))))))))
  refine Rn.nil ⟨rfl,?_⟩
  refine toN (Tr.ret ?_)
  replace h:=si h; subst h
  exact ⟨.inr rfl,(b_ false),rfl,fun _ _ _ _ h=>h,tv,fun k hk=>Qf hk⟩
theorem Qnf {P:Program} {c:Nat} {Ql:(List Qe)→(Qe→Option Bool)→Option Bool} {Qh:(List Int)→Int→Option Bool} {Qs:Qd→Int→Option (Int×Int)} {Qbh:Qe→Qj→Int→Option Bool}
    (H_slices_ContainsFunc_Edge:Qch P 40 Ql)
    (H_alphabet_Contains:Qbz P 50 Qh)
    (H_timedsynthesis_task_escape:Qdb P 53 Qs)
    (H_timedsynthesis_proof_keeps_1:Qeu P 79 Qbh) (hcf:Q1 P c = some Qfj):Qfi P c (Qbp Ql Qh Qs Qbh):=by
 intro p1 i16 k2 k4 k12 k14 k5 k7 k9 r h
 intro M nb hk3 hk11 hk13 hk15 hk6 hk8 hk10
 refine Qg8 hcf rfl M nb fun Γ hP hnt hn0 hM=>?_
 subst hP hn0
 refine Tr.init [(0,.ptr k2 0),(1,(i_ i16))] rfl ?_
 unfold Qbp at h
 unfold Qfj
 refine sr ((Rn.box (v:=.ptr k2 0) (cs:=[.ptr k2 0]) tv rfl rfl rfl rfl rfl (md rfl (nt ((Tr.seq (sr ((Rn.load (v:=.ptr k2 0) tv rfl (Qi rfl) rfl rfl (Rn.nilchkP tv rfl (Rn.fldP (o':=0) tv rfl rfl (Rn.load (v:=.ptr k4 0) tv rfl (Qk hM hk3) rfl rfl (md rfl ?_)))))))))))))
 obtain ⟨⟨r18,r19⟩,h17,h⟩:=bnd h
 refine Rn.callM (args:=[.ptr k4 0,(i_ i16)]) tv rfl (fun M2 nb2 hn hx=>H_timedsynthesis_task_escape _ _ k4 k12 k14 _ h17 M2 nb2 (hx _ _ (Qk hM hk11)) (hx _ _ (Qk hM hk13)) (hx _ _ (Qk hM hk15))) rfl pc9 ?_
 refine Rn.mov (v:=.tup [(i_ r18),(i_ r19)]) tv rfl (Rn.ext (v:=(i_ r18)) (vs:=[(i_ r18),(i_ r19)]) tv rfl rfl rfl (Rn.ext (v:=(i_ r19)) (vs:=[(i_ r18),(i_ r19)]) tv rfl rfl rfl (md rfl (md rfl (Rn.nil (toN ?_))))))
 refine Tr.cutB (fun (x23:Bool)=>⟨look [(1,(i_ i16)),(2,.ptr (Γ.n0 + 2) 0),(30,(b_ x23))],Qr Γ.n0 (bxs [(2,.cells ([.ptr k2 0]))]) M,Γ.n0 + 67⟩) h (fun z h=>?_) (fun z h=>?_)
 ·refine Tr.rgn (md rfl (Rn.bin tv rfl rfl rfl (md rfl ?_)))
  refine Q8 (r18 != 0) (fun hb20=>?_) (fun hb20=>?_)
  ·replace h:=bT hb20 h
   refine Rn.sk (nw rfl hb20) (Rn.sk (nw rfl hb20) (Rn.sk (nw rfl hb20) (Rn.sk (nw rfl hb20) (Rn.sk (nw rfl hb20) (Rn.sk (nw rfl hb20) (Rn.sk (nw rfl hb20) (Rn.sk (nw rfl hb20) (Rn.sk (nw rfl hb20) (Rn.sk (nw rfl hb20) (Rn.pickT (v:=(b_ true)) tv rfl hb20 rfl (Rn.nil ?_)))))))))))
   replace h:=si h; subst h
   exact Qn [] ⟨(sm rfl),(kPtr rfl),(sm rfl),tv⟩ ⟨⟨_,rfl,rfl,(.cons (Qcg (ltB hM hk3)) .nil)⟩,tv⟩ rfl
  ·replace h:=bF hb20 h
   refine Rn.load (v:=.ptr k2 0) (gw rfl hb20) rfl (Qi rfl) rfl rfl (Rn.nilchkP (gw rfl hb20) rfl (Rn.fldP (o':=0) (gw rfl hb20) rfl rfl (Rn.load (v:=.ptr k4 0) (gw rfl hb20) rfl (Qk hM hk3) rfl rfl (Rn.nilchkP (gw rfl hb20) rfl (Rn.fldP (o':=0) (gw rfl hb20) rfl rfl (Rn.fldP (o':=4) (gw rfl hb20) rfl rfl (Rn.load (v:=(l_ p1.task_.zN.zC)) (gw rfl hb20) rfl (Qk hM hk11) rfl rfl (Rn.movD (gw rfl hb20) rfl ?_))))))))
   obtain ⟨x22,h21,h⟩:=bnd h
   refine Rn.call (args:=[(l_ p1.task_.zN.zC),(i_ i16)]) (gw rfl hb20) rfl (H_alphabet_Contains _ _ _ h21) pc9 (Rn.pickF (v:=(b_ x22)) tv rfl hb20 rfl (Rn.nil ?_))
   replace h:=si h; subst h
   exact Qn [] ⟨(sm rfl),(kPtr rfl),(sm rfl),tv⟩ ⟨⟨_,rfl,rfl,(.cons (Qcg (ltB hM hk3)) .nil)⟩,tv⟩ rfl
 ·obtain ⟨x23,rfl⟩ : ∃ x,x = z:=⟨_,rfl⟩
  refine Tr.cond rfl (fun hb24=>?_) (fun hb24=>?_)
  ·replace h:=bT hb24 h
   refine sr ((md rfl (nt ((Tr.ret ?_)))))
   replace h:=si h; subst h
   exact ⟨.inr rfl,(b_ false),rfl,fun _ _ _ _ h=>h,tv,fun k hk=>Qf hk⟩
  ·replace h:=bF hb24 h
   refine Tr.skip (toN (sr ((Rn.load (v:=.ptr k2 0) tv rfl (Qi rfl) rfl rfl (Rn.nilchkP tv rfl (Rn.fldP (o':=2) tv rfl rfl (Rn.load (v:=.sl 1 k7 0 p1.distances_.length p1.distances_.length) tv rfl (Qk hM hk3) rfl rfl (md rfl ?_))))))))
   obtain ⟨⟨⟩,h26,h⟩:=bnd h
   refine Rn.idxA tv rfl rfl h26 ?_
   obtain ⟨x27,h28,h⟩:=bnd h
   refine Rn.loadA (g:=(fun (x:Int)=>[V.d (.int .i64 x)])) (v:=(i_ x27)) (f:=0) (fun _=>rfl) tv rfl (Qk hM hk8) h28 rfl rfl (Rn.alloc tv rfl (Rn.store (v:=(i_ x27)) (cs':=[(i_ x27)]) tv rfl rfl rfl rfl rfl rfl (nt ((Tr.seq (sr ((Rn.load (v:=(i_ x27)) tv rfl (Qi rfl) rfl rfl (Rn.bin tv rfl rfl rfl (Rn.nil (toN ?_)))))))))))
   refine Tr.cond rfl (fun hb29=>?_) (fun hb29=>?_)
   ·replace h:=bT hb29 h
    refine sr ((Rn.load (v:=.ptr k2 0) tv rfl (Qi rfl) rfl rfl (Rn.nilchkP tv rfl (Rn.fldP (o':=0) tv rfl rfl (Rn.load (v:=.ptr k4 0) tv rfl (Qk hM hk3) rfl rfl (Rn.nilchkP tv rfl (Rn.fldP (o':=0) tv rfl rfl (Rn.fldP (o':=0) tv rfl rfl (Rn.fldP (o':=2) tv rfl rfl (Rn.load (v:=(l_ p1.task_.zN.zA.zK)) tv rfl (Qk hM hk11) rfl rfl (md rfl ?_)))))))))))
    obtain ⟨x31,h30,h⟩:=bnd h
    refine Rn.call (args:=[(l_ p1.task_.zN.zA.zK),(i_ i16)]) tv rfl (H_alphabet_Contains _ _ _ h30) pc9 (md rfl (nt ((Tr.ret ?_))))
    replace h:=si h; subst h
    exact ⟨.inr rfl,(b_ x31),rfl,fun _ _ _ _ h=>h,tv,fun k hk=>Qf hk⟩
   ·replace h:=bF hb29 h
    refine Tr.skip (toN (sr ((Rn.load (v:=(i_ x27)) tv rfl (Qi rfl) rfl rfl (Rn.bin tv rfl rfl rfl (md rfl ?_))))))
    refine Q8 (decide (x27 > 0)) (fun hb32=>?_) (fun hb32=>?_)
    ·replace h:=ifT hb32 h
     refine Rn.load (v:=.ptr k2 0) (gw rfl hb32) rfl (Qi rfl) rfl rfl (Rn.nilchkP (gw rfl hb32) rfl (Rn.fldP (o':=0) (gw rfl hb32) rfl rfl (Rn.load (v:=.ptr k4 0) (gw rfl hb32) rfl (Qk hM hk3) rfl rfl (Rn.nilchkP (gw rfl hb32) rfl (Rn.fldP (o':=8) (gw rfl hb32) rfl rfl (Rn.load (v:=.sl 1 k12 0 p1.task_.from_.length p1.task_.from_.length) (gw rfl hb32) rfl (Qk hM hk11) rfl rfl (Rn.movD (gw rfl hb32) rfl ?_)))))))
     obtain ⟨⟨⟩,h34,h⟩:=bnd h
     refine Rn.idxA (gw rfl hb32) rfl rfl h34 ?_
     obtain ⟨x35,h36,h⟩:=bnd h
     refine Rn.loadA (g:=(fun (x:List Qe)=>[V.d (.lst 3 (List.map Qb x))])) (v:=.d (.lst 3 (List.map Qb x35))) (f:=0) (fun _=>rfl) (gw rfl hb32) rfl (Qk hM hk13) h36 rfl rfl (Rn.k (v:=.clo 79 [.ptr (Γ.n0 + 2) 0,.ptr (Γ.n0 + 7) 0]) (gw rfl hb32) rfl rfl rfl ?_)
     obtain ⟨x41,h40,h⟩:=bnd h
     refine Rn.callM (args:=[.d (.lst 3 (List.map Qb x35)),.clo 79 [.ptr (Γ.n0 + 2) 0,.ptr (Γ.n0 + 7) 0]]) (gw rfl hb32) rfl (fun M2 nb2 hn hx=>H_slices_ContainsFunc_Edge _ _ 79 [.ptr (Γ.n0 + 2) 0,.ptr (Γ.n0 + 7) 0] _ h40 M2 nb2 rfl ⟨Qfq (hx _ _ (Qi rfl)),Qfq (hx _ _ (Qi rfl)),tv⟩ (fun a37 r38 h39 M3 nb3 hn3 hx3=>H_timedsynthesis_proof_keeps_1 a37 p1 x27 (Γ.n0 + 2) k2 k4 k12 k14 k5 k7 k9 (Γ.n0 + 7) r38 h39 M3 nb3 ((hx.trans hx3) _ _ (Qi rfl)) ((hx.trans hx3) _ _ (Qk hM hk3)) ((hx.trans hx3) _ _ (Qk hM hk11)) ((hx.trans hx3) _ _ (Qk hM hk13)) ((hx.trans hx3) _ _ (Qk hM hk15)) ((hx.trans hx3) _ _ (Qk hM hk6)) ((hx.trans hx3) _ _ (Qk hM hk8)) ((hx.trans hx3) _ _ (Qk hM hk10)) ((hx.trans hx3) _ _ (Qi rfl)))) rfl pc9 ?_
     refine Rn.pickT (v:=(b_ x41)) tv rfl hb32 rfl (md rfl (nt ((Tr.ret ?_))))
     replace h:=si h; subst h
     exact ⟨.inr rfl,(b_ x41),rfl,fun _ _ _ _ h=>h,tv,fun k hk=>Qf hk⟩
    ·replace h:=ifF hb32 h
     refine Rn.sk (nw rfl hb32) (Rn.sk (nw rfl hb32) (Rn.sk (nw rfl hb32) (Rn.sk (nw rfl hb32) (Rn.sk (nw rfl hb32) (Rn.sk (nw rfl hb32) (Rn.sk (nw rfl hb32) (Rn.sk (nw rfl hb32) (Rn.sk (nw rfl hb32) (Rn.sk (nw rfl hb32) (Rn.sk (nw rfl hb32) (Rn.sk (nw rfl hb32) (Rn.pickF (v:=(b_ false)) tv rfl hb32 rfl (md rfl (nt ((Tr.ret ?_))))))))))))))))
     replace h:=si h; subst h
     exact ⟨.inr rfl,(b_ false),rfl,fun _ _ _ _ h=>h,tv,fun k hk=>Qf hk⟩
theorem Qrf {P:Program} {c:Nat} {Qbp:Qj→Int→Option Bool}
    (H_timedsynthesis_proof_keeps:Qfi P 58 Qbp) (hcf:Q1 P c = some Qgo):Qgn P c (Qb2 Qbp):=by
 intro i1 x2 k3 k5 k7 k15 k17 k8 k10 k12 r h
 intro M nb hk4 hk6 hk14 hk16 hk18 hk9 hk11 hk13
 refine Qg8 hcf rfl M nb fun Γ hP hnt hn0 hM=>?_
 subst hP hn0
 refine Tr.init [(0,(i_ i1)),(1,.ptr k3 0)] rfl ?_
 unfold Qb2 at h
 unfold Qgo
 refine sr ((md rfl (nt ((sr ((Rn.load (v:=.ptr k5 0) tv rfl (Qk hM hk4) rfl rfl (md rfl ?_))))))))
 obtain ⟨x20,h19,h⟩:=bnd h
 refine Rn.callM (args:=[.ptr k5 0,(i_ i1)]) tv rfl (fun M2 nb2 hn hx=>H_timedsynthesis_proof_keeps _ _ k5 k7 k15 k17 k8 k10 k12 _ h19 M2 nb2 (hx _ _ (Qk hM hk6)) (hx _ _ (Qk hM hk14)) (hx _ _ (Qk hM hk16)) (hx _ _ (Qk hM hk18)) (hx _ _ (Qk hM hk9)) (hx _ _ (Qk hM hk11)) (hx _ _ (Qk hM hk13))) rfl pc9 ?_
 refine Rn.un tv rfl rfl (md rfl (nt ((Tr.ret ?_))))
 replace h:=si h; subst h
 exact ⟨.inr rfl,(b_ (!x20)),rfl,fun _ _ _ _ h=>h,tv,fun k hk=>Qf hk⟩
theorem Qng {P:Program} {c:Nat} (hcf:Q1 P c = some Qfk):Qdd P c (Qt):=by
 intro p1 state16 rank17 k2 k4 k12 k14 k5 k7 k9 r h
 intro M nb hk3 hk11 hk13 hk15 hk6 hk8 hk10
 refine Qg8 hcf rfl M nb fun Γ hP hnt hn0 hM=>?_
 subst hP hn0
 refine Tr.init [(0,.ptr k2 0),(1,(i_ state16)),(2,(i_ rank17))] rfl ?_
 unfold Qt at h
 unfold Qfk
 refine sr ((md rfl (nt ((sr ((Rn.mov (v:=.ptr k2 0) tv rfl (Rn.nilchkP tv rfl (Rn.fldP (o':=0) tv rfl rfl (Rn.load (v:=.ptr k4 0) tv rfl (Qk hM hk3) rfl rfl (Rn.nilchkP tv rfl (Rn.fldP (o':=9) tv rfl rfl (Rn.load (v:=.sl 1 k14 0 p1.task_.left_.length p1.task_.left_.length) tv rfl (Qk hM hk11) rfl rfl (md rfl ?_))))))))))))))
 obtain ⟨⟨⟩,h19,h⟩:=bnd h
 refine Rn.idxA tv rfl rfl h19 ?_
 obtain ⟨x20,h21,h⟩:=bnd h
 refine Rn.loadA (g:=(fun (x:Bool)=>[V.d (.bool x)])) (v:=(b_ x20)) (f:=0) (fun _=>rfl) tv rfl (Qk hM hk15) h21 rfl rfl (Rn.un tv rfl rfl (md rfl ?_))
 refine Q8 x20 (fun hb22=>?_) (fun hb22=>?_)
 ·replace h:=bT hb22 h
  refine Rn.sk (nw rfl (nT hb22)) (Rn.sk (nw rfl (nT hb22)) (Rn.sk (nw rfl (nT hb22)) (Rn.sk (nw rfl (nT hb22)) (Rn.sk (nw rfl (nT hb22)) (Rn.sk (nw rfl (nT hb22)) (Rn.sk (nw rfl (nT hb22)) (Rn.sk (nw rfl (nT hb22)) (Rn.sk (nw rfl (nT hb22)) (Rn.pickF (v:=(b_ false)) tv rfl (nT hb22) rfl (md rfl (nt ((Tr.ret ?_)))))))))))))
  replace h:=si h; subst h
  exact ⟨.inr rfl,(b_ false),rfl,fun _ _ _ _ h=>h,tv,fun k hk=>Qf hk⟩
 ·replace h:=bF hb22 h
  refine Rn.mov (v:=.ptr k2 0) (gw rfl (nF hb22)) rfl (Rn.nilchkP (gw rfl (nF hb22)) rfl (Rn.fldP (o':=1) (gw rfl (nF hb22)) rfl rfl (Rn.load (v:=.sl 1 k5 0 p1.ranks_.length p1.ranks_.length) (gw rfl (nF hb22)) rfl (Qk hM hk3) rfl rfl (Rn.movD (gw rfl (nF hb22)) rfl ?_))))
  obtain ⟨⟨⟩,h24,h⟩:=bnd h
  refine Rn.idxA (gw rfl (nF hb22)) rfl rfl h24 ?_
  obtain ⟨x25,h26,h⟩:=bnd h
  refine Rn.loadA (g:=(fun (x:Int)=>[V.d (.int .i64 x)])) (v:=(i_ x25)) (f:=0) (fun _=>rfl) (gw rfl (nF hb22)) rfl (Qk hM hk6) h26 rfl rfl (Rn.movD (gw rfl (nF hb22)) rfl (Rn.bin (gw rfl (nF hb22)) rfl rfl rfl (Rn.pickT (v:=(b_ (decide (x25 < rank17)))) tv rfl (nF hb22) rfl (md rfl (nt ((Tr.ret ?_)))))))
  replace h:=si h; subst h
  exact ⟨.inr rfl,(b_ (decide (x25 < rank17))),rfl,fun _ _ _ _ h=>h,tv,fun k hk=>Qf hk⟩
theorem Qkh {P:Program} {c:Nat} {Qt:Qj→Int→Int→Option Bool}
    (H_timedsynthesis_proof_lower:Qdd P 82 Qt) (hcf:Q1 P c = some Qeb):Qea P c (Q5 Qt):=by
 intro x1 x2 x5 k3 k6 k8 k10 k18 k20 k11 k13 k15 r h
 intro M nb hk4 hk7 hk9 hk17 hk19 hk21 hk12 hk14 hk16
 refine Qg8 hcf rfl M nb fun Γ hP hnt hn0 hM=>?_
 subst hP hn0
 refine Tr.init [(0,(Qbv x1)),(1,.ptr k3 0),(2,.ptr k6 0)] rfl ?_
 unfold Q5 at h
 unfold Qeb
 refine sr ((Rn.box (v:=(Qbv x1)) (cs:=(Qbx x1)) tv rfl rfl rfl rfl rfl (md rfl (nt ((sr ((Rn.fldP (o':=1) tv rfl rfl (Rn.load (v:=(i_ x1.Event)) tv rfl (Qi rfl) rfl rfl (Rn.fldP (o':=3) tv rfl rfl (Rn.load (v:=(i_ x2.Event)) tv rfl (Qk hM hk4) rfl rfl (Rn.bin tv rfl rfl rfl (md rfl ?_)))))))))))))
 refine Q8 (x1.Event == x2.Event) (fun hb22=>?_) (fun hb22=>?_)
 ·replace h:=bT hb22 h
  refine Rn.load (v:=.ptr k8 0) (gw rfl hb22) rfl (Qk hM hk7) rfl rfl (Rn.fldP (o':=2) (gw rfl hb22) rfl rfl (Rn.load (v:=(i_ x1.To)) (gw rfl hb22) rfl (Qi rfl) rfl rfl (Rn.fldP (o':=1) (gw rfl hb22) rfl rfl (Rn.load (v:=(i_ x2.Rank)) (gw rfl hb22) rfl (Qk hM hk4) rfl rfl ?_))))
  obtain ⟨x24,h23,h⟩:=bnd h
  refine Rn.callM (args:=[.ptr k8 0,(i_ x1.To),(i_ x2.Rank)]) (gw rfl hb22) rfl (fun M2 nb2 hn hx=>H_timedsynthesis_proof_lower _ _ _ k8 k10 k18 k20 k11 k13 k15 _ h23 M2 nb2 (hx _ _ (Qk hM hk9)) (hx _ _ (Qk hM hk17)) (hx _ _ (Qk hM hk19)) (hx _ _ (Qk hM hk21)) (hx _ _ (Qk hM hk12)) (hx _ _ (Qk hM hk14)) (hx _ _ (Qk hM hk16))) rfl pc9 ?_
  refine Rn.pickT (v:=(b_ x24)) tv rfl hb22 rfl (md rfl (nt ((Tr.ret ?_))))
  replace h:=si h; subst h
  exact ⟨.inr rfl,(b_ x24),rfl,fun _ _ _ _ h=>h,tv,fun k hk=>Qf hk⟩
 ·replace h:=bF hb22 h
  refine Rn.sk (nw rfl hb22) (Rn.sk (nw rfl hb22) (Rn.sk (nw rfl hb22) (Rn.sk (nw rfl hb22) (Rn.sk (nw rfl hb22) (Rn.sk (nw rfl hb22) (Rn.pickF (v:=(b_ false)) tv rfl hb22 rfl (md rfl (nt ((Tr.ret ?_))))))))))
  replace h:=si h; subst h
  exact ⟨.inr rfl,(b_ false),rfl,fun _ _ _ _ h=>h,tv,fun k hk=>Qf hk⟩
theorem Qki {P:Program} {c:Nat} {Qh:(List Int)→Int→Option Bool} {Qt:Qj→Int→Int→Option Bool}
    (H_alphabet_Contains:Qbz P 50 Qh)
    (H_timedsynthesis_proof_lower:Qdd P 82 Qt) (hcf:Q1 P c = some Qed):Qec P c (Qba Qh Qt):=by
 intro x1 x2 x19 k3 k5 k7 k15 k17 k8 k10 k12 k20 r h
 intro M nb hk4 hk6 hk14 hk16 hk18 hk9 hk11 hk13 hk21
 refine Qg8 hcf rfl M nb fun Γ hP hnt hn0 hM=>?_
 subst hP hn0
 refine Tr.init [(0,(Qbv x1)),(1,.ptr k3 0),(2,.ptr k20 0)] rfl ?_
 unfold Qba at h
 unfold Qed
 refine sr ((Rn.box (v:=(Qbv x1)) (cs:=(Qbx x1)) tv rfl rfl rfl rfl rfl (md rfl (nt ((Tr.seq ?_))))))
 refine Tr.rgnD (by decide) ?_
 refine Rn.load (v:=.ptr k5 0) tv rfl (Qk hM hk4) rfl rfl (Rn.nilchkP tv rfl (Rn.fldP (o':=0) tv rfl rfl (Rn.load (v:=.ptr k7 0) tv rfl (Qk hM hk6) rfl rfl (Rn.nilchkP tv rfl (Rn.fldP (o':=0) tv rfl rfl (Rn.fldP (o':=6) tv rfl rfl (Rn.load (v:=(l_ x2.task_.zN.zD)) tv rfl (Qk hM hk14) rfl rfl (Rn.fldP (o':=1) tv rfl rfl (Rn.load (v:=(i_ x1.Event)) tv rfl (Qi rfl) rfl rfl ?_)))))))))
 obtain ⟨x23,h22,h⟩:=bnd h
 refine Rn.call (args:=[(l_ x2.task_.zN.zD),(i_ x1.Event)]) tv rfl (H_alphabet_Contains _ _ _ h22) pc0 (md rfl ?_)
 refine Q8 x23 (fun hb24=>?_) (fun hb24=>?_)
 ·replace h:=bT hb24 h
  refine Rn.load (v:=.ptr k5 0) (gw rfl hb24) rfl (Qk hM hk4) rfl rfl (Rn.fldP (o':=2) (gw rfl hb24) rfl rfl (Rn.load (v:=(i_ x1.To)) (gw rfl hb24) rfl (Qi rfl) rfl rfl (Rn.fldP (o':=1) (gw rfl hb24) rfl rfl (Rn.load (v:=(i_ x19.Rank)) (gw rfl hb24) rfl (Qk hM hk21) rfl rfl ?_))))
  obtain ⟨x26,h25,h⟩:=bnd h
  refine Rn.callM (args:=[.ptr k5 0,(i_ x1.To),(i_ x19.Rank)]) (gw rfl hb24) rfl (fun M2 nb2 hn hx=>H_timedsynthesis_proof_lower _ _ _ k5 k7 k15 k17 k8 k10 k12 _ h25 M2 nb2 (hx _ _ (Qk hM hk6)) (hx _ _ (Qk hM hk14)) (hx _ _ (Qk hM hk16)) (hx _ _ (Qk hM hk18)) (hx _ _ (Qk hM hk9)) (hx _ _ (Qk hM hk11)) (hx _ _ (Qk hM hk13))) rfl pc0 ?_
  refine Rn.un (gw rfl hb24) rfl rfl (Rn.pickT (v:=(b_ (!x26))) tv rfl hb24 rfl (md rfl ?_))
  refine Rn.nil ⟨rfl,?_⟩
  refine toN (Tr.ret ?_)
  replace h:=si h; subst h
  exact ⟨.inr rfl,(b_ (!x26)),rfl,fun _ _ _ _ h=>h,tv,fun k hk=>Qf hk⟩
 ·replace h:=bF hb24 h
  refine Rn.sk (nw rfl hb24) (Rn.sk (nw rfl hb24) (Rn.sk (nw rfl hb24) (Rn.sk (nw rfl hb24) (Rn.sk (nw rfl hb24) (Rn.sk (nw rfl hb24) (Rn.sk (nw rfl hb24) (Rn.pickF (v:=(b_ false)) tv rfl hb24 rfl (md rfl ?_))))))))
  refine Rn.nil ⟨rfl,?_⟩
  refine toN (Tr.ret ?_)
  replace h:=si h; subst h
  exact ⟨.inr rfl,(b_ false),rfl,fun _ _ _ _ h=>h,tv,fun k hk=>Qf hk⟩
theorem Qkj {P:Program} {c:Nat} {Qt:Qj→Int→Int→Option Bool}
    (H_timedsynthesis_proof_lower:Qdd P 82 Qt) (hcf:Q1 P c = some Qef):Qee P c (Qbb Qt):=by
 intro x1 x2 x19 k3 k5 k7 k15 k17 k8 k10 k12 k20 r h
 intro M nb hk4 hk6 hk14 hk16 hk18 hk9 hk11 hk13 hk21
 refine Qg8 hcf rfl M nb fun Γ hP hnt hn0 hM=>?_
 subst hP hn0
 refine Tr.init [(0,(Qbv x1)),(1,.ptr k3 0),(2,.ptr k20 0)] rfl ?_
 unfold Qbb at h
 unfold Qef
 refine sr ((Rn.box (v:=(Qbv x1)) (cs:=(Qbx x1)) tv rfl rfl rfl rfl rfl (md rfl (Rn.nil (toN ?_)))))
 refine Tr.cutB (fun (same36:Bool)=>⟨look [(1,.ptr k3 0),(2,.ptr k20 0),(3,.ptr (Γ.n0 + 3) 0),(5,(b_ same36))],Qr Γ.n0 (bxs [(3,.cells ((Qbx x1)))]) M,Γ.n0 + 53⟩) h (fun z h=>?_) (fun z h=>?_)
 ·refine Tr.rgnD (by decide) ?_
  refine Rn.load (v:=.ptr k5 0) tv rfl (Qk hM hk4) rfl rfl (Rn.nilchkP tv rfl (Rn.fldP (o':=0) tv rfl rfl (Rn.load (v:=.ptr k7 0) tv rfl (Qk hM hk6) rfl rfl (Rn.nilchkP tv rfl (Rn.fldP (o':=9) tv rfl rfl (Rn.load (v:=.sl 1 k17 0 x2.task_.left_.length x2.task_.left_.length) tv rfl (Qk hM hk14) rfl rfl (Rn.fldP (o':=2) tv rfl rfl (Rn.load (v:=(i_ x1.To)) tv rfl (Qi rfl) rfl rfl ?_))))))))
  obtain ⟨⟨⟩,h23,h⟩:=bnd h
  refine Rn.idxA tv rfl rfl h23 ?_
  obtain ⟨x24,h25,h⟩:=bnd h
  refine Rn.loadA (g:=(fun (x:Bool)=>[V.d (.bool x)])) (v:=(b_ x24)) (f:=0) (fun _=>rfl) tv rfl (Qk hM hk18) h25 rfl rfl (Rn.un tv rfl rfl (md rfl ?_))
  refine Q8 x24 (fun hb26=>?_) (fun hb26=>?_)
  ·replace h:=bT hb26 h
   refine Rn.sk (nw rfl (nT hb26)) (Rn.sk (nw rfl (nT hb26)) (Rn.sk (nw rfl (nT hb26)) (Rn.sk (nw rfl (nT hb26)) (Rn.sk (nw rfl (nT hb26)) (Rn.sk (nw rfl (nT hb26)) (Rn.sk (nw rfl (nT hb26)) (Rn.sk (nw rfl (nT hb26)) (Rn.sk (nw rfl (nT hb26)) (Rn.pickF (v:=(b_ false)) tv rfl (nT hb26) rfl (md rfl (Rn.sk (nw (b:=false) rfl rfl) (Rn.sk (nw (b:=false) rfl rfl) (Rn.sk (nw (b:=false) rfl rfl) (Rn.sk (nw (b:=false) rfl rfl) (Rn.sk (nw (b:=false) rfl rfl) (Rn.sk (nw (b:=false) rfl rfl) (Rn.sk (nw (b:=false) rfl rfl) (Rn.sk (nw (b:=false) rfl rfl) (Rn.sk (nw (b:=false) rfl rfl) (Rn.sk (nw (b:=false) rfl rfl) (Rn.sk (nw (b:=false) rfl rfl) (Rn.pickF (v:=(b_ false)) tv rfl rfl rfl (md rfl ?_)))))))))))))))))))))))
   refine Rn.nil ⟨rfl,?_⟩
   replace h:=si h; subst h
   exact Qn [] ⟨(Qcg (ltB hM hk4)),(Qcg (ltB hM hk21)),(kPtr rfl),(sm rfl),tv⟩ ⟨⟨_,rfl,rfl,(.same rfl)⟩,tv⟩ rfl
  ·replace h:=bF hb26 h
   refine Rn.load (v:=.ptr k5 0) (gw rfl (nF hb26)) rfl (Qk hM hk4) rfl rfl (Rn.nilchkP (gw rfl (nF hb26)) rfl (Rn.fldP (o':=3) (gw rfl (nF hb26)) rfl rfl (Rn.load (v:=.sl 1 k12 0 x2.reasons_.length x2.reasons_.length) (gw rfl (nF hb26)) rfl (Qk hM hk6) rfl rfl (Rn.fldP (o':=2) (gw rfl (nF hb26)) rfl rfl (Rn.load (v:=(i_ x1.To)) (gw rfl (nF hb26)) rfl (Qi rfl) rfl rfl ?_)))))
   obtain ⟨⟨⟩,h28,h⟩:=bnd h
   refine Rn.idxA (gw rfl (nF hb26)) rfl rfl h28 ?_
   obtain ⟨x29,h30,h⟩:=bnd h
   refine Rn.loadA (g:=(fun (x:Int)=>[V.d (.int .i64 x)])) (v:=(i_ x29)) (f:=0) (fun _=>rfl) (gw rfl (nF hb26)) rfl (Qk hM hk13) h30 rfl rfl (Rn.bin (gw rfl (nF hb26)) rfl rfl rfl (Rn.pickT (v:=(b_ (x29 == 3))) tv rfl (nF hb26) rfl (md rfl ?_)))
   refine Q8 (x29 == 3) (fun hb31=>?_) (fun hb31=>?_)
   ·replace h:=bT hb31 h
    refine Rn.load (v:=.ptr k5 0) (gw rfl hb31) rfl (Qk hM hk4) rfl rfl (Rn.nilchkP (gw rfl hb31) rfl (Rn.fldP (o':=1) (gw rfl hb31) rfl rfl (Rn.load (v:=.sl 1 k8 0 x2.ranks_.length x2.ranks_.length) (gw rfl hb31) rfl (Qk hM hk6) rfl rfl (Rn.fldP (o':=2) (gw rfl hb31) rfl rfl (Rn.load (v:=(i_ x1.To)) (gw rfl hb31) rfl (Qi rfl) rfl rfl ?_)))))
    obtain ⟨⟨⟩,h33,h⟩:=bnd h
    refine Rn.idxA (gw rfl hb31) rfl rfl h33 ?_
    obtain ⟨x34,h35,h⟩:=bnd h
    refine Rn.loadA (g:=(fun (x:Int)=>[V.d (.int .i64 x)])) (v:=(i_ x34)) (f:=0) (fun _=>rfl) (gw rfl hb31) rfl (Qk hM hk9) h35 rfl rfl (Rn.fldP (o':=1) (gw rfl hb31) rfl rfl (Rn.load (v:=(i_ x19.Rank)) (gw rfl hb31) rfl (Qk hM hk21) rfl rfl (Rn.bin (gw rfl hb31) rfl rfl rfl (Rn.pickT (v:=(b_ (x34 == x19.Rank))) tv rfl hb31 rfl (md rfl ?_)))))
    refine Rn.nil ⟨rfl,?_⟩
    replace h:=si h; subst h
    exact Qn [] ⟨(Qcg (ltB hM hk4)),(Qcg (ltB hM hk21)),(kPtr rfl),(sm rfl),tv⟩ ⟨⟨_,rfl,rfl,(.same rfl)⟩,tv⟩ rfl
   ·replace h:=bF hb31 h
    refine Rn.sk (nw rfl hb31) (Rn.sk (nw rfl hb31) (Rn.sk (nw rfl hb31) (Rn.sk (nw rfl hb31) (Rn.sk (nw rfl hb31) (Rn.sk (nw rfl hb31) (Rn.sk (nw rfl hb31) (Rn.sk (nw rfl hb31) (Rn.sk (nw rfl hb31) (Rn.sk (nw rfl hb31) (Rn.sk (nw rfl hb31) (Rn.pickF (v:=(b_ false)) tv rfl hb31 rfl (md rfl ?_))))))))))))
    refine Rn.nil ⟨rfl,?_⟩
    replace h:=si h; subst h
    exact Qn [] ⟨(Qcg (ltB hM hk4)),(Qcg (ltB hM hk21)),(kPtr rfl),(sm rfl),tv⟩ ⟨⟨_,rfl,rfl,(.same rfl)⟩,tv⟩ rfl
 ·obtain ⟨same36,rfl⟩ : ∃ x,x = z:=⟨_,rfl⟩
  refine sr ((md rfl (Rn.un tv rfl rfl (md rfl ?_))))
  refine Q8 same36 (fun hb37=>?_) (fun hb37=>?_)
  ·replace h:=bT hb37 h
   refine Rn.sk (nw rfl (nT hb37)) (Rn.sk (nw rfl (nT hb37)) (Rn.sk (nw rfl (nT hb37)) (Rn.sk (nw rfl (nT hb37)) (Rn.sk (nw rfl (nT hb37)) (Rn.sk (nw rfl (nT hb37)) (Rn.sk (nw rfl (nT hb37)) (Rn.pickF (v:=(b_ false)) tv rfl (nT hb37) rfl (md rfl (nt ((Tr.ret ?_)))))))))))
   replace h:=si h; subst h
   exact ⟨.inr rfl,(b_ false),rfl,fun _ _ _ _ h=>h,tv,fun k hk=>Qf hk⟩
  ·replace h:=bF hb37 h
   refine Rn.load (v:=.ptr k5 0) (gw rfl (nF hb37)) rfl (Qk hM hk4) rfl rfl (Rn.fldP (o':=2) (gw rfl (nF hb37)) rfl rfl (Rn.load (v:=(i_ x1.To)) (gw rfl (nF hb37)) rfl (Qi rfl) rfl rfl (Rn.fldP (o':=1) (gw rfl (nF hb37)) rfl rfl (Rn.load (v:=(i_ x19.Rank)) (gw rfl (nF hb37)) rfl (Qk hM hk21) rfl rfl ?_))))
   obtain ⟨x39,h38,h⟩:=bnd h
   refine Rn.callM (args:=[.ptr k5 0,(i_ x1.To),(i_ x19.Rank)]) (gw rfl (nF hb37)) rfl (fun M2 nb2 hn hx=>H_timedsynthesis_proof_lower _ _ _ k5 k7 k15 k17 k8 k10 k12 _ h38 M2 nb2 (hx _ _ (Qk hM hk6)) (hx _ _ (Qk hM hk14)) (hx _ _ (Qk hM hk16)) (hx _ _ (Qk hM hk18)) (hx _ _ (Qk hM hk9)) (hx _ _ (Qk hM hk11)) (hx _ _ (Qk hM hk13))) rfl pc9 ?_
   refine Rn.un (gw rfl (nF hb37)) rfl rfl (Rn.pickT (v:=(b_ (!x39))) tv rfl (nF hb37) rfl (md rfl (nt ((Tr.ret ?_)))))
   replace h:=si h; subst h
   exact ⟨.inr rfl,(b_ (!x39)),rfl,fun _ _ _ _ h=>h,tv,fun k hk=>Qf hk⟩
theorem Ql7 {P:Program} {c:Nat} {Ql:(List Qe)→(Qe→Option Bool)→Option Bool} {Qh:(List Int)→Int→Option Bool} {Q5:Qe→Qc→Qj→Option Bool} {Qba:Qe→Qj→Qc→Option Bool} {Qbb:Qe→Qj→Qc→Option Bool}
    (H_slices_ContainsFunc_Edge:Qch P 40 Ql)
    (H_alphabet_Contains:Qbz P 50 Qh)
    (H_timedsynthesis_proof_removes_1:Qea P 81 Q5)
    (H_timedsynthesis_proof_removes_2:Qec P 83 Qba)
    (H_timedsynthesis_proof_removes_3:Qee P 84 Qbb) (hcf:Q1 P c = some Qex):Qew P c (Qbi Ql Qh Q5 Qba Qbb):=by
 intro p1 r16 k2 k4 k12 k14 k5 k7 k9 r h
 intro M nb hk3 hk11 hk13 hk15 hk6 hk8 hk10
 refine Qg8 hcf rfl M nb fun Γ hP hnt hn0 hM=>?_
 subst hP hn0
 refine Tr.init [(0,.ptr k2 0),(1,(Qci r16))] rfl ?_
 unfold Qbi at h
 unfold Qex
 refine sr ((Rn.box (v:=.ptr k2 0) (cs:=[.ptr k2 0]) tv rfl rfl rfl rfl rfl (Rn.box (v:=(Qci r16)) (cs:=(Qcu r16)) tv rfl rfl rfl rfl rfl (md rfl (nt ((sr ((Rn.k (v:=.clo 81 [.ptr (Γ.n0 + 3) 0,.ptr (Γ.n0 + 2) 0]) tv rfl rfl rfl (Rn.mov (v:=.clo 81 [.ptr (Γ.n0 + 3) 0,.ptr (Γ.n0 + 2) 0]) tv rfl (nt ((Tr.seq ?_)))))))))))))
 refine Tr.rgnD (by decide) ?_
 refine Rn.load (v:=.ptr k2 0) tv rfl (Qi rfl) rfl rfl (Rn.nilchkP tv rfl (Rn.fldP (o':=0) tv rfl rfl (Rn.load (v:=.ptr k4 0) tv rfl (Qk hM hk3) rfl rfl (Rn.nilchkP tv rfl (Rn.fldP (o':=8) tv rfl rfl (Rn.load (v:=.sl 1 k12 0 p1.task_.from_.length p1.task_.from_.length) tv rfl (Qk hM hk11) rfl rfl (Rn.fldP (o':=0) tv rfl rfl (Rn.load (v:=(i_ r16.State)) tv rfl (Qi rfl) rfl rfl ?_))))))))
 obtain ⟨⟨⟩,h18,h⟩:=bnd h
 refine Rn.idxA tv rfl rfl h18 ?_
 obtain ⟨x19,h20,h⟩:=bnd h
 refine Rn.loadA (g:=(fun (x:List Qe)=>[V.d (.lst 3 (List.map Qb x))])) (v:=.d (.lst 3 (List.map Qb x19))) (f:=0) (fun _=>rfl) tv rfl (Qk hM hk13) h20 rfl rfl (Rn.movTD tv rfl ?_)
 refine Rn.nil ⟨rfl,?_⟩
 refine toN (Tr.seq (sr ((Rn.fldP (o':=2) tv rfl rfl (Rn.load (v:=(i_ r16.Reason)) tv rfl (Qi rfl) rfl rfl (nt ((Tr.block (sr ((Rn.bin tv rfl rfl rfl (md rfl (Rn.nil (toN ?_))))))))))))))
 refine Tr.cond rfl (fun hb21=>?_) (fun hb21=>?_)
 ·replace h:=bT hb21 h
  refine Tr.seq ?_
  refine Tr.rgnD (by decide) ?_
  refine Rn.fldP (o':=3) tv rfl rfl (Rn.load (v:=(i_ r16.Event)) tv rfl (Qi rfl) rfl rfl (Rn.bin tv rfl rfl rfl (md rfl ?_)))
  refine Q8 (r16.Event == (-1)) (fun hb22=>?_) (fun hb22=>?_)
  ·replace h:=bT hb22 h
   refine Rn.load (v:=.ptr k2 0) (gw rfl hb22) rfl (Qi rfl) rfl rfl (Rn.nilchkP (gw rfl hb22) rfl (Rn.fldP (o':=0) (gw rfl hb22) rfl rfl (Rn.load (v:=.ptr k4 0) (gw rfl hb22) rfl (Qk hM hk3) rfl rfl (Rn.nilchkP (gw rfl hb22) rfl (Rn.fldP (o':=0) (gw rfl hb22) rfl rfl (Rn.fldP (o':=4) (gw rfl hb22) rfl rfl (Rn.load (v:=(l_ p1.task_.zN.zC)) (gw rfl hb22) rfl (Qk hM hk11) rfl rfl (Rn.fldP (o':=0) (gw rfl hb22) rfl rfl (Rn.load (v:=(i_ r16.State)) (gw rfl hb22) rfl (Qi rfl) rfl rfl ?_)))))))))
   obtain ⟨x24,h23,h⟩:=bnd h
   refine Rn.call (args:=[(l_ p1.task_.zN.zC),(i_ r16.State)]) (gw rfl hb22) rfl (H_alphabet_Contains _ _ _ h23) pc0 (Rn.pickT (v:=(b_ x24)) tv rfl hb22 rfl (md rfl ?_))
   refine Rn.nil ⟨rfl,?_⟩
   refine toN (Tr.ret ?_)
   replace h:=si h; subst h
   exact ⟨.inr rfl,(b_ x24),rfl,fun _ _ _ _ h=>h,tv,fun k hk=>Qf hk⟩
  ·replace h:=bF hb22 h
   refine Rn.sk (nw rfl hb22) (Rn.sk (nw rfl hb22) (Rn.sk (nw rfl hb22) (Rn.sk (nw rfl hb22) (Rn.sk (nw rfl hb22) (Rn.sk (nw rfl hb22) (Rn.sk (nw rfl hb22) (Rn.sk (nw rfl hb22) (Rn.sk (nw rfl hb22) (Rn.sk (nw rfl hb22) (Rn.sk (nw rfl hb22) (Rn.pickF (v:=(b_ false)) tv rfl hb22 rfl (md rfl ?_))))))))))))
   refine Rn.nil ⟨rfl,?_⟩
   refine toN (Tr.ret ?_)
   replace h:=si h; subst h
   exact ⟨.inr rfl,(b_ false),rfl,fun _ _ _ _ h=>h,tv,fun k hk=>Qf hk⟩
 ·replace h:=bF hb21 h
  refine sr ((Rn.bin tv rfl rfl rfl (md rfl (Rn.nil (toN ?_)))))
  refine Tr.cond rfl (fun hb25=>?_) (fun hb25=>?_)
  ·replace h:=bT hb25 h
   refine Tr.seq ?_
   refine Tr.rgnD (by decide) ?_
   refine Rn.load (v:=.ptr k2 0) tv rfl (Qi rfl) rfl rfl (Rn.nilchkP tv rfl (Rn.fldP (o':=0) tv rfl rfl (Rn.load (v:=.ptr k4 0) tv rfl (Qk hM hk3) rfl rfl (Rn.nilchkP tv rfl (Rn.fldP (o':=0) tv rfl rfl (Rn.fldP (o':=5) tv rfl rfl (Rn.load (v:=(l_ p1.task_.zN.zB)) tv rfl (Qk hM hk11) rfl rfl (Rn.fldP (o':=3) tv rfl rfl (Rn.load (v:=(i_ r16.Event)) tv rfl (Qi rfl) rfl rfl ?_)))))))))
   obtain ⟨x27,h26,h⟩:=bnd h
   refine Rn.call (args:=[(l_ p1.task_.zN.zB),(i_ r16.Event)]) tv rfl (H_alphabet_Contains _ _ _ h26) pc0 (md rfl ?_)
   refine Q8 x27 (fun hb28=>?_) (fun hb28=>?_)
   ·replace h:=bT hb28 h
    refine Rn.movD (gw rfl hb28) rfl (Rn.mov (v:=.clo 81 [.ptr (Γ.n0 + 3) 0,.ptr (Γ.n0 + 2) 0]) (gw rfl hb28) rfl ?_)
    obtain ⟨x33,h32,h⟩:=bnd h
    refine Rn.callM (args:=[.d (.lst 3 (List.map Qb x19)),.clo 81 [.ptr (Γ.n0 + 3) 0,.ptr (Γ.n0 + 2) 0]]) (gw rfl hb28) rfl (fun M2 nb2 hn hx=>H_slices_ContainsFunc_Edge _ _ 81 [.ptr (Γ.n0 + 3) 0,.ptr (Γ.n0 + 2) 0] _ h32 M2 nb2 rfl ⟨Qfq (hx _ _ (Qi rfl)),Qfq (hx _ _ (Qi rfl)),tv⟩ (fun a29 r30 h31 M3 nb3 hn3 hx3=>H_timedsynthesis_proof_removes_1 a29 r16 p1 (Γ.n0 + 3) (Γ.n0 + 2) k2 k4 k12 k14 k5 k7 k9 r30 h31 M3 nb3 ((hx.trans hx3) _ _ (Qi rfl)) ((hx.trans hx3) _ _ (Qi rfl)) ((hx.trans hx3) _ _ (Qk hM hk3)) ((hx.trans hx3) _ _ (Qk hM hk11)) ((hx.trans hx3) _ _ (Qk hM hk13)) ((hx.trans hx3) _ _ (Qk hM hk15)) ((hx.trans hx3) _ _ (Qk hM hk6)) ((hx.trans hx3) _ _ (Qk hM hk8)) ((hx.trans hx3) _ _ (Qk hM hk10)))) rfl pc0 ?_
    refine Rn.pickT (v:=(b_ x33)) tv rfl hb28 rfl (md rfl ?_)
    refine Rn.nil ⟨rfl,?_⟩
    refine toN (Tr.ret ?_)
    replace h:=si h; subst h
    exact ⟨.inr rfl,(b_ x33),rfl,fun _ _ _ _ h=>h,tv,fun k hk=>Qf hk⟩
   ·replace h:=bF hb28 h
    refine Rn.sk (nw rfl hb28) (Rn.sk (nw rfl hb28) (Rn.sk (nw rfl hb28) (Rn.pickF (v:=(b_ false)) tv rfl hb28 rfl (md rfl ?_))))
    refine Rn.nil ⟨rfl,?_⟩
    refine toN (Tr.ret ?_)
    replace h:=si h; subst h
    exact ⟨.inr rfl,(b_ false),rfl,fun _ _ _ _ h=>h,tv,fun k hk=>Qf hk⟩
  ·replace h:=bF hb25 h
   refine sr ((Rn.bin tv rfl rfl rfl (md rfl (Rn.nil (toN ?_)))))
   refine Tr.cond rfl (fun hb34=>?_) (fun hb34=>?_)
   ·replace h:=bT hb34 h
    refine Tr.seq ?_
    refine Tr.rgnD (by decide) ?_
    refine Rn.fldP (o':=3) tv rfl rfl (Rn.load (v:=(i_ r16.Event)) tv rfl (Qi rfl) rfl rfl (Rn.load (v:=.ptr k2 0) tv rfl (Qi rfl) rfl rfl (Rn.nilchkP tv rfl (Rn.fldP (o':=0) tv rfl rfl (Rn.load (v:=.ptr k4 0) tv rfl (Qk hM hk3) rfl rfl (Rn.nilchkP tv rfl (Rn.fldP (o':=0) tv rfl rfl (Rn.fldP (o':=7) tv rfl rfl (Rn.load (v:=(i_ p1.task_.zN.Tick)) tv rfl (Qk hM hk11) rfl rfl (Rn.bin tv rfl rfl rfl (md rfl ?_)))))))))))
    refine Q8 (r16.Event == p1.task_.zN.Tick) (fun hb35=>?_) (fun hb35=>?_)
    ·replace h:=bT hb35 h
     refine Rn.movD (gw rfl hb35) rfl (Rn.mov (v:=.clo 81 [.ptr (Γ.n0 + 3) 0,.ptr (Γ.n0 + 2) 0]) (gw rfl hb35) rfl ?_)
     obtain ⟨x40,h39,h⟩:=bnd h
     refine Rn.callM (args:=[.d (.lst 3 (List.map Qb x19)),.clo 81 [.ptr (Γ.n0 + 3) 0,.ptr (Γ.n0 + 2) 0]]) (gw rfl hb35) rfl (fun M2 nb2 hn hx=>H_slices_ContainsFunc_Edge _ _ 81 [.ptr (Γ.n0 + 3) 0,.ptr (Γ.n0 + 2) 0] _ h39 M2 nb2 rfl ⟨Qfq (hx _ _ (Qi rfl)),Qfq (hx _ _ (Qi rfl)),tv⟩ (fun a36 r37 h38 M3 nb3 hn3 hx3=>H_timedsynthesis_proof_removes_1 a36 r16 p1 (Γ.n0 + 3) (Γ.n0 + 2) k2 k4 k12 k14 k5 k7 k9 r37 h38 M3 nb3 ((hx.trans hx3) _ _ (Qi rfl)) ((hx.trans hx3) _ _ (Qi rfl)) ((hx.trans hx3) _ _ (Qk hM hk3)) ((hx.trans hx3) _ _ (Qk hM hk11)) ((hx.trans hx3) _ _ (Qk hM hk13)) ((hx.trans hx3) _ _ (Qk hM hk15)) ((hx.trans hx3) _ _ (Qk hM hk6)) ((hx.trans hx3) _ _ (Qk hM hk8)) ((hx.trans hx3) _ _ (Qk hM hk10)))) rfl pc0 ?_
     refine Rn.pickT (v:=(b_ x40)) tv rfl hb35 rfl (md rfl ?_)
     refine Q8 x40 (fun hb41=>?_) (fun hb41=>?_)
     ·replace h:=bT hb41 h
      refine Rn.movD (gw rfl hb41) rfl (Rn.k (v:=.clo 83 [.ptr (Γ.n0 + 2) 0,.ptr (Γ.n0 + 3) 0]) (gw rfl hb41) rfl rfl rfl ?_)
      obtain ⟨x46,h45,h⟩:=bnd h
      refine Rn.callM (args:=[.d (.lst 3 (List.map Qb x19)),.clo 83 [.ptr (Γ.n0 + 2) 0,.ptr (Γ.n0 + 3) 0]]) (gw rfl hb41) rfl (fun M2 nb2 hn hx=>H_slices_ContainsFunc_Edge _ _ 83 [.ptr (Γ.n0 + 2) 0,.ptr (Γ.n0 + 3) 0] _ h45 M2 nb2 rfl ⟨Qfq (hx _ _ (Qi rfl)),Qfq (hx _ _ (Qi rfl)),tv⟩ (fun a42 r43 h44 M3 nb3 hn3 hx3=>H_timedsynthesis_proof_removes_2 a42 p1 r16 (Γ.n0 + 2) k2 k4 k12 k14 k5 k7 k9 (Γ.n0 + 3) r43 h44 M3 nb3 ((hx.trans hx3) _ _ (Qi rfl)) ((hx.trans hx3) _ _ (Qk hM hk3)) ((hx.trans hx3) _ _ (Qk hM hk11)) ((hx.trans hx3) _ _ (Qk hM hk13)) ((hx.trans hx3) _ _ (Qk hM hk15)) ((hx.trans hx3) _ _ (Qk hM hk6)) ((hx.trans hx3) _ _ (Qk hM hk8)) ((hx.trans hx3) _ _ (Qk hM hk10)) ((hx.trans hx3) _ _ (Qi rfl)))) rfl pc0 ?_
      refine Rn.un (gw rfl hb41) rfl rfl (Rn.pickT (v:=(b_ (!x46))) tv rfl hb41 rfl (md rfl ?_))
      refine Rn.nil ⟨rfl,?_⟩
      refine toN (Tr.ret ?_)
      replace h:=si h; subst h
      exact ⟨.inr rfl,(b_ (!x46)),rfl,fun _ _ _ _ h=>h,tv,fun k hk=>Qf hk⟩
     ·replace h:=bF hb41 h
      refine Rn.sk (nw rfl hb41) (Rn.sk (nw rfl hb41) (Rn.sk (nw rfl hb41) (Rn.sk (nw rfl hb41) (Rn.pickF (v:=(b_ false)) tv rfl hb41 rfl (md rfl ?_)))))
      refine Rn.nil ⟨rfl,?_⟩
      refine toN (Tr.ret ?_)
      replace h:=si h; subst h
      exact ⟨.inr rfl,(b_ false),rfl,fun _ _ _ _ h=>h,tv,fun k hk=>Qf hk⟩
    ·replace h:=bF hb35 h
     refine Rn.sk (nw rfl hb35) (Rn.sk (nw rfl hb35) (Rn.sk (nw rfl hb35) (Rn.pickF (v:=(b_ false)) tv rfl hb35 rfl (md rfl (Rn.sk (nw (b:=false) rfl rfl) (Rn.sk (nw (b:=false) rfl rfl) (Rn.sk (nw (b:=false) rfl rfl) (Rn.sk (nw (b:=false) rfl rfl) (Rn.pickF (v:=(b_ false)) tv rfl rfl rfl (md rfl ?_))))))))))
     refine Rn.nil ⟨rfl,?_⟩
     refine toN (Tr.ret ?_)
     replace h:=si h; subst h
     exact ⟨.inr rfl,(b_ false),rfl,fun _ _ _ _ h=>h,tv,fun k hk=>Qf hk⟩
   ·replace h:=bF hb34 h
    refine sr ((Rn.bin tv rfl rfl rfl (md rfl (Rn.nil (toN ?_)))))
    refine Tr.cond rfl (fun hb47=>?_) (fun hb47=>?_)
    ·replace h:=bT hb47 h
     refine Tr.seq ?_
     refine Tr.rgnD (by decide) ?_
     refine Rn.fldP (o':=3) tv rfl rfl (Rn.load (v:=(i_ r16.Event)) tv rfl (Qi rfl) rfl rfl (Rn.bin tv rfl rfl rfl (md rfl ?_)))
     refine Q8 (r16.Event == (-1)) (fun hb48=>?_) (fun hb48=>?_)
     ·replace h:=bT hb48 h
      refine Rn.load (v:=.ptr k2 0) (gw rfl hb48) rfl (Qi rfl) rfl rfl (Rn.nilchkP (gw rfl hb48) rfl (Rn.fldP (o':=0) (gw rfl hb48) rfl rfl (Rn.load (v:=.ptr k4 0) (gw rfl hb48) rfl (Qk hM hk3) rfl rfl (Rn.nilchkP (gw rfl hb48) rfl (Rn.fldP (o':=0) (gw rfl hb48) rfl rfl (Rn.fldP (o':=0) (gw rfl hb48) rfl rfl (Rn.fldP (o':=2) (gw rfl hb48) rfl rfl (Rn.load (v:=(l_ p1.task_.zN.zA.zK)) (gw rfl hb48) rfl (Qk hM hk11) rfl rfl (Rn.fldP (o':=0) (gw rfl hb48) rfl rfl (Rn.load (v:=(i_ r16.State)) (gw rfl hb48) rfl (Qi rfl) rfl rfl ?_))))))))))
      obtain ⟨x50,h49,h⟩:=bnd h
      refine Rn.call (args:=[(l_ p1.task_.zN.zA.zK),(i_ r16.State)]) (gw rfl hb48) rfl (H_alphabet_Contains _ _ _ h49) pc0 (Rn.un (gw rfl hb48) rfl rfl (Rn.pickT (v:=(b_ (!x50))) tv rfl hb48 rfl (md rfl ?_)))
      refine Q8 x50 (fun hb51=>?_) (fun hb51=>?_)
      ·replace h:=bT hb51 h
       refine Rn.sk (nw rfl (nT hb51)) (Rn.sk (nw rfl (nT hb51)) (Rn.sk (nw rfl (nT hb51)) (Rn.sk (nw rfl (nT hb51)) (Rn.pickF (v:=(b_ false)) tv rfl (nT hb51) rfl (md rfl ?_)))))
       refine Rn.nil ⟨rfl,?_⟩
       refine toN (Tr.ret ?_)
       replace h:=si h; subst h
       exact ⟨.inr rfl,(b_ false),rfl,fun _ _ _ _ h=>h,tv,fun k hk=>Qf hk⟩
      ·replace h:=bF hb51 h
       refine Rn.movD (gw rfl (nF hb51)) rfl (Rn.k (v:=.clo 84 [.ptr (Γ.n0 + 2) 0,.ptr (Γ.n0 + 3) 0]) (gw rfl (nF hb51)) rfl rfl rfl ?_)
       obtain ⟨x56,h55,h⟩:=bnd h
       refine Rn.callM (args:=[.d (.lst 3 (List.map Qb x19)),.clo 84 [.ptr (Γ.n0 + 2) 0,.ptr (Γ.n0 + 3) 0]]) (gw rfl (nF hb51)) rfl (fun M2 nb2 hn hx=>H_slices_ContainsFunc_Edge _ _ 84 [.ptr (Γ.n0 + 2) 0,.ptr (Γ.n0 + 3) 0] _ h55 M2 nb2 rfl ⟨Qfq (hx _ _ (Qi rfl)),Qfq (hx _ _ (Qi rfl)),tv⟩ (fun a52 r53 h54 M3 nb3 hn3 hx3=>H_timedsynthesis_proof_removes_3 a52 p1 r16 (Γ.n0 + 2) k2 k4 k12 k14 k5 k7 k9 (Γ.n0 + 3) r53 h54 M3 nb3 ((hx.trans hx3) _ _ (Qi rfl)) ((hx.trans hx3) _ _ (Qk hM hk3)) ((hx.trans hx3) _ _ (Qk hM hk11)) ((hx.trans hx3) _ _ (Qk hM hk13)) ((hx.trans hx3) _ _ (Qk hM hk15)) ((hx.trans hx3) _ _ (Qk hM hk6)) ((hx.trans hx3) _ _ (Qk hM hk8)) ((hx.trans hx3) _ _ (Qk hM hk10)) ((hx.trans hx3) _ _ (Qi rfl)))) rfl pc0 ?_
       refine Rn.un (gw rfl (nF hb51)) rfl rfl (Rn.pickT (v:=(b_ (!x56))) tv rfl (nF hb51) rfl (md rfl ?_))
       refine Rn.nil ⟨rfl,?_⟩
       refine toN (Tr.ret ?_)
       replace h:=si h; subst h
       exact ⟨.inr rfl,(b_ (!x56)),rfl,fun _ _ _ _ h=>h,tv,fun k hk=>Qf hk⟩
     ·replace h:=bF hb48 h
      refine Rn.sk (nw rfl hb48) (Rn.sk (nw rfl hb48) (Rn.sk (nw rfl hb48) (Rn.sk (nw rfl hb48) (Rn.sk (nw rfl hb48) (Rn.sk (nw rfl hb48) (Rn.sk (nw rfl hb48) (Rn.sk (nw rfl hb48) (Rn.sk (nw rfl hb48) (Rn.sk (nw rfl hb48) (Rn.sk (nw rfl hb48) (Rn.sk (nw rfl hb48) (Rn.sk (nw rfl hb48) (Rn.pickF (v:=(b_ false)) tv rfl hb48 rfl (md rfl (Rn.sk (nw (b:=false) rfl rfl) (Rn.sk (nw (b:=false) rfl rfl) (Rn.sk (nw (b:=false) rfl rfl) (Rn.sk (nw (b:=false) rfl rfl) (Rn.pickF (v:=(b_ false)) tv rfl rfl rfl (md rfl ?_))))))))))))))))))))
      refine Rn.nil ⟨rfl,?_⟩
      refine toN (Tr.ret ?_)
      replace h:=si h; subst h
      exact ⟨.inr rfl,(b_ false),rfl,fun _ _ _ _ h=>h,tv,fun k hk=>Qf hk⟩
    ·replace h:=bF hb47 h
     refine Tr.skip (toN (sr ((md rfl (nt ((Tr.ret ?_)))))))
     replace h:=si h; subst h
     exact ⟨.inr rfl,(b_ false),rfl,fun _ _ _ _ h=>h,tv,fun k hk=>Qf hk⟩
theorem Qrg {P:Program} {c:Nat} {Qbi:Qj→Qc→Option Bool}
    (H_timedsynthesis_proof_removes:Qew P 61 Qbi) (hcf:Q1 P c = some Qgq):Qgp P c (Qb3 Qbi):=by
 intro r1 x2 k3 k5 k7 k15 k17 k8 k10 k12 r h
 intro M nb hk4 hk6 hk14 hk16 hk18 hk9 hk11 hk13
 refine Qg8 hcf rfl M nb fun Γ hP hnt hn0 hM=>?_
 subst hP hn0
 refine Tr.init [(0,(Qci r1)),(1,.ptr k3 0)] rfl ?_
 unfold Qb3 at h
 unfold Qgq
 refine sr ((Rn.box (v:=(Qci r1)) (cs:=(Qcu r1)) tv rfl rfl rfl rfl rfl (md rfl (nt ((sr ((Rn.load (v:=.ptr k5 0) tv rfl (Qk hM hk4) rfl rfl (Rn.load (v:=(Qci r1)) tv rfl (Qi rfl) rfl rfl ?_)))))))))
 obtain ⟨x20,h19,h⟩:=bnd h
 refine Rn.callM (args:=[.ptr k5 0,(Qci r1)]) tv rfl (fun M2 nb2 hn hx=>H_timedsynthesis_proof_removes _ _ k5 k7 k15 k17 k8 k10 k12 _ h19 M2 nb2 (hx _ _ (Qk hM hk6)) (hx _ _ (Qk hM hk14)) (hx _ _ (Qk hM hk16)) (hx _ _ (Qk hM hk18)) (hx _ _ (Qk hM hk9)) (hx _ _ (Qk hM hk11)) (hx _ _ (Qk hM hk13))) rfl pc9 ?_
 refine Rn.un tv rfl rfl (md rfl (nt ((Tr.ret ?_))))
 replace h:=si h; subst h
 exact ⟨.inr rfl,(b_ (!x20)),rfl,fun _ _ _ _ h=>h,tv,fun k hk=>Qf hk⟩
theorem Qqm {P:Program} {c:Nat} (hcf:Q1 P c = some Qf7) (fuel:Nat):Qf6 P c (Qbw fuel):=by
 intro s1 f2 g3 cp4 r h
 intro M nb hc5 ho7 hf6
 refine Qg8 hcf rfl M nb fun Γ hP hnt hn0 hM=>?_
 subst hP hn0
 refine Tr.init [(0,.d (.lst 4 (List.map Qg s1))),(1,.clo g3 cp4)] rfl ?_
 unfold Qbw at h
 unfold Qf7
 refine sr ((md rfl (nt ((Tr.seq (sr ((md rfl (Rn.lenD tv rfl (md rfl (nt ((Tr.block ?_)))))))))))))
 refine Tr.loop (mk:=fun (x9:Int)=>⟨look [(0,.d (.lst 4 (List.map Qg s1))),(1,.clo g3 cp4),(7,(i_ (s1.length:Int))),(8,(i_ x9))],Qr Γ.n0 (bxs []) M,Γ.n0 + 19⟩) h (by exact Qx ⟨(sm rfl),(kFun hM ho7),(sm rfl),(sm rfl),tv⟩ tv rfl) (fun k10 z h=>?_)
 ·obtain ⟨x9,rfl⟩ : ∃ x,x = z:=⟨_,rfl⟩
  replace h:_ = some _:=h
  refine sr ((Rn.bin tv rfl rfl rfl (nt ((Tr.seq ?_)))))
  refine Tr.cond rfl (fun hb11=>?_) (fun hb11=>?_)
  ·replace h:=ifT hb11 h
   refine Tr.skip (toN (Tr.seq (Tr.block (sr ((md rfl (md rfl (nt ((sr ((Rn.mov (v:=.clo g3 cp4) tv rfl (md rfl (md rfl ?_))))))))))))))
   obtain ⟨x12,h13,h⟩:=bnd h
   refine Rn.idxD (e:=Qg) tv rfl rfl h13 (Rn.loadCA (vs:=(Qcu x12)) tv rfl rfl rfl ?_)
   obtain ⟨x15,h14,h⟩:=bnd h
   refine Rn.callvM (args:=[(Qci x12)] ++ cp4) tv rfl (by rw [hc5]; rfl) (fun M2 nb2 hn hx=>hf6 _ _ h14 M2 nb2 (by omega) ((Q02 hM).trans hx)) rfl pc9 ?_
   refine Rn.nil (toN ?_)
   refine Tr.cond rfl (fun hb16=>?_) (fun hb16=>?_)
   ·replace h:=bT hb16 h
    refine sr ((md rfl (md rfl (nt ((Tr.ret ?_))))))
    replace h:=si h; subst h
    exact ⟨.inr rfl,(i_ x9),rfl,fun _ _ _ _ h=>h,tv,fun k hk=>Qf hk⟩
   ·replace h:=bF hb16 h
    refine Tr.skip (toN (Tr.rgn (Rn.bin tv rfl rfl rfl (md rfl (Rn.nil ?_)))))
    exact ⟨_,h,(by exact Qx ⟨(sm rfl),(kFun hM ho7),(sm rfl),(sm rfl),tv⟩ tv rfl)⟩
  ·replace h:=ifF hb11 h
   refine Tr.exit (toN (sr ((md rfl (nt ((Tr.ret ?_)))))))
   replace h:=si h; subst h
   exact ⟨.inr rfl,(i_ (-1)),rfl,fun _ _ _ _ h=>h,tv,fun k hk=>Qf hk⟩
theorem Qmw {P:Program} {c:Nat} {Qbw:(List Qc)→(Qc→Option Bool)→Option Int}
    (H_slices_IndexFunc_Removal:Qf6 P 80 Qbw) (hcf:Q1 P c = some Qe6):Qe5 P c (Qbn Qbw):=by
 intro s1 f2 g3 cp4 r h
 intro M nb hc5 ho7 hf6
 refine Qg8 hcf rfl M nb fun Γ hP hnt hn0 hM=>?_
 subst hP hn0
 refine Tr.init [(0,.d (.lst 4 (List.map Qg s1))),(1,.clo g3 cp4)] rfl ?_
 unfold Qbn at h
 unfold Qe6
 refine sr ((md rfl (nt ((sr ((md rfl (Rn.mov (v:=.clo g3 cp4) tv rfl ?_))))))))
 obtain ⟨x13,h12,h⟩:=bnd h
 refine Rn.callM (args:=[.d (.lst 4 (List.map Qg s1)),.clo g3 cp4]) tv rfl (fun M2 nb2 hn hx=>H_slices_IndexFunc_Removal _ _ g3 cp4 _ h12 M2 nb2 hc5 (Qbgf ((Q02 hM).trans hx) ho7) (fun a9 r10 h11 M3 nb3 hn3 hx3=>hf6 a9 r10 h11 M3 nb3 (by omega) ((Q02 hM).trans (hx.trans hx3)))) rfl pc9 ?_
 refine Rn.bin tv rfl rfl rfl (md rfl (nt ((Tr.ret ?_))))
 replace h:=si h; subst h
 exact ⟨.inr rfl,(b_ (decide (x13≥0))),rfl,fun _ _ _ _ h=>h,tv,fun k hk=>Qf hk⟩
theorem Qs8 {P:Program} {c:Nat} {Qw:Qa→Option Int} {Q2:Qa→Option Qd} {Q3:(List Int)→(Int→Option Bool)→Option Bool} {Qcn:Qd→Qv→Option (Qj×Bool×Qd)} {Qb2:Int→Qj→Option Bool} {Qbn:(List Qc)→(Qc→Option Bool)→Option Bool} {Qb3:Qc→Qj→Option Bool}
    (H_timedsynthesis_Check:Qdr P 30 Qw)
    (H_timedsynthesis_begin:Qeh P 37 Q2)
    (H_slices_ContainsFunc_int:Qel P 51 Q3)
    (H_timedsynthesis_open:Qii P 56 Qcn)
    (H_timedsynthesis_Verify_1:Qgn P 57 Qb2)
    (H_slices_ContainsFunc_Removal:Qe5 P 59 Qbn)
    (H_timedsynthesis_Verify_2:Qgp P 60 Qb3) (hcf:Q1 P c = some Qhe):Qhd P c (Qb4 Qw Q2 Q3 Qcn Qb2 Qbn Qb3):=by
 intro p1 c2 r h
 refine Qf3 hcf rfl fun Γ M hP hnt hM=>?_
 subst hP
 refine Tr.init [(0,.agg [(l_ p1.zA.zJ),(i_ p1.zA.zM),(l_ p1.zA.zK),.d (.lst 3 (List.map Qb p1.zA.zL)),(l_ p1.zC),(l_ p1.zB),(l_ p1.zD),(i_ p1.Tick)]),(1,(Q7 c2))] rfl ?_
 unfold Qb4 at h
 unfold Qhe
 refine sr ((Rn.box (v:=.agg [(l_ p1.zA.zJ),(i_ p1.zA.zM),(l_ p1.zA.zK),.d (.lst 3 (List.map Qb p1.zA.zL)),(l_ p1.zC),(l_ p1.zB),(l_ p1.zD),(i_ p1.Tick)]) (cs:=[(l_ p1.zA.zJ),(i_ p1.zA.zM),(l_ p1.zA.zK),.d (.lst 3 (List.map Qb p1.zA.zL)),(l_ p1.zC),(l_ p1.zB),(l_ p1.zD),(i_ p1.Tick)]) tv rfl rfl rfl rfl rfl (Rn.box (v:=(Q7 c2)) (cs:=(Qby c2)) tv rfl rfl rfl rfl rfl (md rfl (nt ((Tr.seq (sr ((Rn.load (v:=.agg [(l_ p1.zA.zJ),(i_ p1.zA.zM),(l_ p1.zA.zK),.d (.lst 3 (List.map Qb p1.zA.zL)),(l_ p1.zC),(l_ p1.zB),(l_ p1.zD),(i_ p1.Tick)]) tv rfl (Qi rfl) rfl rfl ?_))))))))))
 obtain ⟨x4,h3,h⟩:=bnd h
 refine Rn.call (args:=[.agg [(l_ p1.zA.zJ),(i_ p1.zA.zM),(l_ p1.zA.zK),.d (.lst 3 (List.map Qb p1.zA.zL)),(l_ p1.zC),(l_ p1.zB),(l_ p1.zD),(i_ p1.Tick)]]) tv rfl (H_timedsynthesis_Check _ _ h3) pc9 (md rfl (nt ((sr ((md rfl (Rn.bin tv rfl rfl rfl (Rn.nil (toN ?_)))))))))
 refine Tr.cond rfl (fun hb5=>?_) (fun hb5=>?_)
 ·replace h:=bT hb5 h
  refine sr ((md rfl (md rfl (nt ((Tr.ret ?_))))))
  replace h:=si h; subst h
  exact ⟨.inr rfl,(i_ x4),rfl,fun _ _ _ _ h=>h,tv,fun k hk=>Qf hk⟩
 ·replace h:=bF hb5 h
  refine Tr.skip (toN (Tr.seq ?_))
  refine Tr.rgnD (by decide) ?_
  refine Rn.load (v:=.agg [(l_ p1.zA.zJ),(i_ p1.zA.zM),(l_ p1.zA.zK),.d (.lst 3 (List.map Qb p1.zA.zL)),(l_ p1.zC),(l_ p1.zB),(l_ p1.zD),(i_ p1.Tick)]) tv rfl (Qi rfl) rfl rfl ?_
  obtain ⟨x6,h7,h⟩:=bnd h
  refine Rn.callNewX (m:=34) (args:=[.agg [(l_ p1.zA.zJ),(i_ p1.zA.zM),(l_ p1.zA.zK),.d (.lst 3 (List.map Qb p1.zA.zL)),(l_ p1.zC),(l_ p1.zB),(l_ p1.zD),(i_ p1.Tick)]]) (r':=.ptr (Γ.n0 + 51) 0) (L':=[(51,.cells [(l_ x6.zN.zA.zJ),(i_ x6.zN.zA.zM),(l_ x6.zN.zA.zK),.d (.lst 3 (List.map Qb x6.zN.zA.zL)),(l_ x6.zN.zC),(l_ x6.zN.zB),(l_ x6.zN.zD),(i_ x6.zN.Tick),.sl 1 (Γ.n0 + 45) 0 x6.from_.length x6.from_.length,.sl 1 (Γ.n0 + 49) 0 x6.left_.length x6.left_.length]),(45,.cells (Qz (fun (x:List Qe)=>[V.d (.lst 3 (List.map Qb x))]) x6.from_)),(49,.cells (Qz (fun (x:Bool)=>[V.d (.bool x)]) x6.left_))]) tv rfl (fun M2=>H_timedsynthesis_begin _ _ h7 M2 _) rfl rfl rfl rfl ?_
  refine Rn.load (v:=(Q7 c2)) tv rfl (Qi rfl) rfl rfl ?_
  obtain ⟨⟨r8,ok9,c10⟩,h11,h⟩:=bnd h
  refine Q8 ok9 (fun hb12=>?_) (fun hb12=>?_)
  ·replace h:=bT hb12 h
   refine Rn.callNW (m:=100) (args:=[.ptr (Γ.n0 + 51) 0,(Q7 c2)]) (r':=.tup [.ptr (Γ.n0 + 144) 0,(b_ true)]) (B:=[((Γ.n0 + 49),.cells (Qz (fun (x:Bool)=>[V.d (.bool x)]) c10.left_))]) (L':=[(144,.cells ([.ptr (Γ.n0 + 51) 0,.sl 1 (Γ.n0 + 138) 0 r8.ranks_.length r8.ranks_.length,.sl 1 (Γ.n0 + 140) 0 r8.distances_.length r8.distances_.length,.sl 1 (Γ.n0 + 142) 0 r8.reasons_.length r8.reasons_.length])),(138,.cells (Qz (fun (x:Int)=>[V.d (.int .i64 x)]) r8.ranks_)),(140,.cells (Qz (fun (x:Int)=>[V.d (.int .i64 x)]) r8.distances_)),(142,.cells (Qz (fun (x:Int)=>[V.d (.int .i64 x)]) r8.reasons_))]) tv rfl (fun M2 hx0=>have hx:=Qbkn hx0; nwT hb12 (H_timedsynthesis_open _ _ (Γ.n0 + 51) (Γ.n0 + 45) (Γ.n0 + 49) _ h11 M2 _ (hx _ _ (Qi rfl)) (hx _ _ (Qi rfl)) (hx _ _ (Qi rfl)) (Qbh4 rfl) (Qbh4 rfl))) rfl ⟨(.inl (Nat.le_add_right _ _)),tv⟩ ⟨isS (Qi rfl),tv⟩ hM (Qbkm cw0) rfl rfl rfl rfl ?_
   refine Rn.mov (v:=.tup [.ptr (Γ.n0 + 144) 0,(b_ true)]) tv rfl (Rn.ext (v:=.ptr (Γ.n0 + 144) 0) (vs:=[.ptr (Γ.n0 + 144) 0,(b_ true)]) tv rfl rfl rfl (Rn.ext (v:=(b_ true)) (vs:=[.ptr (Γ.n0 + 144) 0,(b_ true)]) tv rfl rfl rfl (Rn.alloc tv rfl (Rn.store (v:=.ptr (Γ.n0 + 144) 0) (cs':=[.ptr (Γ.n0 + 144) 0]) tv rfl rfl rfl rfl rfl rfl (md rfl ?_)))))
   refine Rn.nil ⟨rfl,?_⟩
   refine toN (Tr.seq ?_)
   refine Tr.cutB (fun (x26:Bool)=>⟨look [(33,(b_ x26))],Qr Γ.n0 (bxs [(2,.cells ([(l_ p1.zA.zJ),(i_ p1.zA.zM),(l_ p1.zA.zK),.d (.lst 3 (List.map Qb p1.zA.zL)),(l_ p1.zC),(l_ p1.zB),(l_ p1.zD),(i_ p1.Tick)])),(3,.cells ((Qby c2))),(6,.cells ([.ptr (Γ.n0 + 144) 0])),(45,.cells (Qz (fun (x:List Qe)=>[V.d (.lst 3 (List.map Qb x))]) x6.from_)),(49,.cells (Qz (fun (x:Bool)=>[V.d (.bool x)]) c10.left_)),(51,.cells ([(l_ x6.zN.zA.zJ),(i_ x6.zN.zA.zM),(l_ x6.zN.zA.zK),.d (.lst 3 (List.map Qb x6.zN.zA.zL)),(l_ x6.zN.zC),(l_ x6.zN.zB),(l_ x6.zN.zD),(i_ x6.zN.Tick),.sl 1 (Γ.n0 + 45) 0 x6.from_.length x6.from_.length,.sl 1 (Γ.n0 + 49) 0 x6.left_.length x6.left_.length])),(138,.cells (Qz (fun (x:Int)=>[V.d (.int .i64 x)]) r8.ranks_)),(140,.cells (Qz (fun (x:Int)=>[V.d (.int .i64 x)]) r8.distances_)),(142,.cells (Qz (fun (x:Int)=>[V.d (.int .i64 x)]) r8.reasons_)),(144,.cells ([.ptr (Γ.n0 + 51) 0,.sl 1 (Γ.n0 + 138) 0 r8.ranks_.length r8.ranks_.length,.sl 1 (Γ.n0 + 140) 0 r8.distances_.length r8.distances_.length,.sl 1 (Γ.n0 + 142) 0 r8.reasons_.length r8.reasons_.length]))]) M,Γ.n0 + 269⟩) h (fun z h=>?_) (fun z h=>?_)
   ·refine Tr.rgn (md rfl (Rn.un tv rfl rfl (md rfl (Rn.fldP (o':=0) (gw rfl (nT rfl)) rfl rfl (Rn.load (v:=(l_ c2.Kept)) (gw rfl (nT rfl)) rfl (Qi rfl) rfl rfl (Rn.k (v:=.clo 57 [.ptr (Γ.n0 + 6) 0]) (gw rfl (nT rfl)) rfl rfl rfl ?_))))))
    obtain ⟨⟨⟩,hl16,h⟩:=bnd h
    obtain ⟨x18,h17,h⟩:=bnd h
    refine Rn.callM (args:=[(l_ c2.Kept),.clo 57 [.ptr (Γ.n0 + 6) 0]]) (gw rfl (nT rfl)) rfl (fun M2 nb2 hn hx=>H_slices_ContainsFunc_int _ _ 57 [.ptr (Γ.n0 + 6) 0] _ h17 M2 nb2 rfl ⟨Qfq (hx _ _ (Qi rfl)),tv⟩ (fun a13 r14 h15 M3 nb3 hn3 hx3=>H_timedsynthesis_Verify_1 a13 (Qj.mk (Qd.mk x6.zN x6.from_ c10.left_) r8.ranks_ r8.distances_ r8.reasons_) (Γ.n0 + 6) (Γ.n0 + 144) (Γ.n0 + 51) (Γ.n0 + 45) (Γ.n0 + 49) (Γ.n0 + 138) (Γ.n0 + 140) (Γ.n0 + 142) r14 h15 M3 nb3 ((hx.trans hx3) _ _ (Qi rfl)) ((hx.trans hx3) _ _ (Qi rfl)) (by rw [Qd4 hl16]; exact ((hx.trans hx3) _ _ (Qi rfl))) ((hx.trans hx3) _ _ (Qi rfl)) ((hx.trans hx3) _ _ (Qi rfl)) ((hx.trans hx3) _ _ (Qi rfl)) ((hx.trans hx3) _ _ (Qi rfl)) ((hx.trans hx3) _ _ (Qi rfl)))) rfl pc9 ?_
    refine Rn.pickF (v:=(b_ x18)) tv rfl (nT rfl) rfl (md rfl ?_)
    refine Q8 x18 (fun hb19=>?_) (fun hb19=>?_)
    ·replace h:=bT hb19 h
     refine Rn.sk (nw rfl hb19) (Rn.sk (nw rfl hb19) (Rn.sk (nw rfl hb19) (Rn.sk (nw rfl hb19) (Rn.pickT (v:=(b_ true)) tv rfl hb19 rfl (Rn.nil ?_)))))
     replace h:=si h; subst h
     exact Qn [] ⟨(sm rfl),tv⟩ ⟨⟨_,rfl,rfl,(.same rfl)⟩,⟨_,rfl,rfl,(.same rfl)⟩,⟨_,rfl,rfl,(.cons (kPtr rfl) .nil)⟩,⟨_,rfl,rfl,(Qu fun _=>rfl)⟩,⟨_,rfl,rfl,(Qu fun _=>rfl)⟩,⟨_,rfl,rfl,(.cons (sm rfl) (.cons (sm rfl) (.cons (sm rfl) (.cons (sm rfl) (.cons (sm rfl) (.cons (sm rfl) (.cons (sm rfl) (.cons (sm rfl) (.cons (kSl rfl) (.cons (kSl rfl) .nil))))))))))⟩,⟨_,rfl,rfl,(Qu fun _=>rfl)⟩,⟨_,rfl,rfl,(Qu fun _=>rfl)⟩,⟨_,rfl,rfl,(Qu fun _=>rfl)⟩,⟨_,rfl,rfl,(.cons (kPtr rfl) (.cons (kSl rfl) (.cons (kSl rfl) (.cons (kSl rfl) .nil))))⟩,tv⟩ rfl
    ·replace h:=bF hb19 h
     refine Rn.fldP (o':=2) (gw rfl hb19) rfl rfl (Rn.load (v:=.d (.lst 4 (List.map Qg c2.zG))) (gw rfl hb19) rfl (Qi rfl) rfl rfl (Rn.k (v:=.clo 60 [.ptr (Γ.n0 + 6) 0]) (gw rfl hb19) rfl rfl rfl ?_))
     obtain ⟨⟨⟩,hl23,h⟩:=bnd h
     obtain ⟨x25,h24,h⟩:=bnd h
     refine Rn.callM (args:=[.d (.lst 4 (List.map Qg c2.zG)),.clo 60 [.ptr (Γ.n0 + 6) 0]]) (gw rfl hb19) rfl (fun M2 nb2 hn hx=>H_slices_ContainsFunc_Removal _ _ 60 [.ptr (Γ.n0 + 6) 0] _ h24 M2 nb2 rfl ⟨Qfq (hx _ _ (Qi rfl)),tv⟩ (fun a20 r21 h22 M3 nb3 hn3 hx3=>H_timedsynthesis_Verify_2 a20 (Qj.mk (Qd.mk x6.zN x6.from_ c10.left_) r8.ranks_ r8.distances_ r8.reasons_) (Γ.n0 + 6) (Γ.n0 + 144) (Γ.n0 + 51) (Γ.n0 + 45) (Γ.n0 + 49) (Γ.n0 + 138) (Γ.n0 + 140) (Γ.n0 + 142) r21 h22 M3 nb3 ((hx.trans hx3) _ _ (Qi rfl)) ((hx.trans hx3) _ _ (Qi rfl)) (by rw [Qd4 hl23]; exact ((hx.trans hx3) _ _ (Qi rfl))) ((hx.trans hx3) _ _ (Qi rfl)) ((hx.trans hx3) _ _ (Qi rfl)) ((hx.trans hx3) _ _ (Qi rfl)) ((hx.trans hx3) _ _ (Qi rfl)) ((hx.trans hx3) _ _ (Qi rfl)))) rfl pc9 ?_
     refine Rn.pickF (v:=(b_ x25)) tv rfl hb19 rfl (Rn.nil ?_)
     replace h:=si h; subst h
     exact Qn [] ⟨(sm rfl),tv⟩ ⟨⟨_,rfl,rfl,(.same rfl)⟩,⟨_,rfl,rfl,(.same rfl)⟩,⟨_,rfl,rfl,(.cons (kPtr rfl) .nil)⟩,⟨_,rfl,rfl,(Qu fun _=>rfl)⟩,⟨_,rfl,rfl,(Qu fun _=>rfl)⟩,⟨_,rfl,rfl,(.cons (sm rfl) (.cons (sm rfl) (.cons (sm rfl) (.cons (sm rfl) (.cons (sm rfl) (.cons (sm rfl) (.cons (sm rfl) (.cons (sm rfl) (.cons (kSl rfl) (.cons (kSl rfl) .nil))))))))))⟩,⟨_,rfl,rfl,(Qu fun _=>rfl)⟩,⟨_,rfl,rfl,(Qu fun _=>rfl)⟩,⟨_,rfl,rfl,(Qu fun _=>rfl)⟩,⟨_,rfl,rfl,(.cons (kPtr rfl) (.cons (kSl rfl) (.cons (kSl rfl) (.cons (kSl rfl) .nil))))⟩,tv⟩ rfl
   ·obtain ⟨x26,rfl⟩ : ∃ x,x = z:=⟨_,rfl⟩
    refine Tr.cond rfl (fun hb27=>?_) (fun hb27=>?_)
    ·replace h:=bT hb27 h
     refine sr ((md rfl (nt ((Tr.ret ?_)))))
     replace h:=si h; subst h
     exact ⟨.inr rfl,(i_ 24),rfl,fun _ _ _ _ h=>h,tv,fun k hk=>Qf hk⟩
    ·replace h:=bF hb27 h
     refine Tr.skip (toN (sr ((md rfl (nt ((Tr.ret ?_)))))))
     replace h:=si h; subst h
     exact ⟨.inr rfl,(i_ 0),rfl,fun _ _ _ _ h=>h,tv,fun k hk=>Qf hk⟩
  ·replace h:=bF hb12 h
   refine Rn.callNW (m:=100) (args:=[.ptr (Γ.n0 + 51) 0,(Q7 c2)]) (r':=.tup [.nilp,(b_ false)]) (B:=[((Γ.n0 + 49),.cells (Qz (fun (x:Bool)=>[V.d (.bool x)]) c10.left_))]) (L':=[]) tv rfl (fun M2 hx0=>have hx:=Qbkn hx0; nwF hb12 (H_timedsynthesis_open _ _ (Γ.n0 + 51) (Γ.n0 + 45) (Γ.n0 + 49) _ h11 M2 _ (hx _ _ (Qi rfl)) (hx _ _ (Qi rfl)) (hx _ _ (Qi rfl)) (Qbh4 rfl) (Qbh4 rfl))) rfl ⟨(.inl (Nat.le_add_right _ _)),tv⟩ ⟨isS (Qi rfl),tv⟩ hM (Qbkm cw0) rfl rfl rfl rfl ?_
   refine Rn.mov (v:=.tup [.nilp,(b_ false)]) tv rfl (Rn.ext (v:=.nilp) (vs:=[.nilp,(b_ false)]) tv rfl rfl rfl (Rn.ext (v:=(b_ false)) (vs:=[.nilp,(b_ false)]) tv rfl rfl rfl (Rn.alloc tv rfl (Rn.store (v:=.nilp) (cs':=[.nilp]) tv rfl rfl rfl rfl rfl rfl (md rfl ?_)))))
   refine Rn.nil ⟨rfl,?_⟩
   refine toN (Tr.seq (sr ((md rfl (Rn.un tv rfl rfl (md rfl (Rn.sk (nw rfl (nF rfl)) (Rn.sk (nw rfl (nF rfl)) (Rn.sk (nw rfl (nF rfl)) (Rn.sk (nw rfl (nF rfl)) (Rn.pickT (v:=(b_ true)) tv rfl (nF rfl) rfl (md rfl (Rn.sk (nw (b:=true) rfl rfl) (Rn.sk (nw (b:=true) rfl rfl) (Rn.sk (nw (b:=true) rfl rfl) (Rn.sk (nw (b:=true) rfl rfl) (Rn.pickT (v:=(b_ true)) tv rfl rfl rfl (nt ((Tr.condT rfl rfl (sr ((md rfl (nt ((Tr.ret ?_))))))))))))))))))))))))))
   replace h:=si h; subst h
   exact ⟨.inr rfl,(i_ 24),rfl,fun _ _ _ _ h=>h,tv,fun k hk=>Qf hk⟩
theorem Qy8 {P:Program} {c:Nat} {Qdi:(List Int)→(List Int)→Option Bool}
    (H_word_Equal:Qtl P 16 Qdi) (hcf:Q1 P c = some Qjc) (fuel:Nat):Qjb P c (Qcv Qdi fuel):=by
 intro a1 b2 r h
 refine Qf3 hcf rfl fun Γ M hP hnt hM=>?_
 subst hP
 refine Tr.init [(0,(Q7 a1)),(1,(Q7 b2))] rfl ?_
 unfold Qcv at h
 unfold Qjc
 refine sr ((Rn.box (v:=(Q7 a1)) (cs:=(Qby a1)) tv rfl rfl rfl rfl rfl (Rn.box (v:=(Q7 b2)) (cs:=(Qby b2)) tv rfl rfl rfl rfl rfl (md rfl (nt ((Tr.seq ?_)))))))
 refine Tr.cutB (fun (x9:Bool)=>⟨look [(2,.ptr (Γ.n0 + 2) 0),(3,.ptr (Γ.n0 + 3) 0),(28,(b_ x9))],Qr Γ.n0 (bxs [(2,.cells ((Qby a1))),(3,.cells ((Qby b2)))]) M,Γ.n0 + 47⟩) h (fun z h=>?_) (fun z h=>?_)
 ·refine Tr.rgn (Rn.fldP (o':=0) tv rfl rfl (Rn.load (v:=(l_ a1.Kept)) tv rfl (Qi rfl) rfl rfl (Rn.fldP (o':=0) tv rfl rfl (Rn.load (v:=(l_ b2.Kept)) tv rfl (Qi rfl) rfl rfl ?_))))
  obtain ⟨x4,h3,h⟩:=bnd h
  refine Rn.call (args:=[(l_ a1.Kept),(l_ b2.Kept)]) tv rfl (H_word_Equal _ _ _ h3) pc9 (Rn.un tv rfl rfl (md rfl ?_))
  refine Q8 x4 (fun hb5=>?_) (fun hb5=>?_)
  ·replace h:=bT hb5 h
   refine Rn.fldP (o':=1) (gw rfl (nT hb5)) rfl rfl (Rn.load (v:=(l_ a1.zF)) (gw rfl (nT hb5)) rfl (Qi rfl) rfl rfl (Rn.fldP (o':=1) (gw rfl (nT hb5)) rfl rfl (Rn.load (v:=(l_ b2.zF)) (gw rfl (nT hb5)) rfl (Qi rfl) rfl rfl ?_)))
   obtain ⟨x7,h6,h⟩:=bnd h
   refine Rn.call (args:=[(l_ a1.zF),(l_ b2.zF)]) (gw rfl (nT hb5)) rfl (H_word_Equal _ _ _ h6) pc9 (Rn.un (gw rfl (nT hb5)) rfl rfl (Rn.pickF (v:=(b_ (!x7))) tv rfl (nT hb5) rfl (md rfl ?_)))
   refine Q8 x7 (fun hb8=>?_) (fun hb8=>?_)
   ·replace h:=bT hb8 h
    refine Rn.fldP (o':=2) (gw rfl (nT hb8)) rfl rfl (Rn.load (v:=.d (.lst 4 (List.map Qg a1.zG))) (gw rfl (nT hb8)) rfl (Qi rfl) rfl rfl (Rn.lenD (gw rfl (nT hb8)) rfl (Rn.fldP (o':=2) (gw rfl (nT hb8)) rfl rfl (Rn.load (v:=.d (.lst 4 (List.map Qg b2.zG))) (gw rfl (nT hb8)) rfl (Qi rfl) rfl rfl (Rn.lenD (gw rfl (nT hb8)) rfl (Rn.bin (gw rfl (nT hb8)) rfl rfl rfl (Rn.pickF (v:=(b_ ((a1.zG.length:Int) != (b2.zG.length:Int)))) tv rfl (nT hb8) rfl (Rn.nil ?_))))))))
    replace h:=si h; subst h
    exact Qn [] ⟨(kPtr rfl),(kPtr rfl),(sm rfl),tv⟩ ⟨⟨_,rfl,rfl,(.same rfl)⟩,⟨_,rfl,rfl,(.same rfl)⟩,tv⟩ rfl
   ·replace h:=bF hb8 h
    refine Rn.sk (nw rfl (nF hb8)) (Rn.sk (nw rfl (nF hb8)) (Rn.sk (nw rfl (nF hb8)) (Rn.sk (nw rfl (nF hb8)) (Rn.sk (nw rfl (nF hb8)) (Rn.sk (nw rfl (nF hb8)) (Rn.sk (nw rfl (nF hb8)) (Rn.pickT (v:=(b_ true)) tv rfl (nF hb8) rfl (Rn.nil ?_))))))))
    replace h:=si h; subst h
    exact Qn [] ⟨(kPtr rfl),(kPtr rfl),(sm rfl),tv⟩ ⟨⟨_,rfl,rfl,(.same rfl)⟩,⟨_,rfl,rfl,(.same rfl)⟩,tv⟩ rfl
  ·replace h:=bF hb5 h
   refine Rn.sk (nw rfl (nF hb5)) (Rn.sk (nw rfl (nF hb5)) (Rn.sk (nw rfl (nF hb5)) (Rn.sk (nw rfl (nF hb5)) (Rn.sk (nw rfl (nF hb5)) (Rn.sk (nw rfl (nF hb5)) (Rn.pickT (v:=(b_ true)) tv rfl (nF hb5) rfl (md rfl (Rn.sk (nw (b:=true) rfl rfl) (Rn.sk (nw (b:=true) rfl rfl) (Rn.sk (nw (b:=true) rfl rfl) (Rn.sk (nw (b:=true) rfl rfl) (Rn.sk (nw (b:=true) rfl rfl) (Rn.sk (nw (b:=true) rfl rfl) (Rn.sk (nw (b:=true) rfl rfl) (Rn.pickT (v:=(b_ true)) tv rfl rfl rfl (Rn.nil ?_))))))))))))))))
   replace h:=si h; subst h
   exact Qn [] ⟨(kPtr rfl),(kPtr rfl),(sm rfl),tv⟩ ⟨⟨_,rfl,rfl,(.same rfl)⟩,⟨_,rfl,rfl,(.same rfl)⟩,tv⟩ rfl
 ·obtain ⟨x9,rfl⟩ : ∃ x,x = z:=⟨_,rfl⟩
  refine Tr.cond rfl (fun hb10=>?_) (fun hb10=>?_)
  ·replace h:=bT hb10 h
   refine sr ((md rfl (nt ((Tr.ret ?_)))))
   replace h:=si h; subst h
   exact ⟨.inr rfl,(b_ false),rfl,fun _ _ _ _ h=>h,tv,fun k hk=>Qf hk⟩
  ·replace h:=bF hb10 h
   refine Tr.skip (toN (Tr.seq (sr ((md rfl (nt ((Tr.block ?_))))))))
   refine Tr.loop (mk:=fun (i11:Int)=>⟨look [(2,.ptr (Γ.n0 + 2) 0),(3,.ptr (Γ.n0 + 3) 0),(5,(i_ i11))],Qr Γ.n0 (bxs [(2,.cells ((Qby a1))),(3,.cells ((Qby b2)))]) M,Γ.n0 + 47⟩) h (by exact Qx ⟨(kPtr rfl),(kPtr rfl),(sm rfl),tv⟩ ⟨⟨_,rfl,rfl,(.same rfl)⟩,⟨_,rfl,rfl,(.same rfl)⟩,tv⟩ rfl) (fun k12 z h=>?_)
   ·obtain ⟨i11,rfl⟩ : ∃ x,x = z:=⟨_,rfl⟩
    replace h:_ = some _:=h
    refine Tr.seq (sr ((md rfl (Rn.fldP (o':=2) tv rfl rfl (Rn.load (v:=.d (.lst 4 (List.map Qg a1.zG))) tv rfl (Qi rfl) rfl rfl (Rn.lenD tv rfl (Rn.bin tv rfl rfl rfl (Rn.nil (toN ?_)))))))))
    refine Tr.cond rfl (fun hb13=>?_) (fun hb13=>?_)
    ·replace h:=ifT hb13 h
     refine Tr.skip (toN (Tr.seq (Tr.block (Tr.seq ?_))))
     refine Tr.rgnD (by decide) ?_
     refine Rn.fldP (o':=2) tv rfl rfl (Rn.load (v:=.d (.lst 4 (List.map Qg a1.zG))) tv rfl (Qi rfl) rfl rfl (md rfl ?_))
     obtain ⟨x14,h15,h⟩:=bnd h
     refine Rn.idxD (e:=Qg) tv rfl rfl h15 (Rn.loadCA (vs:=(Qcu x14)) tv rfl rfl rfl (Rn.fldP (o':=2) tv rfl rfl (Rn.load (v:=.d (.lst 4 (List.map Qg b2.zG))) tv rfl (Qi rfl) rfl rfl (md rfl ?_))))
     obtain ⟨x16,h17,h⟩:=bnd h
     refine Rn.idxD (e:=Qg) tv rfl rfl h17 (Rn.loadCA (vs:=(Qcu x16)) tv rfl rfl rfl (Rn.eqa (r:=((x14.State == x16.State) && ((x14.Rank == x16.Rank) && ((x14.Reason == x16.Reason) && ((x14.Event == x16.Event) && true))))) tv rfl rfl rfl ?_))
     refine Rn.nil ⟨rfl,?_⟩
     refine toN ?_
     refine Tr.cond rfl (fun hb18=>?_) (fun hb18=>?_)
     ·have hb18:=nT' hb18
      replace h:=bF hb18 h
      refine sr ((md rfl (nt ((Tr.ret ?_)))))
      replace h:=si h; subst h
      exact ⟨.inr rfl,(b_ false),rfl,fun _ _ _ _ h=>h,tv,fun k hk=>Qf hk⟩
     ·have hb18:=nF' hb18
      replace h:=bT hb18 h
      refine Tr.skip (toN (Tr.rgn (md rfl (Rn.bin tv rfl rfl rfl (md rfl (Rn.nil ?_))))))
      exact ⟨_,h,(by exact Qx ⟨(kPtr rfl),(kPtr rfl),(sm rfl),tv⟩ ⟨⟨_,rfl,rfl,(.same rfl)⟩,⟨_,rfl,rfl,(.same rfl)⟩,tv⟩ rfl)⟩
    ·replace h:=ifF hb13 h
     refine Tr.exit (toN (sr ((md rfl (nt ((Tr.ret ?_)))))))
     replace h:=si h; subst h
     exact ⟨.inr rfl,(b_ true),rfl,fun _ _ _ _ h=>h,tv,fun k hk=>Qf hk⟩
theorem Q0g {P:Program} {c:Nat} (hcf:Q1 P c = some Qkf) (fuel:Nat):Qke P c (Qc5 fuel):=by
 intro s1 s2 r h
 refine Qf3 hcf rfl fun Γ M hP hnt hM=>?_
 subst hP
 refine Tr.init [(0,.d (.lst 3 (List.map Qb s1))),(1,.d (.lst 3 (List.map Qb s2)))] rfl ?_
 unfold Qc5 at h
 unfold Qkf
 refine sr ((md rfl (nt ((Tr.seq (sr ((md rfl (Rn.lenD tv rfl (md rfl (Rn.lenD tv rfl (Rn.bin tv rfl rfl rfl (Rn.nil (toN ?_))))))))))))))
 refine Tr.cond rfl (fun hb3=>?_) (fun hb3=>?_)
 ·replace h:=bT hb3 h
  refine sr ((md rfl (nt ((Tr.ret ?_)))))
  replace h:=si h; subst h
  exact ⟨.inr rfl,(b_ false),rfl,fun _ _ _ _ h=>h,tv,fun k hk=>Qf hk⟩
 ·replace h:=bF hb3 h
  refine Tr.skip (toN (Tr.seq (sr ((md rfl (Rn.lenD tv rfl (md rfl (nt ((Tr.block ?_))))))))))
  refine Tr.loop (mk:=fun (x4:Int)=>⟨look [(0,.d (.lst 3 (List.map Qb s1))),(1,.d (.lst 3 (List.map Qb s2))),(12,(i_ (s1.length:Int))),(13,(i_ x4))],Qr Γ.n0 (bxs []) M,Γ.n0 + 26⟩) h (by exact Qx ⟨(sm rfl),(sm rfl),(sm rfl),(sm rfl),tv⟩ tv rfl) (fun k5 z h=>?_)
  ·obtain ⟨x4,rfl⟩ : ∃ x,x = z:=⟨_,rfl⟩
   replace h:_ = some _:=h
   refine sr ((Rn.bin tv rfl rfl rfl (nt ((Tr.seq ?_)))))
   refine Tr.cond rfl (fun hb6=>?_) (fun hb6=>?_)
   ·replace h:=ifT hb6 h
    refine Tr.skip (toN (Tr.seq (Tr.block (sr ((md rfl (md rfl (nt ((Tr.seq ?_))))))))))
    refine Tr.rgnD (by decide) ?_
    refine md rfl (md rfl ?_)
    obtain ⟨x7,h8,h⟩:=bnd h
    refine Rn.idxD (e:=Qb) tv rfl rfl h8 (Rn.loadCA (vs:=(Qbx x7)) tv rfl rfl rfl (md rfl (md rfl ?_)))
    obtain ⟨x9,h10,h⟩:=bnd h
    refine Rn.idxD (e:=Qb) tv rfl rfl h10 (Rn.loadCA (vs:=(Qbx x9)) tv rfl rfl rfl (Rn.eqa (r:=((x7.From == x9.From) && ((x7.Event == x9.Event) && ((x7.To == x9.To) && true)))) tv rfl rfl rfl ?_))
    refine Rn.nil ⟨rfl,?_⟩
    refine toN ?_
    refine Tr.cond rfl (fun hb11=>?_) (fun hb11=>?_)
    ·have hb11:=nT' hb11
     replace h:=bF hb11 h
     refine sr ((md rfl (nt ((Tr.ret ?_)))))
     replace h:=si h; subst h
     exact ⟨.inr rfl,(b_ false),rfl,fun _ _ _ _ h=>h,tv,fun k hk=>Qf hk⟩
    ·have hb11:=nF' hb11
     replace h:=bT hb11 h
     refine Tr.skip (toN (Tr.rgn (Rn.bin tv rfl rfl rfl (md rfl (Rn.nil ?_)))))
     exact ⟨_,h,(by exact Qx ⟨(sm rfl),(sm rfl),(sm rfl),(sm rfl),tv⟩ tv rfl)⟩
   ·replace h:=ifF hb6 h
    refine Tr.exit (toN (sr ((md rfl (nt ((Tr.ret ?_)))))))
    replace h:=si h; subst h
    exact ⟨.inr rfl,(b_ true),rfl,fun _ _ _ _ h=>h,tv,fun k hk=>Qf hk⟩
theorem Q3p {P:Program} {c:Nat} {Qbs:(List Int)→(List Int)→Option Bool} {Qc5:(List Qe)→(List Qe)→Option Bool}
    (H_slices_Equal_int:Qh1 P 45 Qbs)
    (H_slices_Equal_Edge:Qke P 46 Qc5) (hcf:Q1 P c = some Qnc):Qnb P c (Qdn Qbs Qc5):=by
 intro a1 b2 r h
 refine Qf3 hcf rfl fun Γ M hP hnt hM=>?_
 subst hP
 refine Tr.init [(0,(Qo a1)),(1,(Qo b2))] rfl ?_
 unfold Qdn at h
 unfold Qnc
 refine sr ((Rn.box (v:=(Qo a1)) (cs:=(Qbq a1)) tv rfl rfl rfl rfl rfl (Rn.box (v:=(Qo b2)) (cs:=(Qbq b2)) tv rfl rfl rfl rfl rfl (md rfl (nt ((sr ((Rn.fldP (o':=1) tv rfl rfl (Rn.load (v:=(i_ a1.zM)) tv rfl (Qi rfl) rfl rfl (Rn.fldP (o':=1) tv rfl rfl (Rn.load (v:=(i_ b2.zM)) tv rfl (Qi rfl) rfl rfl (Rn.bin tv rfl rfl rfl (md rfl ?_))))))))))))))
 refine Q8 (a1.zM == b2.zM) (fun hb3=>?_) (fun hb3=>?_)
 ·replace h:=bT hb3 h
  refine Rn.fldP (o':=0) (gw rfl hb3) rfl rfl (Rn.load (v:=(l_ a1.zJ)) (gw rfl hb3) rfl (Qi rfl) rfl rfl (Rn.fldP (o':=0) (gw rfl hb3) rfl rfl (Rn.load (v:=(l_ b2.zJ)) (gw rfl hb3) rfl (Qi rfl) rfl rfl ?_)))
  obtain ⟨x5,h4,h⟩:=bnd h
  refine Rn.call (args:=[(l_ a1.zJ),(l_ b2.zJ)]) (gw rfl hb3) rfl (H_slices_Equal_int _ _ _ h4) pc9 (Rn.pickT (v:=(b_ x5)) tv rfl hb3 rfl (md rfl ?_))
  refine Q8 x5 (fun hb6=>?_) (fun hb6=>?_)
  ·replace h:=bT hb6 h
   refine Rn.fldP (o':=2) (gw rfl hb6) rfl rfl (Rn.load (v:=(l_ a1.zK)) (gw rfl hb6) rfl (Qi rfl) rfl rfl (Rn.fldP (o':=2) (gw rfl hb6) rfl rfl (Rn.load (v:=(l_ b2.zK)) (gw rfl hb6) rfl (Qi rfl) rfl rfl ?_)))
   obtain ⟨x8,h7,h⟩:=bnd h
   refine Rn.call (args:=[(l_ a1.zK),(l_ b2.zK)]) (gw rfl hb6) rfl (H_slices_Equal_int _ _ _ h7) pc9 (Rn.pickT (v:=(b_ x8)) tv rfl hb6 rfl (md rfl ?_))
   refine Q8 x8 (fun hb9=>?_) (fun hb9=>?_)
   ·replace h:=bT hb9 h
    refine Rn.fldP (o':=3) (gw rfl hb9) rfl rfl (Rn.load (v:=.d (.lst 3 (List.map Qb a1.zL))) (gw rfl hb9) rfl (Qi rfl) rfl rfl (Rn.fldP (o':=3) (gw rfl hb9) rfl rfl (Rn.load (v:=.d (.lst 3 (List.map Qb b2.zL))) (gw rfl hb9) rfl (Qi rfl) rfl rfl ?_)))
    obtain ⟨x11,h10,h⟩:=bnd h
    refine Rn.call (args:=[.d (.lst 3 (List.map Qb a1.zL)),.d (.lst 3 (List.map Qb b2.zL))]) (gw rfl hb9) rfl (H_slices_Equal_Edge _ _ _ h10) pc9 (Rn.pickT (v:=(b_ x11)) tv rfl hb9 rfl (md rfl (nt ((Tr.ret ?_)))))
    replace h:=si h; subst h
    exact ⟨.inr rfl,(b_ x11),rfl,fun _ _ _ _ h=>h,tv,fun k hk=>Qf hk⟩
   ·replace h:=bF hb9 h
    refine Rn.sk (nw rfl hb9) (Rn.sk (nw rfl hb9) (Rn.sk (nw rfl hb9) (Rn.sk (nw rfl hb9) (Rn.sk (nw rfl hb9) (Rn.pickF (v:=(b_ false)) tv rfl hb9 rfl (md rfl (nt ((Tr.ret ?_)))))))))
    replace h:=si h; subst h
    exact ⟨.inr rfl,(b_ false),rfl,fun _ _ _ _ h=>h,tv,fun k hk=>Qf hk⟩
  ·replace h:=bF hb6 h
   refine Rn.sk (nw rfl hb6) (Rn.sk (nw rfl hb6) (Rn.sk (nw rfl hb6) (Rn.sk (nw rfl hb6) (Rn.sk (nw rfl hb6) (Rn.pickF (v:=(b_ false)) tv rfl hb6 rfl (md rfl (Rn.sk (nw (b:=false) rfl rfl) (Rn.sk (nw (b:=false) rfl rfl) (Rn.sk (nw (b:=false) rfl rfl) (Rn.sk (nw (b:=false) rfl rfl) (Rn.sk (nw (b:=false) rfl rfl) (Rn.pickF (v:=(b_ false)) tv rfl rfl rfl (md rfl (nt ((Tr.ret ?_))))))))))))))))
   replace h:=si h; subst h
   exact ⟨.inr rfl,(b_ false),rfl,fun _ _ _ _ h=>h,tv,fun k hk=>Qf hk⟩
 ·replace h:=bF hb3 h
  refine Rn.sk (nw rfl hb3) (Rn.sk (nw rfl hb3) (Rn.sk (nw rfl hb3) (Rn.sk (nw rfl hb3) (Rn.sk (nw rfl hb3) (Rn.pickF (v:=(b_ false)) tv rfl hb3 rfl (md rfl (Rn.sk (nw (b:=false) rfl rfl) (Rn.sk (nw (b:=false) rfl rfl) (Rn.sk (nw (b:=false) rfl rfl) (Rn.sk (nw (b:=false) rfl rfl) (Rn.sk (nw (b:=false) rfl rfl) (Rn.pickF (v:=(b_ false)) tv rfl rfl rfl (md rfl (Rn.sk (nw (b:=false) rfl rfl) (Rn.sk (nw (b:=false) rfl rfl) (Rn.sk (nw (b:=false) rfl rfl) (Rn.sk (nw (b:=false) rfl rfl) (Rn.sk (nw (b:=false) rfl rfl) (Rn.pickF (v:=(b_ false)) tv rfl rfl rfl (md rfl (nt ((Tr.ret ?_)))))))))))))))))))))))
  replace h:=si h; subst h
  exact ⟨.inr rfl,(b_ false),rfl,fun _ _ _ _ h=>h,tv,fun k hk=>Qf hk⟩
theorem Qy9 {P:Program} {c:Nat} {Qdn:Qm→Qm→Option Bool}
    (H_automaton_Equal:Qnb P 15 Qdn) (hcf:Q1 P c = some Qje):Qjd P c (Qcw Qdn):=by
 intro a1 r h
 refine Qf3 hcf rfl fun Γ M hP hnt hM=>?_
 subst hP
 refine Tr.init [(0,(Qo a1))] rfl ?_
 unfold Qcw at h
 unfold Qje
 refine sr ((Rn.box (v:=(Qo a1)) (cs:=(Qbq a1)) tv rfl rfl rfl rfl rfl (md rfl (nt ((sr ((Rn.load (v:=(Qo a1)) tv rfl (Qi rfl) rfl rfl (Rn.build (v:=.agg [.nils 1,(i_ 0),.nils 1,.nils 3]) tv rfl ?_)))))))))
 obtain ⟨x3,h2,h⟩:=bnd h
 refine Rn.call (args:=[(Qo a1),.agg [.nils 1,(i_ 0),.nils 1,.nils 3]]) tv rfl (fun M2 nb2=>ACalls.weak (args':=[(Qo a1),.agg [(l_ []),(i_ 0),(l_ []),.d (.lst 3 (List.map Qb []))]]) (H_automaton_Equal _ _ _ h2 M2 nb2) (.cons (sm rfl) (.cons (WkV.agg (.cons (WkV.nilsD _) (.cons (sm rfl) (.cons (WkV.nilsD _) (.cons (WkV.nilsD _) .nil))))) .nil)) rfl) pc9 ?_
 refine md rfl (nt ((Tr.ret ?_)))
 replace h:=si h; subst h
 exact ⟨.inr rfl,(b_ x3),rfl,fun _ _ _ _ h=>h,tv,fun k hk=>Qf hk⟩
end Go.Abs
end
section
namespace Go.Abs
open Go
set_option maxRecDepth 10000
set_option maxHeartbeats 4000000
theorem Qim {P:Program} {c:Nat} {Qcl:Option Bool} {Q0:Qa→Option (Qbu×Int)} {Qcv:Qv→Qv→Option Bool} {Qcw:Qm→Option Bool} {Qbj:Qa→(List Int)→Option (Bool×Int)} {Qb4:Qa→Qv→Option Int} {Qc4:Qm→Option Bool} {Qcm:Qa→Option Int} {Qw:Qa→Option Int} {Qy:(List Int)→Int→Option Int}
    (H_overseerlaw46_known:Qie P 9 Qcl)
    (H_timedsynthesis_Synthesize:Qd5 P 11 Q0)
    (H_overseerlaw46_same:Qjb P 14 Qcv)
    (H_overseerlaw46_none:Qjd P 19 Qcw)
    (H_timedsynthesis_Conforms:Qgl P 20 Qbj)
    (H_timedsynthesis_Verify:Qhd P 26 Qb4)
    (H_overseerlaw46_few:Qka P 28 Qc4)
    (H_overseerlaw46_check:Qig P 29 Qcm)
    (H_timedsynthesis_Check:Qdr P 30 Qw)
    (H_alphabet_CheckSet:Qei P 31 Qy) (hcf:Q1 P c = some Qdu):Qfm P c (Qc1 Qcl Q0 Qcv Qcw Qbj Qb4 Qc4 Qcm Qw Qy):=by
 intro p1 xset2 r h
 refine Qf3 hcf rfl fun Γ M hP hnt hM=>?_
 subst hP
 refine Tr.init [(0,.agg [(l_ p1.zA.zJ),(i_ p1.zA.zM),(l_ p1.zA.zK),.d (.lst 3 (List.map Qb p1.zA.zL)),(l_ p1.zC),(l_ p1.zB),(l_ p1.zD),(i_ p1.Tick)]),(1,(l_ xset2))] rfl ?_
 unfold Qc1 at h
 unfold Qdu
 refine sr ((Rn.box (v:=.agg [(l_ p1.zA.zJ),(i_ p1.zA.zM),(l_ p1.zA.zK),.d (.lst 3 (List.map Qb p1.zA.zL)),(l_ p1.zC),(l_ p1.zB),(l_ p1.zD),(i_ p1.Tick)]) (cs:=[(l_ p1.zA.zJ),(i_ p1.zA.zM),(l_ p1.zA.zK),.d (.lst 3 (List.map Qb p1.zA.zL)),(l_ p1.zC),(l_ p1.zB),(l_ p1.zD),(i_ p1.Tick)]) tv rfl rfl rfl rfl rfl (md rfl (nt ((Tr.seq ?_))))))
 refine Tr.cutB (fun (x12:Bool)=>⟨look [(1,(l_ xset2)),(2,.ptr (Γ.n0 + 2) 0),(41,(b_ x12))],Qr Γ.n0 (bxs [(2,.cells ([(l_ p1.zA.zJ),(i_ p1.zA.zM),(l_ p1.zA.zK),.d (.lst 3 (List.map Qb p1.zA.zL)),(l_ p1.zC),(l_ p1.zB),(l_ p1.zD),(i_ p1.Tick)]))]) M,Γ.n0 + 124⟩) h (fun z h=>?_) (fun z h=>?_)
 ·refine Tr.rgn ?_
  obtain ⟨x4,h3,h⟩:=bnd h
  refine Rn.call (args:=[]) tv rfl (H_overseerlaw46_known _ h3) pc9 (Rn.un tv rfl rfl (md rfl ?_))
  refine Q8 x4 (fun hb5=>?_) (fun hb5=>?_)
  ·replace h:=bT hb5 h
   refine Rn.fldP (o':=0) (gw rfl (nT hb5)) rfl rfl (Rn.load (v:=(Qo p1.zA)) (gw rfl (nT hb5)) rfl (Qi rfl) rfl rfl ?_)
   obtain ⟨x7,h6,h⟩:=bnd h
   refine Rn.call (args:=[(Qo p1.zA)]) (gw rfl (nT hb5)) rfl (H_overseerlaw46_few _ _ h6) pc9 (Rn.un (gw rfl (nT hb5)) rfl rfl (Rn.pickF (v:=(b_ (!x7))) tv rfl (nT hb5) rfl (md rfl ?_)))
   refine Q8 x7 (fun hb8=>?_) (fun hb8=>?_)
   ·replace h:=bT hb8 h
    refine Rn.fldP (o':=4) (gw rfl (nT hb8)) rfl rfl (Rn.load (v:=(l_ p1.zC)) (gw rfl (nT hb8)) rfl (Qi rfl) rfl rfl (Rn.lenD (gw rfl (nT hb8)) rfl (Rn.bin (gw rfl (nT hb8)) rfl rfl rfl (Rn.pickF (v:=(b_ (decide ((p1.zC.length:Int) > 10)))) tv rfl (nT hb8) rfl (md rfl ?_)))))
    refine Q8 (decide ((p1.zC.length:Int) > 10)) (fun hb9=>?_) (fun hb9=>?_)
    ·replace h:=ifT hb9 h
     refine Rn.sk (nw rfl hb9) (Rn.sk (nw rfl hb9) (Rn.sk (nw rfl hb9) (Rn.sk (nw rfl hb9) (Rn.pickT (v:=(b_ true)) tv rfl hb9 rfl (md rfl (Rn.sk (nw (b:=true) rfl rfl) (Rn.sk (nw (b:=true) rfl rfl) (Rn.sk (nw (b:=true) rfl rfl) (Rn.sk (nw (b:=true) rfl rfl) (Rn.pickT (v:=(b_ true)) tv rfl rfl rfl (md rfl (Rn.sk (nw (b:=true) rfl rfl) (Rn.sk (nw (b:=true) rfl rfl) (Rn.sk (nw (b:=true) rfl rfl) (Rn.pickT (v:=(b_ true)) tv rfl rfl rfl (Rn.nil ?_))))))))))))))))
     replace h:=si h; subst h
     exact Qn [] ⟨(sm rfl),(kPtr rfl),(sm rfl),tv⟩ ⟨⟨_,rfl,rfl,(.same rfl)⟩,tv⟩ rfl
    ·replace h:=ifF hb9 h
     refine Rn.fldP (o':=5) (gw rfl hb9) rfl rfl (Rn.load (v:=(l_ p1.zB)) (gw rfl hb9) rfl (Qi rfl) rfl rfl (Rn.lenD (gw rfl hb9) rfl (Rn.bin (gw rfl hb9) rfl rfl rfl (Rn.pickF (v:=(b_ (decide ((p1.zB.length:Int) > 10)))) tv rfl hb9 rfl (md rfl ?_)))))
     refine Q8 (decide ((p1.zB.length:Int) > 10)) (fun hb10=>?_) (fun hb10=>?_)
     ·replace h:=ifT hb10 h
      refine Rn.sk (nw rfl hb10) (Rn.sk (nw rfl hb10) (Rn.sk (nw rfl hb10) (Rn.sk (nw rfl hb10) (Rn.pickT (v:=(b_ true)) tv rfl hb10 rfl (md rfl (Rn.sk (nw (b:=true) rfl rfl) (Rn.sk (nw (b:=true) rfl rfl) (Rn.sk (nw (b:=true) rfl rfl) (Rn.pickT (v:=(b_ true)) tv rfl rfl rfl (Rn.nil ?_))))))))))
      replace h:=si h; subst h
      exact Qn [] ⟨(sm rfl),(kPtr rfl),(sm rfl),tv⟩ ⟨⟨_,rfl,rfl,(.same rfl)⟩,tv⟩ rfl
     ·replace h:=ifF hb10 h
      refine Rn.fldP (o':=6) (gw rfl hb10) rfl rfl (Rn.load (v:=(l_ p1.zD)) (gw rfl hb10) rfl (Qi rfl) rfl rfl (Rn.lenD (gw rfl hb10) rfl (Rn.bin (gw rfl hb10) rfl rfl rfl (Rn.pickF (v:=(b_ (decide ((p1.zD.length:Int) > 10)))) tv rfl hb10 rfl (md rfl ?_)))))
      refine Q8 (decide ((p1.zD.length:Int) > 10)) (fun hb11=>?_) (fun hb11=>?_)
      ·replace h:=ifT hb11 h
       refine Rn.sk (nw rfl hb11) (Rn.sk (nw rfl hb11) (Rn.sk (nw rfl hb11) (Rn.pickT (v:=(b_ true)) tv rfl hb11 rfl (Rn.nil ?_))))
       replace h:=si h; subst h
       exact Qn [] ⟨(sm rfl),(kPtr rfl),(sm rfl),tv⟩ ⟨⟨_,rfl,rfl,(.same rfl)⟩,tv⟩ rfl
      ·replace h:=ifF hb11 h
       refine Rn.movD (gw rfl hb11) rfl (Rn.lenD (gw rfl hb11) rfl (Rn.bin (gw rfl hb11) rfl rfl rfl (Rn.pickF (v:=(b_ (decide ((xset2.length:Int) > 10)))) tv rfl hb11 rfl (Rn.nil ?_))))
       replace h:=si h; subst h
       exact Qn [] ⟨(sm rfl),(kPtr rfl),(sm rfl),tv⟩ ⟨⟨_,rfl,rfl,(.same rfl)⟩,tv⟩ rfl
   ·replace h:=bF hb8 h
    refine Rn.sk (nw rfl (nF hb8)) (Rn.sk (nw rfl (nF hb8)) (Rn.sk (nw rfl (nF hb8)) (Rn.sk (nw rfl (nF hb8)) (Rn.pickT (v:=(b_ true)) tv rfl (nF hb8) rfl (md rfl (Rn.sk (nw (b:=true) rfl rfl) (Rn.sk (nw (b:=true) rfl rfl) (Rn.sk (nw (b:=true) rfl rfl) (Rn.sk (nw (b:=true) rfl rfl) (Rn.pickT (v:=(b_ true)) tv rfl rfl rfl (md rfl (Rn.sk (nw (b:=true) rfl rfl) (Rn.sk (nw (b:=true) rfl rfl) (Rn.sk (nw (b:=true) rfl rfl) (Rn.sk (nw (b:=true) rfl rfl) (Rn.pickT (v:=(b_ true)) tv rfl rfl rfl (md rfl (Rn.sk (nw (b:=true) rfl rfl) (Rn.sk (nw (b:=true) rfl rfl) (Rn.sk (nw (b:=true) rfl rfl) (Rn.pickT (v:=(b_ true)) tv rfl rfl rfl (Rn.nil ?_))))))))))))))))))))))
    replace h:=si h; subst h
    exact Qn [] ⟨(sm rfl),(kPtr rfl),(sm rfl),tv⟩ ⟨⟨_,rfl,rfl,(.same rfl)⟩,tv⟩ rfl
  ·replace h:=bF hb5 h
   refine Rn.sk (nw rfl (nF hb5)) (Rn.sk (nw rfl (nF hb5)) (Rn.sk (nw rfl (nF hb5)) (Rn.sk (nw rfl (nF hb5)) (Rn.pickT (v:=(b_ true)) tv rfl (nF hb5) rfl (md rfl (Rn.sk (nw (b:=true) rfl rfl) (Rn.sk (nw (b:=true) rfl rfl) (Rn.sk (nw (b:=true) rfl rfl) (Rn.sk (nw (b:=true) rfl rfl) (Rn.pickT (v:=(b_ true)) tv rfl rfl rfl (md rfl (Rn.sk (nw (b:=true) rfl rfl) (Rn.sk (nw (b:=true) rfl rfl) (Rn.sk (nw (b:=true) rfl rfl) (Rn.sk (nw (b:=true) rfl rfl) (Rn.pickT (v:=(b_ true)) tv rfl rfl rfl (md rfl (Rn.sk (nw (b:=true) rfl rfl) (Rn.sk (nw (b:=true) rfl rfl) (Rn.sk (nw (b:=true) rfl rfl) (Rn.sk (nw (b:=true) rfl rfl) (Rn.pickT (v:=(b_ true)) tv rfl rfl rfl (md rfl (Rn.sk (nw (b:=true) rfl rfl) (Rn.sk (nw (b:=true) rfl rfl) (Rn.sk (nw (b:=true) rfl rfl) (Rn.pickT (v:=(b_ true)) tv rfl rfl rfl (Rn.nil ?_))))))))))))))))))))))))))))
   replace h:=si h; subst h
   exact Qn [] ⟨(sm rfl),(kPtr rfl),(sm rfl),tv⟩ ⟨⟨_,rfl,rfl,(.same rfl)⟩,tv⟩ rfl
 ·obtain ⟨x12,rfl⟩ : ∃ x,x = z:=⟨_,rfl⟩
  refine Tr.cond rfl (fun hb13=>?_) (fun hb13=>?_)
  ·replace h:=bT hb13 h
   refine Tr.seq (Tr.rgn ?_)
   obtain ⟨x15,h14,h⟩:=bnd h
   refine Rn.call (args:=[]) tv rfl (H_overseerlaw46_known _ h14) pc9 (md rfl (nt ((Tr.ret ?_))))
   replace h:=si h; subst h
   exact ⟨.inr rfl,(b_ x15),rfl,fun _ _ _ _ h=>h,tv,fun k hk=>Qf hk⟩
  ·replace h:=bF hb13 h
   refine Tr.skip (toN (sr ((Rn.load (v:=.agg [(l_ p1.zA.zJ),(i_ p1.zA.zM),(l_ p1.zA.zK),.d (.lst 3 (List.map Qb p1.zA.zL)),(l_ p1.zC),(l_ p1.zB),(l_ p1.zD),(i_ p1.Tick)]) tv rfl (Qi rfl) rfl rfl ?_))))
   obtain ⟨x17,h16,h⟩:=bnd h
   refine Rn.call (args:=[.agg [(l_ p1.zA.zJ),(i_ p1.zA.zM),(l_ p1.zA.zK),.d (.lst 3 (List.map Qb p1.zA.zL)),(l_ p1.zC),(l_ p1.zB),(l_ p1.zD),(i_ p1.Tick)]]) tv rfl (H_overseerlaw46_check _ _ h16) pc9 (md rfl (nt ((sr ((Rn.load (v:=.agg [(l_ p1.zA.zJ),(i_ p1.zA.zM),(l_ p1.zA.zK),.d (.lst 3 (List.map Qb p1.zA.zL)),(l_ p1.zC),(l_ p1.zB),(l_ p1.zD),(i_ p1.Tick)]) tv rfl (Qi rfl) rfl rfl ?_))))))
   obtain ⟨⟨r19,r20⟩,h18,h⟩:=bnd h
   refine Rn.call (args:=[.agg [(l_ p1.zA.zJ),(i_ p1.zA.zM),(l_ p1.zA.zK),.d (.lst 3 (List.map Qb p1.zA.zL)),(l_ p1.zC),(l_ p1.zB),(l_ p1.zD),(i_ p1.Tick)]]) tv rfl (H_timedsynthesis_Synthesize _ _ h18) pc9 (Rn.mov (v:=.tup [.agg [(l_ r19.zE.Kept),(l_ r19.zE.zF),.d (.lst 4 (List.map Qg r19.zE.zG)),(i_ r19.Rounds),(l_ r19.zH.zJ),(i_ r19.zH.zM),(l_ r19.zH.zK),.d (.lst 3 (List.map Qb r19.zH.zL)),(l_ r19.zO),(l_ r19.zI)],(i_ r20)]) tv rfl (Rn.ext (v:=.agg [(l_ r19.zE.Kept),(l_ r19.zE.zF),.d (.lst 4 (List.map Qg r19.zE.zG)),(i_ r19.Rounds),(l_ r19.zH.zJ),(i_ r19.zH.zM),(l_ r19.zH.zK),.d (.lst 3 (List.map Qb r19.zH.zL)),(l_ r19.zO),(l_ r19.zI)]) (vs:=[.agg [(l_ r19.zE.Kept),(l_ r19.zE.zF),.d (.lst 4 (List.map Qg r19.zE.zG)),(i_ r19.Rounds),(l_ r19.zH.zJ),(i_ r19.zH.zM),(l_ r19.zH.zK),.d (.lst 3 (List.map Qb r19.zH.zL)),(l_ r19.zO),(l_ r19.zI)],(i_ r20)]) tv rfl rfl rfl (Rn.ext (v:=(i_ r20)) (vs:=[.agg [(l_ r19.zE.Kept),(l_ r19.zE.zF),.d (.lst 4 (List.map Qg r19.zE.zG)),(i_ r19.Rounds),(l_ r19.zH.zJ),(i_ r19.zH.zM),(l_ r19.zH.zK),.d (.lst 3 (List.map Qb r19.zH.zL)),(l_ r19.zO),(l_ r19.zI)],(i_ r20)]) tv rfl rfl rfl (Rn.alloc tv rfl (Rn.storeT (v:=.agg [(l_ r19.zE.Kept),(l_ r19.zE.zF),.d (.lst 4 (List.map Qg r19.zE.zG)),(i_ r19.Rounds),(l_ r19.zH.zJ),(i_ r19.zH.zM),(l_ r19.zH.zK),.d (.lst 3 (List.map Qb r19.zH.zL)),(l_ r19.zO),(l_ r19.zI)]) (ds:=[(l_ r19.zE.Kept),(l_ r19.zE.zF),.d (.lst 4 (List.map Qg r19.zE.zG)),(i_ r19.Rounds),(l_ r19.zH.zJ),(i_ r19.zH.zM),(l_ r19.zH.zK),.d (.lst 3 (List.map Qb r19.zH.zL)),(l_ r19.zO),(l_ r19.zI)]) (cs':=[(l_ r19.zE.Kept),(l_ r19.zE.zF),.d (.lst 4 (List.map Qg r19.zE.zG)),(i_ r19.Rounds),(l_ r19.zH.zJ),(i_ r19.zH.zM),(l_ r19.zH.zK),.d (.lst 3 (List.map Qb r19.zH.zL)),(l_ r19.zO),(l_ r19.zI)]) tv rfl rfl rfl rfl rfl rfl rfl (md rfl (nt ((sr ((Rn.load (v:=.agg [(l_ p1.zA.zJ),(i_ p1.zA.zM),(l_ p1.zA.zK),.d (.lst 3 (List.map Qb p1.zA.zL)),(l_ p1.zC),(l_ p1.zB),(l_ p1.zD),(i_ p1.Tick)]) tv rfl (Qi rfl) rfl rfl (md rfl ?_))))))))))))
   obtain ⟨⟨r22,r23⟩,h21,h⟩:=bnd h
   refine Rn.call (args:=[.agg [(l_ p1.zA.zJ),(i_ p1.zA.zM),(l_ p1.zA.zK),.d (.lst 3 (List.map Qb p1.zA.zL)),(l_ p1.zC),(l_ p1.zB),(l_ p1.zD),(i_ p1.Tick)],(l_ xset2)]) tv rfl (H_timedsynthesis_Conforms _ _ _ h21) pc9 (Rn.mov (v:=.tup [(b_ r22),(i_ r23)]) tv rfl (Rn.ext (v:=(b_ r22)) (vs:=[(b_ r22),(i_ r23)]) tv rfl rfl rfl (Rn.ext (v:=(i_ r23)) (vs:=[(b_ r22),(i_ r23)]) tv rfl rfl rfl (md rfl (md rfl (nt ((Tr.seq ?_))))))))
   refine Tr.cutB (fun (x30:Bool)=>⟨look [(1,(l_ xset2)),(2,.ptr (Γ.n0 + 2) 0),(5,(i_ x17)),(6,.ptr (Γ.n0 + 6) 0),(8,(b_ r22)),(9,(i_ r23)),(72,(b_ x30))],Qr Γ.n0 (bxs [(2,.cells ([(l_ p1.zA.zJ),(i_ p1.zA.zM),(l_ p1.zA.zK),.d (.lst 3 (List.map Qb p1.zA.zL)),(l_ p1.zC),(l_ p1.zB),(l_ p1.zD),(i_ p1.Tick)])),(6,.cells ([(l_ r19.zE.Kept),(l_ r19.zE.zF),.d (.lst 4 (List.map Qg r19.zE.zG)),(i_ r19.Rounds),(l_ r19.zH.zJ),(i_ r19.zH.zM),(l_ r19.zH.zK),.d (.lst 3 (List.map Qb r19.zH.zL)),(l_ r19.zO),(l_ r19.zI)]))]) M,Γ.n0 + 124⟩) h (fun z h=>?_) (fun z h=>?_)
   ·refine Tr.rgn (Rn.load (v:=.agg [(l_ p1.zA.zJ),(i_ p1.zA.zM),(l_ p1.zA.zK),.d (.lst 3 (List.map Qb p1.zA.zL)),(l_ p1.zC),(l_ p1.zB),(l_ p1.zD),(i_ p1.Tick)]) tv rfl (Qi rfl) rfl rfl ?_)
    obtain ⟨x25,h24,h⟩:=bnd h
    refine Rn.call (args:=[.agg [(l_ p1.zA.zJ),(i_ p1.zA.zM),(l_ p1.zA.zK),.d (.lst 3 (List.map Qb p1.zA.zL)),(l_ p1.zC),(l_ p1.zB),(l_ p1.zD),(i_ p1.Tick)]]) tv rfl (H_timedsynthesis_Check _ _ h24) pc9 (md rfl (Rn.bin tv rfl rfl rfl (md rfl ?_)))
    refine Q8 (x25 != x17) (fun hb26=>?_) (fun hb26=>?_)
    ·replace h:=bT hb26 h
     refine Rn.sk (nw rfl hb26) (Rn.sk (nw rfl hb26) (Rn.sk (nw rfl hb26) (Rn.pickT (v:=(b_ true)) tv rfl hb26 rfl (md rfl (Rn.sk (nw (b:=true) rfl rfl) (Rn.sk (nw (b:=true) rfl rfl) (Rn.sk (nw (b:=true) rfl rfl) (Rn.sk (nw (b:=true) rfl rfl) (Rn.sk (nw (b:=true) rfl rfl) (Rn.sk (nw (b:=true) rfl rfl) (Rn.pickT (v:=(b_ true)) tv rfl rfl rfl (Rn.nil ?_))))))))))))
     replace h:=si h; subst h
     exact Qn [] ⟨(sm rfl),(kPtr rfl),(sm rfl),(kPtr rfl),(sm rfl),(sm rfl),(sm rfl),tv⟩ ⟨⟨_,rfl,rfl,(.same rfl)⟩,⟨_,rfl,rfl,(.same rfl)⟩,tv⟩ rfl
    ·replace h:=bF hb26 h
     refine Rn.movD (gw rfl hb26) rfl (Rn.movD (gw rfl hb26) rfl (Rn.bin (gw rfl hb26) rfl rfl rfl (Rn.pickF (v:=(b_ (r20 != x17))) tv rfl hb26 rfl (md rfl ?_))))
     refine Q8 (r20 != x17) (fun hb27=>?_) (fun hb27=>?_)
     ·replace h:=bT hb27 h
      refine Rn.sk (nw rfl hb27) (Rn.sk (nw rfl hb27) (Rn.sk (nw rfl hb27) (Rn.sk (nw rfl hb27) (Rn.sk (nw rfl hb27) (Rn.sk (nw rfl hb27) (Rn.pickT (v:=(b_ true)) tv rfl hb27 rfl (Rn.nil ?_)))))))
      replace h:=si h; subst h
      exact Qn [] ⟨(sm rfl),(kPtr rfl),(sm rfl),(kPtr rfl),(sm rfl),(sm rfl),(sm rfl),tv⟩ ⟨⟨_,rfl,rfl,(.same rfl)⟩,⟨_,rfl,rfl,(.same rfl)⟩,tv⟩ rfl
     ·replace h:=bF hb27 h
      refine Rn.load (v:=.agg [(l_ p1.zA.zJ),(i_ p1.zA.zM),(l_ p1.zA.zK),.d (.lst 3 (List.map Qb p1.zA.zL)),(l_ p1.zC),(l_ p1.zB),(l_ p1.zD),(i_ p1.Tick)]) (gw rfl hb27) rfl (Qi rfl) rfl rfl (Rn.fldP (o':=0) (gw rfl hb27) rfl rfl (Rn.load (v:=(Q7 r19.zE)) (gw rfl hb27) rfl (Qi rfl) rfl rfl ?_))
      obtain ⟨x29,h28,h⟩:=bnd h
      refine Rn.call (args:=[.agg [(l_ p1.zA.zJ),(i_ p1.zA.zM),(l_ p1.zA.zK),.d (.lst 3 (List.map Qb p1.zA.zL)),(l_ p1.zC),(l_ p1.zB),(l_ p1.zD),(i_ p1.Tick)],(Q7 r19.zE)]) (gw rfl hb27) rfl (H_timedsynthesis_Verify _ _ _ h28) pc9 (Rn.movD (gw rfl hb27) rfl (Rn.bin (gw rfl hb27) rfl rfl rfl (Rn.pickF (v:=(b_ (x29 != x17))) tv rfl hb27 rfl (Rn.nil ?_))))
      replace h:=si h; subst h
      exact Qn [] ⟨(sm rfl),(kPtr rfl),(sm rfl),(kPtr rfl),(sm rfl),(sm rfl),(sm rfl),tv⟩ ⟨⟨_,rfl,rfl,(.same rfl)⟩,⟨_,rfl,rfl,(.same rfl)⟩,tv⟩ rfl
   ·obtain ⟨x30,rfl⟩ : ∃ x,x = z:=⟨_,rfl⟩
    refine Tr.cond rfl (fun hb31=>?_) (fun hb31=>?_)
    ·replace h:=bT hb31 h
     refine sr ((md rfl (nt ((Tr.ret ?_)))))
     replace h:=si h; subst h
     exact ⟨.inr rfl,(b_ false),rfl,fun _ _ _ _ h=>h,tv,fun k hk=>Qf hk⟩
    ·replace h:=bF hb31 h
     refine Tr.skip (toN (Tr.seq (sr ((md rfl (Rn.bin tv rfl rfl rfl (Rn.nil (toN ?_))))))))
     refine Tr.cond rfl (fun hb32=>?_) (fun hb32=>?_)
     ·replace h:=bT hb32 h
      refine Tr.cutB (fun (x42:Bool)=>⟨look [(4,(b_ x42))],Qr Γ.n0 (bxs [(2,.cells ([(l_ p1.zA.zJ),(i_ p1.zA.zM),(l_ p1.zA.zK),.d (.lst 3 (List.map Qb p1.zA.zL)),(l_ p1.zC),(l_ p1.zB),(l_ p1.zD),(i_ p1.Tick)])),(6,.cells ([(l_ r19.zE.Kept),(l_ r19.zE.zF),.d (.lst 4 (List.map Qg r19.zE.zG)),(i_ r19.Rounds),(l_ r19.zH.zJ),(i_ r19.zH.zM),(l_ r19.zH.zK),.d (.lst 3 (List.map Qb r19.zH.zL)),(l_ r19.zO),(l_ r19.zI)]))]) M,Γ.n0 + 124⟩) h (fun z h=>?_) (fun z h=>?_)
      ·refine Tr.rgn (Rn.fldP (o':=0) tv rfl rfl (Rn.load (v:=(Q7 r19.zE)) tv rfl (Qi rfl) rfl rfl (Rn.build (v:=.agg [.nils 1,.nils 1,.nils 4]) tv rfl ?_)))
       obtain ⟨x34,h33,h⟩:=bnd h
       refine Rn.call (args:=[(Q7 r19.zE),.agg [.nils 1,.nils 1,.nils 4]]) tv rfl (fun M2 nb2=>ACalls.weak (args':=[(Q7 r19.zE),.agg [(l_ []),(l_ []),.d (.lst 4 (List.map Qg []))]]) (H_overseerlaw46_same _ _ _ h33 M2 nb2) (.cons (sm rfl) (.cons (WkV.agg (.cons (WkV.nilsD _) (.cons (WkV.nilsD _) (.cons (WkV.nilsD _) .nil)))) .nil)) rfl) pc9 ?_
       refine md rfl ?_
       refine Q8 x34 (fun hb35=>?_) (fun hb35=>?_)
       ·replace h:=bT hb35 h
        refine Rn.fldP (o':=3) (gw rfl hb35) rfl rfl (Rn.load (v:=(i_ r19.Rounds)) (gw rfl hb35) rfl (Qi rfl) rfl rfl (Rn.bin (gw rfl hb35) rfl rfl rfl (Rn.pickT (v:=(b_ (r19.Rounds == 0))) tv rfl hb35 rfl (md rfl ?_))))
        refine Q8 (r19.Rounds == 0) (fun hb36=>?_) (fun hb36=>?_)
        ·replace h:=bT hb36 h
         refine Rn.fldP (o':=4) (gw rfl hb36) rfl rfl (Rn.load (v:=(Qo r19.zH)) (gw rfl hb36) rfl (Qi rfl) rfl rfl ?_)
         obtain ⟨x38,h37,h⟩:=bnd h
         refine Rn.call (args:=[(Qo r19.zH)]) (gw rfl hb36) rfl (H_overseerlaw46_none _ _ h37) pc9 (Rn.pickT (v:=(b_ x38)) tv rfl hb36 rfl (md rfl ?_))
         refine Q8 x38 (fun hb39=>?_) (fun hb39=>?_)
         ·replace h:=bT hb39 h
          refine Rn.fldP (o':=8) (gw rfl hb39) rfl rfl (Rn.load (v:=(l_ r19.zO)) (gw rfl hb39) rfl (Qi rfl) rfl rfl (Rn.lenD (gw rfl hb39) rfl (Rn.fldP (o':=9) (gw rfl hb39) rfl rfl (Rn.load (v:=(l_ r19.zI)) (gw rfl hb39) rfl (Qi rfl) rfl rfl (Rn.lenD (gw rfl hb39) rfl (Rn.bin (gw rfl hb39) rfl rfl rfl (Rn.bin (gw rfl hb39) rfl rfl rfl (Rn.pickT (v:=(b_ ((IntKind.wrap .i64 ((r19.zO.length:Int) + (r19.zI.length:Int))) == 0))) tv rfl hb39 rfl (md rfl ?_)))))))))
          refine Q8 ((IntKind.wrap .i64 ((r19.zO.length:Int) + (r19.zI.length:Int))) == 0) (fun hb40=>?_) (fun hb40=>?_)
          ·replace h:=bT hb40 h
           refine Rn.movD (gw rfl hb40) rfl (Rn.un (gw rfl hb40) rfl rfl (Rn.pickT (v:=(b_ (!r22))) tv rfl hb40 rfl (md rfl ?_)))
           refine Q8 r22 (fun hb41=>?_) (fun hb41=>?_)
           ·replace h:=bT hb41 h
            refine Rn.sk (nw rfl (nT hb41)) (Rn.sk (nw rfl (nT hb41)) (Rn.sk (nw rfl (nT hb41)) (Rn.pickF (v:=(b_ false)) tv rfl (nT hb41) rfl (md rfl (Rn.nil ?_)))))
            replace h:=si h; subst h
            exact Qn [] ⟨(sm rfl),tv⟩ ⟨⟨_,rfl,rfl,(.same rfl)⟩,⟨_,rfl,rfl,(.same rfl)⟩,tv⟩ rfl
           ·replace h:=bF hb41 h
            refine Rn.movD (gw rfl (nF hb41)) rfl (Rn.movD (gw rfl (nF hb41)) rfl (Rn.bin (gw rfl (nF hb41)) rfl rfl rfl (Rn.pickT (v:=(b_ (r23 == x17))) tv rfl (nF hb41) rfl (md rfl (Rn.nil ?_)))))
            replace h:=si h; subst h
            exact Qn [] ⟨(sm rfl),tv⟩ ⟨⟨_,rfl,rfl,(.same rfl)⟩,⟨_,rfl,rfl,(.same rfl)⟩,tv⟩ rfl
          ·replace h:=bF hb40 h
           refine Rn.sk (nw rfl hb40) (Rn.sk (nw rfl hb40) (Rn.pickF (v:=(b_ false)) tv rfl hb40 rfl (md rfl (Rn.sk (nw (b:=false) rfl rfl) (Rn.sk (nw (b:=false) rfl rfl) (Rn.sk (nw (b:=false) rfl rfl) (Rn.pickF (v:=(b_ false)) tv rfl rfl rfl (md rfl (Rn.nil ?_)))))))))
           replace h:=si h; subst h
           exact Qn [] ⟨(sm rfl),tv⟩ ⟨⟨_,rfl,rfl,(.same rfl)⟩,⟨_,rfl,rfl,(.same rfl)⟩,tv⟩ rfl
         ·replace h:=bF hb39 h
          refine Rn.sk (nw rfl hb39) (Rn.sk (nw rfl hb39) (Rn.sk (nw rfl hb39) (Rn.sk (nw rfl hb39) (Rn.sk (nw rfl hb39) (Rn.sk (nw rfl hb39) (Rn.sk (nw rfl hb39) (Rn.sk (nw rfl hb39) (Rn.pickF (v:=(b_ false)) tv rfl hb39 rfl (md rfl (Rn.sk (nw (b:=false) rfl rfl) (Rn.sk (nw (b:=false) rfl rfl) (Rn.pickF (v:=(b_ false)) tv rfl rfl rfl (md rfl (Rn.sk (nw (b:=false) rfl rfl) (Rn.sk (nw (b:=false) rfl rfl) (Rn.sk (nw (b:=false) rfl rfl) (Rn.pickF (v:=(b_ false)) tv rfl rfl rfl (md rfl (Rn.nil ?_)))))))))))))))))))
          replace h:=si h; subst h
          exact Qn [] ⟨(sm rfl),tv⟩ ⟨⟨_,rfl,rfl,(.same rfl)⟩,⟨_,rfl,rfl,(.same rfl)⟩,tv⟩ rfl
        ·replace h:=bF hb36 h
         refine Rn.sk (nw rfl hb36) (Rn.sk (nw rfl hb36) (Rn.sk (nw rfl hb36) (Rn.pickF (v:=(b_ false)) tv rfl hb36 rfl (md rfl (Rn.sk (nw (b:=false) rfl rfl) (Rn.sk (nw (b:=false) rfl rfl) (Rn.sk (nw (b:=false) rfl rfl) (Rn.sk (nw (b:=false) rfl rfl) (Rn.sk (nw (b:=false) rfl rfl) (Rn.sk (nw (b:=false) rfl rfl) (Rn.sk (nw (b:=false) rfl rfl) (Rn.sk (nw (b:=false) rfl rfl) (Rn.pickF (v:=(b_ false)) tv rfl rfl rfl (md rfl (Rn.sk (nw (b:=false) rfl rfl) (Rn.sk (nw (b:=false) rfl rfl) (Rn.pickF (v:=(b_ false)) tv rfl rfl rfl (md rfl (Rn.sk (nw (b:=false) rfl rfl) (Rn.sk (nw (b:=false) rfl rfl) (Rn.sk (nw (b:=false) rfl rfl) (Rn.pickF (v:=(b_ false)) tv rfl rfl rfl (md rfl (Rn.nil ?_))))))))))))))))))))))))
         replace h:=si h; subst h
         exact Qn [] ⟨(sm rfl),tv⟩ ⟨⟨_,rfl,rfl,(.same rfl)⟩,⟨_,rfl,rfl,(.same rfl)⟩,tv⟩ rfl
       ·replace h:=bF hb35 h
        refine Rn.sk (nw rfl hb35) (Rn.sk (nw rfl hb35) (Rn.sk (nw rfl hb35) (Rn.pickF (v:=(b_ false)) tv rfl hb35 rfl (md rfl (Rn.sk (nw (b:=false) rfl rfl) (Rn.sk (nw (b:=false) rfl rfl) (Rn.sk (nw (b:=false) rfl rfl) (Rn.pickF (v:=(b_ false)) tv rfl rfl rfl (md rfl (Rn.sk (nw (b:=false) rfl rfl) (Rn.sk (nw (b:=false) rfl rfl) (Rn.sk (nw (b:=false) rfl rfl) (Rn.sk (nw (b:=false) rfl rfl) (Rn.sk (nw (b:=false) rfl rfl) (Rn.sk (nw (b:=false) rfl rfl) (Rn.sk (nw (b:=false) rfl rfl) (Rn.sk (nw (b:=false) rfl rfl) (Rn.pickF (v:=(b_ false)) tv rfl rfl rfl (md rfl (Rn.sk (nw (b:=false) rfl rfl) (Rn.sk (nw (b:=false) rfl rfl) (Rn.pickF (v:=(b_ false)) tv rfl rfl rfl (md rfl (Rn.sk (nw (b:=false) rfl rfl) (Rn.sk (nw (b:=false) rfl rfl) (Rn.sk (nw (b:=false) rfl rfl) (Rn.pickF (v:=(b_ false)) tv rfl rfl rfl (md rfl (Rn.nil ?_)))))))))))))))))))))))))))))
        replace h:=si h; subst h
        exact Qn [] ⟨(sm rfl),tv⟩ ⟨⟨_,rfl,rfl,(.same rfl)⟩,⟨_,rfl,rfl,(.same rfl)⟩,tv⟩ rfl
      ·obtain ⟨x42,rfl⟩ : ∃ x,x = z:=⟨_,rfl⟩
       refine Tr.ret ?_
       replace h:=si h; subst h
       exact ⟨.inr rfl,(b_ x42),rfl,fun _ _ _ _ h=>h,tv,fun k hk=>Qf hk⟩
     ·replace h:=bF hb32 h
      refine Tr.skip (toN (sr ((md rfl (Rn.fldP (o':=0) tv rfl rfl (Rn.fldP (o':=1) tv rfl rfl (Rn.load (v:=(i_ p1.zA.zM)) tv rfl (Qi rfl) rfl rfl ?_)))))))
      obtain ⟨x44,h43,h⟩:=bnd h
      refine Rn.call (args:=[(l_ xset2),(i_ p1.zA.zM)]) tv rfl (H_alphabet_CheckSet _ _ _ h43) pc9 (md rfl (nt ((sr ((md rfl (md rfl (Rn.bin tv rfl rfl rfl (md rfl ?_)))))))))
      refine Q8 (r23 == x44) (fun hb45=>?_) (fun hb45=>?_)
      ·replace h:=bT hb45 h
       refine Rn.movD (gw rfl hb45) rfl (Rn.bin (gw rfl hb45) rfl rfl rfl (Rn.movD (gw rfl hb45) rfl ?_))
       refine Q8 (x44 == 0) (fun hb46=>?_) (fun hb46=>?_)
       ·replace h:=bT hb46 h
        refine Rn.sk (nw rfl hb46) (Rn.sk (nw rfl hb46) (Rn.pickT (v:=(b_ true)) (gw rfl hb45) rfl hb46 rfl (Rn.pickT (v:=(b_ true)) tv rfl hb45 rfl (md rfl (nt ((Tr.ret ?_)))))))
        replace h:=si h; subst h
        exact ⟨.inr rfl,(b_ true),rfl,fun _ _ _ _ h=>h,tv,fun k hk=>Qf hk⟩
       ·replace h:=bF hb46 h
        refine Rn.movD (gw rfl hb46) rfl (Rn.un (gw rfl hb46) rfl rfl (Rn.pickF (v:=(b_ (!r22))) (gw rfl hb45) rfl hb46 rfl (Rn.pickT (v:=(b_ (!r22))) tv rfl hb45 rfl (md rfl (nt ((Tr.ret ?_)))))))
        replace h:=si h; subst h
        exact ⟨.inr rfl,(b_ (!r22)),rfl,fun _ _ _ _ h=>h,tv,fun k hk=>Qf hk⟩
      ·replace h:=bF hb45 h
       refine Rn.sk (nw rfl hb45) (Rn.sk (nw rfl hb45) (Rn.sk (nw rfl hb45) (Rn.sk (nu rfl) (Rn.sk (nu rfl) (Rn.sk (nw rfl hb45) (Rn.pickF (v:=(b_ false)) tv rfl hb45 rfl (md rfl (nt ((Tr.ret ?_))))))))))
       replace h:=si h; subst h
       exact ⟨.inr rfl,(b_ false),rfl,fun _ _ _ _ h=>h,tv,fun k hk=>Qf hk⟩
end Go.Abs
end
section
namespace Go.Proofs
open Go.Abs
set_option maxRecDepth 100000
theorem Qji:Q1 Try.prog 7 = some Qdu:=by kernel_rfl
theorem Q18:Q1 Try.prog 9 = some Qif:=by kernel_rfl
theorem Qsy:Q1 Try.prog 11 = some Qft:=by kernel_rfl
theorem Q3q:Q1 Try.prog 14 = some Qjc:=by kernel_rfl
theorem Q6c:Q1 Try.prog 15 = some Qnc:=by kernel_rfl
theorem Qbb5:Q1 Try.prog 16 = some Q1k:=by kernel_rfl
theorem Qvf:Q1 Try.prog 17 = some Qgj:=by kernel_rfl
theorem Q3r:Q1 Try.prog 19 = some Qje:=by kernel_rfl
theorem Qvg:Q1 Try.prog 20 = some Qgm:=by kernel_rfl
theorem Q4n:Q1 Try.prog 23 = some Qkd:=by kernel_rfl
theorem Qza:Q1 Try.prog 26 = some Qhe:=by kernel_rfl
theorem Q4o:Q1 Try.prog 28 = some Qkb:=by kernel_rfl
theorem Q19:Q1 Try.prog 29 = some Qih:=by kernel_rfl
theorem Q0h:Q1 Try.prog 30 = some Qhs:=by kernel_rfl
theorem Q4p:Q1 Try.prog 31 = some Qju:=by kernel_rfl
theorem Q2a:Q1 Try.prog 35 = some Qib:=by kernel_rfl
theorem Q0i:Q1 Try.prog 37 = some Qht:=by kernel_rfl
theorem Qsz:Q1 Try.prog 38 = some Qfs:=by kernel_rfl
theorem Qnh:Q1 Try.prog 39 = some Qej:=by kernel_rfl
theorem Qs9:Q1 Try.prog 40 = some Qf5:=by kernel_rfl
theorem Qqn:Q1 Try.prog 41 = some Qe4:=by kernel_rfl
theorem Qmx:Q1 Try.prog 42 = some Qd9:=by kernel_rfl
theorem Q5a:Q1 Try.prog 45 = some Ql0:=by kernel_rfl
theorem Q4q:Q1 Try.prog 46 = some Qkf:=by kernel_rfl
theorem Q0j:Q1 Try.prog 47 = some Qhv:=by kernel_rfl
theorem Qs0:Q1 Try.prog 48 = some Qfv:=by kernel_rfl
theorem Q4r:Q1 Try.prog 50 = some Qjv:=by kernel_rfl
theorem Qvh:Q1 Try.prog 51 = some Qgk:=by kernel_rfl
theorem Qs1:Q1 Try.prog 52 = some Qfx:=by kernel_rfl
theorem Qrh:Q1 Try.prog 53 = some Qfh:=by kernel_rfl
theorem Q2b:Q1 Try.prog 56 = some Qij:=by kernel_rfl
theorem Qvi:Q1 Try.prog 57 = some Qgo:=by kernel_rfl
theorem Qri:Q1 Try.prog 58 = some Qfj:=by kernel_rfl
theorem Qqo:Q1 Try.prog 59 = some Qe6:=by kernel_rfl
theorem Qvj:Q1 Try.prog 60 = some Qgq:=by kernel_rfl
theorem Qph:Q1 Try.prog 61 = some Qex:=by kernel_rfl
theorem Q6d:Q1 Try.prog 64 = some Qm5:=by kernel_rfl
theorem Q0k:Q1 Try.prog 65 = some Qhr:=by kernel_rfl
theorem Qzb:Q1 Try.prog 71 = some Qhc:=by kernel_rfl
theorem Q5b:Q1 Try.prog 72 = some Qlz:=by kernel_rfl
theorem Qvk:Q1 Try.prog 74 = some Qgh:=by kernel_rfl
theorem Q0l:Q1 Try.prog 75 = some Qhx:=by kernel_rfl
theorem Qpi:Q1 Try.prog 76 = some Qer:=by kernel_rfl
theorem Qrj:Q1 Try.prog 77 = some Qfg:=by kernel_rfl
theorem Qpj:Q1 Try.prog 79 = some Qev:=by kernel_rfl
theorem Qta:Q1 Try.prog 80 = some Qf7:=by kernel_rfl
theorem Qmy:Q1 Try.prog 81 = some Qeb:=by kernel_rfl
theorem Qrk:Q1 Try.prog 82 = some Qfk:=by kernel_rfl
theorem Qmz:Q1 Try.prog 83 = some Qed:=by kernel_rfl
theorem Qm0:Q1 Try.prog 84 = some Qef:=by kernel_rfl
theorem Q3s:Q1 Try.prog 85 = some Qja:=by kernel_rfl
theorem Q0m:Q1 Try.prog 86 = some Qhq:=by kernel_rfl
theorem Q80:Q1 Try.prog 95 = some Qtz:=by kernel_rfl
theorem Q5c:Q1 Try.prog 96 = some Qln:=by kernel_rfl
theorem Qpk:Q1 Try.prog 97 = some Qet:=by kernel_rfl
theorem Q2c:Q1 Try.prog 98 = some Qid:=by kernel_rfl
theorem Q8c:Q1 Try.prog 115 = some Qr6:=by kernel_rfl
theorem Q5d:Q1 Try.prog 116 = some Qll:=by kernel_rfl
end Go.Proofs
end
section
namespace Go.Abs
open Go Go.Sort
section plain
variable {β:Type}
def insB (lt:β→β→Bool) (x:β):List β→List β
 | []=>[x]
 | y :: ys=>if lt y x then y :: insB lt x ys else x :: y :: ys
def Q2d (lt:β→β→Bool):List β→List β
 | []=>[]
 | x :: xs=>insB lt x (Q2d lt xs)
theorem Q8d (lt:β→β→Bool) (x:β):∀ l,(insB lt x l).Perm (x :: l)
 | []=>.refl _
 | y :: ys=>by
  unfold insB; split
  ·exact ((Q8d lt x ys).cons y).trans (.swap x y ys)
  ·exact .refl _
theorem Qzc (lt:β→β→Bool):∀ l,(Q2d lt l).Perm l
 | []=>.refl _
 | x :: xs=>(Q8d lt x _).trans ((Qzc lt xs).cons x)
theorem Qzd (lt:β→β→Bool) (l:List β):(Q2d lt l).length = l.length:=(Qzc lt l).length_eq
theorem Q8e {lt:β→β→Bool} (h:SWO lt) (x:β):∀ l,l.Pairwise (fun a b=>lt b a = false)→(insB lt x l).Pairwise fun a b=>lt b a = false
 | [],_=>by simp [insB]
 | y :: ys,hl=>by
  obtain ⟨h1,h2⟩:=List.pairwise_cons.1 hl
  unfold insB; split
  ·rename_i hc
   refine List.pairwise_cons.2 ⟨fun z hz=>?_,Q8e h x ys h2⟩
   rcases List.mem_cons.1 ((Q8d lt x ys).mem_iff.1 hz) with rfl | hz
   ·cases hb:lt z y with
    | false=>rfl
    | true=>have:=h.trans _ _ _ hc hb; rw [h.irrefl] at this; cases this
   ·exact h1 z hz
  ·rename_i hc
   have hc:lt y x = false:=by cases h:lt y x <;> simp_all
   refine List.pairwise_cons.2 ⟨fun z hz=>?_,hl⟩
   rcases List.mem_cons.1 hz with rfl | hz
   ·exact hc
   ·exact h.ntrans _ _ _ (h1 z hz) hc
theorem Qze {lt:β→β→Bool} (h:SWO lt):∀ l,(Q2d lt l).Pairwise fun a b=>lt b a = false
 | []=>.nil
 | x :: xs=>Q8e h x _ (Qze h xs)
end plain
def Qjj (a b:Int):Bool:=decide (a < b)
end Go.Abs
end
section
namespace Go.Abs
def Qbko (l:List Int):Option (List Int):=if l.length≤lim then some (Q2d Qjj l) else none
end Go.Abs
end
section
namespace Go.Abs
open Go Go.Abs
set_option maxRecDepth 10000
set_option maxHeartbeats 4000000
def Qdv:Nat:=1099511627776
def Qpl:=Qcj
def Qgu:=Qcf Qdv
def Qh2:=Qda Qdv
def Qga:=Qck Qh2
def Qf1:=Qcd Qga Qdv
def Qfn:=Qbd Qgu Qf1
def Qd0:=Qy Qdv
def Qf2:=Q4
def Qs2:=Qdt
def Qjk:=Qek Qs2
def Qh3:=Qc0
def Qem:=Qb1 Qjk Qh3 Qdv
def Q6:=Qh Qem
def Qc8:=Qw Qd0 Q6 Qfn Qf2 Qdv
def Qds:=Q2 Q6 Qdv
def Qey:=Qbf
def Qhf:=Qb7 Qdv
def Qbe:=Ql Qhf
def Qez:=Qbg Q6
def Qd2:=Qbo Qbe Qez
def Qcr:=Qs Qbe Q6 Qey Qd2 Qdv
def Qca:=Qq Q6 Qdv
def Qdj:=Qbr Qca Qcr Qdv
def Qe7:=Qbm
def Qh4:=Qdc
def Qde:=Q9 Q6 Qh4 Qdv
def Qcb:=Q0 Qc8 Qds Qdj Qca Qbe Qe7 Qde Qdv
def Qin:=Qb5
def Qm1:=Qct Qf2 Qbko Qdv
def Qjl:=Qb8 Qm1 Qin
def Qgb:=Qbs Qdv
def Qpm:=Qdi Qgb
def Qio:=Qcl Qcb Qpm Qjl Qpl
def Qhg:=Qc4 Qfn
def Qhh:=Qcq Qdv
def Qgc:=Qcm Qhh Qd0 Qfn
def Qfy:=Qbt Q6 Qcr
def Qhy:=Qce Qdv
def Qc7:=Q3 Qhy
def Qb9:=Qbj Qc8 Qd0 Qds Qca Q6 Qc7 Qfy Qdv
def Qgd:=Qcn Qdv
def Qe0:=Qbh
def Qd3:=Qbp Qbe Q6 Qcr Qe0
def Qen:=Qb2 Qd3
def Qcs:=Qt
def Qdf:=Q5 Qcs
def Qdg:=Qba Q6 Qcs
def Qdh:=Qbb Qcs
def Qdq:=Qbi Qbe Q6 Qdf Qdg Qdh
def Qeo:=Qb3 Qdq
def Qf8:=Qbw Qdv
def Qc6:=Qbn Qf8
def Qco:=Qb4 Qc8 Qds Qc7 Qgd Qen Qc6 Qeo
def Qgv:=Qcv Qpm Qdv
def Qhi:=Qc5 Qdv
def Qi4:=Qdn Qgb Qhi
def Qgw:=Qcw Qi4
def Qdw:=Qc1 Qio Qcb Qgv Qgw Qb9 Qco Qhg Qgc Qc8 Qd0
end Go.Abs
end
section
namespace Go.Abs
open Go Go.Sort Go.RowKit
theorem Qbc8 {P:Program} {f:FuncId} {ex:Array Value} {exV:List V} {sz nb:Nat} {M:Mem} (hb:Qm3 P f = true) (hex:∀ g w us,RFs g w exV us→us = ex.toList)
  (h:∀ (p:Option Addr) (cap:Nat) (w:World),Calls P f (#[.slice p 0 cap] ++ ex) w fun e' w'=>e' = .returned (.tuple #[])∧w' = w) :
  ACalls P f (.d (.lst sz []) :: exV) M nb (.tup []) M nb:=by
 refine ⟨hb,Nat.le_refl _,fun w g us hm hMon hfresh hus hfl hons=>?_⟩
 obtain ⟨u0,us',rfl,hu0,hus'⟩:=hus
 have h1:=hex _ _ _ hus'
 subst h1
 have h2:∃ p cap,u0 = .slice p 0 cap:=by
  have:=RF_d.1 hu0
  obtain ⟨a,cap,rfl,_,_⟩:=this
  exact ⟨a,cap,rfl⟩
 obtain ⟨p,cap,rfl⟩:=h2
 have e1:(Value.slice p 0 cap :: ex.toList).toArray = #[.slice p 0 cap] ++ ex:=by apply Array.ext'; simp
 rw [e1]
 refine (h p cap w).mono ?_
 rintro e' w' ⟨rfl,rfl⟩
 exact ⟨_,g,rfl,hm,⟨[],rfl,rfl⟩,trivial,hMon,Fr.refl _ _ _⟩
theorem Qbc9 (l:List Int):(l.mergeSort fun x y=>decide (x≤y)) = Q2d Qjj l:=by
 have hO:Go.Sort.SWO Qjj:=⟨fun x=>by simp [Qjj],fun x y z h1 h2=>by simp [Qjj] at *; omega,fun x y z h1 h2=>by simp [Qjj] at *; omega⟩
 refine List.Perm.eq_of_pairwise (le:=fun a b=>Qjj b a = false) (fun a b _ _ h1 h2=>by simp [Qjj] at *; omega) ?_ (Qze hO l) ((List.mergeSort_perm _ _).trans (Qzc _ l).symm)
 have:=List.pairwise_mergeSort (le:=fun x y:Int=>decide (x≤y)) (fun a b c h1 h2=>by simp at *; omega) (fun a b=>by simp; omega) l
 exact this.imp fun h=>by simp [Qjj] at *; omega
end Go.Abs
end
section
namespace Go.Abs
open Go Go.Sort Go.RowKit
theorem Q8f (xs:List Int):rowV (eI .i64) xs = xs.map (Value.int .i64):=by
 unfold rowV
 induction xs with
 | nil=>rfl
 | cons x xs ih=>simp only [List.map_cons,List.flatten_cons,List.map_append,ih]; rfl
theorem Qbgq {P:Program} {c:Nat} (hb:Qm3 P c = true)
  (hs:∀ (blk off cap:Nat) (zs:List Int) (w:World),Holds (Value.int .i64) w blk off zs.toArray→blk < w.heap.size→zs.length < 4611686018427387904 →
   Calls P c #[.slice (some ⟨blk,off,none⟩) zs.length cap] w fun e w'=>e = .returned (.tuple #[])∧∃ n os,w' = grow (putRow (Value.int .i64) (Sort.ahead w n) blk off (zs.mergeSort fun x y=>decide (x≤y)).toArray) os)
  (hnone:∀ (p:Option Addr) (cap:Nat) (w:World),Calls P c (#[.slice p 0 cap] ++ #[]) w fun e' w'=>e' = .returned (.tuple #[])∧w' = w) :
  RowK P c (eI .i64) 1 [] (fun l=>if l.length≤lim then some (Q2d Qjj l) else none):=by
 have hrow:Qbkk P c (eI .i64) #[] (fun xs=>Q2d Qjj xs):=by
  intro blk cap xs w hcell hblk hsz
  refine Calls.mono (hs blk 0 cap xs w ?_ hblk hsz) ?_
  ·intro j hj
   have hj' : j < xs.length:=by simpa using hj
   have:=hcell j (by rw [Q8f]; simpa using hj')
   rw [Q8f] at this
   rw [Nat.zero_add]
   refine ⟨?_,this.2⟩
   rw [this.1,getElem!_pos xs.toArray j hj]
   simp [hj']
  ·rintro e w' ⟨rfl,n,os,rfl⟩
   refine ⟨rfl,n,os,?_⟩
   rw [Qbc9,Q8f]
   congr 1
   unfold putRow
   congr 1
   funext c
   unfold putCells
   congr 1
   funext k x
   simp only [List.size_toArray,List.length_map]
   split
   ·rename_i h
    simp only [id]
    rw [getElem!_pos _ _ (by simp; omega),getElem!_pos _ _ (by simp; omega)]
    simp
   ·rfl
 intro xs ys h
 dsimp only at h
 split at h <;> cases h
 rename_i hl
 refine ⟨Qzd _ _,fun h0=>?_,fun hl2 cap k0 M nb hM=>?_⟩
 ·subst h0
  exact ⟨rfl,fun M nb=>Qbc8 (ex:=#[]) (exV:=[]) hb (fun _ _ _ h=>h) hnone⟩
 ·exact Qbep (e:=eI .i64) (fun _=>rfl) (fun _=>rfl) (fun xs=>Qzd _ _) (ex:=#[]) (exV:=[]) (fun _ _ _ h=>h) hb hrow xs cap k0 M nb hM (by unfold lim at hl; omega)
end Go.Abs
end
section
namespace Go.Proofs
open Go.Shelf
def Try.laysSlM5_f56_ren:Go.Shelf.Ren:=⟨fun | 5=>73 | 8=>94 | 7=>93 | 19=>113 | 20=>114 | 10=>105 | 11=>106 | 12=>107 | 13=>108 | 14=>109 | 15=>110 | 16=>95 | 17=>111 | 18=>112 | 30=>120 | 31=>121 | 32=>122 | 33=>123 | 34=>124 | 35=>115 | 40=>133 | n=>n,fun | 23=>32 | 25=>3 | 3=>3 | 32=>142 | 22=>32 | 0=>0 | 44=>159 | 46=>161 | 4=>4 | 36=>153 | 35=>152 | 41=>127 | 5=>5 | 9=>9 | 53=>163 | 57=>167 | 63=>174 | 64=>66 | n=>n,fun | n=>n⟩
theorem Try.laysSlM5_f56:Go.Proofs.SlLaysM.n5 Try.prog Try.laysSlM5_f56_ren:={
 mixed:=by kernel_rfl
 f5:=⟨Try.f73.name,by decide,Try.func73.trans (congrArg some (by kernel_rfl))⟩
 f7:=⟨Try.f93.name,by decide,Try.func93.trans (congrArg some (by kernel_rfl))⟩
 f8:=Try.func94.trans (congrArg some (by kernel_rfl))
 f10:=⟨Try.f105.name,by decide,Try.func105.trans (congrArg some (by kernel_rfl))⟩
 f11:=⟨Try.f106.name,by decide,Try.func106.trans (congrArg some (by kernel_rfl))⟩
 f12:=⟨Try.f107.name,by decide,Try.func107.trans (congrArg some (by kernel_rfl))⟩
 f13:=⟨Try.f108.name,by decide,Try.func108.trans (congrArg some (by kernel_rfl))⟩
 f14:=⟨Try.f109.name,by decide,Try.func109.trans (congrArg some (by kernel_rfl))⟩
 f15:=⟨Try.f110.name,by decide,Try.func110.trans (congrArg some (by kernel_rfl))⟩
 f16:=⟨Try.f95.name,by decide,Try.func95.trans (congrArg some (by kernel_rfl))⟩
 f17:=⟨Try.f111.name,by decide,Try.func111.trans (congrArg some (by kernel_rfl))⟩
 f18:=⟨Try.f112.name,by decide,Try.func112.trans (congrArg some (by kernel_rfl))⟩
 f19:=Try.func113.trans (congrArg some (by kernel_rfl))
 f20:=Try.func114.trans (congrArg some (by kernel_rfl))
 f30:=⟨Try.f120.name,by decide,Try.func120.trans (congrArg some (by kernel_rfl))⟩
 f31:=Try.func121.trans (congrArg some (by kernel_rfl))
 f32:=Try.func122.trans (congrArg some (by kernel_rfl))
 f33:=⟨Try.f123.name,by decide,Try.func123.trans (congrArg some (by kernel_rfl))⟩
 f34:=⟨Try.f124.name,by decide,Try.func124.trans (congrArg some (by kernel_rfl))⟩
 f35:=⟨Try.f115.name,by decide,Try.func115.trans (congrArg some (by kernel_rfl))⟩
 f40:=⟨Try.f133.name,by decide,Try.func133.trans (congrArg some (by kernel_rfl))⟩
 t0:=Try.underlying0
 a0:=Try.isAgg0
 z0:=Try.sizeOf0
 v0:=Try.zeroValue0
 t3:=Try.underlying3
 a3:=Try.isAgg3
 z3:=Try.sizeOf3
 v3:=Try.zeroValue3
 t4:=Try.underlying4
 a4:=Try.isAgg4
 z4:=Try.sizeOf4
 v4:=Try.zeroValue4
 t5:=Try.underlying5
 a5:=Try.isAgg5
 z5:=Try.sizeOf5
 v5:=Try.zeroValue5
 t9:=Try.underlying9
 a9:=Try.isAgg9
 z9:=Try.sizeOf9
 v9:=Try.zeroValue9
 t22:=Try.underlying32
 a22:=Try.isAgg32
 z22:=Try.sizeOf32
 v22:=Try.zeroValue32
 t23:=Try.underlying32
 a23:=Try.isAgg32
 z23:=Try.sizeOf32
 v23:=Try.zeroValue32
 t25:=Try.underlying3
 a25:=Try.isAgg3
 z25:=Try.sizeOf3
 v25:=Try.zeroValue3
 t32:=Try.underlying142
 a32:=Try.isAgg142
 z32:=Try.sizeOf142
 v32:=Try.zeroValue142
 t35:=Try.underlying152
 a35:=Try.isAgg152
 z35:=Try.sizeOf152
 v35:=Try.zeroValue152
 t36:=Try.underlying153
 a36:=Try.isAgg153
 z36:=Try.sizeOf153
 v36:=Try.zeroValue153
 t41:=Try.underlying127
 a41:=Try.isAgg127
 z41:=Try.sizeOf127
 v41:=Try.zeroValue127
 t44:=Try.underlying159
 a44:=Try.isAgg159
 z44:=Try.sizeOf159
 v44:=Try.zeroValue159
 t46:=Try.underlying161
 a46:=Try.isAgg161
 z46:=Try.sizeOf161
 v46:=Try.zeroValue161
 t53:=Try.underlying163
 a53:=Try.isAgg163
 z53:=Try.sizeOf163
 v53:=Try.zeroValue163
 t57:=Try.underlying167
 a57:=Try.isAgg167
 z57:=Try.sizeOf167
 v57:=Try.zeroValue167
 t63:=Try.underlying174
 a63:=Try.isAgg174
 z63:=Try.sizeOf174
 v63:=Try.zeroValue174
 t64:=Try.underlying66
 a64:=Try.isAgg66
 z64:=Try.sizeOf66
 v64:=Try.zeroValue66 }
open Go.Sort Go.RowKit in
theorem Try.slices_Sort_int (blk off cap:Nat) (zs:List Int) (w:World) (hH:Holds (Value.int .i64) w blk off zs.toArray) (hblk:blk < w.heap.size) (hsz:zs.length < 4611686018427387904) :
  Calls Try.prog 73 #[.slice (some ⟨blk,off,none⟩) zs.length cap] w fun e w' =>
   e = .returned (.tuple #[])∧∃ n os,w' = grow (putRow (Value.int .i64) (Sort.ahead w n) blk off (zs.mergeSort fun x y=>decide (x≤y)).toArray) os:=AnyM.slices_Sort_int Try.laysSlM5_f56 blk off cap zs w hH hblk hsz
open Go.RowKit Go.Sort in
theorem Try.slices_Sort_int_none (p:Option Addr) (cap:Nat) (w:World) :
  Calls Try.prog 73 #[.slice p 0 cap] w fun e w'=>e = .returned (.tuple #[])∧w' = w:=AnyM.slices_Sort_int_none Try.laysSlM5_f56 p cap w
end Go.Proofs
end
section
namespace Go.Proofs
open Go.Abs
theorem Try.rowK73:Go.Abs.RowK Try.prog 73 (eI .i64) 1 [] Qbko :=
 Qbgq (by kernel_rfl) Try.slices_Sort_int Try.slices_Sort_int_none
end Go.Proofs
end
section
namespace Go.Proofs
open Go Go.Abs
set_option maxRecDepth 10000
set_option maxHeartbeats 4000000
theorem Q0n:Qia Try.prog 35 Qpl:=Qxq Q2a
theorem Q2e:Qi9 Try.prog 85 Qgu:=Qy7 Q3s Qdv
theorem Q4s:Qlk Try.prog 116 Qh2:=Q14 Q5d Qdv
theorem Q0o:Qic Try.prog 98 Qga:=Qxr Q4s Q2c
theorem Qzf:Qhp Try.prog 86 Qf1:=Qu9 Q0o Q0m Qdv
theorem Ql8:Qg4 Try.prog 64 Qfn:=Q3o Q2e Qzf Q6d
theorem Qgx:Qei Try.prog 31 Qd0:=Q0c Q4p Qdv
theorem Ql9:Qf0 Try.prog 65 Qf2:=Qva Q0k
theorem Q6y:Qr5 Try.prog 115 Qs2:=Q49 Q8c
theorem Q8g:Qty Try.prog 95 Qjk:=Q6b Q6y Q80
theorem Q4t:Qlm Try.prog 96 Qh3:=Q15 Q5c
theorem Qtb:Qgg Try.prog 74 Qem:=Qrb Q8g Q4t Qvk Qdv
theorem Qb6:Qbz Try.prog 50 Q6:=Q0d Qtb Q4r
theorem Qfl:Qdr Try.prog 30 Qc8:=Qvb Qgx Qb6 Ql8 Ql9 Q0h Qdv
theorem Qhj:Qeh Try.prog 37 Qds:=Qvc Qb6 Q0i Qdv
theorem Qni:Qeq Try.prog 76 Qey:=Ql4 Qpi
theorem Qxv:Qhb Try.prog 71 Qhf:=Qs7 Qzb Qdv
theorem Qdk:Qch Try.prog 40 Qbe:=Qql Qxv Qs9
theorem Qnj:Qes Try.prog 97 Qez:=Ql5 Qb6 Qpk
theorem Qqp:Qff Try.prog 77 Qd2:=Qnd Qdk Qnj Qrj
theorem Qe8:Qdb Try.prog 53 Qcr:=Qne Qdk Qb6 Qni Qqp Qrh Qdv
theorem Qeg:Qcz Try.prog 39 Qca:=Qlg Qb6 Qnh Qdv
theorem Qrl:Qfr Try.prog 38 Qdj:=Qpd Qeg Qe8 Qsz Qdv
theorem Qpn:Qe3 Try.prog 41 Qe7:=Qmv Qqn
theorem Q4u:Qly Try.prog 72 Qh4:=Q16 Q5b
theorem Qma:Qd8 Try.prog 42 Qde:=Qkg Qb6 Q4u Qmx Qdv
theorem Qh5:Qd5 Try.prog 11 Qcb:=Qpe Qfl Qhj Qrl Qeg Qdk Qpn Qma Qsy Qdv
theorem Qrm:Qfu Try.prog 48 Qin:=Qpf Qs0
theorem Qzg:Qhu Try.prog 47 Qm1:=Qvd Ql9 Try.rowK73 Q0j Qdv
theorem Qtc:Qgi Try.prog 17 Qjl:=Qrc Qzg Qrm Qvf
theorem Qs3:Qh1 Try.prog 45 Qgb:=Q17 Q5a Qdv
theorem Q5e:Qtl Try.prog 16 Qpm:=Q8b Qs3 Qbb5
theorem Q0p:Qie Try.prog 9 Qio:=Qxs Qh5 Q5e Qtc Q0n Q18
theorem Q3t:Qka Try.prog 28 Qhg:=Q0e Ql8 Q4o
theorem Q3u:Qkc Try.prog 23 Qhh:=Q0f Q4n Qdv
theorem Q0q:Qig Try.prog 29 Qgc:=Qxt Q3u Qgx Ql8 Q19
theorem Qrn:Qfw Try.prog 52 Qfy:=Qpg Qb6 Qe8 Qs1
theorem Qzh:Qhw Try.prog 75 Qhy:=Qve Q0l Qdv
theorem Qi5:Qel Try.prog 51 Qc7:=Qrd Qzh Qvh
theorem Qtd:Qgl Try.prog 20 Qb9:=Qre Qfl Qgx Qhj Qeg Qb6 Qi5 Qrn Qvg Qdv
theorem Q0r:Qii Try.prog 56 Qgd:=Qxu Q2b Qdv
theorem Qnk:Qeu Try.prog 79 Qe0:=Ql6 Qpj
theorem Qqq:Qfi Try.prog 58 Qd3:=Qnf Qdk Qb6 Qe8 Qnk Qri
theorem Qte:Qgn Try.prog 57 Qen:=Qrf Qqq Qvi
theorem Qe9:Qdd Try.prog 82 Qcs:=Qng Qrk
theorem Qmb:Qea Try.prog 81 Qdf:=Qkh Qe9 Qmy
theorem Qmc:Qec Try.prog 83 Qdg:=Qki Qb6 Qe9 Qmz
theorem Qmd:Qee Try.prog 84 Qdh:=Qkj Qe9 Qm0
theorem Qnl:Qew Try.prog 61 Qdq:=Ql7 Qdk Qb6 Qmb Qmc Qmd Qph
theorem Qtf:Qgp Try.prog 60 Qeo:=Qrg Qnl Qvj
theorem Qs4:Qf6 Try.prog 80 Qf8:=Qqm Qta Qdv
theorem Qpo:Qe5 Try.prog 59 Qc6:=Qmw Qs4 Qqo
theorem Qxw:Qhd Try.prog 26 Qco:=Qs8 Qfl Qhj Qi5 Q0r Qte Qpo Qtf Qza
theorem Q2f:Qjb Try.prog 14 Qgv:=Qy8 Q5e Q3q Qdv
theorem Q3v:Qke Try.prog 46 Qhi:=Q0g Q4q Qdv
theorem Q5f:Qnb Try.prog 15 Qi4:=Q3p Qs3 Q3v Q6c
theorem Q2g:Qjd Try.prog 19 Qgw:=Qy9 Q5f Q3r
theorem Q3w:Qfm Try.prog 7 Qdw:=Qim Q0p Qh5 Q2f Q2g Qtd Qxw Q3t Q0q Qfl Qgx Qji
end Go.Proofs
end
section
namespace Go.Abs
open Go Go.ChangeShapes Go.WideShapes Go.ChangeAt Go.RowKit
def live (w:World):Nat→Nat→Prop:=fun b o=>(w.cell? ⟨b,o,none⟩).isSome = true
def RDs (w:World):List D→List Value→Prop
 | [],vs=>vs = []
 | x :: xs,vs=>∃ u us,vs = u :: us∧RD (live w) w x u∧RDs w xs us
theorem Q9q {w:World}:∀ {xs ys:List D} {us vs:List Value},RDs w xs us→RDs w ys vs→RDs w (xs ++ ys) (us ++ vs)
 | [],ys,us,vs,h,k=>by simp only [RDs] at h; subst h; simpa using k
 | x :: xs,ys,us,vs,⟨u,us',e,r,h⟩,k=>by subst e; exact ⟨u,us' ++ vs,by simp,r,Q9q h k⟩
def RDat (w:World) (cs:List Value) (off:Nat) (xs:List D):Prop:=RDs w xs ((cs.drop off).take xs.length)
theorem RDat.app {w:World} {cs:List Value} {off:Nat} {xs ys:List D} (h:RDat w cs off xs) {n:Nat} (hn:n = off + xs.length) (k:RDat w cs n ys):RDat w cs off (xs ++ ys):=by
 subst hn
 have:=Q9q h k
 unfold RDat
 rw [List.length_append,List.take_add,List.drop_drop]
 exact this
theorem RDat.nil {w:World} {cs:List Value} {off:Nat}:RDat w cs off []:=by simp [RDat,RDs]
theorem RDat.all {w:World} {cs:List Value} {xs:List D} (h:RDat w cs 0 xs) (hl:cs.length = xs.length):RDs w xs cs:=by
 unfold RDat at h
 rw [List.drop_zero,← hl,List.take_length] at h
 exact h
theorem Qbgr {w:World} {b:Nat}:∀ {xs:List D} {vs:List Value} {o:Nat},RDs w xs vs→(∀ i v,vs[i]? = some v→w.cell? ⟨b,o + i,none⟩ = some v)→RDc (live w) w b xs o
 | [],vs,o,_,_=>by simp [RDc]
 | x :: xs,vs,o,⟨u,us,e,r,h⟩,hc=>by
  subst e
  have h0:=hc 0 u rfl
  rw [Nat.add_zero] at h0
  refine ⟨by simp [live,h0],⟨u,h0,r⟩,Qbgr h fun i v hv=>?_⟩
  have:=hc (i + 1) v (by simpa using hv)
  rw [show o + 1 + i = o + (i + 1) from by omega]; exact this
def Q6z {α:Type} (P:Program) (t:TypeId) (e:α→List D) (wf:α→Prop):Prop :=
 ∀ {H:Type} {enc:TypeId×Value→H} {w:World} {base:Nat} {spare:Nat→Bool} {held:Bool} {fuel:Nat} {cs:List Value} {x:DataW H×List MemPlace},
  DataW.trod enc P w base spare held fuel t cs = some x→∃ a,wf a∧RDs w (e a) cs
def wfI (k:IntKind) (n:Int):Prop:=(Lit.int k n).wf = true
def wfL {α:Type} (wf:α→Prop) (l:List α):Prop:=l.length≤maxLen∧∀ a∈l,wf a
variable {P:Program} {t:TypeId}
theorem Qbgs {k:IntKind} (ht:P.underlying t = some (.int k)):Q6z P t (fun n:Int=>[.int k n]) (wfI k):=by
 intro H enc w base spare held fuel cs x h
 obtain ⟨n,rfl,_,hw⟩:=DataW.trod_int ht h
 exact ⟨n,hw,_,_,rfl,by simp [RD],rfl⟩
theorem cells?_get {w:World} {base:Nat} {a:Addr} {n:Nat} {cs:List Value} (h:w.cells? base a n = some cs):cs.length = n∧∀ i v,cs[i]? = some v→w.cell? (a.add i) = some v:=by
 obtain ⟨h1,h2,h3⟩:=World.cells?_some h
 refine ⟨h2,fun i v hv=>?_⟩
 have hi:=(List.getElem?_eq_some_iff.1 hv).1
 have:=h3 i (by omega)
 rw [this]; simpa using hv
theorem Q8h {α:Type} {el:TypeId} {e:α→List D} {wf:α→Prop} {sz:Nat} (ht:P.underlying t = some (.slice el)) (he:Q6z P el e wf) (hsz:P.cellsOf el = sz) (hpos:0 < sz) (hlen:∀ a,(e a).length = sz) :
  Q6z P t (fun l:List α=>[.lst sz (l.map e)]) (wfL wf):=by
 intro H enc w base spare held fuel cs x h
 rcases DataW.trod_slice ht h with ⟨rfl,_⟩ | ⟨a,len,cap,Qit,rest,n,_,rfl,_,hb,hl,hm,helen,hel,_,_⟩
 ·exact ⟨[],⟨by simp,by simp⟩,_,_,rfl,by simp only [RD,List.map_nil,List.length_nil]; exact ⟨none,0,rfl,Nat.le_refl _,.inl trivial⟩,rfl⟩
 ·have key:∀ m,m≤len→∃ l:List α,l.length = m∧(∀ x∈l,wf x)∧∀ i y,l[i]? = some y→∃ vs,w.cells? base (a.add (i * sz)) sz = some vs∧RDs w (e y) vs:=by
   intro m
   induction m with
   | zero=>exact fun _=>⟨[],rfl,by simp,by simp⟩
   | succ m ih =>
    intro hm'
    obtain ⟨l,h1,h2,h3⟩:=ih (by omega)
    have h4:=hel m (by omega)
    have h5:Qit[m]? = some Qit[m]:=List.getElem?_eq_getElem (by omega)
    rw [h5,hsz,Option.bind_eq_some_iff] at h4
    obtain ⟨vs,h6,h7⟩:=h4
    obtain ⟨y,h8,h9⟩:=he h7
    refine ⟨l ++ [y],by simp [h1],?_,fun i z hz=>?_⟩
    ·intro x hx
     rcases List.mem_append.1 hx with hx | hx
     ·exact h2 x hx
     ·simp at hx; subst hx; exact h8
    ·by_cases hi:i < m
     ·rw [List.getElem?_append_left (by omega)] at hz; exact h3 i z hz
     ·have:i = m:=by
       have:=(List.getElem?_eq_some_iff.1 hz).1
       simp at this; omega
      subst this
      rw [List.getElem?_append_right (by omega),h1] at hz
      simp at hz; subst hz
      exact ⟨vs,h6,h9⟩
  obtain ⟨l,h1,h2,h3⟩:=key len (Nat.le_refl _)
  have hmax:l.length≤maxLen:=by omega
  refine ⟨l,⟨hmax,h2⟩,_,_,rfl,?_,rfl⟩
  simp only [RD,List.length_map,h1]
  refine ⟨some a,cap,rfl,hl,?_⟩
  cases l with
  | nil=>exact .inl rfl
  | cons y l =>
   right
   have hspot:a.spot = none:=by
    obtain ⟨vs,h4,h5⟩:=h3 0 y rfl
    obtain ⟨h6,h7⟩:=cells?_get h4
    have hv:vs[0]? = some vs[0]:=List.getElem?_eq_getElem (by omega)
    have:=h7 0 _ hv
    cases hs:a.spot with
    | none=>rfl
    | some s =>
     unfold World.cell? at this
     split at this
     ·simp [Addr.add,hs] at this
     ·cases this
   obtain ⟨b,o,sp⟩:=a
   simp only at hspot
   subst hspot
   refine ⟨b,o,rfl,?_⟩
   have row:∀ (l:List α) (j:Nat),(∀ i y,l[i]? = some y→∃ vs,w.cells? base ((⟨b,o,none⟩ : Addr).add ((j + i) * sz)) sz = some vs∧RDs w (e y) vs)→RDL (live w) w sz b (l.map e) (o + j * sz):=by
    intro l
    induction l with
    | nil=>intro j _; simp [RDL]
    | cons y l ih =>
     intro j h
     obtain ⟨vs,h4,h5⟩:=h 0 y rfl
     obtain ⟨h6,h7⟩:=cells?_get h4
     refine ⟨hlen y,Qbgr h5 fun i v hv=>?_,?_⟩
     ·have:=h7 i v hv
      rw [Qgs,Qgs] at this
      simpa [Nat.add_assoc] using this
     ·have:=ih (j + 1) fun i y hy=>by
       have:=h (i + 1) y (by simpa using hy)
       rw [show j + 1 + i = j + (i + 1) from by omega]; exact this
      rw [show o + j * sz + sz = o + (j + 1) * sz from by rw [Nat.add_mul]; omega]
      exact this
   have:=row (y :: l) 0 fun i y hy=>by simpa using h3 i y hy
   simpa using this
theorem Qjo {α:Type} {el:TypeId} {e:α→List D} {wf:α→Prop} {sz:Nat} (he:Q6z P el e wf) (hsz:P.cellsOf el = sz) (hlen:∀ a,(e a).length = sz)
  {H:Type} {enc:TypeId×Value→H} {w:World} {base:Nat} {spare:Nat→Bool} {held:Bool} {fuel off:Nat} {cs:List Value} {x:DataW H×List MemPlace}
  (h:DataW.trod enc P w base spare held fuel el ((cs.drop off).take (P.cellsOf el)) = some x):∃ a,wf a∧RDat w cs off (e a):=by
 obtain ⟨a,h1,h2⟩:=he h
 refine ⟨a,h1,?_⟩
 unfold RDat
 rw [hlen,← hsz]; exact h2
theorem Q8i {H:Type} {enc:TypeId×Value→H} {w:World} {base:Nat} {spare:Nat→Bool} {held:Bool} {fuel:Nat} {cs:List Value} {x:DataW H×List MemPlace} {fs:Array Field}
  (ht:P.underlying t = some (.struct fs)) (h:DataW.trod enc P w base spare held fuel t cs = some x) :
  cs.length = P.cellsOf t∧∃ n,∀ (i:Nat) (f:Field),fs[i]? = some f→∃ y,DataW.trod enc P w base spare held n f.type ((cs.drop f.offset).take (P.cellsOf f.type)) = some y:=by
 obtain ⟨xs,n,_,_,h1,h2,h3⟩:=DataW.trod_struct ht h
 refine ⟨h1,n,fun i f hf=>?_⟩
 have hi:i < fs.size:=(Array.getElem?_eq_some_iff.1 hf).1
 exact ⟨xs[i]'(by omega),by rw [h3 i f hf]; exact List.getElem?_eq_getElem (by omega)⟩
def Q2v {α:Type} (P:Program) (t:TypeId) (v:α→V) (wf:α→Prop):Prop :=
 ∀ {H:Type} {enc:TypeId×Value→H} {w:World} {base b0:Nat} {spare:Nat→Bool} {held:Bool} {u:Value} {d:DataW H} {ps:List MemPlace},
  Value.okWide P w .any b0 t u→DataW.Trod enc P w base spare held t u d ps→∃ a,wf a∧RF ⟨fun _=>0,live w,fun _=>.ext⟩ w (v a) u
theorem Qbjr {α:Type} {e:α→D} {wf:α→Prop} (he:Q6z P t (fun a=>[e a]) wf) (hone:∀ w b0 u,Value.okWide P w .any b0 t u→u.cells = #[u]):Q2v P t (fun a=>.d (e a)) wf:=by
 intro H enc w base b0 spare held u d ps hok hd
 obtain ⟨fuel,hf⟩:=hd
 rw [hone _ _ _ hok] at hf
 obtain ⟨a,h1,u',us,h2,h3,h4⟩:=he hf
 simp only [RDs] at h4; subst h4
 simp at h2; subst h2
 exact ⟨a,h1,fun ℓ=>by simpa [RV] using h3⟩
theorem Qbgt {el:TypeId} (ht:P.underlying t = some (.slice el)):∀ w b0 u,Value.okWide P w .any b0 t u→u.cells = #[u]:=by
 intro w b0 u h
 simp only [Value.okWide,ht] at h
 cases u <;> first | rfl | (simp [Cell.okWide,Cell.ok,ht] at h)
theorem Qbkp {imm:Nat→Nat→Prop} {w:World} {x:D} {u:Value} (h:RD imm w x u):u.oneCell' = true:=by
 cases x with
 | int k n=>simp only [RD] at h; subst h; rfl
 | bool b=>simp only [RD] at h; subst h; rfl
 | str s=>simp only [RD] at h; subst h; rfl
 | lst sz l=>simp only [RD] at h; obtain ⟨a,cap,rfl,_⟩:=h; cases a <;> rfl
theorem Qbgu {w:World} {g:G} (hg:g.imm = live w):∀ {xs:List D} {us:List Value} {ℓ:Owner} {i:Nat},RDs w xs us→RVs g w (xs.map V.d) ℓ i us∧∀ u∈us,u.oneCell' = true
 | [],us,ℓ,i,h=>by simp only [RDs] at h; subst h; simp [RVs]
 | x :: xs,us,ℓ,i,⟨u,us',e,r,h⟩=>by
  subst e
  obtain ⟨h1,h2⟩:=Qbgu hg (ℓ:=ℓ) (i:=i + 1) h
  refine ⟨⟨u,us',rfl,by simpa [RV,hg] using r,h1⟩,fun v hv=>?_⟩
  rcases List.mem_cons.1 hv with rfl | hv
  ·exact Qbkp r
  ·exact h2 v hv
theorem Qbjs {α:Type} {e:α→List D} {wf:α→Prop} (he:Q6z P t e wf) (hagg:(∃ fs,P.underlying t = some (.struct fs))∨∃ n el,P.underlying t = some (.array n el)):Q2v P t (fun a=>.agg ((e a).map V.d)) wf:=by
 intro H enc w base b0 spare held u d ps hok hd
 obtain ⟨cs,rfl⟩ : ∃ cs,u = .agg cs:=by
  rcases hagg with ⟨fs,ht⟩ | ⟨n,el,ht⟩
  ·simp only [Value.okWide,ht] at hok; obtain ⟨cs,rfl,_⟩:=hok; exact ⟨cs,rfl⟩
  ·simp only [Value.okWide,ht] at hok; obtain ⟨cs,rfl,_⟩:=hok; exact ⟨cs,rfl⟩
 obtain ⟨fuel,hf⟩:=hd
 obtain ⟨a,h1,h2⟩:=he hf
 refine ⟨a,h1,fun ℓ=>?_⟩
 simp only [RV]
 obtain ⟨h3,h4⟩:=Qbgu (g:=⟨fun _=>0,live w,fun _=>.ext⟩) rfl (ℓ:=ℓ) (i:=0) h2
 exact ⟨cs.toList,by simp,h3,h4⟩
def Qbkq (P:Program) (f:FuncId) (ts:List TypeId):Prop :=
 ∀ {H:Type} {enc:TypeId×Value→H} {w:World} {b0:Nat} {us:List Value} {ds:List (DataW H)} {ps:List MemPlace},
  (∀ (j:Nat) t u,ts[j]? = some t→us[j]? = some u→Value.okWide P w .any b0 t u)→DataW.TrodAll enc P w 0 (fun _=>true) true ts us ds ps →
  ∃ vs,RFs ⟨fun _=>0,live w,fun _=>.ext⟩ w vs us∧(∀ x∈vs,Flat x)∧V.lt.go 0 vs = true∧∀ M nb,ACalls P f vs M nb (.d (.bool true)) M nb
theorem Q5g (hl:laidOutB P = true) {W W' : World} {sp:Nat→Bool} {H:Type} {enc:TypeId×Value→H}:∀ {ts:List TypeId} {us:List Value} {ds:List (DataW H)} {ps:List MemPlace},
  (∀ t∈ts,P.readableRec t = true∧t < P.types.size)→DataW.TrodAll enc P W 0 (fun _=>true) true ts us ds ps→(∀ p∈ps,W.sameAt W' p)→(∀ p∈ps,sp p.block = true)→DataW.TrodAll enc P W' 0 sp true ts us ds ps
 | [],[],[],ps,_,h,_,_=>h
 | t :: ts,u :: us,d :: ds,ps,hr,⟨p,q,h1,h2,e⟩,hs,hp=>by
  subst e
  obtain ⟨r1,r2⟩:=hr t (by simp)
  exact ⟨p,q,WideElems.Trod_stays hl r1 r2 h1 (fun x hx=>hs x (by simp [hx])) (fun x hx=>hp x (by simp [hx])),Q5g hl (fun t ht=>hr t (by simp [ht])) h2 (fun x hx=>hs x (by simp [hx])) (fun x hx=>hp x (by simp [hx])),rfl⟩
 | [],[],_ :: _,_,_,h,_,_=>h.elim
 | [],_ :: _,_,_,_,h,_,_=>h.elim
 | _ :: _,[],_,_,_,h,_,_=>h.elim
 | _ :: _,_ :: _,[],_,_,h,_,_=>h.elim
theorem Q8j {W:World} {sp:Nat→Bool} {held:Bool} {base:Nat} {H:Type} {enc:TypeId×Value→H}:∀ {ts:List TypeId} {us:List Value} {ds:List (DataW H)} {ps:List MemPlace},
  DataW.TrodAll enc P W base sp held ts us ds ps→ds.length = ts.length∧us.length = ts.length
 | [],[],[],ps,h=>⟨rfl,rfl⟩
 | t :: ts,u :: us,d :: ds,ps,⟨p,q,h1,h2,e⟩=>by have:=Q8j h2; simp [this.1,this.2]
 | [],[],_ :: _,_,h=>h.elim
 | [],_ :: _,_,_,h=>h.elim
 | _ :: _,[],_,_,h=>h.elim
 | _ :: _,_ :: _,[],_,h=>h.elim
theorem Qbjt {C:Checked} {f:FuncId} {fn:Func} {s:ChangeSpec} {conds:List PathCond} {bt:TypeId} {os:Os} {H:Type} {enc:TypeId×Value→H}
  (own:ownKnob C.prog.godebug = none) (started:os.Started) (noInit:C.prog.inits.idxOf? f = none) (hfn:C.prog.funcs[f]? = some fn)
  (witness:∃ (w:World) (tape:Tape) (i:Input),w.os = os∧(w.forCall tape i).Shaped C.prog∧i.vars = []∧Input.okWide C.prog (w.forCall tape i) .any w.heap.size f i ∧
   s.pre6 enc C.prog fn conds false (w.forCall tape i).memory i.args∧({}:Assume).holds C.prog (lone (Frame.enter C.prog f i.args .normal) [] (w.forCall tape i)))
  (hvars:s.vars = []) (hres:fn.resultTypes = #[bt]) (hbt:C.prog.underlying bt = some .bool)
  (hl:laidOutB C.prog = true) (hread:∀ t∈fn.params.toList,C.prog.readableRec t = true∧t < C.prog.types.size)
  (hspec:∀ ds:List (DataW H),ds.length = fn.params.size→s.fn H ds = { results:=[.lit (.bool true)],args:=ds })
  (law:Qbkq C.prog f fn.params.toList) :
  ReturnsInHanded {} C os f .any (s.pre6 enc C.prog fn conds false) (s.post enc C.prog fn false true false false):=by
 refine returnsInHanded_of_change own started noInit hfn witness ?_
 intro W base args ds gs before hval hW hcnd _
 have hW':=hW
 obtain ⟨p,q,hA,hV,hps,hfz,hnd⟩:=hW
 rw [hvars] at hV
 obtain ⟨rfl,rfl⟩ : gs = []∧q = []:=by
  cases gs with
  | nil=>exact ⟨rfl,hV⟩
  | cons _ _=>exact hV.elim
 obtain ⟨vs,h1,h2,h3,h4⟩:=law (fun j t u ht hu=>hval j t u (by simpa using ht) (by simpa using hu)) hA
 obtain ⟨hb,_,h5⟩:=h4 (fun _=>none) 0
 have hlv:∀ b o,live W b o→b < W.heap.size:=by
  intro b o h
  simp only [live] at h
  obtain ⟨v,hv⟩:=Option.isSome_iff_exists.1 h
  unfold World.cell? at hv
  split at hv
  ·rename_i hh; exact (Array.getElem?_eq_some_iff.1 hh).1
  ·cases hv
 have hmr:MR ⟨fun _=>0,live W,fun _=>.ext⟩ W (fun _=>none) 0:=⟨fun k b h=>(by cases h),fun b o h=>⟨hlv b o h,fun k h=>by cases h⟩⟩
 have h6:=h5 W ⟨fun _=>0,live W,fun _=>.ext⟩ args.toList hmr (fun k cs h=>by cases h) (fun b=>⟨fun t p h=>(by cases h),fun p h=>(by cases h)⟩) h1 h2 (ons_mono (fun k hk=>absurd hk (Nat.not_lt_zero k)) _ (ons_lt vs h3))
 refine Calls.mono h6 fun e W' ⟨v,g',he,_,hr,_,_,hf⟩=>?_
 subst he
 have hv:v = .bool true:=by simpa [RV,RD] using hr
 subst hv
 have hbelow:Below W.heap.size W W':=⟨hf.os,hf.tape,hf.output,hf.size,fun k hk=>(hf.old k hk trivial).2.1⟩
 have hrl:(Value.bool true).resultList fn.resultTypes.size = [.bool true]:=by rw [hres]; rfl
 have hsp:s.fn H (ds ++ []) = { results:=[.lit (.bool true)],args:=ds }:=by
  rw [List.append_nil]
  exact hspec ds (by have:=(Q8j hA).1; simpa using this)
 have hlt:∀ p∈before,p.block < W.heap.size:=fun x hx=>hW'.lt x hx
 have hst:∀ sp:Nat→Bool,(∀ p∈before,sp p.block = true)→DataW.TrodAll enc C.prog W' 0 sp true fn.params.toList args.toList ds before:=by
  intro sp hsp'
  have e:p = before:=by rw [hps,List.append_nil]
  subst e
  exact Q5g hl hread hA (fun x hx=>hbelow.same (hlt x hx)) hsp'
 refine ⟨_,rfl,ds,[],before,[],before,[],hW',?_,?_,?_,World.keptBut_mono (fun p hp=>⟨hp,.inr (.inl hp)⟩) (hbelow.frame (· ∈ before)),fun h=>by cases h⟩
 ·rw [hsp,hrl,hres]
  exact ⟨[],[],⟨1,by simp [DataW.trod,Value.cells,hbt]⟩,rfl,rfl⟩
 ·rw [hsp]
  exact hst _ fun p hp=>by simpa using hlt p hp
 ·rw [hsp,hvars]; rfl
section
variable {α β γ δ:Type} {f:FuncId} {ta tb tc td:TypeId} {va:α→V} {vb:β→V} {vc:γ→V} {vd:δ→V} {wa:α→Prop} {wb:β→Prop} {wc:γ→Prop} {wd:δ→Prop}
theorem Q8k {H:Type} {enc:TypeId×Value→H} {w:World} {base:Nat} {sp:Nat→Bool} {held:Bool} {t:TypeId} {ts:List TypeId} {us:List Value} {ds:List (DataW H)} {ps:List MemPlace} (h:DataW.TrodAll enc P w base sp held (t :: ts) us ds ps) :
  ∃ u us' d ds' p q,us = u :: us' ∧ ds = d :: ds' ∧ DataW.Trod enc P w base sp held t u d p∧DataW.TrodAll enc P w base sp held ts us' ds' q:=by
 match us,ds,h with
 | u :: us',d :: ds',⟨p,q,h1,h2,_⟩=>exact ⟨u,us',d,ds',p,q,rfl,rfl,h1,h2⟩
 | [],[],h=>exact h.elim
 | [],_ :: _,h=>exact h.elim
 | _ :: _,[],h=>exact h.elim
theorem Qbda {H:Type} {enc:TypeId×Value→H} {w:World} {base:Nat} {sp:Nat→Bool} {held:Bool} {us:List Value} {ds:List (DataW H)} {ps:List MemPlace} (h:DataW.TrodAll enc P w base sp held [] us ds ps):us = []:=by
 match us,ds,h with
 | [],[],_=>rfl
 | [],_ :: _,h=>exact h.elim
 | _ :: _,[],h=>exact h.elim
 | _ :: _,_ :: _,h=>exact h.elim
theorem Qbk9 (ra:Q2v P ta va wa) (fa:∀ a,(va a).dem = va a) (la:∀ a,(va a).lt 0 = true) (rb:Q2v P tb vb wb) (fb:∀ a,(vb a).dem = vb a) (lb:∀ a,(vb a).lt 0 = true)
  (law:∀ a b,wa a→wb b→∀ M nb,ACalls P f [va a,vb b] M nb (.d (.bool true)) M nb):Qbkq P f [ta,tb]:=by
 intro H enc w b0 us ds ps hok hT
 obtain ⟨u,us',d,ds',p,q,rfl,rfl,h1,hT⟩:=Q8k hT
 obtain ⟨u2,us',d2,ds',p2,q2,rfl,rfl,h2,hT⟩:=Q8k hT
 obtain rfl:=Qbda hT
 obtain ⟨a,ha,hra⟩:=ra (hok 0 _ _ rfl rfl) h1
 obtain ⟨b,hb,hrb⟩:=rb (hok 1 _ _ rfl rfl) h2
 refine ⟨[va a,vb b],⟨u,_,rfl,hra,u2,_,rfl,hrb,rfl⟩,?_,by simp [V.lt.go,la,lb],law a b ha hb⟩
 intro x hx
 simp only [List.mem_cons,List.not_mem_nil,or_false] at hx
 rcases hx with rfl | rfl
 ·exact fa a
 ·exact fb b
end
end Go.Abs
end
section
namespace Go.Proofs
open Go Go.Abs
set_option maxRecDepth 100000
def W_3 (x:Int):Prop:=wfI .i64 x
theorem R_3:Q6z Try.prog 3 (eI .i64) W_3:=Qbgs Try.underlying3
def W_32 (x:List Int):Prop:=wfL W_3 x
theorem R_32:Q6z Try.prog 32 (eL 1 (eI .i64)) W_32:=Q8h Try.underlying32 R_3 (by kernel_rfl) (by decide) (fun _=>rfl)
def W_59 (x:Qe):Prop:=W_3 x.From∧W_3 x.Event∧W_3 x.To
theorem R_59:Q6z Try.prog 59 Qb W_59:=by
  intro H enc w base spare held fuel cs x h
  obtain ⟨hl,n,hf⟩:=Q8i Try.underlying59 h
  obtain ⟨y0,h0⟩:=hf 0 _ rfl
  obtain ⟨a0,w0,r0⟩:=Qjo (off:=0) (sz:=1) R_3 (by kernel_rfl) (fun _=>rfl) h0
  obtain ⟨y1,h1⟩:=hf 1 _ rfl
  obtain ⟨a1,w1,r1⟩:=Qjo (off:=1) (sz:=1) R_3 (by kernel_rfl) (fun _=>rfl) h1
  obtain ⟨y2,h2⟩:=hf 2 _ rfl
  obtain ⟨a2,w2,r2⟩:=Qjo (off:=2) (sz:=1) R_3 (by kernel_rfl) (fun _=>rfl) h2
  exact ⟨⟨a0,a1,a2⟩,⟨w0,w1,w2⟩,RDat.all (xs:=Qb ⟨a0,a1,a2⟩) (RDat.app r0 rfl (RDat.app r1 rfl r2)) (hl.trans (by kernel_rfl))⟩
def W_33 (x:List Qe):Prop:=wfL W_59 x
theorem R_33:Q6z Try.prog 33 (eL 3 Qb) W_33:=Q8h Try.underlying33 R_59 (by kernel_rfl) (by decide) (fun _=>rfl)
def W_35 (x:Qm):Prop:=W_32 x.zJ∧W_3 x.zM∧W_32 x.zK∧W_33 x.zL
theorem R_35:Q6z Try.prog 35 Q06 W_35:=by
  intro H enc w base spare held fuel cs x h
  obtain ⟨hl,n,hf⟩:=Q8i Try.underlying35 h
  obtain ⟨y0,h0⟩:=hf 0 _ rfl
  obtain ⟨a0,w0,r0⟩:=Qjo (off:=0) (sz:=1) R_32 (by kernel_rfl) (fun _=>rfl) h0
  obtain ⟨y1,h1⟩:=hf 1 _ rfl
  obtain ⟨a1,w1,r1⟩:=Qjo (off:=1) (sz:=1) R_3 (by kernel_rfl) (fun _=>rfl) h1
  obtain ⟨y2,h2⟩:=hf 2 _ rfl
  obtain ⟨a2,w2,r2⟩:=Qjo (off:=2) (sz:=1) R_32 (by kernel_rfl) (fun _=>rfl) h2
  obtain ⟨y3,h3⟩:=hf 3 _ rfl
  obtain ⟨a3,w3,r3⟩:=Qjo (off:=3) (sz:=1) R_33 (by kernel_rfl) (fun _=>rfl) h3
  exact ⟨⟨a0,a1,a2,a3⟩,⟨w0,w1,w2,w3⟩,RDat.all (xs:=Q06 ⟨a0,a1,a2,a3⟩) (RDat.app r0 rfl (RDat.app r1 rfl (RDat.app r2 rfl r3))) (hl.trans (by kernel_rfl))⟩
def W_37 (x:Qa):Prop:=W_35 x.zA∧W_32 x.zC∧W_32 x.zB∧W_32 x.zD∧W_3 x.Tick
theorem R_37:Q6z Try.prog 37 Qkn W_37:=by
  intro H enc w base spare held fuel cs x h
  obtain ⟨hl,n,hf⟩:=Q8i Try.underlying37 h
  obtain ⟨y0,h0⟩:=hf 0 _ rfl
  obtain ⟨a0,w0,r0⟩:=Qjo (off:=0) (sz:=4) R_35 (by kernel_rfl) (fun _=>rfl) h0
  obtain ⟨y1,h1⟩:=hf 1 _ rfl
  obtain ⟨a1,w1,r1⟩:=Qjo (off:=4) (sz:=1) R_32 (by kernel_rfl) (fun _=>rfl) h1
  obtain ⟨y2,h2⟩:=hf 2 _ rfl
  obtain ⟨a2,w2,r2⟩:=Qjo (off:=5) (sz:=1) R_32 (by kernel_rfl) (fun _=>rfl) h2
  obtain ⟨y3,h3⟩:=hf 3 _ rfl
  obtain ⟨a3,w3,r3⟩:=Qjo (off:=6) (sz:=1) R_32 (by kernel_rfl) (fun _=>rfl) h3
  obtain ⟨y4,h4⟩:=hf 4 _ rfl
  obtain ⟨a4,w4,r4⟩:=Qjo (off:=7) (sz:=1) R_3 (by kernel_rfl) (fun _=>rfl) h4
  exact ⟨⟨a0,a1,a2,a3,a4⟩,⟨w0,w1,w2,w3,w4⟩,RDat.all (xs:=Qkn ⟨a0,a1,a2,a3,a4⟩) (RDat.app r0 rfl (RDat.app r1 rfl (RDat.app r2 rfl (RDat.app r3 rfl r4)))) (hl.trans (by kernel_rfl))⟩
theorem A_37:Q2v Try.prog 37 (fun (a:Qa)=>.agg [.d (.lst 1 (List.map (eI .i64) a.zA.zJ)),.d (.int .i64 a.zA.zM),.d (.lst 1 (List.map (eI .i64) a.zA.zK)),.d (.lst 3 (List.map Qb a.zA.zL)),.d (.lst 1 (List.map (eI .i64) a.zC)),.d (.lst 1 (List.map (eI .i64) a.zB)),.d (.lst 1 (List.map (eI .i64) a.zD)),.d (.int .i64 a.Tick)]) W_37:=Qbjs R_37 (.inl ⟨_,Try.underlying37⟩)
theorem A_32:Q2v Try.prog 32 (fun (a:List Int)=>.d (.lst 1 (List.map (eI .i64) a))) W_32:=Qbjr R_32 (Qbgt Try.underlying32)
end Go.Proofs
end
section
namespace Go.Abs
open Go
theorem Qrw {X R:Type} {F:(X→Option R)→X→Option R} (I:X→Prop) (m:X→Nat) (Q:X→Option R→Prop)
  (step:∀ (k:X→Option R) (x:X),I x→(∀ y,I y→m y < m x→Q y (k y))→Q x (F k x)):∀ (fuel:Nat) (x:X),I x→m x < fuel→Q x (Qdz F fuel x)
 | 0,x,_,h=>absurd h (Nat.not_lt_zero _)
 | fuel + 1,x,hi,h=>step _ x hi fun y hy hm=>Qrw I m Q step fuel y hy (by omega)
theorem Qbau {X R:Type} {F:(X→Option R)→X→Option R} {fuel:Nat} {x:X} (I:X→Prop) (m:X→Nat) (q:Option R) (hi:I x) (hm:m x < fuel)
  (step:∀ (k:X→Option R) (x:X),I x→(∀ y,I y→m y < m x→k y = q)→F k x = q):Qdz F fuel x = q :=
 Qrw I m (fun _ r=>r = q) step fuel x hi hm
theorem Q2h {x:Int} (h1 : -9223372036854775808≤x) (h2:x≤9223372036854775807):IntKind.wrap .i64 x = x:=by
 simp [IntKind.wrap,IntKind.bits,IntKind.signed]; omega
theorem Qg5 {n:Nat} (h:n < 9223372036854775807):IntKind.wrap .i64 ((n:Int) + 1) = ((n + 1:Nat):Int):=by
 rw [Q2h (by omega) (by omega)]; omega
theorem Qcx {α:Type} {l:List α} {n:Nat} (h:n < l.length):getO l (n:Int) = some l[n]:=by
 simp [getO,h]
theorem Qjm {α:Type} {l m:List α} (h:l.length + m.length≤lim):appO l m = some (l ++ m):=by
 unfold appO; rw [if_pos h]
theorem Qbb6 {α:Type} {s t:List α} {k:Nat} (hs:k < s.length) (ht:k < t.length) (h:s.take k = t.take k) (he:s[k] = t[k]):s.take (k + 1) = t.take (k + 1):=by
 rw [List.take_add_one,List.take_add_one,h,List.getElem?_eq_getElem hs,List.getElem?_eq_getElem ht,he]
theorem Q5h {R:Type} {F:(Int→Option R)→Int→Option R} {len fuel:Nat} (G:Nat→Option R) (hf:len < fuel)
  (step:∀ (k:Int→Option R) (n:Nat),n < len→k ((n + 1:Nat):Int) = G (n + 1)→F k (n:Int) = G n) (last:∀ k:Int→Option R,F k (len:Int) = G len):Qdz F fuel 0 = G 0:=by
 have:=Qrw (F:=F) (fun x=>∃ n:Nat,x = (n:Int)∧n≤len) (fun x=>len - x.toNat) (fun x r=>∀ n:Nat,x = (n:Int)→r = G n) (fun k x hx ih=>by
  obtain ⟨n,rfl,hn⟩:=hx
  intro m hm
  obtain rfl:n = m:=by omega
  by_cases h:n < len
  ·exact step k n h (ih _ ⟨n + 1,rfl,by omega⟩ (by omega) (n + 1) rfl)
  ·obtain rfl:n = len:=by omega
   exact last k) fuel 0 ⟨0,rfl,by omega⟩ (by simpa using hf)
 exact this 0 rfl
theorem Qs5 {n:Nat} (h0:0 < n) (h:n < 9223372036854775807):IntKind.wrap .i64 ((n:Int) - 1) = ((n - 1:Nat):Int):=by
 rw [Q2h (by omega) (by omega)]; omega
theorem Qbh5 {X S R:Type} {F:(X→Option R)→X→Option R} {len:Nat} (mk:Nat→S→X) (G:Nat→S→Option R)
  (step:∀ (k:X→Option R) (n:Nat) (s:S),n < len→(∀ s',k (mk (n + 1) s') = G (n + 1) s')→F k (mk n s) = G n s) (last:∀ (k:X→Option R) (s:S),F k (mk len s) = G len s) :
  ∀ (fuel n:Nat) (s:S),n≤len→len - n < fuel→Qdz F fuel (mk n s) = G n s
 | 0,n,s,_,h=>by omega
 | fuel + 1,n,s,hn,h=>by
  show F (Qdz F fuel) (mk n s) = _
  by_cases hlt:n < len
  ·exact step _ n s hlt fun s'=>Qbh5 mk G step last fuel (n + 1) s' (by omega) (by omega)
  ·obtain rfl:n = len:=by omega
   exact last _ s
theorem Qbkr {i j:Nat} (hi:i < 1000000000000) (hj:j < 1000000000000):IntKind.wrap .i64 (Int.fdiv (IntKind.wrap .u64 (IntKind.wrap .i64 ((i:Int) + j))) (2 ^ (min (Int.toNat 1) (IntKind.bits .u64)))) = (((i + j) / 2:Nat):Int):=by
 have h1:IntKind.wrap .i64 ((i:Int) + j) = ((i + j:Nat):Int):=by rw [Q2h (by omega) (by omega)]; omega
 have h2:IntKind.wrap .u64 ((i + j:Nat):Int) = ((i + j:Nat):Int):=by
  simp [IntKind.wrap,IntKind.bits,IntKind.signed]; omega
 have h3:(2:Int) ^ (min (Int.toNat 1) (IntKind.bits .u64)) = 2:=by decide
 rw [h1,h2,h3,Int.fdiv_eq_ediv_of_nonneg _ (by omega),show ((i + j:Nat):Int) / 2 = (((i + j) / 2:Nat):Int) from by omega,Q2h (by omega) (by omega)]
section
variable {α:Type} {p:α→Bool}
theorem Q9r:∀ {l:List α},l.Pairwise (fun a b=>p b = true→p a = true)→∀ (n:Nat) (h:n < l.length),p l[n] = true↔n < (l.filter p).length
 | [],_,n,h=>by simp at h
 | x :: xs,hs,n,h=>by
  obtain ⟨h1,h2⟩:=List.pairwise_cons.1 hs
  cases n with
  | zero =>
   cases hx:p x with
   | true=>simp [hx]
   | false =>
    have:xs.filter p = []:=List.filter_eq_nil_iff.2 fun y hy hp=>by have:=h1 y hy hp; rw [hx] at this; cases this
    simp [hx,this]
  | succ n =>
   have ih:=Q9r h2 n (by simpa using h)
   cases hx:p x with
   | true=>simp [hx,ih]
   | false =>
    have:xs.filter p = []:=List.filter_eq_nil_iff.2 fun y hy hp=>by have:=h1 y hy hp; rw [hx] at this; cases this
    rw [this] at ih
    simp [hx,this] at ih ⊢
    exact ih
end
theorem Q2i {X S R:Type} {F:(X→Option R)→X→Option R} {len:Nat} (mk:Nat→S→X) (I:Nat→S→Prop) (G:Nat→S→Option R)
  (step:∀ (k:X→Option R) (n:Nat) (s:S),n < len→I n s→(∀ s',I (n + 1) s' → k (mk (n + 1) s') = G (n + 1) s')→F k (mk n s) = G n s) (last:∀ (k:X→Option R) (s:S),I len s→F k (mk len s) = G len s) :
  ∀ (fuel n:Nat) (s:S),n≤len→len - n < fuel→I n s→Qdz F fuel (mk n s) = G n s
 | 0,n,s,_,h,_=>by omega
 | fuel + 1,n,s,hn,h,hi=>by
  show F (Qdz F fuel) (mk n s) = _
  by_cases hlt:n < len
  ·exact step _ n s hlt hi fun s' hi'=>Q2i mk I G step last fuel (n + 1) s' (by omega) (by omega) hi'
  ·obtain rfl:n = len:=by omega
   exact last _ s hi
theorem Qko:∀ {l:List Int} {a b:Int},l.Pairwise (· < ·)→(∀ x∈l,a≤x∧x < b)→l.length≤(b - a).toNat
 | [],_,_,_,_=>by simp
 | x :: xs,a,b,h,hr=>by
  obtain ⟨h1,h2⟩:=List.pairwise_cons.1 h
  have:=Qko (a:=x + 1) (b:=b) h2 fun y hy=>⟨by have:=h1 y hy; omega,(hr y (by simp [hy])).2⟩
  have:=hr x (by simp)
  simp only [List.length_cons]
  omega
end Go.Abs
end
section
namespace Go.Abs
abbrev big : Nat := 1000000000000
def small (a : Qm) : Prop := a.zJ.length < big ∧ a.zK.length < big ∧ a.zL.length < big
end Go.Abs
end
section
namespace Go.Abs
open Go
def Qc3 (n:Int):Option Int→List Int→Int
 | _,[]=>0
 | p,x :: xs=>if x < 0∨x≥n then 2 else if ∃ y,p = some y∧x≤y then 5 else Qc3 n (some x) xs
def Qjp (al:List Int) (st:Int):Option Qe→List Qe→Int
 | _,[]=>0
 | p,x :: xs=>if x.From < 0∨x.From≥st∨x.To < 0∨x.To≥st then 2 else if x.Event∉al then 9 else if ∃ y,p = some y∧(x.From < y.From∨x.From = y.From∧x.Event≤y.Event) then 5 else Qjp al st (some x) xs
def Qro (a:Qm):Int :=
 if Qc3 32 none a.zJ≠0 then Qc3 32 none a.zJ else if a.zM < 0 then 2 else if a.zM > 4096 then 3 else
 if Qc3 a.zM none a.zK≠0 then Qc3 a.zM none a.zK else Qjp a.zJ a.zM none a.zL
def ahead {α:Type} (l:List α) (n:Nat):Option α:=if n = 0 then none else l[n - 1]?
theorem Qrx {α:Type} (l:List α):ahead l 0 = none:=rfl
theorem Q9s {α:Type} (l:List α) {n:Nat} (h:n < l.length):ahead l (n + 1) = some l[n]:=by simp [ahead,h]
theorem Q8l {α:Type} (l:List α) {n:Nat} (h0:0 < n) (h:n≤l.length):ahead l n = some (l[n - 1]'(by omega)):=by
 simp [ahead,show n≠0 from by omega,show n - 1 < l.length from by omega]
theorem Q6r {n:Int} {l:List Int} {k:Nat} (h:k < l.length):Qc3 n (ahead l k) (l.drop k) = if l[k] < 0∨l[k]≥n then 2 else if ∃ y,ahead l k = some y∧l[k]≤y then 5 else Qc3 n (ahead l (k + 1)) (l.drop (k + 1)):=by
 rw [List.drop_eq_getElem_cons h,Qc3,Q9s l h]
theorem Qbav {al:List Int} {n:Int} {l:List Qe} {k:Nat} (h:k < l.length):Qjp al n (ahead l k) (l.drop k) = if l[k].From < 0∨l[k].From≥n∨l[k].To < 0∨l[k].To≥n then 2 else if l[k].Event∉al then 9 else if ∃ y,ahead l k = some y∧(l[k].From < y.From∨l[k].From = y.From∧l[k].Event≤y.Event) then 5 else Qjp al n (ahead l (k + 1)) (l.drop (k + 1)):=by
 rw [List.drop_eq_getElem_cons h,Qjp,Q9s l h]
theorem Q8m {l:List Int} {n:Int} (hl:l.length < big):Qgu l n = some (Qc3 n none l):=by
 unfold Qgu Qcf
 refine (Q5h (len:=l.length) (fun k=>some (Qc3 n (ahead l k) (l.drop k))) (by unfold Qdv; unfold big at hl; omega) ?_ ?_).trans (by simp [Qrx])
 ·intro k i hi ih
  have hb:i < 1000000000000:=by unfold big at hl; omega
  rw [Q6r hi]
  try dsimp only
  rw [if_pos (by omega),Qcx hi,Qg5 (by omega),ih]
  simp only [Option.bind_some]
  by_cases h1:l[i] < 0
  ·simp [h1]
  ·by_cases h2:l[i]≥n
   ·simp [h1,h2]
   ·by_cases h0:0 < i
    ·rw [Qs5 h0 (by omega),Qcx (by omega:i - 1 < l.length),Q8l l h0 (by omega)]
     by_cases h3:l[i]≤l[i - 1] <;> simp [h1,h2,h3,h0]
    ·obtain rfl:i = 0:=by omega
     simp [h1,h2,Qrx]
 ·intro k; simp [Qc3]
theorem Qbh6 {l:List Int} {v:Int} (hl:l.length < big):Qh2 l v = some (if v∈l then (l.idxOf v:Int) else -1):=by
 unfold Qh2 Qda
 refine (Q5h (len:=l.length) (fun k=>some (if v∈l.drop k then ((k + (l.drop k).idxOf v:Nat):Int) else -1)) (by unfold Qdv; unfold big at hl; omega) ?_ ?_).trans (by simp)
 ·intro k i hi ih
  have hb:i < 1000000000000:=by unfold big at hl; omega
  try dsimp only
  rw [if_pos (by omega),Qcx hi,Qg5 (by omega),ih,List.drop_eq_getElem_cons hi]
  simp only [Option.bind_some,List.mem_cons,List.idxOf_cons]
  by_cases h:v = l[i]
  ·simp [← h]
  ·have:¬ l[i] = v:=fun e=>h e.symm
   have hbq:(l[i] == v) = false:=by simp [this]
   by_cases h2:v∈l.drop (i + 1) <;> simp [h,h2,hbq]
   omega
 ·intro k; simp
theorem Qbdb {l:List Int} {v:Int} (hl:l.length < big):Qga l v = some (decide (v∈l)):=by
 unfold Qga Qck
 rw [Qbh6 hl]
 simp only [Option.bind_some,Option.some.injEq]
 by_cases h:v∈l <;> simp [h]
theorem Qbaw {a:Qm} (h:small a):Qf1 a = some (Qjp a.zJ a.zM none a.zL):=by
 obtain ⟨hal,_,hl⟩:=h
 unfold Qf1 Qcd
 refine (Q5h (len:=a.zL.length) (fun k=>some (Qjp a.zJ a.zM (ahead a.zL k) (a.zL.drop k))) (by unfold Qdv; unfold big at hl; omega) ?_ ?_).trans (by simp [Qrx])
 ·intro k i hi ih
  have hb:i < 1000000000000:=by unfold big at hl; omega
  rw [Qbav hi]
  unfold letJ
  try dsimp only
  rw [if_pos (by omega),Qcx hi,Qg5 (by omega),ih]
  simp only [Option.bind_some,Qbdb hal]
  generalize a.zL[i] = x
  by_cases h1:x.From < 0
  ·simp [h1]
  by_cases h2:x.From≥a.zM
  ·simp [h1,h2]
  by_cases h3:x.To < 0
  ·simp [h1,h2,h3]
  by_cases h4:x.To≥a.zM
  ·simp [h1,h2,h3,h4]
  by_cases h5:x.Event∈a.zJ
  ·by_cases h0:0 < i
   ·rw [Qs5 h0 (by omega),Qcx (by omega:i - 1 < a.zL.length),Q8l a.zL h0 (by omega)]
    generalize a.zL[i - 1] = y
    have hi0:i≠0:=by omega
    by_cases h6:x.From < y.From
    ·simp [h1,h2,h3,h4,h5,h6,hi0]
    by_cases h7:y.From = x.From
    ·by_cases h8:x.Event≤y.Event <;> simp [h1,h2,h3,h4,h5,h6,h7,h8,hi0]
    ·have h7' : ¬ x.From = y.From:=fun e=>h7 e.symm
     simp [h1,h2,h3,h4,h5,h6,h7,hi0,h7']
   ·obtain rfl:i = 0:=by omega
    simp [h1,h2,h3,h4,h5,Qrx]
  ·simp [h1,h2,h3,h4,h5]
 ·intro k; unfold letJ; simp [Qjp]
theorem Qbax {a:Qm} (h:small a):Qfn a = some (Qro a):=by
 unfold Qfn Qbd Qro
 rw [Q8m h.1,Q8m h.2.1,Qbaw h]
 simp only [Option.bind_some]
 by_cases h1:Qc3 32 none a.zJ = 0
 ·by_cases h2:a.zM < 0
  ·simp [h1,h2]
  by_cases h3:a.zM > 4096
  ·simp [h1,h2,h3]
  by_cases h4:Qc3 a.zM none a.zK = 0 <;> simp [h1,h2,h3,h4]
 ·simp [h1]
end Go.Abs
end
section
namespace Go.Abs
open Go
def Q5i (x y:Qe):Prop:=x.From < y.From∨x.From = y.From∧x.Event < y.Event
instance (x y:Qe):Decidable (Q5i x y):=by unfold Q5i; infer_instance
structure Right (a:Qm):Prop where
 al0:∀ x∈a.zJ,0≤x∧x < 32
 al:a.zJ.Pairwise (· < ·)
 st:0≤a.zM∧a.zM≤4096
 ma0:∀ x∈a.zK,0≤x∧x < a.zM
 ma:a.zK.Pairwise (· < ·)
 ed0:∀ x∈a.zL,0≤x.From∧x.From < a.zM∧0≤x.To∧x.To < a.zM∧x.Event∈a.zJ
 ed:a.zL.Pairwise Q5i
theorem Qg9 {n:Int}:∀ {l:List Int} {p:Option Int},Qc3 n p l = 0↔(∀ x∈l,0≤x∧x < n)∧l.Pairwise (· < ·)∧∀ y,p = some y→∀ x∈l,y < x
 | [],p=>by simp [Qc3]
 | x :: xs,p=>by
  rw [Qc3]
  split
  ·rename_i h
   refine ⟨fun h=>by omega,fun hh=>?_⟩
   have:=hh.1 x (by simp); omega
  ·rename_i h
   split
   ·rename_i h2
    obtain ⟨y,hy,hxy⟩:=h2
    refine ⟨fun h=>by omega,fun hh=>?_⟩
    have:=hh.2.2 y hy x (by simp); omega
   ·rename_i h2
    rw [Qg9]
    constructor
    ·rintro ⟨k1,k2,k3⟩
     refine ⟨fun z hz=>?_,List.pairwise_cons.2 ⟨fun z hz=>k3 x rfl z hz,k2⟩,fun y hy z hz=>?_⟩
     ·rcases List.mem_cons.1 hz with rfl | hz
      ·omega
      ·exact k1 z hz
     ·have hyx:y < x:=by
       rcases Int.lt_or_le y x with h | h
       ·exact h
       ·exact absurd ⟨y,hy,h⟩ h2
      rcases List.mem_cons.1 hz with rfl | hz
      ·exact hyx
      ·have:=k3 x rfl z hz; omega
    ·rintro ⟨k1,k2,k3⟩
     obtain ⟨k4,k5⟩:=List.pairwise_cons.1 k2
     exact ⟨fun z hz=>k1 z (by simp [hz]),k5,fun y hy z hz=>by cases hy; exact k4 z hz⟩
theorem Qzi {al:List Int} {n:Int}:∀ {l:List Qe} {p:Option Qe},Qjp al n p l = 0↔(∀ x∈l,0≤x.From∧x.From < n∧0≤x.To∧x.To < n∧x.Event∈al)∧l.Pairwise Q5i∧∀ y,p = some y→∀ x∈l,Q5i y x
 | [],p=>by simp [Qjp]
 | x :: xs,p=>by
  have tr:∀ a b c:Qe,Q5i a b→Q5i b c→Q5i a c:=fun a b c h k=>by unfold Q5i at *; omega
  rw [Qjp]
  split
  ·rename_i h
   refine ⟨fun h=>by omega,fun hh=>?_⟩
   have:=hh.1 x (by simp); omega
  ·rename_i h
   split
   ·rename_i h2
    refine ⟨fun h=>by omega,fun hh=>?_⟩
    exact absurd (hh.1 x (by simp)).2.2.2.2 h2
   ·rename_i hal
    split
    ·rename_i h2
     obtain ⟨y,hy,hxy⟩:=h2
     refine ⟨fun h=>by omega,fun hh=>?_⟩
     have:=hh.2.2 y hy x (by simp)
     unfold Q5i at this; omega
    ·rename_i h2
     rw [Qzi]
     constructor
     ·rintro ⟨k1,k2,k3⟩
      refine ⟨fun z hz=>?_,List.pairwise_cons.2 ⟨fun z hz=>k3 x rfl z hz,k2⟩,fun y hy z hz=>?_⟩
      ·rcases List.mem_cons.1 hz with rfl | hz
       ·exact ⟨by omega,by omega,by omega,by omega,Decidable.not_not.1 hal⟩
       ·exact k1 z hz
      ·have hyx:Q5i y x:=by
        apply Decidable.byContradiction
        intro h
        exact h2 ⟨y,hy,by unfold Q5i at h; omega⟩
       rcases List.mem_cons.1 hz with rfl | hz
       ·exact hyx
       ·exact tr _ _ _ hyx (k3 x rfl z hz)
     ·rintro ⟨k1,k2,k3⟩
      obtain ⟨k4,k5⟩:=List.pairwise_cons.1 k2
      exact ⟨fun z hz=>k1 z (by simp [hz]),k5,fun y hy z hz=>by cases hy; exact k4 z hz⟩
theorem Qbb7 {a:Qm}:Qro a = 0↔Right a:=by
 unfold Qro
 constructor
 ·intro h
  split at h
  ·rename_i h1; exact absurd h h1
  rename_i h1
  split at h
  ·omega
  split at h
  ·omega
  split at h
  ·rename_i h4; exact absurd h h4
  rename_i h4
  have q1:=Qg9.1 (Decidable.not_not.1 h1)
  have q2:=Qg9.1 (Decidable.not_not.1 h4)
  have q3:=Qzi.1 h
  exact ⟨q1.1,q1.2.1,⟨by omega,by omega⟩,q2.1,q2.2.1,q3.1,q3.2.1⟩
 ·intro h
  have q1:Qc3 32 none a.zJ = 0:=Qg9.2 ⟨h.al0,h.al,fun y hy=>by cases hy⟩
  have q2:Qc3 a.zM none a.zK = 0:=Qg9.2 ⟨h.ma0,h.ma,fun y hy=>by cases hy⟩
  have q3:Qjp a.zJ a.zM none a.zL = 0:=Qzi.2 ⟨h.ed0,h.ed,fun y hy=>by cases hy⟩
  have:=h.st
  rw [if_neg (by simp [q1]),if_neg (by omega),if_neg (by omega),if_neg (by simp [q2]),q3]
def outP (a:Qm) (s:Int):List Qe:=a.zL.filter fun x=>x.From == s
section
variable {a:Qm} (h:Right a) (hs:small a)
include h hs
end
end Go.Abs
end
section
namespace Go.Abs
open Go
theorem Right.small {a:Qm} (h:Right a):small a∧a.zJ.length≤32∧a.zK.length≤4096∧a.zL.length≤131072:=by
 have h1:=Qko h.al h.al0
 have h2:=Qko h.ma h.ma0
 have h3:(a.zL.map fun x=>x.From * 32 + x.Event).Pairwise (· < ·):=by
  rw [List.pairwise_map]
  refine List.Pairwise.imp_of_mem (fun {x y} hx hy hk=>?_) h.ed
  have:=h.al0 _ (h.ed0 x hx).2.2.2.2
  have:=h.al0 _ (h.ed0 y hy).2.2.2.2
  unfold Q5i at hk; omega
 have h4:=Qko (a:=0) (b:=131072) h3 (by
  intro z hz
  obtain ⟨x,hx,rfl⟩:=List.mem_map.1 hz
  have:=h.al0 _ (h.ed0 x hx).2.2.2.2
  have:=h.ed0 x hx
  have:=h.st
  omega)
 rw [List.length_map] at h4
 have:=h.st
 refine ⟨⟨?_,?_,?_⟩,?_,?_,?_⟩ <;> (try unfold big) <;> omega
theorem Qbb8 {α β:Type} {l:List α} {f:α→Option β} {fuel:Nat} (hl:l.length < big) (hf:l.length < fuel) {F:(List β×Int→Option (List β))→List β×Int→Option (List β)}
  (hF:∀ (k:List β×Int→Option (List β)) (acc:List β) (n:Nat) (h:n < l.length),acc.length≤n→F k (acc,(n:Int)) = k (acc ++ (f l[n]).toList,IntKind.wrap .i64 ((n:Int) + 1)))
  (hlast:∀ (k:List β×Int→Option (List β)) (acc:List β),F k (acc,(l.length:Int)) = some acc):Qdz F fuel ([],0) = some (l.filterMap f):=by
 have hb:l.length < 1000000000000:=hl
 refine (Q2i (len:=l.length) (fun n (acc:List β)=>(acc,(n:Int))) (fun n acc=>acc.length≤n) (fun n acc=>some (acc ++ (l.drop n).filterMap f)) ?_ ?_ fuel 0 [] (Nat.zero_le _) (by omega) (Nat.le_refl _)).trans (by simp)
 ·intro k n acc hn hi ih
  have hlen:(f l[n]).toList.length≤1:=by cases f l[n] <;> simp
  rw [hF k acc n hn hi,Qg5 (by omega),ih _ (by simp only [List.length_append]; omega),List.drop_eq_getElem_cons hn]
  rw [List.filterMap_cons]
  cases f l[n] <;> simp only [Option.toList_none,Option.toList_some,List.append_nil,List.append_assoc,List.cons_append,List.nil_append]
 ·intro k acc _; rw [hlast]; simp
end Go.Abs
end
section
namespace Go.Abs
open Go
def ins (o:List Int) (t:Int):List Int:=if t∈o then o else o ++ [t]
structure Fnd (a:Qm) (o:List Int):Prop where
 nd:o.Nodup
 rg:∀ s∈o,0≤s∧s < a.zM
theorem Fnd.len {a:Qm} {o:List Int} (h:Fnd a o):o.length≤a.zM.toNat:=by
 have hO:Go.Sort.SWO Qjj:=⟨fun x=>by simp [Qjj],fun x y z h1 h2=>by simp [Qjj] at *; omega,fun x y z h1 h2=>by simp [Qjj] at *; omega⟩
 have hp:=Qzc Qjj o
 have hs:=Qze hO o
 have hn:(Q2d Qjj o).Nodup:=(hp.nodup_iff).2 h.nd
 have hlt:(Q2d Qjj o).Pairwise (· < ·):=by
  have:(Q2d Qjj o).Pairwise fun x y=>Qjj y x = false∧x≠y:=hs.and hn
  exact this.imp fun ⟨h1,h2⟩=>by simp [Qjj] at h1; omega
 have:=Qko hlt (a:=0) (b:=a.zM) fun x hx=>h.rg x (hp.mem_iff.1 hx)
 rw [Qzd] at this
 simpa using this
theorem Qbju {o:List Int} {t x:Int}:x∈ins o t↔x∈o∨x = t:=by
 unfold ins; split
 ·rename_i h; constructor
  ·exact .inl
  ·rintro (h' | rfl)
   ·exact h'
   ·exact h
 ·simp
theorem Qbjv (o:List Int) (t:Int):o <+: ins o t:=by
 unfold ins; split
 ·exact List.prefix_refl o
 ·exact List.prefix_append o [t]
theorem Fnd.ins {a:Qm} {o:List Int} (h:Fnd a o) {t:Int} (ht:0≤t∧t < a.zM):Fnd a (ins o t):=by
 refine ⟨?_,fun s hs=>?_⟩
 ·unfold Go.Abs.ins; split
  ·exact h.nd
  ·rename_i hn
   rw [List.nodup_append]
   exact ⟨h.nd,by simp,fun x hx y hy=>by simp at hy; subst hy; exact fun e=>hn (e ▸ hx)⟩
 ·rcases Qbju.1 hs with hs | rfl
  ·exact h.rg s hs
  ·exact ht
end Go.Abs
end
section
namespace Go.Abs
open Go
section
variable {a:Qm} (h:Right a)
include h
end
end Go.Abs
end
section
namespace Go.Abs
open Go
structure Evs (l:List Int):Prop where
 rg:∀ x∈l,0≤x∧x < 5
 so:l.Pairwise (· < ·)
theorem Evs.len {l:List Int} (h:Evs l):l.length≤5:=by have:=Qko h.so h.rg; simpa using this
structure Mks (n:Nat) (ms:List Int):Prop where
 rg:∀ x∈ms,0≤x∧x < n
 so:ms.Pairwise (· < ·)
structure Eds (al:List Int) (N:Int) (i k:Nat) (es:List Qe):Prop where
 rg:∀ x∈es,0≤x.From∧0≤x.To∧x.To < N∧x.Event∈al∧(x.From < i∨x.From = i∧∃ j:Nat,j < k∧al[j]? = some x.Event)
 so:es.Pairwise Q5i
 ln:es.length≤5 * i + k
theorem Mks.up {n:Nat} {ms:List Int} (h:Mks n ms):Mks (n + 1) ms:=⟨fun x hx=>by have:=h.rg x hx; omega,h.so⟩
theorem Mks.add {n:Nat} {ms:List Int} (h:Mks n ms):Mks (n + 1) (ms ++ [(n:Int)]):=by
 refine ⟨fun x hx=>?_,?_⟩
 ·rcases List.mem_append.1 hx with hx | hx
  ·have:=h.rg x hx; omega
  ·simp at hx; omega
 ·rw [List.pairwise_append]
  exact ⟨h.so,by simp,fun x hx y hy=>by simp at hy; have:=h.rg x hx; omega⟩
theorem Mks.len {n:Nat} {ms:List Int} (h:Mks n ms):ms.length≤n:=by have:=Qko h.so h.rg; simpa using this
section
variable {al:List Int} (hal:Evs al) {N:Int} {i k:Nat} {es:List Qe}
theorem Eds.up (h:Eds al N i k es):Eds al N i (k + 1) es:=⟨fun x hx=>by
 obtain ⟨h1,h2,h3,h4,h5⟩:=h.rg x hx
 refine ⟨h1,h2,h3,h4,?_⟩
 rcases h5 with h5 | ⟨h5,j,h6,h7⟩
 ·exact .inl h5
 ·exact .inr ⟨h5,j,by omega,h7⟩,h.so,by have:=h.ln; omega⟩
theorem Eds.next (h:Eds al N i k es) (hk:k≤5):Eds al N (i + 1) 0 es:=⟨fun x hx=>by
 obtain ⟨h1,h2,h3,h4,h5⟩:=h.rg x hx
 exact ⟨h1,h2,h3,h4,.inl (by rcases h5 with h5 | ⟨h5,_⟩ <;> omega)⟩,h.so,by have:=h.ln; omega⟩
include hal in
theorem Eds.add (h:Eds al N i k es) (hk:k < al.length) {t:Int} (ht:0≤t∧t < N):Eds al N i (k + 1) (es ++ [⟨(i:Int),al[k],t⟩]):=by
 refine ⟨fun x hx=>?_,?_,by have:=h.ln; simp only [List.length_append,List.length_cons,List.length_nil]; omega⟩
 ·rcases List.mem_append.1 hx with hx | hx
  ·exact h.up.rg x hx
  ·simp at hx; subst hx
   exact ⟨by simp only; omega,ht.1,ht.2,List.getElem_mem hk,.inr ⟨rfl,k,by omega,List.getElem?_eq_getElem hk⟩⟩
 ·rw [List.pairwise_append]
  refine ⟨h.so,by simp,fun x hx y hy=>?_⟩
  simp at hy; subst hy
  obtain ⟨_,_,_,_,h5⟩:=h.rg x hx
  rcases h5 with h5 | ⟨h5,j,h6,h7⟩
  ·exact .inl h5
  ·refine .inr ⟨h5,?_⟩
   obtain ⟨h8,h9⟩:=List.getElem?_eq_some_iff.1 h7
   rw [← h9]
   exact List.pairwise_iff_getElem.1 hal.so j k h8 hk h6
end
end Go.Abs
end
section
namespace Go.Abs
open Go
theorem Qbh7 {α β:Type} {o:Option α} {K:α→Option β} {r:Option β} {P:α→Prop} (h:∃ v,o = some v∧P v) (hk:∀ v,P v→K v = r):o.bind K = r:=by
 obtain ⟨v,rfl,hv⟩:=h
 exact hk v hv
def upto (n:Int):List Int:=(List.range n.toNat).map fun (i:Nat)=>(i:Int)
theorem Qge {n x:Int}:x∈upto n↔0≤x∧x < n:=by
 simp only [upto,List.mem_map,List.mem_range]
 constructor
 ·rintro ⟨i,hi,rfl⟩; omega
 ·rintro ⟨h1,h2⟩; exact ⟨x.toNat,by omega,by omega⟩
theorem Q5j (n:Int):(upto n).Pairwise (· < ·):=by
 unfold upto
 rw [List.pairwise_map]
 exact List.pairwise_lt_range.imp fun h=>by omega
theorem Qc2 (n:Int):(upto n).length = n.toNat:=by simp [upto]
theorem Qzj {n:Int} {i:Nat} (h:i < (upto n).length):(upto n)[i] = (i:Int):=by simp [upto]
theorem Qip {X S R α:Type} {F:(X→Option R)→X→Option R} {fuel:Nat} {l:List α} (mk:Int→S→X) (stp:S→α→S) (I:Nat→S→Prop) (K:S→Option R) (hl:l.length < big) (hf:1099511627776≤fuel)
  (step:∀ (k:X→Option R) (n:Nat) (s:S) (h:n < l.length),I n s→F k (mk n s) = k (mk (IntKind.wrap .i64 ((n:Int) + 1)) (stp s l[n])))
  (keep:∀ (n:Nat) (s:S) (h:n < l.length),I n s→I (n + 1) (stp s l[n]))
  (last:∀ (k:X→Option R) (s:S),I l.length s→F k (mk l.length s) = K s) {s0:S} (h0:I 0 s0):Qdz F fuel (mk 0 s0) = K (l.foldl stp s0):=by
 have hb:l.length < 1000000000000:=hl
 have:=Q2i (F:=F) (len:=l.length) (fun n s=>mk n s) I (fun n s=>K ((l.drop n).foldl stp s)) (fun k n s hn hi ih=>by
  rw [step k n s hn hi,Qg5 (by omega),ih _ (keep n s hn hi),List.drop_eq_getElem_cons hn,List.foldl_cons]) (fun k s hi=>by rw [last k s hi]; simp) fuel 0 s0 (Nat.zero_le _) (by omega) h0
 simpa using this
theorem Qbh8 {S α:Type} {l:List α} {stp:S→α→S} {I:Nat→S→Prop} (keep:∀ (n:Nat) (s:S) (h:n < l.length),I n s→I (n + 1) (stp s l[n])) {s0:S} (h0:I 0 s0):I l.length (l.foldl stp s0):=by
 have:∀ (m n:Nat) (s:S),n + m = l.length→I n s→I l.length ((l.drop n).foldl stp s):=by
  intro m
  induction m with
  | zero =>
   intro n s hn hi
   obtain rfl:n = l.length:=by omega
   simpa using hi
  | succ m ih =>
   intro n s hn hi
   have hlt:n < l.length:=by omega
   rw [List.drop_eq_getElem_cons hlt,List.foldl_cons]
   exact ih (n + 1) _ (by omega) (keep n s hlt hi)
 simpa using this l.length 0 s0 (by omega) h0
theorem Qbb9 {X R α:Type} {F:(X→Option R)→X→Option R} {fuel:Nat} {l:List α} (mk:Int→X) (p:α→Bool) (hit:α→Option R) (K:Option R) (hl:l.length < big) (hf:1099511627776≤fuel)
  (step:∀ (k:X→Option R) (n:Nat) (h:n < l.length),F k (mk n) = if p l[n] then hit l[n] else k (mk (IntKind.wrap .i64 ((n:Int) + 1))))
  (last:∀ (k:X→Option R),F k (mk l.length) = K):Qdz F fuel (mk 0) = match l.find? p with | some x=>hit x | none=>K:=by
 have hb:l.length < 1000000000000:=hl
 have:=Q2i (F:=F) (len:=l.length) (fun n (_:Unit)=>mk n) (fun _ _=>True) (fun n _=>match (l.drop n).find? p with | some x=>hit x | none=>K) (fun k n s hn hi ih=>by
  rw [step k n hn,Qg5 (by omega),ih () trivial,List.drop_eq_getElem_cons hn,List.find?_cons]
  cases p l[n] <;> simp) (fun k s hi=>by rw [last k]; simp) fuel 0 () (Nat.zero_le _) (by omega) trivial
 simpa using this
theorem Qbh9 {X α:Type} {F:(X→Option Bool)→X→Option Bool} {fuel:Nat} {l:List α} (mk:Int→X) (p:α→Bool) (hl:l.length < big) (hf:1099511627776≤fuel)
  (step:∀ (k:X→Option Bool) (n:Nat) (h:n < l.length),F k (mk n) = if p l[n] then some true else k (mk (IntKind.wrap .i64 ((n:Int) + 1))))
  (last:∀ (k:X→Option Bool),F k (mk l.length) = some false):Qdz F fuel (mk 0) = some (l.any p):=by
 rw [Qbb9 mk p (fun _=>some true) (some false) hl hf step last]
 cases h:l.find? p with
 | none =>
  show some false = some (l.any p)
  rw [List.any_eq_false.2 (List.find?_eq_none.1 h)]
 | some x =>
  show some true = some (l.any p)
  rw [List.any_eq_true.2 ⟨x,List.mem_of_find?_eq_some h,List.find?_some h⟩]
def at0 {α:Type} (d:α) (l:List α) (x:Int):α:=l.getD x.toNat d
abbrev lf (L:List Bool) (x:Int):Bool:=at0 false L x
abbrev ati (l:List Int) (x:Int):Int:=at0 0 l x
theorem Qqr {α:Type} {d:α} {l:List α} {x:Int} (h0:0≤x) (h1:x < l.length):getO l x = some (at0 d l x):=by
 have h:x.toNat < l.length:=by omega
 unfold getO at0
 rw [if_pos h0,List.getD_eq_getElem?_getD,List.getElem?_eq_getElem h]; rfl
theorem Qgr {α:Type} {l:List α} {x:Int} {y:α} (h0:0≤x) (h1:x < l.length):setO l x y = some (l.set x.toNat y):=by
 unfold setO; rw [if_pos ⟨h0,by omega⟩]
theorem Qjn {n:Nat} {x:Int} (h0:0≤x) (h1:x < n):inO n x = some ():=by
 unfold inO; rw [if_pos ⟨h0,h1⟩]
theorem Qvl {α:Type} {l:List α} {n:Nat} (h:l.length = n):lenO l n = some ():=by
 unfold lenO; rw [if_pos h]
theorem Q9t {α:Type} {d:α} {l:List α} {x y:Int} {v:α} (hx:0≤x∧x < l.length) (hy:0≤y):at0 d (l.set x.toNat v) y = if y = x then v else at0 d l y:=by
 unfold at0
 simp only [List.getD_eq_getElem?_getD,List.getElem?_set]
 by_cases h:y = x
 ·subst h; rw [if_pos rfl,if_pos (by omega),if_pos rfl]; rfl
 ·rw [if_neg (by omega),if_neg h]
theorem Qbdc {l:List Int} {x y v:Int} (hx:0≤x∧x < l.length) (hy:0≤y):ati (l.set x.toNat v) y = if y = x then v else ati l y:=Q9t hx hy
theorem Qbks {l:List Bool} {x y:Int} {v:Bool} (hx:0≤x∧x < l.length) (hy:0≤y):lf (l.set x.toNat v) y = if y = x then v else lf l y:=Q9t hx hy
theorem Qbgv {α:Type} {d:α} {v:α} {n:Nat} {x:Int} (h0:0≤x) (h1:x < n):at0 d (List.replicate n v) x = v:=by
 have h:x.toNat < n:=by omega
 unfold at0
 simp [List.getD_eq_getElem?_getD,h]
theorem Q2j {α:Type} {d:α} {f:Int→α} {n x:Int} (h0:0≤x) (h1:x < n):at0 d ((upto n).map f) x = f x:=by
 have h:x.toNat < n.toNat:=by omega
 unfold at0 upto
 simp only [List.map_map,List.getD_eq_getElem?_getD,List.getElem?_map,List.getElem?_range h,Option.map_some,Option.getD_some,Function.comp]
 congr 1; omega
theorem Qbiy {α:Type} {d:α} {l:List α} {n:Nat} (h:n < l.length):at0 d l (n:Int) = l[n]:=by
 unfold at0; simp [List.getD_eq_getElem?_getD,h]
theorem Qbca {α:Type} {d:α} {l m:List α} (hl:l.length = m.length) (h:∀ x:Int,0≤x→x < l.length→at0 d l x = at0 d m x):l = m:=by
 apply List.ext_getElem hl
 intro i h1 h2
 have:=h i (by omega) (by omega)
 rwa [Qbiy h1,Qbiy h2] at this
theorem Q8n {α:Type} {f:Int→α} {n:Int} {l:List α} (hl:l.length = n.toNat):(upto n).foldl (fun c i=>c.set i.toNat (f i)) l = (upto n).map f:=by
 have key:∀ (m:Nat),m≤n.toNat→((upto n).take m).foldl (fun c i=>c.set i.toNat (f i)) l = ((upto n).take m).map f ++ l.drop m:=by
  intro m
  induction m with
  | zero=>intro _; simp
  | succ m ih =>
   intro hm
   have h1:m < (upto n).length:=by rw [Qc2]; omega
   rw [List.take_succ_eq_append_getElem h1,List.foldl_append,ih (by omega),List.foldl_cons,List.foldl_nil,List.map_append,Qzj h1]
   simp only [Int.toNat_natCast,List.map_cons,List.map_nil]
   have h2:(((upto n).take m).map f).length = m:=by rw [List.length_map,List.length_take,Qc2]; omega
   rw [List.set_append_right _ _ (by omega),h2,Nat.sub_self]
   have h3:m < l.length:=by omega
   rw [List.drop_eq_getElem_cons h3,List.set_cons_zero,List.append_assoc,List.singleton_append]
 have:=key n.toNat (Nat.le_refl _)
 rw [List.take_of_length_le (by rw [Qc2]; omega)] at this
 rw [this,List.drop_of_length_le (by omega),List.append_nil]
theorem Qnq {α β:Type} {f:β→Nat} {g:β→α}:∀ {l:List β} {c:List α},(l.foldl (fun c x=>c.set (f x) (g x)) c).length = c.length
 | [],c=>rfl
 | x :: l,c=>by rw [List.foldl_cons,Qnq (l:=l),List.length_set]
end Go.Abs
end
section
namespace Go.Abs
open Go
theorem Qber:Qio = some true:=by kernel_rfl
end Go.Abs
end
