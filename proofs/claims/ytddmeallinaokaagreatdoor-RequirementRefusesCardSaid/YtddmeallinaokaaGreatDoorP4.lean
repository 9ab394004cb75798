/-
  Part 4 of the proof: see the last text.
-/
import Derived.Test.YtddmeallinaokaaGreatDoorP3
import Derived.Test.YtddmeallinaokaaGreatDoorProg
import Derived.KernelRfl
import Derived.Sort.Statements
import Derived.Ground.SlgmProg
import Derived.Shelf.SortM.Plain
import Derived.Shelf.SortM.SortNone
import Derived.OpenShut
import Derived.ProofKit
import Derived.Carry
import GoSem.Claim
import GoSem.ClaimJoined
import Derived.JoinedTies
import Derived.ChangeSame
import Derived.ChangeVars
import Derived.JoinedOf
import Derived.LaidLaws
import Derived.LaidHandle
import Derived.LaidMore
import Derived.SevenTiedAt
set_option linter.unusedVariables false
set_option linter.unusedSimpArgs false
set_option linter.unusedSectionVars false
section
namespace Go.Abs
open Go
set_option maxRecDepth 10000
set_option maxHeartbeats 4000000
theorem Qwa {P:Program} {c:Nat} (hcf:Qj P c = some Qhp) (fuel:Nat):Qfd P c (Qx fuel):=by
 intro s1 v2 r h
 refine Qbm hcf rfl fun Γ M hP hnt hM=>?_
 subst hP
 refine Tr.init [(0,(l_ s1)),(1,(i_ v2))] rfl ?_
 unfold Qx at h
 unfold Qhp
 refine sr ((md rfl (nt ((Tr.seq (sr ((md rfl (Rn.lenD tv rfl (md rfl (nt ((Tr.block ?_)))))))))))))
 refine Tr.loop (mk:=fun (x3:Int)=>⟨look [(0,(l_ s1)),(1,(i_ v2)),(7,(i_ (s1.length:Int))),(8,(i_ x3))],Qk Γ.n0 (bxs []) M,Γ.n0 + 19⟩) h (by exact Qm ⟨(sm rfl),(sm rfl),(sm rfl),(sm rfl),tv⟩ tv rfl) (fun k4 z h=>?_)
 ·obtain ⟨x3,rfl⟩ : ∃ x,x = z:=⟨_,rfl⟩
  replace h:_ = some _:=h
  refine sr ((Rn.bin tv rfl rfl rfl (nt ((Tr.seq ?_)))))
  refine Tr.cond rfl (fun hb5=>?_) (fun hb5=>?_)
  ·replace h:=ifT hb5 h
   refine Tr.skip (toN (Tr.seq (Tr.block (sr ((md rfl (md rfl (nt ((sr ((md rfl (md rfl (md rfl ?_))))))))))))))
   obtain ⟨x6,h7,h⟩:=bnd h
   refine Rn.idxD (e:=(eI .i64)) tv rfl rfl h7 (Rn.loadC (x:=.int .i64 x6) tv rfl (Rn.bin tv rfl rfl rfl (Rn.nil (toN ?_))))
   refine Tr.cond rfl (fun hb8=>?_) (fun hb8=>?_)
   ·replace h:=bT hb8 h
    refine sr ((md rfl (md rfl (nt ((Tr.ret ?_))))))
    replace h:=si h; subst h
    exact ⟨.inr rfl,(i_ x3),rfl,fun _ _ _ _ h=>h,tv,fun k hk=>Qc hk⟩
   ·replace h:=bF hb8 h
    refine Tr.skip (toN (Tr.rgn (Rn.bin tv rfl rfl rfl (md rfl (Rn.nil ?_)))))
    exact ⟨_,h,(by exact Qm ⟨(sm rfl),(sm rfl),(sm rfl),(sm rfl),tv⟩ tv rfl)⟩
  ·replace h:=ifF hb5 h
   refine Tr.exit (toN (sr ((md rfl (nt ((Tr.ret ?_)))))))
   replace h:=si h; subst h
   exact ⟨.inr rfl,(i_ (-1)),rfl,fun _ _ _ _ h=>h,tv,fun k hk=>Qc hk⟩
theorem Qo2 {P:Program} {c:Nat} {Qx:(List Int)→Int→Option Int}
    (H_slices_Index_int:Qfd P 43 Qx) (hcf:Qj P c = some Qfi):Qdt P c (Qq Qx):=by
 intro s1 v2 r h
 refine Qbm hcf rfl fun Γ M hP hnt hM=>?_
 subst hP
 refine Tr.init [(0,(l_ s1)),(1,(i_ v2))] rfl ?_
 unfold Qq at h
 unfold Qfi
 refine sr ((md rfl (nt ((sr ((md rfl (md rfl ?_))))))))
 obtain ⟨x4,h3,h⟩:=bnd h
 refine Rn.call (args:=[(l_ s1),(i_ v2)]) tv rfl (H_slices_Index_int _ _ _ h3) pc9 (Rn.bin tv rfl rfl rfl (md rfl (nt ((Tr.ret ?_)))))
 replace h:=si h; subst h
 exact ⟨.inr rfl,(b_ (decide (x4≥0))),rfl,fun _ _ _ _ h=>h,tv,fun k hk=>Qc hk⟩
theorem Qmk {P:Program} {c:Nat} {Qq:(List Int)→Int→Option Bool}
    (H_slices_Contains_int:Qdt P 55 Qq) (hcf:Qj P c = some Qev) (fuel:Nat):Qdn P c (Qs Qq fuel):=by
 intro l1 r h
 refine Qbm hcf rfl fun Γ M hP hnt hM=>?_
 subst hP
 refine Tr.init [(0,(l_ l1))] rfl ?_
 unfold Qs at h
 unfold Qev
 refine sr ((md rfl (nt ((Tr.seq (sr ((md rfl (Rn.lenD tv rfl (md rfl (nt ((Tr.block ?_)))))))))))))
 refine Tr.loop (mk:=fun (x2:Int)=>⟨look [(0,(l_ l1)),(5,(l_ l1)),(6,(i_ (l1.length:Int))),(7,(i_ x2))],Qk Γ.n0 (bxs []) M,Γ.n0 + 24⟩) h (by exact Qm ⟨(sm rfl),(sm rfl),(sm rfl),(sm rfl),tv⟩ tv rfl) (fun k3 z h=>?_)
 ·obtain ⟨x2,rfl⟩ : ∃ x,x = z:=⟨_,rfl⟩
  replace h:_ = some _:=h
  refine sr ((Rn.bin tv rfl rfl rfl (nt ((Tr.seq ?_)))))
  refine Tr.cond rfl (fun hb4=>?_) (fun hb4=>?_)
  ·replace h:=ifT hb4 h
   refine Tr.skip (toN (Tr.seq (Tr.block (sr ((md rfl ?_))))))
   obtain ⟨x5,h6,h⟩:=bnd h
   refine Rn.idxD (e:=(eI .i64)) tv rfl rfl h6 (Rn.loadC (x:=.int .i64 x5) tv rfl (md rfl (md rfl (nt ((Tr.seq ?_))))))
   refine Tr.cutB (fun (x8:Bool)=>⟨look [(0,(l_ l1)),(3,(i_ x2)),(4,(i_ x5)),(5,(l_ l1)),(6,(i_ (l1.length:Int))),(7,(i_ x2)),(17,(b_ x8))],Qk Γ.n0 (bxs []) M,Γ.n0 + 24⟩) h (fun z h=>?_) (fun z h=>?_)
   ·refine Tr.rgn (md rfl (Rn.bin tv rfl rfl rfl (md rfl ?_)))
    refine Qbs (decide (x5 < 0)) (fun hb7=>?_) (fun hb7=>?_)
    ·replace h:=ifT hb7 h
     refine Rn.sk (nw rfl hb7) (Rn.sk (nw rfl hb7) (Rn.pickT (v:=(b_ true)) tv rfl hb7 rfl (Rn.nil ?_)))
     replace h:=si h; subst h
     exact Qh [] ⟨(sm rfl),(sm rfl),(sm rfl),(sm rfl),(sm rfl),(sm rfl),(sm rfl),tv⟩ tv rfl
    ·replace h:=ifF hb7 h
     refine Rn.movD (gw rfl hb7) rfl (Rn.bin (gw rfl hb7) rfl rfl rfl (Rn.pickF (v:=(b_ (decide (x5≥32)))) tv rfl hb7 rfl (Rn.nil ?_)))
     replace h:=si h; subst h
     exact Qh [] ⟨(sm rfl),(sm rfl),(sm rfl),(sm rfl),(sm rfl),(sm rfl),(sm rfl),tv⟩ tv rfl
   ·obtain ⟨x8,rfl⟩ : ∃ x,x = z:=⟨_,rfl⟩
    refine Tr.cond rfl (fun hb9=>?_) (fun hb9=>?_)
    ·replace h:=bT hb9 h
     refine sr ((md rfl (nt ((Tr.ret ?_)))))
     replace h:=si h; subst h
     exact ⟨.inr rfl,(i_ 2),rfl,fun _ _ _ _ h=>h,tv,fun k hk=>Qc hk⟩
    ·replace h:=bF hb9 h
     refine Tr.skip (toN (sr ((md rfl (md rfl ?_)))))
     obtain ⟨x10,h11,h⟩:=bnd h
     refine Rn.slcH (e:=(eI .i64)) tv rfl rfl h11 (md rfl ?_)
     obtain ⟨x13,h12,h⟩:=bnd h
     refine Rn.call (args:=[(l_ x10),(i_ x5)]) tv rfl (H_slices_Contains_int _ _ _ h12) pc9 (Rn.nil (toN ?_))
     refine Tr.cond rfl (fun hb14=>?_) (fun hb14=>?_)
     ·replace h:=bT hb14 h
      refine sr ((md rfl (nt ((Tr.ret ?_)))))
      replace h:=si h; subst h
      exact ⟨.inr rfl,(i_ 8),rfl,fun _ _ _ _ h=>h,tv,fun k hk=>Qc hk⟩
     ·replace h:=bF hb14 h
      refine Tr.skip (toN (Tr.rgn (Rn.bin tv rfl rfl rfl (md rfl (Rn.nil ?_)))))
      exact ⟨_,h,(by exact Qm ⟨(sm rfl),(sm rfl),(sm rfl),(sm rfl),tv⟩ tv rfl)⟩
  ·replace h:=ifF hb4 h
   refine Tr.exit (toN (sr ((md rfl (nt ((Tr.ret ?_)))))))
   replace h:=si h; subst h
   exact ⟨.inr rfl,(i_ 0),rfl,fun _ _ _ _ h=>h,tv,fun k hk=>Qc hk⟩
theorem Qwb {P:Program} {c:Nat} (hcf:Qj P c = some Qhr):Qhq P c (Qcf):=by
 intro s1 r h
 refine Qbm hcf rfl fun Γ M hP hnt hM=>?_
 subst hP
 refine Tr.init [(0,(l_ s1))] rfl ?_
 unfold Qcf at h
 unfold Qhr
 refine sr ((Rn.movTC (v:=.nils 1) tv (nt ((Tr.seq (sr ((md rfl ?_))))))))
 refine Rn.isnil (e:=(eI .i64)) tv rfl h (fun b2 h=>?_)
 refine Rn.nil (toN ?_)
 refine Tr.cond rfl (fun hb3=>?_) (fun hb3=>?_)
 ·replace h:=bT hb3 h
  refine sr ((Rn.movTC (v:=.nils 1) tv (nt ((Tr.ret ?_)))))
  replace h:=si h; subst h
  exact ⟨.inr rfl,(.nils 1),rfl,(WkV.nilsO _).rd,tv,fun k hk=>Qc hk⟩
 ·replace h:=bF hb3 h
  refine Tr.skip (toN (sr ((Rn.bslice (xs:=[]) (cs:=[]) tv rfl rfl rfl rfl (md rfl ?_)))))
  obtain ⟨x4,h5,h⟩:=bnd h
  refine Rn.app0 (e:=(eI .i64)) tv rfl rfl rfl rfl Q9c h5 rfl (Rn.movTO tv rfl (nt ((Tr.ret ?_))))
  replace h:=si h; subst h
  exact ⟨.inr rfl,(o_ x4),rfl,fun _ _ _ _ h=>h,tv,fun k hk=>Qc hk⟩
theorem Qrn {P:Program} {c:Nat} {f_slices_Sort_int:List Int→Option (List Int)} {Qcf:(List Int)→Option ((List Int))}
    (H_slices_Sort_int:RowK P 59 (eI .i64) 1 [] f_slices_Sort_int)
    (H_slices_Clone_int:Qhq P 70 Qcf) (hcf:Qj P c = some Qfy):Qd7 P c (Qw f_slices_Sort_int Qcf):=by
 intro l1 r h
 refine Qbee hcf (args':=[(f_ l1)]) rfl rfl rfl rfl rfl rfl fun Γ M hP hnt hG hM0 hM=>?_
 subst hP
 refine Tr.init [(0,(f_ l1))] rfl ?_
 unfold Qw at h
 unfold Qfy
 refine sr ((Rn.movTC (v:=.nils 1) tv (nt ((sr ((Rn.mov (v:=(f_ l1)) tv rfl ?_)))))))
 obtain ⟨x3,h2,h⟩:=bnd h
 refine Rn.call (args:=[(f_ l1)]) tv rfl (fun M2 nb2=>ACalls.weak (args':=[(l_ l1)]) (H_slices_Clone_int _ _ h2 M2 nb2) (.cons fToD .nil) rfl) pc9 ?_
 refine Rn.movTO tv rfl (Rn.nil (toN ?_))
 obtain ⟨out4,hs5,h⟩:=bnd h
 obtain ⟨hl6,hn7,hr8⟩:=H_slices_Sort_int _ _ hs5
 refine Tr.seqW ⟨look [(3,(l_ out4))],Qk Γ.n0 (bxs []) M,Γ.n0 + 9⟩ ?_ ?_
 ·by_cases hx9:x3 = []
  ·obtain ⟨hyx,hn7b⟩:=hn7 hx9
   replace hyx:=hyx.symm
   subst hyx
   replace hn7:=And.intro tv hn7b
   refine Tr.rgn (Rn.mov (v:=(l_ x3)) tv rfl (Rn.call (args:=[.d (.lst 1 (List.map (eI .i64) x3))]) tv rfl (hn7.2) pc9 ?_))
   refine Rn.nil ⟨rfl,(by exact Qh [] ⟨(WkV.dem' rfl),tv⟩ tv rfl)⟩
  ·refine Tr.weak (by show WeakSt Γ _ ⟨look [(3,(o_ x3))],Qk Γ.n0 (bxs []) M,Γ.n0 + 9⟩; exact Qh [] ⟨(sm rfl),tv⟩ tv rfl) ?_
   refine Qbfq hG hM0 3 7 hx9 (fun _=>rfl) rfl rfl rfl ⟨rfl,(Qbdv (fun _=>rfl)),tv⟩ tv (fun c10 hc11 hc12=>?_)
   refine Tr.rgn (Rn.mov (v:=.sl 1 (Γ.n0 + 7) 0 x3.length c10) tv rfl ?_)
   refine Rn.callRow (t:=7) (cs:=Qcb (List.map (eI .i64) x3) ((c10 - x3.length) * 1)) (cs':=Qcb (List.map (eI .i64) out4) ((c10 - x3.length) * 1)) tv rfl rfl (fun M2 hM2=>hr8 hc12 _ _ _ _ hM2) rfl ?_
   refine Rn.weak (by show WeakSt Γ _ ⟨look [(3,(l_ out4)),(6,(l_ out4)),(7,.tup [])],Qk Γ.n0 (bxs []) M,Γ.n0 + 9⟩; exact Q41 7 _ rfl Qbf0 ⟨(fSlT (fun _=>rfl) hl6 hc11),(fSlT (fun _=>rfl) hl6 hc11),(.same rfl),tv⟩ tv rfl) ?_
   refine Rn.nil ⟨rfl,(by exact Qh [] ⟨(sm rfl),tv⟩ tv rfl)⟩
 ·refine sr ((Rn.movTD tv rfl (Rn.movTD tv rfl (nt ((Tr.ret ?_))))))
  replace h:=si h; subst h
  exact ⟨.inr rfl,(l_ out4),rfl,fun _ _ _ _ h=>h,tv,fun k hk=>Qc hk⟩
theorem Qj8 {P:Program} {c:Nat} (hcf:Qj P c = some Qd0):Qdz P c (Q2):=by
 intro state1 event2 x3 k4 r h
 intro M nb hk5
 refine Q40 hcf rfl M nb fun Γ hP hnt hn0 hM=>?_
 subst hP hn0
 refine Tr.init [(0,(i_ state1)),(1,(i_ event2)),(2,.ptr k4 0)] rfl ?_
 unfold Q2 at h
 unfold Qd0
 refine sr ((md rfl (md rfl (nt ((Tr.seq ?_))))))
 refine Tr.rgnD (by decide) ?_
 refine md rfl (Rn.bin tv rfl rfl rfl (Rn.load (v:=(l_ x3)) tv rfl (Q0e hM hk5) rfl rfl (Rn.lenD tv rfl ?_)))
 obtain ⟨s6,h7,h⟩:=bnd h
 refine Rn.bin tv rfl rfl (Qbe0 h7) (Rn.load (v:=(l_ x3)) tv rfl (Q0e hM hk5) rfl rfl (md rfl ?_))
 obtain ⟨x8,h9,h⟩:=bnd h
 refine Rn.idxD (e:=(eI .i64)) tv rfl rfl h9 (Rn.loadC (x:=.int .i64 x8) tv rfl (md rfl (Rn.bin tv rfl rfl rfl (md rfl (md rfl ?_)))))
 refine Rn.nil ⟨rfl,?_⟩
 refine toN (Tr.ret ?_)
 replace h:=si h; subst h
 exact ⟨.inr rfl,.tup [(i_ s6),(b_ (x8 == event2))],res2 rfl rfl,(WkV.tup (.cons (.same rfl) (.cons (.same rfl) .nil))).rd,⟨tv,tv,tv⟩,fun k hk=>Qc hk⟩
theorem Qo3 {P:Program} {c:Nat} (hcf:Qj P c = some Qfj) (fuel:Nat):Qc7 P c (Qn fuel):=by
 intro events1 marked2 next9 g3 cp4 g10 cp11 r h
 intro M nb hc5 ho7 hf6 hc12 ho14 hf13
 refine Q40 hcf rfl M nb fun Γ hP hnt hn0 hM=>?_
 subst hP hn0
 refine Tr.init [(0,(l_ events1)),(1,.clo g3 cp4),(2,.clo g10 cp11)] rfl ?_
 unfold Qn at h
 unfold Qfj
 refine sr ((Rn.alloc tv rfl (nt ((sr ((md rfl (Rn.buildT (v:=.agg [(l_ events1),(i_ 0),.nils 1,.nils 3]) tv rfl (Rn.alloc tv rfl (Rn.storeT (v:=.agg [(l_ events1),(i_ 0),.nils 1,.nils 3]) (ds:=[(l_ events1),(i_ 0),.nils 1,.nils 3]) (cs':=[(l_ events1),(i_ 0),.nils 1,.nils 3]) tv rfl rfl rfl rfl rfl rfl rfl (nt ((sr ((Rn.bslice (xs:=[(i_ 0)]) (cs:=[(i_ 0)]) tv rfl rfl rfl rfl (Rn.mkmap tv rfl (fun (x:Int)=>((i_ x):V)) (fun (x:Int)=>((i_ x):V)) (Rn.mapset (ek:=(fun (x:Int)=>((i_ x):V))) (ev:=(fun (x:Int)=>((i_ x):V))) (m:=([]:List (Int×Int))) (k:=0) (v:=0) (fun _ _=>rfl) (fun _=>rfl) (fun _=>rfl) tv rfl rfl rfl rfl rfl (Rn.mov (v:=.mp (Γ.n0 + 20)) tv rfl (Rn.movTF (v:=.sl 1 (Γ.n0 + 19) 0 1 1) tv rfl rfl (Rn.mov (v:=.mp (Γ.n0 + 20)) tv rfl (Rn.nil (toN ?_))))))))))))))))))))))
 refine Tr.cutB (fun ((states65,c66,c67,c68,a69,a70,c71):(List Int)×(List Int)×(List Int)×(List Qi)×(List Int)×(List Qi)×(List (Int×Int)))=>⟨look [(6,.ptr (Γ.n0 + 6) 0),(7,.ptr (Γ.n0 + 7) 0),(8,(o_ states65))],Qk Γ.n0 (bxs [(6,.cells ([(o_ c66),(i_ 0),(o_ c67),.own 3 (List.map Qe c68)])),(7,.cells ([(l_ events1),(i_ 0),(o_ a69),.own 3 (List.map Qe a70)])),(20,.mp (mapE (fun (x:Int)=>((i_ x):V)) (fun (x:Int)=>((i_ x):V)) 0 c71) (c71).length)]) M,Γ.n0 + 89⟩) h (fun z h=>?_) (fun z h=>?_)
 ·refine sr ((md rfl (nt ((Tr.block ?_)))))
  refine Tr.weak (by show WeakSt Γ _ ⟨look ((8,.own 1 (List.map (eI .i64) [0])) :: [(0,(l_ events1)),(1,.clo g3 cp4),(2,.clo g10 cp11),(6,.ptr (Γ.n0 + 6) 0),(7,.ptr (Γ.n0 + 7) 0),(9,.mp (Γ.n0 + 20)),(10,(i_ 0)),(17,(l_ events1)),(18,.agg [(l_ events1),(i_ 0),.nils 1,.nils 3]),(20,.mp (Γ.n0 + 20)),(21,.mp (Γ.n0 + 20))] ),Qk Γ.n0 (bxs [(6,.cells ([.nils 1,(i_ 0),.nils 1,.nils 3])),(7,.cells ([(l_ events1),(i_ 0),.nils 1,.nils 3])),(20,.mp (mapE (fun (x:Int)=>((i_ x):V)) (fun (x:Int)=>((i_ x):V)) 0 (setM ([]:List (Int×Int)) 0 0)) ((setM ([]:List (Int×Int)) 0 0)).length)]) M,Γ.n0 + 89⟩; exact Qbcw 19 8 [.int .i64 0] rfl rfl rfl rfl rfl ⟨(sm rfl),(kFun hM ho7),(kFun hM ho14),(kPtr rfl),(kPtr rfl),(kMp rfl),(sm rfl),(sm rfl),(sm rfl),(kMp rfl),(kMp rfl),tv⟩ ⟨⟨_,rfl,rfl,(.same rfl)⟩,⟨_,rfl,rfl,(.same rfl)⟩,⟨rfl,rfl⟩,tv⟩ rfl) ?_
  refine Tr.loop (mk:=fun ((states17,i18,c19,c20,c21,a22,a23,c24):(List Int)×Int×(List Int)×(List Int)×(List Qi)×(List Int)×(List Qi)×(List (Int×Int)))=>⟨look [(0,(l_ events1)),(1,.clo g3 cp4),(2,.clo g10 cp11),(6,.ptr (Γ.n0 + 6) 0),(7,.ptr (Γ.n0 + 7) 0),(8,(o_ states17)),(9,.mp (Γ.n0 + 20)),(10,(i_ i18))],Qk Γ.n0 (bxs [(6,.cells ([(o_ c19),(i_ 0),(o_ c20),.own 3 (List.map Qe c21)])),(7,.cells ([(l_ events1),(i_ 0),(o_ a22),.own 3 (List.map Qe a23)])),(20,.mp (mapE (fun (x:Int)=>((i_ x):V)) (fun (x:Int)=>((i_ x):V)) 0 c24) (c24).length)]) M,Γ.n0 + 89⟩) h (by exact Qm ⟨(sm rfl),(kFun hM ho7),(kFun hM ho14),(kPtr rfl),(kPtr rfl),(sm rfl),(kMp rfl),(sm rfl),tv⟩ ⟨⟨_,rfl,rfl,(.cons (WkV.nilsO _) (.cons (sm rfl) (.cons (WkV.nilsO _) (.cons (WkV.nilsO _) .nil))))⟩,⟨_,rfl,rfl,(.cons (sm rfl) (.cons (sm rfl) (.cons (WkV.nilsO _) (.cons (WkV.nilsO _) .nil))))⟩,⟨rfl,rfl⟩,tv⟩ rfl) (fun k25 z h=>?_)
  ·obtain ⟨states17,i18,c19,c20,c21,a22,a23,c24⟩:=z
   replace h:_ = some _:=h
   refine Tr.seq (sr ((md rfl (Rn.mov (v:=(l_ states17)) tv rfl (Rn.lenD tv rfl (Rn.bin tv rfl rfl rfl (Rn.nil (toN ?_))))))))
   refine Tr.cond rfl (fun hb26=>?_) (fun hb26=>?_)
   ·replace h:=ifT hb26 h
    refine Tr.skip (toN ?_)
    refine Tr.cutB (fun ((states61,a62,a63,c64):(List Int)×(List Int)×(List Qi)×(List (Int×Int)))=>⟨look [(0,(l_ events1)),(1,.clo g3 cp4),(2,.clo g10 cp11),(6,.ptr (Γ.n0 + 6) 0),(7,.ptr (Γ.n0 + 7) 0),(8,(o_ states61)),(9,.mp (Γ.n0 + 20)),(10,(i_ i18))],Qk Γ.n0 (bxs [(6,.cells ([(o_ c19),(i_ 0),(o_ c20),.own 3 (List.map Qe c21)])),(7,.cells ([(l_ events1),(i_ 0),(o_ a62),.own 3 (List.map Qe a63)])),(20,.mp (mapE (fun (x:Int)=>((i_ x):V)) (fun (x:Int)=>((i_ x):V)) 0 c64) (c64).length)]) M,Γ.n0 + 89⟩) h (fun z h=>?_) (fun z h=>?_)
    ·refine Tr.block ?_
     refine Tr.cutB (fun (a34:List Int)=>⟨look [(0,(l_ events1)),(1,.clo g3 cp4),(2,.clo g10 cp11),(6,.ptr (Γ.n0 + 6) 0),(7,.ptr (Γ.n0 + 7) 0),(8,(o_ states17)),(9,.mp (Γ.n0 + 20)),(10,(i_ i18))],Qk Γ.n0 (bxs [(6,.cells ([(o_ c19),(i_ 0),(o_ c20),.own 3 (List.map Qe c21)])),(7,.cells ([(l_ events1),(i_ 0),(o_ a34),.own 3 (List.map Qe a23)])),(20,.mp (mapE (fun (x:Int)=>((i_ x):V)) (fun (x:Int)=>((i_ x):V)) 0 c24) (c24).length)]) M,Γ.n0 + 89⟩) h (fun z h=>?_) (fun z h=>?_)
     ·refine sr ((Rn.mov (v:=.clo g3 cp4) tv rfl (Rn.mov (v:=(l_ states17)) tv rfl (md rfl ?_))))
      obtain ⟨x27,h28,h⟩:=bnd h
      refine Rn.idxD (e:=(eI .i64)) tv rfl rfl h28 (Rn.loadC (x:=.int .i64 x27) tv rfl ?_)
      obtain ⟨x30,h29,h⟩:=bnd h
      refine Rn.callvM (args:=[(i_ x27)] ++ cp4) tv rfl (by rw [hc5]; rfl) (fun M2 nb2 hn hx=>hf6 _ _ h29 M2 nb2 (by omega) ((Q6d hM).trans hx)) rfl pc9 ?_
      refine Rn.nil (toN ?_)
      refine Tr.cond rfl (fun hb31=>?_) (fun hb31=>?_)
      ·replace h:=bT hb31 h
       refine Tr.rgn (Rn.fldP (o':=2) tv rfl rfl (Rn.loadT (cs':=[(l_ events1),(i_ 0),(l_ a22),.own 3 (List.map Qe a23)]) tv rfl rfl rfl rfl (md rfl (Rn.bslice (xs:=[(i_ i18)]) (cs:=[(i_ i18)]) tv rfl rfl rfl rfl ?_))))
       obtain ⟨x32,h33,h⟩:=bnd h
       refine Rn.app (e:=(eI .i64)) tv rfl rfl rfl (Qjj rfl rfl rfl) h33 rfl (Rn.fldP (o':=2) tv rfl rfl (Rn.storeO (cs':=[(l_ events1),(i_ 0),(o_ x32),.own 3 (List.map Qe a23)]) tv rfl rfl rfl rfl rfl (Rn.nil ?_)))
       replace h:=si h; subst h
       exact Qh [37] ⟨(sm rfl),(kFun hM ho7),(kFun hM ho14),(kPtr rfl),(kPtr rfl),(sm rfl),(kMp rfl),(sm rfl),tv⟩ ⟨⟨_,rfl,rfl,(.same rfl)⟩,⟨_,rfl,rfl,(.same rfl)⟩,⟨rfl,rfl⟩,tv⟩ rfl
      ·replace h:=bF hb31 h
       refine Tr.skip ?_
       replace h:=si h; subst h
       exact Qh [] ⟨(sm rfl),(kFun hM ho7),(kFun hM ho14),(kPtr rfl),(kPtr rfl),(sm rfl),(kMp rfl),(sm rfl),tv⟩ ⟨⟨_,rfl,rfl,(.same rfl)⟩,⟨_,rfl,rfl,(.same rfl)⟩,⟨rfl,rfl⟩,tv⟩ rfl
     ·obtain ⟨a34,rfl⟩ : ∃ x,x = z:=⟨_,rfl⟩
      refine sr ((md rfl (Rn.lenD tv rfl (md rfl (nt ((Tr.block ?_)))))))
      refine Tr.loop (mk:=fun ((states35,x36,a37,c38):(List Int)×Int×(List Qi)×(List (Int×Int)))=>⟨look [(0,(l_ events1)),(1,.clo g3 cp4),(2,.clo g10 cp11),(6,.ptr (Γ.n0 + 6) 0),(7,.ptr (Γ.n0 + 7) 0),(8,(o_ states35)),(9,.mp (Γ.n0 + 20)),(10,(i_ i18)),(40,(l_ events1)),(41,(i_ (events1.length:Int))),(42,(i_ x36))],Qk Γ.n0 (bxs [(6,.cells ([(o_ c19),(i_ 0),(o_ c20),.own 3 (List.map Qe c21)])),(7,.cells ([(l_ events1),(i_ 0),(o_ a34),.own 3 (List.map Qe a37)])),(20,.mp (mapE (fun (x:Int)=>((i_ x):V)) (fun (x:Int)=>((i_ x):V)) 0 c38) (c38).length)]) M,Γ.n0 + 89⟩) h (by exact Qm ⟨(sm rfl),(kFun hM ho7),(kFun hM ho14),(kPtr rfl),(kPtr rfl),(sm rfl),(kMp rfl),(sm rfl),(sm rfl),(sm rfl),(sm rfl),tv⟩ ⟨⟨_,rfl,rfl,(.same rfl)⟩,⟨_,rfl,rfl,(.same rfl)⟩,⟨rfl,rfl⟩,tv⟩ rfl) (fun k39 z h=>?_)
      ·obtain ⟨states35,x36,a37,c38⟩:=z
       replace h:_ = some _:=h
       refine sr ((Rn.bin tv rfl rfl rfl (nt ((Tr.seq ?_)))))
       refine Tr.cond rfl (fun hb40=>?_) (fun hb40=>?_)
       ·replace h:=ifT hb40 h
        refine Tr.skip (toN ?_)
        refine Tr.cutB (fun ((states58,a59,c60):(List Int)×(List Qi)×(List (Int×Int)))=>⟨look [(0,(l_ events1)),(1,.clo g3 cp4),(2,.clo g10 cp11),(6,.ptr (Γ.n0 + 6) 0),(7,.ptr (Γ.n0 + 7) 0),(8,(o_ states58)),(9,.mp (Γ.n0 + 20)),(10,(i_ i18)),(40,(l_ events1)),(41,(i_ (events1.length:Int))),(42,(i_ x36))],Qk Γ.n0 (bxs [(6,.cells ([(o_ c19),(i_ 0),(o_ c20),.own 3 (List.map Qe c21)])),(7,.cells ([(l_ events1),(i_ 0),(o_ a34),.own 3 (List.map Qe a59)])),(20,.mp (mapE (fun (x:Int)=>((i_ x):V)) (fun (x:Int)=>((i_ x):V)) 0 c60) (c60).length)]) M,Γ.n0 + 89⟩) h (fun z h=>?_) (fun z h=>?_)
        ·refine Tr.block (Tr.seq (Tr.rgn ?_))
         obtain ⟨x41,h42,h⟩:=bnd h
         refine Rn.idxD (e:=(eI .i64)) tv rfl rfl h42 (Rn.loadC (x:=.int .i64 x41) tv rfl (md rfl (nt ((sr ((Rn.mov (v:=.clo g10 cp11) tv rfl (Rn.mov (v:=(l_ states35)) tv rfl (md rfl ?_)))))))))
         obtain ⟨x43,h44,h⟩:=bnd h
         refine Rn.idxD (e:=(eI .i64)) tv rfl rfl h44 (Rn.loadC (x:=.int .i64 x43) tv rfl (md rfl ?_))
         obtain ⟨⟨r47,r48⟩,h45,h⟩:=bnd h
         refine Rn.callvM (args:=[(i_ x43),(i_ x41)] ++ cp11) tv rfl (by rw [hc12]; rfl) (fun M2 nb2 hn hx=>hf13 _ _ _ h45 M2 nb2 (by omega) ((Q6d hM).trans hx)) rfl pc9 ?_
         refine Rn.mov (v:=.tup [(i_ r47),(b_ r48)]) tv rfl (Rn.ext (v:=(i_ r47)) (vs:=[(i_ r47),(b_ r48)]) tv rfl rfl rfl (Rn.ext (v:=(b_ r48)) (vs:=[(i_ r47),(b_ r48)]) tv rfl rfl rfl (md rfl (md rfl (nt ((Tr.seq (sr ((md rfl (Rn.un tv rfl rfl (Rn.nil (toN ?_)))))))))))))
         refine Tr.cond rfl (fun hb49=>?_) (fun hb49=>?_)
         ·have hb49:=nT' hb49
          replace h:=bF hb49 h
          refine Tr.exit ?_
          replace h:=si h; subst h
          exact Qh [] ⟨(sm rfl),(kFun hM ho7),(kFun hM ho14),(kPtr rfl),(kPtr rfl),(sm rfl),(kMp rfl),(sm rfl),(sm rfl),(sm rfl),(sm rfl),tv⟩ ⟨⟨_,rfl,rfl,(.same rfl)⟩,⟨_,rfl,rfl,(.same rfl)⟩,⟨rfl,rfl⟩,tv⟩ rfl
         ·have hb49:=nF' hb49
          replace h:=bT hb49 h
          refine Tr.skip (toN (sr ((Rn.mov (v:=.mp (Γ.n0 + 20)) tv rfl (md rfl (Rn.lookupC (ek:=(fun (x:Int)=>((i_ x):V))) (ev:=(fun (x:Int)=>((i_ x):V))) (m:=c38) (k:=r47) (fun _ _=>rfl) (fun _=>rfl) (fun _=>rfl) 0 rfl tv rfl rfl rfl (Rn.mov (v:=.tup [(i_ (getM c38 r47 0)),(b_ (hasM c38 r47))]) tv rfl (Rn.ext (v:=(i_ (getM c38 r47 0))) (vs:=[(i_ (getM c38 r47 0)),(b_ (hasM c38 r47))]) tv rfl rfl rfl (Rn.ext (v:=(b_ (hasM c38 r47))) (vs:=[(i_ (getM c38 r47 0)),(b_ (hasM c38 r47))]) tv rfl rfl rfl (md rfl (md rfl (Rn.nil (toN ?_)))))))))))))
          refine Tr.cutB (fun ((states53,k54,c55):(List Int)×Int×(List (Int×Int)))=>⟨look [(0,(l_ events1)),(1,.clo g3 cp4),(2,.clo g10 cp11),(6,.ptr (Γ.n0 + 6) 0),(7,.ptr (Γ.n0 + 7) 0),(8,(o_ states53)),(9,.mp (Γ.n0 + 20)),(10,(i_ i18)),(12,(i_ x41)),(15,(i_ k54)),(40,(l_ events1)),(41,(i_ (events1.length:Int))),(42,(i_ x36))],Qk Γ.n0 (bxs [(6,.cells ([(o_ c19),(i_ 0),(o_ c20),.own 3 (List.map Qe c21)])),(7,.cells ([(l_ events1),(i_ 0),(o_ a34),.own 3 (List.map Qe a37)])),(20,.mp (mapE (fun (x:Int)=>((i_ x):V)) (fun (x:Int)=>((i_ x):V)) 0 c55) (c55).length)]) M,Γ.n0 + 89⟩) h (fun z h=>?_) (fun z h=>?_)
          ·refine sr ((md rfl (Rn.un tv rfl rfl (Rn.nil (toN ?_)))))
           refine Tr.cond rfl (fun hb50=>?_) (fun hb50=>?_)
           ·have hb50:=nT' hb50
            replace h:=bF hb50 h
            refine sr ((Rn.mov (v:=(l_ states35)) tv rfl (Rn.lenD tv rfl (md rfl (nt ((Tr.rgn (Rn.mov (v:=.mp (Γ.n0 + 20)) tv rfl (md rfl (md rfl (Rn.movTO tv rfl (md rfl (Rn.bslice (xs:=[(i_ r47)]) (cs:=[(i_ r47)]) tv rfl rfl rfl rfl ?_)))))))))))))
            obtain ⟨x51,h52,h⟩:=bnd h
            refine Rn.app (e:=(eI .i64)) tv rfl rfl rfl (Qjj rfl rfl rfl) h52 rfl (Rn.mapset (ek:=(fun (x:Int)=>((i_ x):V))) (ev:=(fun (x:Int)=>((i_ x):V))) (m:=c38) (k:=r47) (v:=(states35.length:Int)) (fun _ _=>rfl) (fun _=>rfl) (fun _=>rfl) tv rfl rfl rfl rfl rfl (Rn.movTO tv rfl (Rn.nil ?_)))
            replace h:=si h; subst h
            exact Qh [73] ⟨(sm rfl),(kFun hM ho7),(kFun hM ho14),(kPtr rfl),(kPtr rfl),(sm rfl),(kMp rfl),(sm rfl),(sm rfl),(sm rfl),(sm rfl),(sm rfl),(sm rfl),tv⟩ ⟨⟨_,rfl,rfl,(.same rfl)⟩,⟨_,rfl,rfl,(.same rfl)⟩,⟨rfl,rfl⟩,tv⟩ rfl
           ·have hb50:=nF' hb50
            replace h:=bT hb50 h
            refine Tr.skip ?_
            replace h:=si h; subst h
            exact Qh [] ⟨(sm rfl),(kFun hM ho7),(kFun hM ho14),(kPtr rfl),(kPtr rfl),(sm rfl),(kMp rfl),(sm rfl),(sm rfl),(sm rfl),(sm rfl),(sm rfl),(sm rfl),tv⟩ ⟨⟨_,rfl,rfl,(.same rfl)⟩,⟨_,rfl,rfl,(.same rfl)⟩,⟨rfl,rfl⟩,tv⟩ rfl
          ·obtain ⟨states53,k54,c55⟩:=z
           refine Tr.rgn (Rn.fldP (o':=3) tv rfl rfl (Rn.loadT (cs':=[(l_ events1),(i_ 0),(o_ a34),.d (.lst 3 (List.map Qe a37))]) tv rfl rfl rfl rfl (md rfl (md rfl (md rfl (Rn.build (v:=.agg [(i_ i18),(i_ x41),(i_ k54)]) tv rfl (Rn.bslice (xs:=[.agg [(i_ i18),(i_ x41),(i_ k54)]]) (cs:=[(i_ i18),(i_ x41),(i_ k54)]) tv rfl rfl rfl rfl ?_)))))))
           obtain ⟨x56,h57,h⟩:=bnd h
           refine Rn.app (e:=Qe) tv rfl rfl rfl (Qjj rfl rfl rfl) h57 rfl (Rn.fldP (o':=3) tv rfl rfl (Rn.storeO (cs':=[(l_ events1),(i_ 0),(o_ a34),.own 3 (List.map Qe x56)]) tv rfl rfl rfl rfl rfl (Rn.nil ?_)))
           replace h:=si h; subst h
           exact Qh [81] ⟨(sm rfl),(kFun hM ho7),(kFun hM ho14),(kPtr rfl),(kPtr rfl),(sm rfl),(kMp rfl),(sm rfl),(sm rfl),(sm rfl),(sm rfl),tv⟩ ⟨⟨_,rfl,rfl,(.same rfl)⟩,⟨_,rfl,rfl,(.same rfl)⟩,⟨rfl,rfl⟩,tv⟩ rfl
        ·obtain ⟨states58,a59,c60⟩:=z
         refine Tr.rgn (Rn.bin tv rfl rfl rfl (md rfl (Rn.nil ?_)))
         exact ⟨_,h,(by exact Qm ⟨(sm rfl),(kFun hM ho7),(kFun hM ho14),(kPtr rfl),(kPtr rfl),(sm rfl),(kMp rfl),(sm rfl),(sm rfl),(sm rfl),(sm rfl),tv⟩ ⟨⟨_,rfl,rfl,(.same rfl)⟩,⟨_,rfl,rfl,(.same rfl)⟩,⟨rfl,rfl⟩,tv⟩ rfl)⟩
       ·replace h:=ifF hb40 h
        refine Tr.exit ?_
        replace h:=si h; subst h
        exact Qh [] ⟨(sm rfl),(kFun hM ho7),(kFun hM ho14),(kPtr rfl),(kPtr rfl),(sm rfl),(kMp rfl),(sm rfl),tv⟩ ⟨⟨_,rfl,rfl,(.same rfl)⟩,⟨_,rfl,rfl,(.same rfl)⟩,⟨rfl,rfl⟩,tv⟩ rfl
    ·obtain ⟨states61,a62,a63,c64⟩:=z
     refine Tr.rgn (md rfl (Rn.bin tv rfl rfl rfl (md rfl (Rn.nil ?_))))
     exact ⟨_,h,(by exact Qm ⟨(sm rfl),(kFun hM ho7),(kFun hM ho14),(kPtr rfl),(kPtr rfl),(sm rfl),(kMp rfl),(sm rfl),tv⟩ ⟨⟨_,rfl,rfl,(.same rfl)⟩,⟨_,rfl,rfl,(.same rfl)⟩,⟨rfl,rfl⟩,tv⟩ rfl)⟩
   ·replace h:=ifF hb26 h
    refine Tr.exit ?_
    replace h:=si h; subst h
    exact Qh [] ⟨(kPtr rfl),(kPtr rfl),(sm rfl),tv⟩ ⟨⟨_,rfl,rfl,(.same rfl)⟩,⟨_,rfl,rfl,(.same rfl)⟩,⟨rfl,rfl⟩,tv⟩ rfl
 ·obtain ⟨states65,c66,c67,c68,a69,a70,c71⟩:=z
  refine sr ((Rn.mov (v:=(l_ states65)) tv rfl (Rn.lenD tv rfl (Rn.fldP (o':=1) tv rfl rfl (Rn.store (v:=(i_ (states65.length:Int))) (cs':=[(l_ events1),(i_ (states65.length:Int)),(o_ a69),.own 3 (List.map Qe a70)]) tv rfl rfl rfl rfl rfl rfl (nt ((sr ((Rn.load (v:=.agg [(l_ events1),(i_ (states65.length:Int)),(l_ a69),.d (.lst 3 (List.map Qe a70))]) tv rfl (Ql rfl) rfl rfl (Rn.storeT (v:=.agg [(l_ events1),(i_ (states65.length:Int)),(l_ a69),.d (.lst 3 (List.map Qe a70))]) (ds:=[(l_ events1),(i_ (states65.length:Int)),(l_ a69),.d (.lst 3 (List.map Qe a70))]) (cs':=[(l_ events1),(i_ (states65.length:Int)),(l_ a69),.d (.lst 3 (List.map Qe a70))]) tv rfl rfl rfl rfl rfl rfl rfl (nt ((Tr.ret ?_))))))))))))))
  replace h:=si h; subst h
  exact ⟨.inr rfl,(.agg [(l_ events1),(i_ (states65.length:Int)),(l_ a69),.d (.lst 3 (List.map Qe a70))]),Qfx rfl rfl rfl rfl,fun _ _ _ _ h=>h,⟨tv,tv,tv,tv,tv⟩,fun k hk=>Qc hk⟩
theorem Qts {P:Program} {c:Nat} (hcf:Qj P c = some Qgz):Qef P c (Qy):=by
 intro state1 r h
 refine Qbm hcf rfl fun Γ M hP hnt hM=>?_
 subst hP
 refine Tr.init [(0,(i_ state1))] rfl ?_
 unfold Qy at h
 unfold Qgz
 refine sr ((md rfl (nt ((sr ((md rfl (Rn.bin tv rfl rfl rfl (md rfl (nt ((Tr.ret ?_))))))))))))
 replace h:=si h; subst h
 exact ⟨.inr rfl,(b_ (state1 == 0)),rfl,fun _ _ _ _ h=>h,tv,fun k hk=>Qc hk⟩
theorem Qlc {P:Program} {c:Nat} {Qs:(List Int)→Option Int} {Qn:(List Int)→(Int→Option Bool)→(Int→Int→Option (Int×Bool))→Option Qb} {Qw:(List Int)→Option ((List Int))} {Qy:Int→Option Bool} {Q2:Int→Int→(List Int)→Option (Int×Bool)}
    (H_requirement_distinct:Qdn P 33 Qs)
    (H_requirement_explore:Qc7 P 34 Qn)
    (H_requirement_sorted:Qd7 P 35 Qw)
    (H_requirement_first:Qef P 36 Qy)
    (H_requirement_Alternate_1:Qdz P 37 Q2) (hcf:Qj P c = some Qeh):Qeg P c (Qbb Qs Qn Qw Qy Q2):=by
 intro events1 r h
 refine Qbm hcf rfl fun Γ M hP hnt hM=>?_
 subst hP
 refine Tr.init [(0,(l_ events1))] rfl ?_
 unfold Qbb at h
 unfold Qeh
 refine sr ((Rn.box (v:=(l_ events1)) (cs:=[(l_ events1)]) tv rfl rfl rfl rfl rfl (Rn.alloc tv rfl (md rfl (nt ((Tr.seq (sr ((Rn.load (v:=(l_ events1)) tv rfl (Ql rfl) rfl rfl (Rn.lenD tv rfl (Rn.bin tv rfl rfl rfl (Rn.nil (toN ?_))))))))))))))
 refine Tr.cond rfl (fun hb2=>?_) (fun hb2=>?_)
 ·replace h:=bT hb2 h
  refine sr ((Rn.build (v:=.agg [.nils 1,(i_ 0),.nils 1,.nils 3]) tv rfl (Rn.storeT (v:=.agg [.nils 1,(i_ 0),.nils 1,.nils 3]) (ds:=[.nils 1,(i_ 0),.nils 1,.nils 3]) (cs':=[.nils 1,(i_ 0),.nils 1,.nils 3]) tv rfl rfl rfl rfl rfl rfl rfl (md rfl (nt ((Tr.ret ?_)))))))
  replace h:=si h; subst h
  exact ⟨.inr rfl,.tup [.agg [.nils 1,(i_ 0),.nils 1,.nils 3],(i_ 12)],res2 (Qfx rfl rfl rfl rfl) rfl,(WkV.tup (.cons (WkV.agg (.cons (WkV.nilsD _) (.cons (.same rfl) (.cons (WkV.nilsD _) (.cons (WkV.nilsD _) .nil))))) (.cons (.same rfl) .nil))).rd,⟨⟨tv,tv,tv,tv,tv⟩,tv,tv⟩,fun k hk=>Qc hk⟩
 ·replace h:=bF hb2 h
  refine Tr.skip (toN (Tr.seq (sr ((Rn.load (v:=(l_ events1)) tv rfl (Ql rfl) rfl rfl ?_)))))
  obtain ⟨x4,h3,h⟩:=bnd h
  refine Rn.call (args:=[(l_ events1)]) tv rfl (H_requirement_distinct _ _ h3) pc9 (md rfl (nt ((sr ((md rfl (Rn.bin tv rfl rfl rfl (Rn.nil (toN ?_)))))))))
  refine Tr.cond rfl (fun hb5=>?_) (fun hb5=>?_)
  ·replace h:=bT hb5 h
   refine sr ((Rn.build (v:=.agg [.nils 1,(i_ 0),.nils 1,.nils 3]) tv rfl (md rfl (Rn.storeT (v:=.agg [.nils 1,(i_ 0),.nils 1,.nils 3]) (ds:=[.nils 1,(i_ 0),.nils 1,.nils 3]) (cs':=[.nils 1,(i_ 0),.nils 1,.nils 3]) tv rfl rfl rfl rfl rfl rfl rfl (md rfl (nt ((Tr.ret ?_))))))))
   replace h:=si h; subst h
   exact ⟨.inr rfl,.tup [.agg [.nils 1,(i_ 0),.nils 1,.nils 3],(i_ x4)],res2 (Qfx rfl rfl rfl rfl) rfl,(WkV.tup (.cons (WkV.agg (.cons (WkV.nilsD _) (.cons (.same rfl) (.cons (WkV.nilsD _) (.cons (WkV.nilsD _) .nil))))) (.cons (.same rfl) .nil))).rd,⟨⟨tv,tv,tv,tv,tv⟩,tv,tv⟩,fun k hk=>Qc hk⟩
  ·replace h:=bF hb5 h
   refine Tr.skip (toN (sr ((Rn.load (v:=(l_ events1)) tv rfl (Ql rfl) rfl rfl ?_))))
   obtain ⟨x7,h6,h⟩:=bnd h
   refine Rn.call (args:=[(l_ events1)]) tv rfl (H_requirement_sorted _ _ h6) pc9 (Rn.k (v:=.clo 37 [.ptr (Γ.n0 + 1) 0]) tv rfl rfl rfl ?_)
   obtain ⟨x16,h15,h⟩:=bnd h
   refine Rn.callM (args:=[(l_ x7),.clo 36 [],.clo 37 [.ptr (Γ.n0 + 1) 0]]) tv rfl (fun M2 nb2 hn hx=>H_requirement_explore _ _ _ 36 [] 37 [.ptr (Γ.n0 + 1) 0] _ h15 M2 nb2 rfl tv (fun a8 r9 h10 M3 nb3 hn3 hx3=>H_requirement_first a8 r9 h10 M3 nb3 ) rfl ⟨Q3z (hx _ _ (Ql rfl)),tv⟩ (fun a11 a12 r13 h14 M3 nb3 hn3 hx3=>H_requirement_Alternate_1 a11 a12 events1 (Γ.n0 + 1) r13 h14 M3 nb3 ((hx.trans hx3) _ _ (Ql rfl)))) rfl pc9 ?_
   refine Rn.storeT (v:=(Qa x16)) (ds:=(Qd x16)) (cs':=(Qd x16)) tv rfl rfl rfl rfl rfl rfl rfl (md rfl (nt ((Tr.ret ?_))))
   replace h:=si h; subst h
   exact ⟨.inr rfl,.tup [(Qa x16),(i_ 0)],res2 (Qfx rfl rfl rfl rfl) rfl,(WkV.tup (.cons (.same rfl) (.cons (.same rfl) .nil))).rd,⟨⟨tv,tv,tv,tv,tv⟩,tv,tv⟩,fun k hk=>Qc hk⟩
theorem Qtt {P:Program} {c:Nat} (hcf:Qj P c = some Qg1) (fuel:Nat):Qg0 P c (Qb6 fuel):=by
 intro xset1 n2 r h
 refine Qbm hcf rfl fun Γ M hP hnt hM=>?_
 subst hP
 refine Tr.init [(0,(l_ xset1)),(1,(i_ n2))] rfl ?_
 unfold Qb6 at h
 unfold Qg1
 refine sr ((md rfl (nt ((Tr.seq (sr ((md rfl (Rn.lenD tv rfl (md rfl (nt ((Tr.block ?_)))))))))))))
 refine Tr.loop (mk:=fun (x3:Int)=>⟨look [(0,(l_ xset1)),(1,(i_ n2)),(7,(l_ xset1)),(8,(i_ (xset1.length:Int))),(9,(i_ x3))],Qk Γ.n0 (bxs []) M,Γ.n0 + 33⟩) h (by exact Qm ⟨(sm rfl),(sm rfl),(sm rfl),(sm rfl),(sm rfl),tv⟩ tv rfl) (fun k4 z h=>?_)
 ·obtain ⟨x3,rfl⟩ : ∃ x,x = z:=⟨_,rfl⟩
  replace h:_ = some _:=h
  refine sr ((Rn.bin tv rfl rfl rfl (nt ((Tr.seq ?_)))))
  refine Tr.cond rfl (fun hb5=>?_) (fun hb5=>?_)
  ·replace h:=ifT hb5 h
   refine Tr.skip (toN (Tr.seq (Tr.block (sr ((md rfl ?_))))))
   obtain ⟨x6,h7,h⟩:=bnd h
   refine Rn.idxD (e:=(eI .i64)) tv rfl rfl h7 (Rn.loadC (x:=.int .i64 x6) tv rfl (md rfl (md rfl (nt ((Tr.seq ?_))))))
   refine Tr.cutB (fun (x9:Bool)=>⟨look [(0,(l_ xset1)),(1,(i_ n2)),(5,(i_ x3)),(6,(i_ x6)),(7,(l_ xset1)),(8,(i_ (xset1.length:Int))),(9,(i_ x3)),(20,(b_ x9))],Qk Γ.n0 (bxs []) M,Γ.n0 + 33⟩) h (fun z h=>?_) (fun z h=>?_)
   ·refine Tr.rgn (md rfl (Rn.bin tv rfl rfl rfl (md rfl ?_)))
    refine Qbs (decide (x6 < 0)) (fun hb8=>?_) (fun hb8=>?_)
    ·replace h:=ifT hb8 h
     refine Rn.sk (nw rfl hb8) (Rn.sk (nw rfl hb8) (Rn.sk (nw rfl hb8) (Rn.pickT (v:=(b_ true)) tv rfl hb8 rfl (Rn.nil ?_))))
     replace h:=si h; subst h
     exact Qh [] ⟨(sm rfl),(sm rfl),(sm rfl),(sm rfl),(sm rfl),(sm rfl),(sm rfl),(sm rfl),tv⟩ tv rfl
    ·replace h:=ifF hb8 h
     refine Rn.movD (gw rfl hb8) rfl (Rn.movD (gw rfl hb8) rfl (Rn.bin (gw rfl hb8) rfl rfl rfl (Rn.pickF (v:=(b_ (decide (x6≥n2)))) tv rfl hb8 rfl (Rn.nil ?_))))
     replace h:=si h; subst h
     exact Qh [] ⟨(sm rfl),(sm rfl),(sm rfl),(sm rfl),(sm rfl),(sm rfl),(sm rfl),(sm rfl),tv⟩ tv rfl
   ·obtain ⟨x9,rfl⟩ : ∃ x,x = z:=⟨_,rfl⟩
    refine Tr.cond rfl (fun hb10=>?_) (fun hb10=>?_)
    ·replace h:=bT hb10 h
     refine sr ((md rfl (nt ((Tr.ret ?_)))))
     replace h:=si h; subst h
     exact ⟨.inr rfl,(i_ 2),rfl,fun _ _ _ _ h=>h,tv,fun k hk=>Qc hk⟩
    ·replace h:=bF hb10 h
     refine Tr.skip (toN ?_)
     refine Tr.cutB (fun (x14:Bool)=>⟨look [(0,(l_ xset1)),(1,(i_ n2)),(7,(l_ xset1)),(8,(i_ (xset1.length:Int))),(9,(i_ x3)),(31,(b_ x14))],Qk Γ.n0 (bxs []) M,Γ.n0 + 33⟩) h (fun z h=>?_) (fun z h=>?_)
     ·refine Tr.rgn (md rfl (Rn.bin tv rfl rfl rfl (md rfl ?_)))
      refine Qbs (decide (x3 > 0)) (fun hb11=>?_) (fun hb11=>?_)
      ·replace h:=ifT hb11 h
       refine Rn.movD (gw rfl hb11) rfl (Rn.movD (gw rfl hb11) rfl (Rn.movD (gw rfl hb11) rfl (Rn.bin (gw rfl hb11) rfl rfl rfl ?_)))
       obtain ⟨x12,h13,h⟩:=bnd h
       refine Rn.idxD (e:=(eI .i64)) (gw rfl hb11) rfl rfl h13 (Rn.loadC (x:=.int .i64 x12) (gw rfl hb11) rfl (Rn.bin (gw rfl hb11) rfl rfl rfl (Rn.pickT (v:=(b_ (decide (x6≤x12)))) tv rfl hb11 rfl (Rn.nil ?_))))
       replace h:=si h; subst h
       exact Qh [] ⟨(sm rfl),(sm rfl),(sm rfl),(sm rfl),(sm rfl),(sm rfl),tv⟩ tv rfl
      ·replace h:=ifF hb11 h
       refine Rn.sk (nw rfl hb11) (Rn.sk (nw rfl hb11) (Rn.sk (nw rfl hb11) (Rn.sk (nw rfl hb11) (Rn.sk (nw rfl hb11) (Rn.sk (nw rfl hb11) (Rn.sk (nw rfl hb11) (Rn.pickF (v:=(b_ false)) tv rfl hb11 rfl (Rn.nil ?_))))))))
       replace h:=si h; subst h
       exact Qh [] ⟨(sm rfl),(sm rfl),(sm rfl),(sm rfl),(sm rfl),(sm rfl),tv⟩ tv rfl
     ·obtain ⟨x14,rfl⟩ : ∃ x,x = z:=⟨_,rfl⟩
      refine Tr.cond rfl (fun hb15=>?_) (fun hb15=>?_)
      ·replace h:=bT hb15 h
       refine sr ((md rfl (nt ((Tr.ret ?_)))))
       replace h:=si h; subst h
       exact ⟨.inr rfl,(i_ 5),rfl,fun _ _ _ _ h=>h,tv,fun k hk=>Qc hk⟩
      ·replace h:=bF hb15 h
       refine Tr.skip (toN (Tr.rgn (Rn.bin tv rfl rfl rfl (md rfl (Rn.nil ?_)))))
       exact ⟨_,h,(by exact Qm ⟨(sm rfl),(sm rfl),(sm rfl),(sm rfl),(sm rfl),tv⟩ tv rfl)⟩
  ·replace h:=ifF hb5 h
   refine Tr.exit (toN (sr ((md rfl (nt ((Tr.ret ?_)))))))
   replace h:=si h; subst h
   exact ⟨.inr rfl,(i_ 0),rfl,fun _ _ _ _ h=>h,tv,fun k hk=>Qc hk⟩
theorem Q04 {P:Program} {c:Nat} (hcf:Qj P c = some Qjp) (fuel:Nat):Qeo P c (Qu fuel):=by
 intro a1 b2 keep3 g4 cp5 r h
 intro M nb hc6 ho8 hf7
 refine Q40 hcf rfl M nb fun Γ hP hnt hn0 hM=>?_
 subst hP hn0
 refine Tr.init [(0,(l_ a1)),(1,(l_ b2)),(2,.clo g4 cp5)] rfl ?_
 unfold Qu at h
 unfold Qjp
 refine sr ((Rn.movTC (v:=.nils 1) tv (nt ((sr ((Rn.movTC (v:=.nils 1) tv (Rn.nil (toN ?_)))))))))
 refine Tr.cutB (fun (out51:List Int)=>⟨look [(7,(o_ out51))],Qk Γ.n0 (bxs []) M,Γ.n0 + 74⟩) h (fun z h=>?_) (fun z h=>?_)
 ·refine Tr.block ?_
  refine Tr.loop (mk:=fun ((a11,b12,out13):(List Int)×(List Int)×(List Int))=>⟨look [(0,(l_ a11)),(1,(l_ b12)),(2,.clo g4 cp5),(7,(o_ out13))],Qk Γ.n0 (bxs []) M,Γ.n0 + 74⟩) h (by exact Qm ⟨(sm rfl),(sm rfl),(kFun hM ho8),(WkV.nilsO _),tv⟩ tv rfl) (fun k14 z h=>?_)
  ·obtain ⟨a11,b12,out13⟩:=z
   replace h:_ = some _:=h
   refine Tr.seq ?_
   refine Tr.cutB (fun (x16:Bool)=>⟨look [(0,(l_ a11)),(1,(l_ b12)),(2,.clo g4 cp5),(7,(o_ out13)),(18,(b_ x16))],Qk Γ.n0 (bxs []) M,Γ.n0 + 74⟩) h (fun z h=>?_) (fun z h=>?_)
   ·refine Tr.rgn (md rfl (Rn.lenD tv rfl (Rn.bin tv rfl rfl rfl (md rfl ?_))))
    refine Qbs (decide ((a11.length:Int) > 0)) (fun hb15=>?_) (fun hb15=>?_)
    ·replace h:=ifT hb15 h
     refine Rn.sk (nw rfl hb15) (Rn.sk (nw rfl hb15) (Rn.sk (nw rfl hb15) (Rn.pickT (v:=(b_ true)) tv rfl hb15 rfl (Rn.nil ?_))))
     replace h:=si h; subst h
     exact Qh [] ⟨(sm rfl),(sm rfl),(kFun hM ho8),(sm rfl),(sm rfl),tv⟩ tv rfl
    ·replace h:=ifF hb15 h
     refine Rn.movD (gw rfl hb15) rfl (Rn.lenD (gw rfl hb15) rfl (Rn.bin (gw rfl hb15) rfl rfl rfl (Rn.pickF (v:=(b_ (decide ((b12.length:Int) > 0)))) tv rfl hb15 rfl (Rn.nil ?_))))
     replace h:=si h; subst h
     exact Qh [] ⟨(sm rfl),(sm rfl),(kFun hM ho8),(sm rfl),(sm rfl),tv⟩ tv rfl
   ·obtain ⟨x16,rfl⟩ : ∃ x,x = z:=⟨_,rfl⟩
    refine Tr.cond rfl (fun hb17=>?_) (fun hb17=>?_)
    ·replace h:=bT hb17 h
     refine Tr.skip (toN (Tr.block ?_))
     refine Tr.cutB (fun (inA24:Bool)=>⟨look [(0,(l_ a11)),(1,(l_ b12)),(2,.clo g4 cp5),(7,(o_ out13)),(8,(b_ inA24))],Qk Γ.n0 (bxs []) M,Γ.n0 + 74⟩) h (fun z h=>?_) (fun z h=>?_)
     ·refine Tr.rgnD (by decide) ?_
      refine md rfl (Rn.lenD tv rfl (Rn.bin tv rfl rfl rfl (md rfl ?_)))
      refine Qbs (decide ((a11.length:Int) > 0)) (fun hb18=>?_) (fun hb18=>?_)
      ·replace h:=ifT hb18 h
       refine Rn.movD (gw rfl hb18) rfl (Rn.lenD (gw rfl hb18) rfl (Rn.bin (gw rfl hb18) rfl rfl rfl (Rn.movD (gw rfl hb18) rfl ?_)))
       refine Qbs ((b12.length:Int) == 0) (fun hb19=>?_) (fun hb19=>?_)
       ·replace h:=bT hb19 h
        refine Rn.sk (nw rfl hb19) (Rn.sk (nw rfl hb19) (Rn.sk (nw rfl hb19) (Rn.sk (nw rfl hb19) (Rn.sk (nw rfl hb19) (Rn.sk (nw rfl hb19) (Rn.sk (nw rfl hb19) (Rn.pickT (v:=(b_ true)) (gw rfl hb18) rfl hb19 rfl (Rn.pickT (v:=(b_ true)) tv rfl hb18 rfl (md rfl ?_)))))))))
        refine Rn.nil ⟨rfl,?_⟩
        replace h:=si h; subst h
        exact Qh [] ⟨(sm rfl),(sm rfl),(kFun hM ho8),(sm rfl),(sm rfl),tv⟩ tv rfl
       ·replace h:=bF hb19 h
        refine Rn.movD (gw rfl hb19) rfl ?_
        obtain ⟨x20,h21,h⟩:=bnd h
        refine Rn.idxD (e:=(eI .i64)) (gw rfl hb19) rfl rfl h21 (Rn.loadC (x:=.int .i64 x20) (gw rfl hb19) rfl (Rn.movD (gw rfl hb19) rfl ?_))
        obtain ⟨x22,h23,h⟩:=bnd h
        refine Rn.idxD (e:=(eI .i64)) (gw rfl hb19) rfl rfl h23 (Rn.loadC (x:=.int .i64 x22) (gw rfl hb19) rfl (Rn.bin (gw rfl hb19) rfl rfl rfl (Rn.pickF (v:=(b_ (decide (x20≤x22)))) (gw rfl hb18) rfl hb19 rfl (Rn.pickT (v:=(b_ (decide (x20≤x22)))) tv rfl hb18 rfl (md rfl ?_)))))
        refine Rn.nil ⟨rfl,?_⟩
        replace h:=si h; subst h
        exact Qh [] ⟨(sm rfl),(sm rfl),(kFun hM ho8),(sm rfl),(sm rfl),tv⟩ tv rfl
      ·replace h:=ifF hb18 h
       refine Rn.sk (nw rfl hb18) (Rn.sk (nw rfl hb18) (Rn.sk (nw rfl hb18) (Rn.sk (nw rfl hb18) (Rn.sk (nu rfl) (Rn.sk (nu rfl) (Rn.sk (nu rfl) (Rn.sk (nu rfl) (Rn.sk (nu rfl) (Rn.sk (nu rfl) (Rn.sk (nu rfl) (Rn.sk (nw rfl hb18) (Rn.pickF (v:=(b_ false)) tv rfl hb18 rfl (md rfl ?_)))))))))))))
       refine Rn.nil ⟨rfl,?_⟩
       replace h:=si h; subst h
       exact Qh [] ⟨(sm rfl),(sm rfl),(kFun hM ho8),(sm rfl),(sm rfl),tv⟩ tv rfl
     ·obtain ⟨inA24,rfl⟩ : ∃ x,x = z:=⟨_,rfl⟩
      refine Tr.cutB (fun (inB31:Bool)=>⟨look [(0,(l_ a11)),(1,(l_ b12)),(2,.clo g4 cp5),(7,(o_ out13)),(8,(b_ inA24)),(9,(b_ inB31))],Qk Γ.n0 (bxs []) M,Γ.n0 + 74⟩) h (fun z h=>?_) (fun z h=>?_)
      ·refine Tr.rgnD (by decide) ?_
       refine md rfl (Rn.lenD tv rfl (Rn.bin tv rfl rfl rfl (md rfl ?_)))
       refine Qbs (decide ((b12.length:Int) > 0)) (fun hb25=>?_) (fun hb25=>?_)
       ·replace h:=ifT hb25 h
        refine Rn.movD (gw rfl hb25) rfl (Rn.lenD (gw rfl hb25) rfl (Rn.bin (gw rfl hb25) rfl rfl rfl (Rn.movD (gw rfl hb25) rfl ?_)))
        refine Qbs ((a11.length:Int) == 0) (fun hb26=>?_) (fun hb26=>?_)
        ·replace h:=bT hb26 h
         refine Rn.sk (nw rfl hb26) (Rn.sk (nw rfl hb26) (Rn.sk (nw rfl hb26) (Rn.sk (nw rfl hb26) (Rn.sk (nw rfl hb26) (Rn.sk (nw rfl hb26) (Rn.sk (nw rfl hb26) (Rn.pickT (v:=(b_ true)) (gw rfl hb25) rfl hb26 rfl (Rn.pickT (v:=(b_ true)) tv rfl hb25 rfl (md rfl ?_)))))))))
         refine Rn.nil ⟨rfl,?_⟩
         replace h:=si h; subst h
         exact Qh [] ⟨(sm rfl),(sm rfl),(kFun hM ho8),(sm rfl),(sm rfl),(sm rfl),tv⟩ tv rfl
        ·replace h:=bF hb26 h
         refine Rn.movD (gw rfl hb26) rfl ?_
         obtain ⟨x27,h28,h⟩:=bnd h
         refine Rn.idxD (e:=(eI .i64)) (gw rfl hb26) rfl rfl h28 (Rn.loadC (x:=.int .i64 x27) (gw rfl hb26) rfl (Rn.movD (gw rfl hb26) rfl ?_))
         obtain ⟨x29,h30,h⟩:=bnd h
         refine Rn.idxD (e:=(eI .i64)) (gw rfl hb26) rfl rfl h30 (Rn.loadC (x:=.int .i64 x29) (gw rfl hb26) rfl (Rn.bin (gw rfl hb26) rfl rfl rfl (Rn.pickF (v:=(b_ (decide (x27≤x29)))) (gw rfl hb25) rfl hb26 rfl (Rn.pickT (v:=(b_ (decide (x27≤x29)))) tv rfl hb25 rfl (md rfl ?_)))))
         refine Rn.nil ⟨rfl,?_⟩
         replace h:=si h; subst h
         exact Qh [] ⟨(sm rfl),(sm rfl),(kFun hM ho8),(sm rfl),(sm rfl),(sm rfl),tv⟩ tv rfl
       ·replace h:=ifF hb25 h
        refine Rn.sk (nw rfl hb25) (Rn.sk (nw rfl hb25) (Rn.sk (nw rfl hb25) (Rn.sk (nw rfl hb25) (Rn.sk (nu rfl) (Rn.sk (nu rfl) (Rn.sk (nu rfl) (Rn.sk (nu rfl) (Rn.sk (nu rfl) (Rn.sk (nu rfl) (Rn.sk (nu rfl) (Rn.sk (nw rfl hb25) (Rn.pickF (v:=(b_ false)) tv rfl hb25 rfl (md rfl ?_)))))))))))))
        refine Rn.nil ⟨rfl,?_⟩
        replace h:=si h; subst h
        exact Qh [] ⟨(sm rfl),(sm rfl),(kFun hM ho8),(sm rfl),(sm rfl),(sm rfl),tv⟩ tv rfl
      ·obtain ⟨inB31,rfl⟩ : ∃ x,x = z:=⟨_,rfl⟩
       refine sr ((md rfl (Rn.nil (toN ?_))))
       refine Tr.cutB (fun ((a37,x38):(List Int)×Int)=>⟨look [(0,(l_ a37)),(1,(l_ b12)),(2,.clo g4 cp5),(7,(o_ out13)),(8,(b_ inA24)),(9,(b_ inB31)),(10,(i_ x38))],Qk Γ.n0 (bxs []) M,Γ.n0 + 74⟩) h (fun z h=>?_) (fun z h=>?_)
       ·refine sr ((md rfl (Rn.nil (toN ?_))))
        refine Tr.cond rfl (fun hb32=>?_) (fun hb32=>?_)
        ·replace h:=bT hb32 h
         refine Tr.rgnD (by decide) ?_
         refine md rfl ?_
         obtain ⟨x33,h34,h⟩:=bnd h
         refine Rn.idxD (e:=(eI .i64)) tv rfl rfl h34 (Rn.loadC (x:=.int .i64 x33) tv rfl (Rn.movTD tv rfl ?_))
         obtain ⟨x35,h36,h⟩:=bnd h
         refine Rn.slcTD (e:=(eI .i64)) tv rfl rfl h36 (md rfl (Rn.movTD tv rfl ?_))
         refine Rn.nil ⟨rfl,?_⟩
         replace h:=si h; subst h
         exact Qh [] ⟨(sm rfl),(sm rfl),(kFun hM ho8),(sm rfl),(sm rfl),(sm rfl),(sm rfl),tv⟩ tv rfl
        ·replace h:=bF hb32 h
         refine Tr.skip ?_
         replace h:=si h; subst h
         exact Qh [] ⟨(sm rfl),(sm rfl),(kFun hM ho8),(sm rfl),(sm rfl),(sm rfl),(sm rfl),tv⟩ tv rfl
       ·obtain ⟨a37,x38⟩:=z
        refine Tr.cutB (fun ((b44,x45):(List Int)×Int)=>⟨look [(0,(l_ a37)),(1,(l_ b44)),(2,.clo g4 cp5),(7,(o_ out13)),(8,(b_ inA24)),(9,(b_ inB31)),(10,(i_ x45))],Qk Γ.n0 (bxs []) M,Γ.n0 + 74⟩) h (fun z h=>?_) (fun z h=>?_)
        ·refine sr ((md rfl (Rn.nil (toN ?_))))
         refine Tr.cond rfl (fun hb39=>?_) (fun hb39=>?_)
         ·replace h:=bT hb39 h
          refine Tr.rgnD (by decide) ?_
          refine md rfl ?_
          obtain ⟨x40,h41,h⟩:=bnd h
          refine Rn.idxD (e:=(eI .i64)) tv rfl rfl h41 (Rn.loadC (x:=.int .i64 x40) tv rfl (Rn.movTD tv rfl ?_))
          obtain ⟨x42,h43,h⟩:=bnd h
          refine Rn.slcTD (e:=(eI .i64)) tv rfl rfl h43 (md rfl (Rn.movTD tv rfl ?_))
          refine Rn.nil ⟨rfl,?_⟩
          replace h:=si h; subst h
          exact Qh [] ⟨(sm rfl),(sm rfl),(kFun hM ho8),(sm rfl),(sm rfl),(sm rfl),(sm rfl),tv⟩ tv rfl
         ·replace h:=bF hb39 h
          refine Tr.skip ?_
          replace h:=si h; subst h
          exact Qh [] ⟨(sm rfl),(sm rfl),(kFun hM ho8),(sm rfl),(sm rfl),(sm rfl),(sm rfl),tv⟩ tv rfl
        ·obtain ⟨b44,x45⟩:=z
         refine sr ((Rn.mov (v:=.clo g4 cp5) tv rfl (md rfl (md rfl ?_))))
         obtain ⟨x47,h46,h⟩:=bnd h
         refine Rn.callvM (args:=[(b_ inA24),(b_ inB31)] ++ cp5) tv rfl (by rw [hc6]; rfl) (fun M2 nb2 hn hx=>hf7 _ _ _ h46 M2 nb2 (by omega) ((Q6d hM).trans hx)) rfl pc9 ?_
         refine Rn.nil (toN ?_)
         refine Tr.cond rfl (fun hb48=>?_) (fun hb48=>?_)
         ·replace h:=bT hb48 h
          refine Tr.rgn (Rn.movTO tv rfl (md rfl (Rn.bslice (xs:=[(i_ x45)]) (cs:=[(i_ x45)]) tv rfl rfl rfl rfl ?_)))
          obtain ⟨x49,h50,h⟩:=bnd h
          refine Rn.app (e:=(eI .i64)) tv rfl rfl rfl (Qjj rfl rfl rfl) h50 rfl (Rn.movTO tv rfl (Rn.nil ?_))
          exact ⟨_,h,(by exact Qm ⟨(sm rfl),(sm rfl),(kFun hM ho8),(sm rfl),tv⟩ tv rfl)⟩
         ·replace h:=bF hb48 h
          refine Tr.skip ?_
          exact ⟨_,h,(by exact Qm ⟨(sm rfl),(sm rfl),(kFun hM ho8),(sm rfl),tv⟩ tv rfl)⟩
    ·replace h:=bF hb17 h
     refine Tr.exit ?_
     replace h:=si h; subst h
     exact Qh [] ⟨(sm rfl),tv⟩ tv rfl
 ·obtain ⟨out51,rfl⟩ : ∃ x,x = z:=⟨_,rfl⟩
  refine sr ((Rn.movTO tv rfl (Rn.movTO tv rfl (nt ((Tr.ret ?_))))))
  replace h:=si h; subst h
  exact ⟨.inr rfl,(o_ out51),rfl,fun _ _ _ _ h=>h,tv,fun k hk=>Qc hk⟩
theorem Qml {P:Program} {c:Nat} (hcf:Qj P c = some Qex):Qew P c (Qbf):=by
 intro inA1 inB2 r h
 refine Qbm hcf rfl fun Γ M hP hnt hM=>?_
 subst hP
 refine Tr.init [(0,(b_ inA1)),(1,(b_ inB2))] rfl ?_
 unfold Qbf at h
 unfold Qex
 refine sr ((md rfl (nt ((sr ((md rfl (md rfl ?_))))))))
 refine Qbs inA1 (fun hb3=>?_) (fun hb3=>?_)
 ·replace h:=bT hb3 h
  refine Rn.movD (gw rfl hb3) rfl (Rn.pickT (v:=(b_ inB2)) tv rfl hb3 rfl (md rfl (nt ((Tr.ret ?_)))))
  replace h:=si h; subst h
  exact ⟨.inr rfl,(b_ inB2),rfl,fun _ _ _ _ h=>h,tv,fun k hk=>Qc hk⟩
 ·replace h:=bF hb3 h
  refine Rn.sk (nw rfl hb3) (Rn.pickF (v:=(b_ false)) tv rfl hb3 rfl (md rfl (nt ((Tr.ret ?_)))))
  replace h:=si h; subst h
  exact ⟨.inr rfl,(b_ false),rfl,fun _ _ _ _ h=>h,tv,fun k hk=>Qc hk⟩
theorem Qro {P:Program} {c:Nat} {Qu:(List Int)→(List Int)→(Bool→Bool→Option Bool)→Option ((List Int))} {Qbf:Bool→Bool→Option Bool}
    (H_alphabet_merge:Qeo P 66 Qu)
    (H_alphabet_Intersect_1:Qew P 93 Qbf) (hcf:Qj P c = some Qf0):Qfz P c (Qbv Qu Qbf):=by
 intro a1 b2 r h
 refine Qbm hcf rfl fun Γ M hP hnt hM=>?_
 subst hP
 refine Tr.init [(0,(l_ a1)),(1,(l_ b2))] rfl ?_
 unfold Qbv at h
 unfold Qf0
 refine sr ((Rn.movTC (v:=.nils 1) tv (nt ((sr ((md rfl (md rfl ?_))))))))
 obtain ⟨x8,h7,h⟩:=bnd h
 refine Rn.callM (args:=[(l_ a1),(l_ b2),.clo 93 []]) tv rfl (fun M2 nb2 hn hx=>H_alphabet_merge _ _ _ 93 [] _ h7 M2 nb2 rfl tv (fun a3 a4 r5 h6 M3 nb3 hn3 hx3=>H_alphabet_Intersect_1 a3 a4 r5 h6 M3 nb3 )) rfl pc9 ?_
 refine Rn.movTO tv rfl (nt ((Tr.ret ?_)))
 replace h:=si h; subst h
 exact ⟨.inr rfl,(o_ x8),rfl,fun _ _ _ _ h=>h,tv,fun k hk=>Qc hk⟩
theorem Qwc {P:Program} {c:Nat} {Qb6:(List Int)→Int→Option Int} {Qbv:(List Int)→(List Int)→Option ((List Int))}
    (H_alphabet_CheckSet:Qg0 P 71 Qb6)
    (H_alphabet_Intersect:Qfz P 72 Qbv) (hcf:Qj P c = some Qht) (fuel:Nat):Qhs P c (Qcg Qb6 Qbv fuel):=by
 intro a1 b2 r h
 refine Qbm hcf rfl fun Γ M hP hnt hM=>?_
 subst hP
 refine Tr.init [(0,(l_ a1)),(1,(l_ b2))] rfl ?_
 unfold Qcg at h
 unfold Qht
 refine sr ((md rfl (nt ((Tr.seq (sr ((md rfl (md rfl (Rn.build (v:=.agg [(l_ a1),(l_ b2)]) tv rfl (md rfl (nt ((Tr.block ?_))))))))))))))
 refine Tr.loop (mk:=fun (x3:Int)=>⟨look [(0,(l_ a1)),(1,(l_ b2)),(10,.agg [(l_ a1),(l_ b2)]),(11,(i_ x3))],Qk Γ.n0 (bxs []) M,Γ.n0 + 25⟩) h (by exact Qm ⟨(sm rfl),(sm rfl),(sm rfl),(sm rfl),tv⟩ tv rfl) (fun k4 z h=>?_)
 ·obtain ⟨x3,rfl⟩ : ∃ x,x = z:=⟨_,rfl⟩
  replace h:_ = some _:=h
  refine sr ((Rn.bin tv rfl rfl rfl (nt ((Tr.seq ?_)))))
  refine Tr.cond rfl (fun hb5=>?_) (fun hb5=>?_)
  ·replace h:=ifT hb5 h
   refine Tr.skip (toN (Tr.seq (Tr.block (Tr.seq (Tr.rgn ?_)))))
   obtain ⟨x6,h7,h⟩:=bnd h
   refine Rn.idxvalV (e:=fun (z:List Int)=>.lst 1 (List.map (eI .i64) z)) (xs:=[a1,b2]) tv rfl rfl rfl h7 (Rn.movTD tv rfl (nt ((sr ((md rfl ?_))))))
   obtain ⟨x9,h8,h⟩:=bnd h
   refine Rn.call (args:=[(l_ x6),(i_ 32)]) tv rfl (H_alphabet_CheckSet _ _ _ h8) pc9 (md rfl (nt ((sr ((md rfl (Rn.bin tv rfl rfl rfl (Rn.nil (toN ?_)))))))))
   refine Tr.cond rfl (fun hb10=>?_) (fun hb10=>?_)
   ·replace h:=bT hb10 h
    refine sr ((md rfl (md rfl (nt ((Tr.ret ?_))))))
    replace h:=si h; subst h
    exact ⟨.inr rfl,(i_ x9),rfl,fun _ _ _ _ h=>h,tv,fun k hk=>Qc hk⟩
   ·replace h:=bF hb10 h
    refine Tr.skip (toN (Tr.rgn (Rn.bin tv rfl rfl rfl (md rfl (Rn.nil ?_)))))
    exact ⟨_,h,(by exact Qm ⟨(sm rfl),(sm rfl),(sm rfl),(sm rfl),tv⟩ tv rfl)⟩
  ·replace h:=ifF hb5 h
   refine Tr.exit (toN (Tr.seq (sr ((md rfl (md rfl ?_))))))
   obtain ⟨x12,h11,h⟩:=bnd h
   refine Rn.call (args:=[(l_ a1),(l_ b2)]) tv rfl (H_alphabet_Intersect _ _ _ h11) pc9 (Rn.lenD tv rfl (Rn.bin tv rfl rfl rfl (Rn.nil (toN ?_))))
   refine Tr.cond rfl (fun hb13=>?_) (fun hb13=>?_)
   ·replace h:=ifT hb13 h
    refine sr ((md rfl (nt ((Tr.ret ?_)))))
    replace h:=si h; subst h
    exact ⟨.inr rfl,(i_ 13),rfl,fun _ _ _ _ h=>h,tv,fun k hk=>Qc hk⟩
   ·replace h:=ifF hb13 h
    refine Tr.skip (toN (sr ((md rfl (nt ((Tr.ret ?_)))))))
    replace h:=si h; subst h
    exact ⟨.inr rfl,(i_ 0),rfl,fun _ _ _ _ h=>h,tv,fun k hk=>Qc hk⟩
theorem Qwd {P:Program} {c:Nat} (hcf:Qj P c = some Qhv):Qhu P c (Qch):=by
 intro inA1 inB2 r h
 refine Qbm hcf rfl fun Γ M hP hnt hM=>?_
 subst hP
 refine Tr.init [(0,(b_ inA1)),(1,(b_ inB2))] rfl ?_
 unfold Qch at h
 unfold Qhv
 refine sr ((md rfl (nt ((sr ((md rfl (md rfl ?_))))))))
 refine Qbs inA1 (fun hb3=>?_) (fun hb3=>?_)
 ·replace h:=bT hb3 h
  refine Rn.sk (nw rfl hb3) (Rn.pickT (v:=(b_ true)) tv rfl hb3 rfl (md rfl (nt ((Tr.ret ?_)))))
  replace h:=si h; subst h
  exact ⟨.inr rfl,(b_ true),rfl,fun _ _ _ _ h=>h,tv,fun k hk=>Qc hk⟩
 ·replace h:=bF hb3 h
  refine Rn.movD (gw rfl hb3) rfl (Rn.pickF (v:=(b_ inB2)) tv rfl hb3 rfl (md rfl (nt ((Tr.ret ?_)))))
  replace h:=si h; subst h
  exact ⟨.inr rfl,(b_ inB2),rfl,fun _ _ _ _ h=>h,tv,fun k hk=>Qc hk⟩
theorem Q05 {P:Program} {c:Nat} {Qu:(List Int)→(List Int)→(Bool→Bool→Option Bool)→Option ((List Int))} {Qch:Bool→Bool→Option Bool}
    (H_alphabet_merge:Qeo P 66 Qu)
    (H_alphabet_Union_1:Qhu P 73 Qch) (hcf:Qj P c = some Qjr):Qjq P c (Qc1 Qu Qch):=by
 intro a1 b2 r h
 refine Qbm hcf rfl fun Γ M hP hnt hM=>?_
 subst hP
 refine Tr.init [(0,(l_ a1)),(1,(l_ b2))] rfl ?_
 unfold Qc1 at h
 unfold Qjr
 refine sr ((Rn.movTC (v:=.nils 1) tv (nt ((sr ((md rfl (md rfl ?_))))))))
 obtain ⟨x8,h7,h⟩:=bnd h
 refine Rn.callM (args:=[(l_ a1),(l_ b2),.clo 73 []]) tv rfl (fun M2 nb2 hn hx=>H_alphabet_merge _ _ _ 73 [] _ h7 M2 nb2 rfl tv (fun a3 a4 r5 h6 M3 nb3 hn3 hx3=>H_alphabet_Union_1 a3 a4 r5 h6 M3 nb3 )) rfl pc9 ?_
 refine Rn.movTO tv rfl (nt ((Tr.ret ?_)))
 replace h:=si h; subst h
 exact ⟨.inr rfl,(o_ x8),rfl,fun _ _ _ _ h=>h,tv,fun k hk=>Qc hk⟩
theorem Q21 {P:Program} {c:Nat} (hcf:Qj P c = some Qkq):Qkp P c (Qcy):=by
 intro x1 r h
 refine Qbm hcf rfl fun Γ M hP hnt hM=>?_
 subst hP
 refine Tr.init [(0,(i_ x1))] rfl ?_
 unfold Qcy at h
 unfold Qkq
 refine sr ((md rfl (nt ((sr ((md rfl (md rfl (Rn.bin tv rfl rfl rfl (md rfl (nt ((Tr.ret ?_)))))))))))))
 replace h:=si h; subst h
 exact ⟨.inr rfl,(b_ (x1 != x1)),rfl,fun _ _ _ _ h=>h,tv,fun k hk=>Qc hk⟩
theorem Q4h {P:Program} {c:Nat} {Qcy:Int→Option Bool}
    (H_cmp_isNaN_int:Qkp P 114 Qcy) (hcf:Qj P c = some Ql7):Ql6 P c (Qdg Qcy):=by
 intro x1 y2 r h
 refine Qbm hcf rfl fun Γ M hP hnt hM=>?_
 subst hP
 refine Tr.init [(0,(i_ x1)),(1,(i_ y2))] rfl ?_
 unfold Qdg at h
 unfold Ql7
 refine sr ((md rfl (nt ((sr ((md rfl ?_)))))))
 obtain ⟨x4,h3,h⟩:=bnd h
 refine Rn.call (args:=[(i_ x1)]) tv rfl (H_cmp_isNaN_int _ _ h3) pc9 (md rfl ?_)
 refine Qbs x4 (fun hb5=>?_) (fun hb5=>?_)
 ·replace h:=bT hb5 h
  refine Rn.movD (gw rfl hb5) rfl ?_
  obtain ⟨x7,h6,h⟩:=bnd h
  refine Rn.call (args:=[(i_ y2)]) (gw rfl hb5) rfl (H_cmp_isNaN_int _ _ h6) pc9 (Rn.un (gw rfl hb5) rfl rfl (Rn.pickT (v:=(b_ (!x7))) tv rfl hb5 rfl (md rfl ?_)))
  refine Qbs x7 (fun hb8=>?_) (fun hb8=>?_)
  ·replace h:=bT hb8 h
   refine Rn.movD (gw rfl (nT hb8)) rfl (Rn.movD (gw rfl (nT hb8)) rfl (Rn.bin (gw rfl (nT hb8)) rfl rfl rfl (Rn.pickF (v:=(b_ (decide (x1 < y2)))) tv rfl (nT hb8) rfl (md rfl (nt ((Tr.ret ?_)))))))
   replace h:=si h; subst h
   exact ⟨.inr rfl,(b_ (decide (x1 < y2))),rfl,fun _ _ _ _ h=>h,tv,fun k hk=>Qc hk⟩
  ·replace h:=bF hb8 h
   refine Rn.sk (nw rfl (nF hb8)) (Rn.sk (nw rfl (nF hb8)) (Rn.sk (nw rfl (nF hb8)) (Rn.pickT (v:=(b_ true)) tv rfl (nF hb8) rfl (md rfl (nt ((Tr.ret ?_)))))))
   replace h:=si h; subst h
   exact ⟨.inr rfl,(b_ true),rfl,fun _ _ _ _ h=>h,tv,fun k hk=>Qc hk⟩
 ·replace h:=bF hb5 h
  refine Rn.sk (nw rfl hb5) (Rn.sk (nw rfl hb5) (Rn.sk (nw rfl hb5) (Rn.pickF (v:=(b_ false)) tv rfl hb5 rfl (md rfl (Rn.movD (gw (b:=false) rfl rfl) rfl (Rn.movD (gw (b:=false) rfl rfl) rfl (Rn.bin (gw (b:=false) rfl rfl) rfl rfl rfl (Rn.pickF (v:=(b_ (decide (x1 < y2)))) tv rfl rfl rfl (md rfl (nt ((Tr.ret ?_))))))))))))
  replace h:=si h; subst h
  exact ⟨.inr rfl,(b_ (decide (x1 < y2))),rfl,fun _ _ _ _ h=>h,tv,fun k hk=>Qc hk⟩
theorem Qwe {P:Program} {c:Nat} (hcf:Qj P c = some Qhx):Qhw P c (Qb0):=by
 intro x1 r h
 refine Qbm hcf rfl fun Γ M hP hnt hM=>?_
 subst hP
 refine Tr.init [(0,(i_ x1))] rfl ?_
 unfold Qb0 at h
 unfold Qhx
 refine sr ((md rfl (nt ((sr ((md rfl (md rfl (Rn.bin tv rfl rfl rfl (md rfl (nt ((Tr.ret ?_)))))))))))))
 replace h:=si h; subst h
 exact ⟨.inr rfl,(b_ (x1 != x1)),rfl,fun _ _ _ _ h=>h,tv,fun k hk=>Qc hk⟩
theorem Qj9 {P:Program} {c:Nat} {Qdg:Int→Int→Option Bool} {Qb0:Int→Option Bool}
    (H_cmp_Less_int:Ql6 P 90 Qdg)
    (H_slices_isNaN_int:Qhw P 91 Qb0) (hcf:Qj P c = some Qd2) (fuel:Nat):Qd1 P c (Q3 Qdg Qb0 fuel):=by
 intro x1 target2 r h
 refine Qbm hcf rfl fun Γ M hP hnt hM=>?_
 subst hP
 refine Tr.init [(0,(l_ x1)),(1,(i_ target2))] rfl ?_
 unfold Q3 at h
 unfold Qd2
 refine sr ((md rfl (md rfl (nt ((sr ((md rfl (Rn.lenD tv rfl (md rfl (nt ((sr ((md rfl (md rfl (md rfl (Rn.nil (toN ?_)))))))))))))))))))
 refine Tr.cutB (fun (i12:Int)=>⟨look [(0,(l_ x1)),(1,(i_ target2)),(6,(i_ (x1.length:Int))),(7,(i_ i12))],Qk Γ.n0 (bxs []) M,Γ.n0 + 54⟩) h (fun z h=>?_) (fun z h=>?_)
 ·refine Tr.block ?_
  refine Tr.loop (mk:=fun ((i3,j4):Int×Int)=>⟨look [(0,(l_ x1)),(1,(i_ target2)),(6,(i_ (x1.length:Int))),(7,(i_ i3)),(8,(i_ j4))],Qk Γ.n0 (bxs []) M,Γ.n0 + 54⟩) h (by exact Qm ⟨(sm rfl),(sm rfl),(sm rfl),(sm rfl),(sm rfl),tv⟩ tv rfl) (fun k5 z h=>?_)
  ·obtain ⟨i3,j4⟩:=z
   replace h:_ = some _:=h
   refine Tr.seq (sr ((md rfl (md rfl (Rn.bin tv rfl rfl rfl (Rn.nil (toN ?_)))))))
   refine Tr.cond rfl (fun hb6=>?_) (fun hb6=>?_)
   ·replace h:=ifT hb6 h
    refine Tr.skip (toN (Tr.block (sr ((md rfl (md rfl (Rn.bin tv rfl rfl rfl (Rn.conv tv rfl (Rn.bin tv rfl rfl rfl (Rn.conv tv rfl (md rfl (nt ((sr ((md rfl (md rfl ?_)))))))))))))))))
    obtain ⟨x7,h8,h⟩:=bnd h
    refine Rn.idxD (e:=(eI .i64)) tv rfl rfl h8 (Rn.loadC (x:=.int .i64 x7) tv rfl (md rfl ?_))
    obtain ⟨x10,h9,h⟩:=bnd h
    refine Rn.call (args:=[(i_ x7),(i_ target2)]) tv rfl (H_cmp_Less_int _ _ _ h9) pc9 (Rn.nil (toN ?_))
    refine Tr.cond rfl (fun hb11=>?_) (fun hb11=>?_)
    ·replace h:=bT hb11 h
     refine Tr.rgn (md rfl (Rn.bin tv rfl rfl rfl (md rfl (Rn.nil ?_))))
     exact ⟨_,h,(by exact Qm ⟨(sm rfl),(sm rfl),(sm rfl),(sm rfl),(sm rfl),tv⟩ tv rfl)⟩
    ·replace h:=bF hb11 h
     refine Tr.rgn (md rfl (md rfl (Rn.nil ?_)))
     exact ⟨_,h,(by exact Qm ⟨(sm rfl),(sm rfl),(sm rfl),(sm rfl),(sm rfl),tv⟩ tv rfl)⟩
   ·replace h:=ifF hb6 h
    refine Tr.exit ?_
    replace h:=si h; subst h
    exact Qh [] ⟨(sm rfl),(sm rfl),(sm rfl),(sm rfl),tv⟩ tv rfl
 ·obtain ⟨i12,rfl⟩ : ∃ x,x = z:=⟨_,rfl⟩
  refine sr ((md rfl (md rfl (md rfl (Rn.bin tv rfl rfl rfl (md rfl ?_))))))
  refine Qbs (decide (i12 < (x1.length:Int))) (fun hb13=>?_) (fun hb13=>?_)
  ·replace h:=ifT hb13 h
   refine Rn.movD (gw rfl hb13) rfl (Rn.movD (gw rfl hb13) rfl ?_)
   obtain ⟨x14,h15,h⟩:=bnd h
   refine Rn.idxD (e:=(eI .i64)) (gw rfl hb13) rfl rfl h15 (Rn.loadC (x:=.int .i64 x14) (gw rfl hb13) rfl (Rn.movD (gw rfl hb13) rfl (Rn.bin (gw rfl hb13) rfl rfl rfl (Rn.movD (gw rfl hb13) rfl ?_))))
   refine Qbs (x14 == target2) (fun hb16=>?_) (fun hb16=>?_)
   ·replace h:=bT hb16 h
    refine Rn.sk (nw rfl hb16) (Rn.sk (nw rfl hb16) (Rn.sk (nw rfl hb16) (Rn.sk (nw rfl hb16) (Rn.sk (nw rfl hb16) (Rn.sk (nw rfl hb16) (Rn.sk (nu rfl) (Rn.sk (nu rfl) (Rn.sk (nw rfl hb16) (Rn.pickT (v:=(b_ true)) (gw rfl hb13) rfl hb16 rfl (Rn.pickT (v:=(b_ true)) tv rfl hb13 rfl (md rfl (md rfl (nt ((Tr.ret ?_)))))))))))))))
    replace h:=si h; subst h
    exact ⟨.inr rfl,.tup [(i_ i12),(b_ true)],res2 rfl rfl,(WkV.tup (.cons (.same rfl) (.cons (.same rfl) .nil))).rd,⟨tv,tv,tv⟩,fun k hk=>Qc hk⟩
   ·replace h:=bF hb16 h
    refine Rn.movD (gw rfl hb16) rfl (Rn.movD (gw rfl hb16) rfl ?_)
    obtain ⟨x17,h18,h⟩:=bnd h
    refine Rn.idxD (e:=(eI .i64)) (gw rfl hb16) rfl rfl h18 (Rn.loadC (x:=.int .i64 x17) (gw rfl hb16) rfl ?_)
    obtain ⟨x20,h19,h⟩:=bnd h
    refine Rn.call (args:=[(i_ x17)]) (gw rfl hb16) rfl (H_slices_isNaN_int _ _ h19) pc9 (Rn.movD (gw rfl hb16) rfl ?_)
    refine Qbs x20 (fun hb21=>?_) (fun hb21=>?_)
    ·replace h:=bT hb21 h
     refine Rn.movD (gw rfl hb21) rfl ?_
     obtain ⟨x23,h22,h⟩:=bnd h
     refine Rn.call (args:=[(i_ target2)]) (gw rfl hb21) rfl (H_slices_isNaN_int _ _ h22) pc9 (Rn.pickT (v:=(b_ x23)) (gw rfl hb16) rfl hb21 rfl (Rn.pickF (v:=(b_ x23)) (gw rfl hb13) rfl hb16 rfl (Rn.pickT (v:=(b_ x23)) tv rfl hb13 rfl (md rfl (md rfl (nt ((Tr.ret ?_))))))))
     replace h:=si h; subst h
     exact ⟨.inr rfl,.tup [(i_ i12),(b_ x23)],res2 rfl rfl,(WkV.tup (.cons (.same rfl) (.cons (.same rfl) .nil))).rd,⟨tv,tv,tv⟩,fun k hk=>Qc hk⟩
    ·replace h:=bF hb21 h
     refine Rn.sk (nw rfl hb21) (Rn.sk (nw rfl hb21) (Rn.pickF (v:=(b_ false)) (gw rfl hb16) rfl hb21 rfl (Rn.pickF (v:=(b_ false)) (gw rfl hb13) rfl hb16 rfl (Rn.pickT (v:=(b_ false)) tv rfl hb13 rfl (md rfl (md rfl (nt ((Tr.ret ?_)))))))))
     replace h:=si h; subst h
     exact ⟨.inr rfl,.tup [(i_ i12),(b_ false)],res2 rfl rfl,(WkV.tup (.cons (.same rfl) (.cons (.same rfl) .nil))).rd,⟨tv,tv,tv⟩,fun k hk=>Qc hk⟩
  ·replace h:=ifF hb13 h
   refine Rn.sk (nw rfl hb13) (Rn.sk (nw rfl hb13) (Rn.sk (nw rfl hb13) (Rn.sk (nw rfl hb13) (Rn.sk (nw rfl hb13) (Rn.sk (nw rfl hb13) (Rn.sk (nw rfl hb13) (Rn.sk (nu rfl) (Rn.sk (nu rfl) (Rn.sk (nu rfl) (Rn.sk (nu rfl) (Rn.sk (nu rfl) (Rn.sk (nu rfl) (Rn.sk (nu rfl) (Rn.sk (nu rfl) (Rn.sk (nu rfl) (Rn.sk (nw rfl hb13) (Rn.pickF (v:=(b_ false)) tv rfl hb13 rfl (md rfl (md rfl (nt ((Tr.ret ?_))))))))))))))))))))))
   replace h:=si h; subst h
   exact ⟨.inr rfl,.tup [(i_ i12),(b_ false)],res2 rfl rfl,(WkV.tup (.cons (.same rfl) (.cons (.same rfl) .nil))).rd,⟨tv,tv,tv⟩,fun k hk=>Qc hk⟩
theorem Qtu {P:Program} {c:Nat} {Q3:(List Int)→Int→Option (Int×Bool)}
    (H_slices_BinarySearch_int:Qd1 P 68 Q3) (hcf:Qj P c = some Qg2):Qei P c (Qz Q3):=by
 intro xset1 x2 r h
 refine Qbm hcf rfl fun Γ M hP hnt hM=>?_
 subst hP
 refine Tr.init [(0,(l_ xset1)),(1,(i_ x2))] rfl ?_
 unfold Qz at h
 unfold Qg2
 refine sr ((md rfl (nt ((sr ((md rfl (md rfl ?_))))))))
 obtain ⟨⟨r4,r5⟩,h3,h⟩:=bnd h
 refine Rn.call (args:=[(l_ xset1),(i_ x2)]) tv rfl (H_slices_BinarySearch_int _ _ _ h3) pc9 (Rn.mov (v:=.tup [(i_ r4),(b_ r5)]) tv rfl (Rn.ext (v:=(i_ r4)) (vs:=[(i_ r4),(b_ r5)]) tv rfl rfl rfl (Rn.ext (v:=(b_ r5)) (vs:=[(i_ r4),(b_ r5)]) tv rfl rfl rfl (md rfl (md rfl (nt ((sr ((md rfl (md rfl (nt ((Tr.ret ?_))))))))))))))
 replace h:=si h; subst h
 exact ⟨.inr rfl,(b_ r5),rfl,fun _ _ _ _ h=>h,tv,fun k hk=>Qc hk⟩
theorem Qmm {P:Program} {c:Nat} {Qz:(List Int)→Int→Option Bool}
    (H_alphabet_Contains:Qei P 31 Qz) (hcf:Qj P c = some Qez):Qey P c (Qbg Qz):=by
 intro state1 event2 x3 x6 k4 k7 r h
 intro M nb hk5 hk8
 refine Q40 hcf rfl M nb fun Γ hP hnt hn0 hM=>?_
 subst hP hn0
 refine Tr.init [(0,(i_ state1)),(1,(i_ event2)),(2,.ptr k4 0),(3,.ptr k7 0)] rfl ?_
 unfold Qbg at h
 unfold Qez
 refine sr ((md rfl (md rfl (nt ((Tr.seq (sr ((Rn.load (v:=(l_ x3)) tv rfl (Q0e hM hk5) rfl rfl (md rfl ?_))))))))))
 obtain ⟨x10,h9,h⟩:=bnd h
 refine Rn.call (args:=[(l_ x3),(i_ event2)]) tv rfl (H_alphabet_Contains _ _ _ h9) pc9 (Rn.nil (toN ?_))
 refine Tr.cond rfl (fun hb11=>?_) (fun hb11=>?_)
 ·replace h:=bT hb11 h
  refine Tr.seq ?_
  refine Tr.rgnD (by decide) ?_
  refine md rfl (Rn.bin tv rfl rfl rfl (md rfl (Rn.load (v:=(i_ x6)) tv rfl (Q0e hM hk8) rfl rfl (Rn.bin tv rfl rfl rfl (md rfl (md rfl ?_))))))
  refine Rn.nil ⟨rfl,?_⟩
  refine toN (Tr.ret ?_)
  replace h:=si h; subst h
  exact ⟨.inr rfl,.tup [(i_ (IntKind.wrap .i64 (state1 + 1))),(b_ (decide (state1 < x6)))],res2 rfl rfl,(WkV.tup (.cons (.same rfl) (.cons (.same rfl) .nil))).rd,⟨tv,tv,tv⟩,fun k hk=>Qc hk⟩
 ·replace h:=bF hb11 h
  refine Tr.skip (toN (sr ((md rfl (Rn.bin tv rfl rfl rfl (md rfl (Rn.bin tv rfl rfl rfl (md rfl (md rfl (nt ((Tr.ret ?_))))))))))))
  replace h:=si h; subst h
  exact ⟨.inr rfl,.tup [(i_ (IntKind.wrap .i64 (state1 - 1))),(b_ (decide (state1 > 0)))],res2 rfl rfl,(WkV.tup (.cons (.same rfl) (.cons (.same rfl) .nil))).rd,⟨tv,tv,tv⟩,fun k hk=>Qc hk⟩
theorem Qrp {P:Program} {c:Nat} {Qn:(List Int)→(Int→Option Bool)→(Int→Int→Option (Int×Bool))→Option Qb} {Qy:Int→Option Bool} {Qcg:(List Int)→(List Int)→Option Int} {Qc1:(List Int)→(List Int)→Option ((List Int))} {Qbg:Int→Int→(List Int)→Int→Option (Int×Bool)}
    (H_requirement_explore:Qc7 P 34 Qn)
    (H_requirement_first:Qef P 36 Qy)
    (H_requirement_sets:Qhs P 38 Qcg)
    (H_alphabet_Union:Qjq P 39 Qc1)
    (H_requirement_Buffer_1:Qey P 40 Qbg) (hcf:Qj P c = some Qf2):Qf1 P c (Qbw Qn Qy Qcg Qc1 Qbg):=by
 intro put1 take2 capacity3 r h
 refine Qbm hcf rfl fun Γ M hP hnt hM=>?_
 subst hP
 refine Tr.init [(0,(l_ put1)),(1,(l_ take2)),(2,(i_ capacity3))] rfl ?_
 unfold Qbw at h
 unfold Qf2
 refine sr ((Rn.box (v:=(l_ put1)) (cs:=[(l_ put1)]) tv rfl rfl rfl rfl rfl (Rn.box (v:=(i_ capacity3)) (cs:=[(i_ capacity3)]) tv rfl rfl rfl rfl rfl (Rn.alloc tv rfl (md rfl (nt ((Tr.seq (sr ((Rn.load (v:=(l_ put1)) tv rfl (Ql rfl) rfl rfl (md rfl ?_))))))))))))
 obtain ⟨x5,h4,h⟩:=bnd h
 refine Rn.call (args:=[(l_ put1),(l_ take2)]) tv rfl (H_requirement_sets _ _ _ h4) pc9 (md rfl (nt ((sr ((md rfl (Rn.bin tv rfl rfl rfl (Rn.nil (toN ?_)))))))))
 refine Tr.cond rfl (fun hb6=>?_) (fun hb6=>?_)
 ·replace h:=bT hb6 h
  refine sr ((Rn.build (v:=.agg [.nils 1,(i_ 0),.nils 1,.nils 3]) tv rfl (md rfl (Rn.storeT (v:=.agg [.nils 1,(i_ 0),.nils 1,.nils 3]) (ds:=[.nils 1,(i_ 0),.nils 1,.nils 3]) (cs':=[.nils 1,(i_ 0),.nils 1,.nils 3]) tv rfl rfl rfl rfl rfl rfl rfl (md rfl (nt ((Tr.ret ?_))))))))
  replace h:=si h; subst h
  exact ⟨.inr rfl,.tup [.agg [.nils 1,(i_ 0),.nils 1,.nils 3],(i_ x5)],res2 (Qfx rfl rfl rfl rfl) rfl,(WkV.tup (.cons (WkV.agg (.cons (WkV.nilsD _) (.cons (.same rfl) (.cons (WkV.nilsD _) (.cons (WkV.nilsD _) .nil))))) (.cons (.same rfl) .nil))).rd,⟨⟨tv,tv,tv,tv,tv⟩,tv,tv⟩,fun k hk=>Qc hk⟩
 ·replace h:=bF hb6 h
  refine Tr.skip (toN (Tr.seq ?_))
  refine Tr.cutB (fun (x8:Bool)=>⟨look [(1,(l_ take2)),(3,.ptr (Γ.n0 + 3) 0),(5,.ptr (Γ.n0 + 5) 0),(6,.ptr (Γ.n0 + 6) 0),(21,(b_ x8))],Qk Γ.n0 (bxs [(3,.cells ([(l_ put1)])),(5,.cells ([(i_ capacity3)])),(6,.cells ([.nils 1,(i_ 0),.nils 1,.nils 3]))]) M,Γ.n0 + 28⟩) h (fun z h=>?_) (fun z h=>?_)
  ·refine Tr.rgn (Rn.load (v:=(i_ capacity3)) tv rfl (Ql rfl) rfl rfl (Rn.bin tv rfl rfl rfl (md rfl ?_)))
   refine Qbs (decide (capacity3 < 1)) (fun hb7=>?_) (fun hb7=>?_)
   ·replace h:=ifT hb7 h
    refine Rn.sk (nw rfl hb7) (Rn.sk (nw rfl hb7) (Rn.pickT (v:=(b_ true)) tv rfl hb7 rfl (Rn.nil ?_)))
    replace h:=si h; subst h
    exact Qh [] ⟨(sm rfl),(kPtr rfl),(kPtr rfl),(kPtr rfl),(sm rfl),tv⟩ ⟨⟨_,rfl,rfl,(.same rfl)⟩,⟨_,rfl,rfl,(.same rfl)⟩,⟨_,rfl,rfl,(.same rfl)⟩,tv⟩ rfl
   ·replace h:=ifF hb7 h
    refine Rn.load (v:=(i_ capacity3)) (gw rfl hb7) rfl (Ql rfl) rfl rfl (Rn.bin (gw rfl hb7) rfl rfl rfl (Rn.pickF (v:=(b_ (decide (capacity3 > 1024)))) tv rfl hb7 rfl (Rn.nil ?_)))
    replace h:=si h; subst h
    exact Qh [] ⟨(sm rfl),(kPtr rfl),(kPtr rfl),(kPtr rfl),(sm rfl),tv⟩ ⟨⟨_,rfl,rfl,(.same rfl)⟩,⟨_,rfl,rfl,(.same rfl)⟩,⟨_,rfl,rfl,(.same rfl)⟩,tv⟩ rfl
  ·obtain ⟨x8,rfl⟩ : ∃ x,x = z:=⟨_,rfl⟩
   refine Tr.cond rfl (fun hb9=>?_) (fun hb9=>?_)
   ·replace h:=bT hb9 h
    refine sr ((Rn.build (v:=.agg [.nils 1,(i_ 0),.nils 1,.nils 3]) tv rfl (Rn.storeT (v:=.agg [.nils 1,(i_ 0),.nils 1,.nils 3]) (ds:=[.nils 1,(i_ 0),.nils 1,.nils 3]) (cs':=[.nils 1,(i_ 0),.nils 1,.nils 3]) tv rfl rfl rfl rfl rfl rfl rfl (md rfl (nt ((Tr.ret ?_)))))))
    replace h:=si h; subst h
    exact ⟨.inr rfl,.tup [.agg [.nils 1,(i_ 0),.nils 1,.nils 3],(i_ 2)],res2 (Qfx rfl rfl rfl rfl) rfl,(WkV.tup (.cons (WkV.agg (.cons (WkV.nilsD _) (.cons (.same rfl) (.cons (WkV.nilsD _) (.cons (WkV.nilsD _) .nil))))) (.cons (.same rfl) .nil))).rd,⟨⟨tv,tv,tv,tv,tv⟩,tv,tv⟩,fun k hk=>Qc hk⟩
   ·replace h:=bF hb9 h
    refine Tr.skip (toN (sr ((Rn.load (v:=(l_ put1)) tv rfl (Ql rfl) rfl rfl (md rfl ?_)))))
    obtain ⟨x11,h10,h⟩:=bnd h
    refine Rn.call (args:=[(l_ put1),(l_ take2)]) tv rfl (H_alphabet_Union _ _ _ h10) pc9 (Rn.k (v:=.clo 40 [.ptr (Γ.n0 + 3) 0,.ptr (Γ.n0 + 5) 0]) tv rfl rfl rfl ?_)
    obtain ⟨x20,h19,h⟩:=bnd h
    refine Rn.callM (args:=[(l_ x11),.clo 36 [],.clo 40 [.ptr (Γ.n0 + 3) 0,.ptr (Γ.n0 + 5) 0]]) tv rfl (fun M2 nb2 hn hx=>H_requirement_explore _ _ _ 36 [] 40 [.ptr (Γ.n0 + 3) 0,.ptr (Γ.n0 + 5) 0] _ h19 M2 nb2 rfl tv (fun a12 r13 h14 M3 nb3 hn3 hx3=>H_requirement_first a12 r13 h14 M3 nb3 ) rfl ⟨Q3z (hx _ _ (Ql rfl)),Q3z (hx _ _ (Ql rfl)),tv⟩ (fun a15 a16 r17 h18 M3 nb3 hn3 hx3=>H_requirement_Buffer_1 a15 a16 put1 capacity3 (Γ.n0 + 3) (Γ.n0 + 5) r17 h18 M3 nb3 ((hx.trans hx3) _ _ (Ql rfl)) ((hx.trans hx3) _ _ (Ql rfl)))) rfl pc9 ?_
    refine Rn.storeT (v:=(Qa x20)) (ds:=(Qd x20)) (cs':=(Qd x20)) tv rfl rfl rfl rfl rfl rfl rfl (md rfl (nt ((Tr.ret ?_))))
    replace h:=si h; subst h
    exact ⟨.inr rfl,.tup [(Qa x20),(i_ 0)],res2 (Qfx rfl rfl rfl rfl) rfl,(WkV.tup (.cons (.same rfl) (.cons (.same rfl) .nil))).rd,⟨⟨tv,tv,tv,tv,tv⟩,tv,tv⟩,fun k hk=>Qc hk⟩
theorem Qwf {P:Program} {c:Nat} (hcf:Qj P c = some Qhz):Qhy P c (Qci):=by
 intro x1 r h
 refine Qbm hcf rfl fun Γ M hP hnt hM=>?_
 subst hP
 refine Tr.init [(0,.d (.int .u64 x1))] rfl ?_
 unfold Qci at h
 unfold Qhz
 refine sr ((md rfl (nt ((sr ((md rfl (Rn.bin tv rfl rfl rfl (Rn.bin tv rfl rfl rfl (md rfl (Rn.bin tv rfl rfl rfl (Rn.bin tv rfl rfl rfl (md rfl (nt ((sr ((md rfl (Rn.bin tv rfl rfl rfl (Rn.bin tv rfl rfl rfl (md rfl (Rn.bin tv rfl rfl rfl (Rn.bin tv rfl rfl rfl (md rfl (nt ((sr ((md rfl (Rn.bin tv rfl rfl rfl (md rfl (Rn.bin tv rfl rfl rfl (Rn.bin tv rfl rfl rfl (md rfl (nt ((sr ((md rfl ?_)))))))))))))))))))))))))))))))))))))))
 refine md rfl (Rn.bin tv rfl rfl rfl (Rn.bin tv rfl rfl rfl (md rfl (nt ((sr ((md rfl (md rfl (Rn.bin tv rfl rfl rfl (Rn.bin tv rfl rfl rfl (md rfl (nt ((sr ((md rfl (md rfl (Rn.bin tv rfl rfl rfl (Rn.bin tv rfl rfl rfl (md rfl (nt ((sr ((md rfl (Rn.conv tv rfl (Rn.bin tv rfl rfl rfl (md rfl (nt ((Tr.ret ?_))))))))))))))))))))))))))))))))
 replace h:=si h; subst h
 exact ⟨.inr rfl,(i_ (andI .i64 (IntKind.wrap .i64 (IntKind.wrap .u64 ((IntKind.wrap .u64 ((IntKind.wrap .u64 ((andI .u64 (IntKind.wrap .u64 ((Int.fdiv (IntKind.wrap .u64 ((andI .u64 (Int.fdiv (IntKind.wrap .u64 ((andI .u64 (Int.fdiv x1 (2 ^ (min (Int.toNat 1) (IntKind.bits .u64)))) 6148914691236517205) + (andI .u64 x1 6148914691236517205))) (2 ^ (min (Int.toNat 2) (IntKind.bits .u64)))) 3689348814741910323) + (andI .u64 (IntKind.wrap .u64 ((andI .u64 (Int.fdiv x1 (2 ^ (min (Int.toNat 1) (IntKind.bits .u64)))) 6148914691236517205) + (andI .u64 x1 6148914691236517205))) 3689348814741910323))) (2 ^ (min (Int.toNat 4) (IntKind.bits .u64)))) + (IntKind.wrap .u64 ((andI .u64 (Int.fdiv (IntKind.wrap .u64 ((andI .u64 (Int.fdiv x1 (2 ^ (min (Int.toNat 1) (IntKind.bits .u64)))) 6148914691236517205) + (andI .u64 x1 6148914691236517205))) (2 ^ (min (Int.toNat 2) (IntKind.bits .u64)))) 3689348814741910323) + (andI .u64 (IntKind.wrap .u64 ((andI .u64 (Int.fdiv x1 (2 ^ (min (Int.toNat 1) (IntKind.bits .u64)))) 6148914691236517205) + (andI .u64 x1 6148914691236517205))) 3689348814741910323))))) 1085102592571150095) + (Int.fdiv (andI .u64 (IntKind.wrap .u64 ((Int.fdiv (IntKind.wrap .u64 ((andI .u64 (Int.fdiv (IntKind.wrap .u64 ((andI .u64 (Int.fdiv x1 (2 ^ (min (Int.toNat 1) (IntKind.bits .u64)))) 6148914691236517205) + (andI .u64 x1 6148914691236517205))) (2 ^ (min (Int.toNat 2) (IntKind.bits .u64)))) 3689348814741910323) + (andI .u64 (IntKind.wrap .u64 ((andI .u64 (Int.fdiv x1 (2 ^ (min (Int.toNat 1) (IntKind.bits .u64)))) 6148914691236517205) + (andI .u64 x1 6148914691236517205))) 3689348814741910323))) (2 ^ (min (Int.toNat 4) (IntKind.bits .u64)))) + (IntKind.wrap .u64 ((andI .u64 (Int.fdiv (IntKind.wrap .u64 ((andI .u64 (Int.fdiv x1 (2 ^ (min (Int.toNat 1) (IntKind.bits .u64)))) 6148914691236517205) + (andI .u64 x1 6148914691236517205))) (2 ^ (min (Int.toNat 2) (IntKind.bits .u64)))) 3689348814741910323) + (andI .u64 (IntKind.wrap .u64 ((andI .u64 (Int.fdiv x1 (2 ^ (min (Int.toNat 1) (IntKind.bits .u64)))) 6148914691236517205) + (andI .u64 x1 6148914691236517205))) 3689348814741910323))))) 1085102592571150095) (2 ^ (min (Int.toNat 8) (IntKind.bits .u64)))))) + (Int.fdiv (IntKind.wrap .u64 ((andI .u64 (IntKind.wrap .u64 ((Int.fdiv (IntKind.wrap .u64 ((andI .u64 (Int.fdiv (IntKind.wrap .u64 ((andI .u64 (Int.fdiv x1 (2 ^ (min (Int.toNat 1) (IntKind.bits .u64)))) 6148914691236517205) + (andI .u64 x1 6148914691236517205))) (2 ^ (min (Int.toNat 2) (IntKind.bits .u64)))) 3689348814741910323) + (andI .u64 (IntKind.wrap .u64 ((andI .u64 (Int.fdiv x1 (2 ^ (min (Int.toNat 1) (IntKind.bits .u64)))) 6148914691236517205) + (andI .u64 x1 6148914691236517205))) 3689348814741910323))) (2 ^ (min (Int.toNat 4) (IntKind.bits .u64)))) + (IntKind.wrap .u64 ((andI .u64 (Int.fdiv (IntKind.wrap .u64 ((andI .u64 (Int.fdiv x1 (2 ^ (min (Int.toNat 1) (IntKind.bits .u64)))) 6148914691236517205) + (andI .u64 x1 6148914691236517205))) (2 ^ (min (Int.toNat 2) (IntKind.bits .u64)))) 3689348814741910323) + (andI .u64 (IntKind.wrap .u64 ((andI .u64 (Int.fdiv x1 (2 ^ (min (Int.toNat 1) (IntKind.bits .u64)))) 6148914691236517205) + (andI .u64 x1 6148914691236517205))) 3689348814741910323))))) 1085102592571150095) + (Int.fdiv (andI .u64 (IntKind.wrap .u64 ((Int.fdiv (IntKind.wrap .u64 ((andI .u64 (Int.fdiv (IntKind.wrap .u64 ((andI .u64 (Int.fdiv x1 (2 ^ (min (Int.toNat 1) (IntKind.bits .u64)))) 6148914691236517205) + (andI .u64 x1 6148914691236517205))) (2 ^ (min (Int.toNat 2) (IntKind.bits .u64)))) 3689348814741910323) + (andI .u64 (IntKind.wrap .u64 ((andI .u64 (Int.fdiv x1 (2 ^ (min (Int.toNat 1) (IntKind.bits .u64)))) 6148914691236517205) + (andI .u64 x1 6148914691236517205))) 3689348814741910323))) (2 ^ (min (Int.toNat 4) (IntKind.bits .u64)))) + (IntKind.wrap .u64 ((andI .u64 (Int.fdiv (IntKind.wrap .u64 ((andI .u64 (Int.fdiv x1 (2 ^ (min (Int.toNat 1) (IntKind.bits .u64)))) 6148914691236517205) + (andI .u64 x1 6148914691236517205))) (2 ^ (min (Int.toNat 2) (IntKind.bits .u64)))) 3689348814741910323) + (andI .u64 (IntKind.wrap .u64 ((andI .u64 (Int.fdiv x1 (2 ^ (min (Int.toNat 1) (IntKind.bits .u64)))) 6148914691236517205) + (andI .u64 x1 6148914691236517205))) 3689348814741910323))))) 1085102592571150095) (2 ^ (min (Int.toNat 8) (IntKind.bits .u64)))))) (2 ^ (min (Int.toNat 16) (IntKind.bits .u64)))))) + (Int.fdiv (IntKind.wrap .u64 ((IntKind.wrap .u64 ((andI .u64 (IntKind.wrap .u64 ((Int.fdiv (IntKind.wrap .u64 ((andI .u64 (Int.fdiv (IntKind.wrap .u64 ((andI .u64 (Int.fdiv x1 (2 ^ (min (Int.toNat 1) (IntKind.bits .u64)))) 6148914691236517205) + (andI .u64 x1 6148914691236517205))) (2 ^ (min (Int.toNat 2) (IntKind.bits .u64)))) 3689348814741910323) + (andI .u64 (IntKind.wrap .u64 ((andI .u64 (Int.fdiv x1 (2 ^ (min (Int.toNat 1) (IntKind.bits .u64)))) 6148914691236517205) + (andI .u64 x1 6148914691236517205))) 3689348814741910323))) (2 ^ (min (Int.toNat 4) (IntKind.bits .u64)))) + (IntKind.wrap .u64 ((andI .u64 (Int.fdiv (IntKind.wrap .u64 ((andI .u64 (Int.fdiv x1 (2 ^ (min (Int.toNat 1) (IntKind.bits .u64)))) 6148914691236517205) + (andI .u64 x1 6148914691236517205))) (2 ^ (min (Int.toNat 2) (IntKind.bits .u64)))) 3689348814741910323) + (andI .u64 (IntKind.wrap .u64 ((andI .u64 (Int.fdiv x1 (2 ^ (min (Int.toNat 1) (IntKind.bits .u64)))) 6148914691236517205) + (andI .u64 x1 6148914691236517205))) 3689348814741910323))))) 1085102592571150095) + (Int.fdiv (andI .u64 (IntKind.wrap .u64 ((Int.fdiv (IntKind.wrap .u64 ((andI .u64 (Int.fdiv (IntKind.wrap .u64 ((andI .u64 (Int.fdiv x1 (2 ^ (min (Int.toNat 1) (IntKind.bits .u64)))) 6148914691236517205) + (andI .u64 x1 6148914691236517205))) (2 ^ (min (Int.toNat 2) (IntKind.bits .u64)))) 3689348814741910323) + (andI .u64 (IntKind.wrap .u64 ((andI .u64 (Int.fdiv x1 (2 ^ (min (Int.toNat 1) (IntKind.bits .u64)))) 6148914691236517205) + (andI .u64 x1 6148914691236517205))) 3689348814741910323))) (2 ^ (min (Int.toNat 4) (IntKind.bits .u64)))) + (IntKind.wrap .u64 ((andI .u64 (Int.fdiv (IntKind.wrap .u64 ((andI .u64 (Int.fdiv x1 (2 ^ (min (Int.toNat 1) (IntKind.bits .u64)))) 6148914691236517205) + (andI .u64 x1 6148914691236517205))) (2 ^ (min (Int.toNat 2) (IntKind.bits .u64)))) 3689348814741910323) + (andI .u64 (IntKind.wrap .u64 ((andI .u64 (Int.fdiv x1 (2 ^ (min (Int.toNat 1) (IntKind.bits .u64)))) 6148914691236517205) + (andI .u64 x1 6148914691236517205))) 3689348814741910323))))) 1085102592571150095) (2 ^ (min (Int.toNat 8) (IntKind.bits .u64)))))) + (Int.fdiv (IntKind.wrap .u64 ((andI .u64 (IntKind.wrap .u64 ((Int.fdiv (IntKind.wrap .u64 ((andI .u64 (Int.fdiv (IntKind.wrap .u64 ((andI .u64 (Int.fdiv x1 (2 ^ (min (Int.toNat 1) (IntKind.bits .u64)))) 6148914691236517205) + (andI .u64 x1 6148914691236517205))) (2 ^ (min (Int.toNat 2) (IntKind.bits .u64)))) 3689348814741910323) + (andI .u64 (IntKind.wrap .u64 ((andI .u64 (Int.fdiv x1 (2 ^ (min (Int.toNat 1) (IntKind.bits .u64)))) 6148914691236517205) + (andI .u64 x1 6148914691236517205))) 3689348814741910323))) (2 ^ (min (Int.toNat 4) (IntKind.bits .u64)))) + (IntKind.wrap .u64 ((andI .u64 (Int.fdiv (IntKind.wrap .u64 ((andI .u64 (Int.fdiv x1 (2 ^ (min (Int.toNat 1) (IntKind.bits .u64)))) 6148914691236517205) + (andI .u64 x1 6148914691236517205))) (2 ^ (min (Int.toNat 2) (IntKind.bits .u64)))) 3689348814741910323) + (andI .u64 (IntKind.wrap .u64 ((andI .u64 (Int.fdiv x1 (2 ^ (min (Int.toNat 1) (IntKind.bits .u64)))) 6148914691236517205) + (andI .u64 x1 6148914691236517205))) 3689348814741910323))))) 1085102592571150095) + (Int.fdiv (andI .u64 (IntKind.wrap .u64 ((Int.fdiv (IntKind.wrap .u64 ((andI .u64 (Int.fdiv (IntKind.wrap .u64 ((andI .u64 (Int.fdiv x1 (2 ^ (min (Int.toNat 1) (IntKind.bits .u64)))) 6148914691236517205) + (andI .u64 x1 6148914691236517205))) (2 ^ (min (Int.toNat 2) (IntKind.bits .u64)))) 3689348814741910323) + (andI .u64 (IntKind.wrap .u64 ((andI .u64 (Int.fdiv x1 (2 ^ (min (Int.toNat 1) (IntKind.bits .u64)))) 6148914691236517205) + (andI .u64 x1 6148914691236517205))) 3689348814741910323))) (2 ^ (min (Int.toNat 4) (IntKind.bits .u64)))) + (IntKind.wrap .u64 ((andI .u64 (Int.fdiv (IntKind.wrap .u64 ((andI .u64 (Int.fdiv x1 (2 ^ (min (Int.toNat 1) (IntKind.bits .u64)))) 6148914691236517205) + (andI .u64 x1 6148914691236517205))) (2 ^ (min (Int.toNat 2) (IntKind.bits .u64)))) 3689348814741910323) + (andI .u64 (IntKind.wrap .u64 ((andI .u64 (Int.fdiv x1 (2 ^ (min (Int.toNat 1) (IntKind.bits .u64)))) 6148914691236517205) + (andI .u64 x1 6148914691236517205))) 3689348814741910323))))) 1085102592571150095) (2 ^ (min (Int.toNat 8) (IntKind.bits .u64)))))) (2 ^ (min (Int.toNat 16) (IntKind.bits .u64)))))) (2 ^ (min (Int.toNat 32) (IntKind.bits .u64))))))) 127)),rfl,fun _ _ _ _ h=>h,tv,fun k hk=>Qc hk⟩
theorem Q06 {P:Program} {c:Nat} {Qci:Int→Option Int}
    (H_bits_OnesCount64:Qhy P 75 Qci) (hcf:Qj P c = some Qjt):Qjs P c (Qc2 Qci):=by
 intro x1 r h
 refine Qbm hcf rfl fun Γ M hP hnt hM=>?_
 subst hP
 refine Tr.init [(0,.d (.int .u64 x1))] rfl ?_
 unfold Qc2 at h
 unfold Qjt
 refine sr ((md rfl (nt ((Tr.seq (Tr.condF rfl rfl (Tr.skip (toN (sr ((md rfl ?_)))))))))))
 obtain ⟨x3,h2,h⟩:=bnd h
 refine Rn.call (args:=[.d (.int .u64 x1)]) tv rfl (H_bits_OnesCount64 _ _ h2) pc9 (md rfl (nt ((Tr.ret ?_))))
 replace h:=si h; subst h
 exact ⟨.inr rfl,(i_ x3),rfl,fun _ _ _ _ h=>h,tv,fun k hk=>Qc hk⟩
theorem Qmn {P:Program} {c:Nat} {Qx:(List Int)→Int→Option Int} {Qc2:Int→Option Int}
    (H_slices_Index_int:Qfd P 43 Qx)
    (H_bits_OnesCount:Qjs P 44 Qc2) (hcf:Qj P c = some Qe1):Qe0 P c (Qbh Qx Qc2):=by
 intro state1 event2 x3 x6 k4 k7 r h
 intro M nb hk5 hk8
 refine Q40 hcf rfl M nb fun Γ hP hnt hn0 hM=>?_
 subst hP hn0
 refine Tr.init [(0,(i_ state1)),(1,(i_ event2)),(2,.ptr k4 0),(3,.ptr k7 0)] rfl ?_
 unfold Qbh at h
 unfold Qe1
 refine sr ((md rfl (md rfl (nt ((sr ((Rn.load (v:=(l_ x3)) tv rfl (Q0e hM hk5) rfl rfl (md rfl ?_)))))))))
 obtain ⟨x10,h9,h⟩:=bnd h
 refine Rn.call (args:=[(l_ x3),(i_ event2)]) tv rfl (H_slices_Index_int _ _ _ h9) pc9 (md rfl (nt ((sr ((md rfl (Rn.bin tv rfl rfl rfl ?_)))))))
 obtain ⟨s11,h12,h⟩:=bnd h
 refine Rn.bin tv rfl rfl (Qbe1 h12) (md rfl (nt ((Tr.seq (sr ((md rfl (Rn.bin tv rfl rfl rfl (Rn.bin tv rfl rfl rfl (Rn.nil (toN ?_)))))))))))
 refine Tr.cond rfl (fun hb13=>?_) (fun hb13=>?_)
 ·replace h:=bT hb13 h
  refine Tr.seq ?_
  refine Tr.rgnD (by decide) ?_
  refine md rfl (md rfl (Rn.bin tv rfl rfl rfl (md rfl (md rfl (Rn.bin tv rfl rfl rfl (Rn.bin tv rfl rfl rfl (md rfl ?_)))))))
  refine Qbs ((andI .i64 state1 s11) == 0) (fun hb14=>?_) (fun hb14=>?_)
  ·replace h:=bT hb14 h
   refine Rn.movD (gw rfl hb14) rfl (Rn.conv (gw rfl hb14) rfl ?_)
   obtain ⟨x16,h15,h⟩:=bnd h
   refine Rn.call (args:=[.d (.int .u64 (IntKind.wrap .u64 state1))]) (gw rfl hb14) rfl (H_bits_OnesCount _ _ h15) (fun _=>Qbd8 hM rfl) (Rn.load (v:=(i_ x6)) (gw rfl hb14) rfl (Q0e hM hk8) rfl rfl (Rn.bin (gw rfl hb14) rfl rfl rfl (Rn.pickT (v:=(b_ (decide (x16 < x6)))) tv rfl hb14 rfl (md rfl (md rfl ?_)))))
   refine Rn.nil ⟨rfl,?_⟩
   refine toN (Tr.ret ?_)
   replace h:=si h; subst h
   exact ⟨.inr rfl,.tup [(i_ (orI .i64 state1 s11)),(b_ (decide (x16 < x6)))],res2 rfl rfl,(WkV.tup (.cons (.same rfl) (.cons (.same rfl) .nil))).rd,⟨tv,tv,tv⟩,fun k hk=>Qc hk⟩
  ·replace h:=bF hb14 h
   refine Rn.sk (nw rfl hb14) (Rn.sk (nw rfl hb14) (Rn.sk (nw rfl hb14) (Rn.sk (nw rfl hb14) (Rn.sk (nw rfl hb14) (Rn.pickF (v:=(b_ false)) tv rfl hb14 rfl (md rfl (md rfl ?_)))))))
   refine Rn.nil ⟨rfl,?_⟩
   refine toN (Tr.ret ?_)
   replace h:=si h; subst h
   exact ⟨.inr rfl,.tup [(i_ (orI .i64 state1 s11)),(b_ false)],res2 rfl rfl,(WkV.tup (.cons (.same rfl) (.cons (.same rfl) .nil))).rd,⟨tv,tv,tv⟩,fun k hk=>Qc hk⟩
 ·replace h:=bF hb13 h
  refine Tr.skip (toN (sr ((md rfl (md rfl (Rn.bin tv rfl rfl rfl (md rfl (md rfl (Rn.bin tv rfl rfl rfl (Rn.bin tv rfl rfl rfl (md rfl (md rfl (nt ((Tr.ret ?_)))))))))))))))
  replace h:=si h; subst h
  exact ⟨.inr rfl,.tup [(i_ (Qbct .i64 state1 s11)),(b_ ((andI .i64 state1 s11) != 0))],res2 rfl rfl,(WkV.tup (.cons (.same rfl) (.cons (.same rfl) .nil))).rd,⟨tv,tv,tv⟩,fun k hk=>Qc hk⟩
theorem Qzi {P:Program} {c:Nat} (hcf:Qj P c = some Qit):Qis P c (Qcq):=by
 intro x1 r h
 refine Qbm hcf rfl fun Γ M hP hnt hM=>?_
 subst hP
 refine Tr.init [(0,(i_ x1))] rfl ?_
 unfold Qcq at h
 unfold Qit
 refine sr ((md rfl (nt ((sr ((md rfl (nt ((Tr.ret ?_))))))))))
 replace h:=si h; subst h
 exact ⟨.inr rfl,(b_ true),rfl,fun _ _ _ _ h=>h,tv,fun k hk=>Qc hk⟩
theorem Qrq {P:Program} {c:Nat} {Qs:(List Int)→Option Int} {Qn:(List Int)→(Int→Option Bool)→(Int→Int→Option (Int×Bool))→Option Qb} {Qw:(List Int)→Option ((List Int))} {Qcq:Int→Option Bool} {Qbh:Int→Int→(List Int)→Int→Option (Int×Bool)}
    (H_requirement_distinct:Qdn P 33 Qs)
    (H_requirement_explore:Qc7 P 34 Qn)
    (H_requirement_sorted:Qd7 P 35 Qw)
    (H_requirement_all:Qis P 41 Qcq)
    (H_requirement_AtMost_1:Qe0 P 42 Qbh) (hcf:Qj P c = some Qf4) (fuel:Nat):Qf3 P c (Qbx Qs Qn Qw Qcq Qbh fuel):=by
 intro phases1 most2 r h
 refine Qbm hcf rfl fun Γ M hP hnt hM=>?_
 subst hP
 refine Tr.init [(0,.d (.lst 2 (List.map Q6 phases1))),(1,(i_ most2))] rfl ?_
 unfold Qbx at h
 unfold Qf4
 refine sr ((Rn.box (v:=(i_ most2)) (cs:=[(i_ most2)]) tv rfl rfl rfl rfl rfl (Rn.alloc tv rfl (md rfl (nt ((Tr.seq (sr ((md rfl (Rn.lenD tv rfl (Rn.bin tv rfl rfl rfl (Rn.nil (toN ?_))))))))))))))
 refine Tr.cond rfl (fun hb3=>?_) (fun hb3=>?_)
 ·replace h:=ifT hb3 h
  refine sr ((Rn.build (v:=.agg [.nils 1,(i_ 0),.nils 1,.nils 3]) tv rfl (Rn.storeT (v:=.agg [.nils 1,(i_ 0),.nils 1,.nils 3]) (ds:=[.nils 1,(i_ 0),.nils 1,.nils 3]) (cs':=[.nils 1,(i_ 0),.nils 1,.nils 3]) tv rfl rfl rfl rfl rfl rfl rfl (md rfl (nt ((Tr.ret ?_)))))))
  replace h:=si h; subst h
  exact ⟨.inr rfl,.tup [.agg [.nils 1,(i_ 0),.nils 1,.nils 3],(i_ 3)],res2 (Qfx rfl rfl rfl rfl) rfl,(WkV.tup (.cons (WkV.agg (.cons (WkV.nilsD _) (.cons (.same rfl) (.cons (WkV.nilsD _) (.cons (WkV.nilsD _) .nil))))) (.cons (.same rfl) .nil))).rd,⟨⟨tv,tv,tv,tv,tv⟩,tv,tv⟩,fun k hk=>Qc hk⟩
 ·replace h:=ifF hb3 h
  refine Tr.skip (toN (sr ((Rn.alloc tv rfl (Rn.nil (toN ?_))))))
  refine Tr.cutB (fun ((c15,c16,c17,events18):(List Int)×(List Int)×(List Qi)×(List Int))=>⟨look [(0,.d (.lst 2 (List.map Q6 phases1))),(3,.ptr (Γ.n0 + 3) 0),(4,.ptr (Γ.n0 + 4) 0),(6,.ptr (Γ.n0 + 6) 0)],Qk Γ.n0 (bxs [(3,.cells ([(i_ most2)])),(4,.cells ([(o_ c15),(i_ 0),(o_ c16),.own 3 (List.map Qe c17)])),(6,.cells ([(o_ events18)]))]) M,Γ.n0 + 47⟩) h (fun z h=>?_) (fun z h=>?_)
  ·refine sr ((md rfl (Rn.lenD tv rfl (md rfl (nt ((Tr.block ?_)))))))
   refine Tr.loop (mk:=fun ((x4,c5,c6,c7,events8):Int×(List Int)×(List Int)×(List Qi)×(List Int))=>⟨look [(0,.d (.lst 2 (List.map Q6 phases1))),(3,.ptr (Γ.n0 + 3) 0),(4,.ptr (Γ.n0 + 4) 0),(6,.ptr (Γ.n0 + 6) 0),(14,.d (.lst 2 (List.map Q6 phases1))),(15,(i_ (phases1.length:Int))),(16,(i_ x4))],Qk Γ.n0 (bxs [(3,.cells ([(i_ most2)])),(4,.cells ([(o_ c5),(i_ 0),(o_ c6),.own 3 (List.map Qe c7)])),(6,.cells ([(o_ events8)]))]) M,Γ.n0 + 47⟩) h (by exact Qm ⟨(sm rfl),(kPtr rfl),(kPtr rfl),(kPtr rfl),(sm rfl),(sm rfl),(sm rfl),tv⟩ ⟨⟨_,rfl,rfl,(.same rfl)⟩,⟨_,rfl,rfl,(.cons (WkV.nilsO _) (.cons (sm rfl) (.cons (WkV.nilsO _) (.cons (WkV.nilsO _) .nil))))⟩,⟨_,rfl,rfl,(.cons (WkV.nilsO _) .nil)⟩,tv⟩ rfl) (fun k9 z h=>?_)
   ·obtain ⟨x4,c5,c6,c7,events8⟩:=z
    replace h:_ = some _:=h
    refine sr ((Rn.bin tv rfl rfl rfl (nt ((Tr.seq ?_)))))
    refine Tr.cond rfl (fun hb10=>?_) (fun hb10=>?_)
    ·replace h:=ifT hb10 h
     refine Tr.skip (toN (Tr.seq (Tr.block (Tr.seq (Tr.rgn ?_)))))
     obtain ⟨x11,h12,h⟩:=bnd h
     refine Rn.idxD (e:=Q6) tv rfl rfl h12 (Rn.loadCA (vs:=(Qdl x11)) tv rfl rfl rfl (Rn.alloc tv rfl (Rn.store (v:=(Q0h x11)) (cs':=(Qdl x11)) tv rfl rfl rfl rfl rfl rfl (nt ((Tr.rgn (Rn.loadT (cs':=[(l_ events8)]) tv rfl rfl rfl rfl (Rn.fldP (o':=0) tv rfl rfl (Rn.load (v:=(i_ x11.Enter)) tv rfl (Ql rfl) rfl rfl (Rn.fldP (o':=1) tv rfl rfl (Rn.load (v:=(i_ x11.Leave)) tv rfl (Ql rfl) rfl rfl (Rn.bslice (xs:=(Qdl x11)) (cs:=(Qdl x11)) tv rfl rfl rfl rfl ?_))))))))))))
     obtain ⟨x13,h14,h⟩:=bnd h
     refine Rn.app (e:=(eI .i64)) tv rfl rfl rfl (Qjj rfl rfl rfl) h14 rfl (Rn.storeO (cs':=[(o_ x13)]) tv rfl rfl rfl rfl rfl (nt ((Tr.rgn (Rn.bin tv rfl rfl rfl (md rfl (Rn.nil ?_)))))))
     exact ⟨_,h,(by exact Qm ⟨(sm rfl),(kPtr rfl),(kPtr rfl),(kPtr rfl),(sm rfl),(sm rfl),(sm rfl),tv⟩ ⟨⟨_,rfl,rfl,(.same rfl)⟩,⟨_,rfl,rfl,(.same rfl)⟩,⟨_,rfl,rfl,(.same rfl)⟩,tv⟩ rfl)⟩
    ·replace h:=ifF hb10 h
     refine Tr.exit ?_
     replace h:=si h; subst h
     exact Qh [] ⟨(sm rfl),(kPtr rfl),(kPtr rfl),(kPtr rfl),tv⟩ ⟨⟨_,rfl,rfl,(.same rfl)⟩,⟨_,rfl,rfl,(.same rfl)⟩,⟨_,rfl,rfl,(.same rfl)⟩,tv⟩ rfl
  ·obtain ⟨c15,c16,c17,events18⟩:=z
   refine Tr.seq (sr ((Rn.load (v:=(l_ events18)) tv rfl (Ql rfl) rfl rfl ?_)))
   obtain ⟨x20,h19,h⟩:=bnd h
   refine Rn.call (args:=[(l_ events18)]) tv rfl (H_requirement_distinct _ _ h19) pc9 (md rfl (nt ((sr ((md rfl (Rn.bin tv rfl rfl rfl (Rn.nil (toN ?_)))))))))
   refine Tr.cond rfl (fun hb21=>?_) (fun hb21=>?_)
   ·replace h:=bT hb21 h
    refine sr ((Rn.build (v:=.agg [.nils 1,(i_ 0),.nils 1,.nils 3]) tv rfl (md rfl (Rn.storeT (v:=.agg [.nils 1,(i_ 0),.nils 1,.nils 3]) (ds:=[.nils 1,(i_ 0),.nils 1,.nils 3]) (cs':=[.nils 1,(i_ 0),.nils 1,.nils 3]) tv rfl rfl rfl rfl rfl rfl rfl (md rfl (nt ((Tr.ret ?_))))))))
    replace h:=si h; subst h
    exact ⟨.inr rfl,.tup [.agg [.nils 1,(i_ 0),.nils 1,.nils 3],(i_ x20)],res2 (Qfx rfl rfl rfl rfl) rfl,(WkV.tup (.cons (WkV.agg (.cons (WkV.nilsD _) (.cons (.same rfl) (.cons (WkV.nilsD _) (.cons (WkV.nilsD _) .nil))))) (.cons (.same rfl) .nil))).rd,⟨⟨tv,tv,tv,tv,tv⟩,tv,tv⟩,fun k hk=>Qc hk⟩
   ·replace h:=bF hb21 h
    refine Tr.skip (toN (Tr.seq ?_))
    refine Tr.cutB (fun (x23:Bool)=>⟨look [(3,.ptr (Γ.n0 + 3) 0),(4,.ptr (Γ.n0 + 4) 0),(6,.ptr (Γ.n0 + 6) 0),(41,(b_ x23))],Qk Γ.n0 (bxs [(3,.cells ([(i_ most2)])),(4,.cells ([(o_ c15),(i_ 0),(o_ c16),.own 3 (List.map Qe c17)])),(6,.cells ([(o_ events18)]))]) M,Γ.n0 + 47⟩) h (fun z h=>?_) (fun z h=>?_)
    ·refine Tr.rgn (Rn.load (v:=(i_ most2)) tv rfl (Ql rfl) rfl rfl (Rn.bin tv rfl rfl rfl (md rfl ?_)))
     refine Qbs (decide (most2 < 0)) (fun hb22=>?_) (fun hb22=>?_)
     ·replace h:=ifT hb22 h
      refine Rn.sk (nw rfl hb22) (Rn.sk (nw rfl hb22) (Rn.sk (nw rfl hb22) (Rn.sk (nw rfl hb22) (Rn.pickT (v:=(b_ true)) tv rfl hb22 rfl (Rn.nil ?_)))))
      replace h:=si h; subst h
      exact Qh [] ⟨(kPtr rfl),(kPtr rfl),(kPtr rfl),(sm rfl),tv⟩ ⟨⟨_,rfl,rfl,(.same rfl)⟩,⟨_,rfl,rfl,(.same rfl)⟩,⟨_,rfl,rfl,(.same rfl)⟩,tv⟩ rfl
     ·replace h:=ifF hb22 h
      refine Rn.load (v:=(i_ most2)) (gw rfl hb22) rfl (Ql rfl) rfl rfl (Rn.movD (gw rfl hb22) rfl (Rn.lenD (gw rfl hb22) rfl (Rn.bin (gw rfl hb22) rfl rfl rfl (Rn.pickF (v:=(b_ (decide (most2 > (phases1.length:Int))))) tv rfl hb22 rfl (Rn.nil ?_)))))
      replace h:=si h; subst h
      exact Qh [] ⟨(kPtr rfl),(kPtr rfl),(kPtr rfl),(sm rfl),tv⟩ ⟨⟨_,rfl,rfl,(.same rfl)⟩,⟨_,rfl,rfl,(.same rfl)⟩,⟨_,rfl,rfl,(.same rfl)⟩,tv⟩ rfl
    ·obtain ⟨x23,rfl⟩ : ∃ x,x = z:=⟨_,rfl⟩
     refine Tr.cond rfl (fun hb24=>?_) (fun hb24=>?_)
     ·replace h:=bT hb24 h
      refine sr ((Rn.build (v:=.agg [.nils 1,(i_ 0),.nils 1,.nils 3]) tv rfl (Rn.storeT (v:=.agg [.nils 1,(i_ 0),.nils 1,.nils 3]) (ds:=[.nils 1,(i_ 0),.nils 1,.nils 3]) (cs':=[.nils 1,(i_ 0),.nils 1,.nils 3]) tv rfl rfl rfl rfl rfl rfl rfl (md rfl (nt ((Tr.ret ?_)))))))
      replace h:=si h; subst h
      exact ⟨.inr rfl,.tup [.agg [.nils 1,(i_ 0),.nils 1,.nils 3],(i_ 2)],res2 (Qfx rfl rfl rfl rfl) rfl,(WkV.tup (.cons (WkV.agg (.cons (WkV.nilsD _) (.cons (.same rfl) (.cons (WkV.nilsD _) (.cons (WkV.nilsD _) .nil))))) (.cons (.same rfl) .nil))).rd,⟨⟨tv,tv,tv,tv,tv⟩,tv,tv⟩,fun k hk=>Qc hk⟩
     ·replace h:=bF hb24 h
      refine Tr.skip (toN (sr ((Rn.load (v:=(l_ events18)) tv rfl (Ql rfl) rfl rfl ?_))))
      obtain ⟨x26,h25,h⟩:=bnd h
      refine Rn.call (args:=[(l_ events18)]) tv rfl (H_requirement_sorted _ _ h25) pc9 (Rn.k (v:=.clo 42 [.ptr (Γ.n0 + 6) 0,.ptr (Γ.n0 + 3) 0]) tv rfl rfl rfl ?_)
      refine Rn.weak (by show WeakSt Γ _ ⟨look [(3,.ptr (Γ.n0 + 3) 0),(4,.ptr (Γ.n0 + 4) 0),(6,.ptr (Γ.n0 + 6) 0),(41,(b_ x23)),(43,(l_ events18)),(44,(l_ x26)),(45,.clo 42 [.ptr (Γ.n0 + 6) 0,.ptr (Γ.n0 + 3) 0])],Qk Γ.n0 (bxs [(3,.cells ([(i_ most2)])),(4,.cells ([(o_ c15),(i_ 0),(o_ c16),.own 3 (List.map Qe c17)])),(6,.cells ([(l_ events18)]))]) M,Γ.n0 + 47⟩; exact Qh [] ⟨(kPtr rfl),(kPtr rfl),(kPtr rfl),(sm rfl),(sm rfl),(sm rfl),(kClo (Qbfr rfl (Qbfr rfl Qbf1))),tv⟩ ⟨⟨_,rfl,rfl,(.same rfl)⟩,⟨_,rfl,rfl,(.same rfl)⟩,⟨_,rfl,rfl,(.cons (WkV.dem' rfl) .nil)⟩,tv⟩ rfl) ?_
      obtain ⟨x35,h34,h⟩:=bnd h
      refine Rn.callM (args:=[(l_ x26),.clo 41 [],.clo 42 [.ptr (Γ.n0 + 6) 0,.ptr (Γ.n0 + 3) 0]]) tv rfl (fun M2 nb2 hn hx=>H_requirement_explore _ _ _ 41 [] 42 [.ptr (Γ.n0 + 6) 0,.ptr (Γ.n0 + 3) 0] _ h34 M2 nb2 rfl tv (fun a27 r28 h29 M3 nb3 hn3 hx3=>H_requirement_all a27 r28 h29 M3 nb3 ) rfl ⟨Q3z (hx _ _ (Ql rfl)),Q3z (hx _ _ (Ql rfl)),tv⟩ (fun a30 a31 r32 h33 M3 nb3 hn3 hx3=>H_requirement_AtMost_1 a30 a31 events18 most2 (Γ.n0 + 6) (Γ.n0 + 3) r32 h33 M3 nb3 ((hx.trans hx3) _ _ (Ql rfl)) ((hx.trans hx3) _ _ (Ql rfl)))) rfl pc9 ?_
      refine Rn.storeT (v:=(Qa x35)) (ds:=(Qd x35)) (cs':=(Qd x35)) tv rfl rfl rfl rfl rfl rfl rfl (md rfl (nt ((Tr.ret ?_))))
      replace h:=si h; subst h
      exact ⟨.inr rfl,.tup [(Qa x35),(i_ 0)],res2 (Qfx rfl rfl rfl rfl) rfl,(WkV.tup (.cons (.same rfl) (.cons (.same rfl) .nil))).rd,⟨⟨tv,tv,tv,tv,tv⟩,tv,tv⟩,fun k hk=>Qc hk⟩
theorem Qrr {P:Program} {c:Nat} (hcf:Qj P c = some Qf6) (fuel:Nat):Qf5 P c (Qba fuel):=by
 intro l1 n2 r h
 refine Qbm hcf rfl fun Γ M hP hnt hM=>?_
 subst hP
 refine Tr.init [(0,(l_ l1)),(1,(i_ n2))] rfl ?_
 unfold Qba at h
 unfold Qf6
 refine sr ((md rfl (nt ((Tr.seq (sr ((md rfl (Rn.lenD tv rfl (md rfl (nt ((Tr.block ?_)))))))))))))
 refine Tr.loop (mk:=fun (x3:Int)=>⟨look [(0,(l_ l1)),(1,(i_ n2)),(7,(l_ l1)),(8,(i_ (l1.length:Int))),(9,(i_ x3))],Qk Γ.n0 (bxs []) M,Γ.n0 + 35⟩) h (by exact Qm ⟨(sm rfl),(sm rfl),(sm rfl),(sm rfl),(sm rfl),tv⟩ tv rfl) (fun k4 z h=>?_)
 ·obtain ⟨x3,rfl⟩ : ∃ x,x = z:=⟨_,rfl⟩
  replace h:_ = some _:=h
  refine sr ((Rn.bin tv rfl rfl rfl (nt ((Tr.seq ?_)))))
  refine Tr.cond rfl (fun hb5=>?_) (fun hb5=>?_)
  ·replace h:=ifT hb5 h
   refine Tr.skip (toN (Tr.seq (Tr.block (sr ((md rfl ?_))))))
   obtain ⟨x6,h7,h⟩:=bnd h
   refine Rn.idxD (e:=(eI .i64)) tv rfl rfl h7 (Rn.loadC (x:=.int .i64 x6) tv rfl (md rfl (md rfl (nt ((Tr.block ?_))))))
   refine Tr.cutB (fun (x9:Bool)=>⟨look [(0,(l_ l1)),(1,(i_ n2)),(5,(i_ x3)),(6,(i_ x6)),(7,(l_ l1)),(8,(i_ (l1.length:Int))),(9,(i_ x3)),(14,(b_ x9))],Qk Γ.n0 (bxs []) M,Γ.n0 + 35⟩) h (fun z h=>?_) (fun z h=>?_)
   ·refine Tr.rgn (md rfl (Rn.bin tv rfl rfl rfl (md rfl ?_)))
    refine Qbs (decide (x6 < 0)) (fun hb8=>?_) (fun hb8=>?_)
    ·replace h:=ifT hb8 h
     refine Rn.sk (nw rfl hb8) (Rn.sk (nw rfl hb8) (Rn.sk (nw rfl hb8) (Rn.pickT (v:=(b_ true)) tv rfl hb8 rfl (md rfl (Rn.nil ?_)))))
     replace h:=si h; subst h
     exact Qh [] ⟨(sm rfl),(sm rfl),(sm rfl),(sm rfl),(sm rfl),(sm rfl),(sm rfl),(sm rfl),tv⟩ tv rfl
    ·replace h:=ifF hb8 h
     refine Rn.movD (gw rfl hb8) rfl (Rn.movD (gw rfl hb8) rfl (Rn.bin (gw rfl hb8) rfl rfl rfl (Rn.pickF (v:=(b_ (decide (x6≥n2)))) tv rfl hb8 rfl (md rfl (Rn.nil ?_)))))
     replace h:=si h; subst h
     exact Qh [] ⟨(sm rfl),(sm rfl),(sm rfl),(sm rfl),(sm rfl),(sm rfl),(sm rfl),(sm rfl),tv⟩ tv rfl
   ·obtain ⟨x9,rfl⟩ : ∃ x,x = z:=⟨_,rfl⟩
    refine Tr.cond rfl (fun hb10=>?_) (fun hb10=>?_)
    ·replace h:=bT hb10 h
     refine sr ((md rfl (nt ((Tr.ret ?_)))))
     replace h:=si h; subst h
     exact ⟨.inr rfl,(i_ 2),rfl,fun _ _ _ _ h=>h,tv,fun k hk=>Qc hk⟩
    ·replace h:=bF hb10 h
     refine Tr.cutB (fun (x14:Bool)=>⟨look [(0,(l_ l1)),(1,(i_ n2)),(7,(l_ l1)),(8,(i_ (l1.length:Int))),(9,(i_ x3)),(22,(b_ x14))],Qk Γ.n0 (bxs []) M,Γ.n0 + 35⟩) h (fun z h=>?_) (fun z h=>?_)
     ·refine Tr.rgn (md rfl (Rn.bin tv rfl rfl rfl (md rfl ?_)))
      refine Qbs (decide (x3 > 0)) (fun hb11=>?_) (fun hb11=>?_)
      ·replace h:=ifT hb11 h
       refine Rn.movD (gw rfl hb11) rfl (Rn.movD (gw rfl hb11) rfl (Rn.movD (gw rfl hb11) rfl (Rn.bin (gw rfl hb11) rfl rfl rfl ?_)))
       obtain ⟨x12,h13,h⟩:=bnd h
       refine Rn.idxD (e:=(eI .i64)) (gw rfl hb11) rfl rfl h13 (Rn.loadC (x:=.int .i64 x12) (gw rfl hb11) rfl (Rn.bin (gw rfl hb11) rfl rfl rfl (Rn.pickT (v:=(b_ (decide (x6≤x12)))) tv rfl hb11 rfl (md rfl (Rn.nil ?_)))))
       replace h:=si h; subst h
       exact Qh [] ⟨(sm rfl),(sm rfl),(sm rfl),(sm rfl),(sm rfl),(sm rfl),tv⟩ tv rfl
      ·replace h:=ifF hb11 h
       refine Rn.sk (nw rfl hb11) (Rn.sk (nw rfl hb11) (Rn.sk (nw rfl hb11) (Rn.sk (nw rfl hb11) (Rn.sk (nw rfl hb11) (Rn.sk (nw rfl hb11) (Rn.sk (nw rfl hb11) (Rn.pickF (v:=(b_ false)) tv rfl hb11 rfl (md rfl (Rn.nil ?_)))))))))
       replace h:=si h; subst h
       exact Qh [] ⟨(sm rfl),(sm rfl),(sm rfl),(sm rfl),(sm rfl),(sm rfl),tv⟩ tv rfl
     ·obtain ⟨x14,rfl⟩ : ∃ x,x = z:=⟨_,rfl⟩
      refine Tr.cond rfl (fun hb15=>?_) (fun hb15=>?_)
      ·replace h:=bT hb15 h
       refine sr ((md rfl (nt ((Tr.ret ?_)))))
       replace h:=si h; subst h
       exact ⟨.inr rfl,(i_ 5),rfl,fun _ _ _ _ h=>h,tv,fun k hk=>Qc hk⟩
      ·replace h:=bF hb15 h
       refine Tr.skip (toN (Tr.rgn (Rn.bin tv rfl rfl rfl (md rfl (Rn.nil ?_)))))
       exact ⟨_,h,(by exact Qm ⟨(sm rfl),(sm rfl),(sm rfl),(sm rfl),(sm rfl),tv⟩ tv rfl)⟩
  ·replace h:=ifF hb5 h
   refine Tr.exit (toN (sr ((md rfl (nt ((Tr.ret ?_)))))))
   replace h:=si h; subst h
   exact ⟨.inr rfl,(i_ 0),rfl,fun _ _ _ _ h=>h,tv,fun k hk=>Qc hk⟩
theorem Qmo {P:Program} {c:Nat} {Qq:(List Int)→Int→Option Bool}
    (H_slices_Contains_int:Qdt P 55 Qq) (hcf:Qj P c = some Qe3) (fuel:Nat):Qe2 P c (Q7 Qq fuel):=by
 intro a1 r h
 refine Qbm hcf rfl fun Γ M hP hnt hM=>?_
 subst hP
 refine Tr.init [(0,(Qa a1))] rfl ?_
 unfold Q7 at h
 unfold Qe3
 refine sr ((Rn.box (v:=(Qa a1)) (cs:=(Qd a1)) tv rfl rfl rfl rfl rfl (md rfl (nt ((Tr.seq (sr ((Rn.fldP (o':=3) tv rfl rfl (Rn.load (v:=.d (.lst 3 (List.map Qe a1.Edges))) tv rfl (Ql rfl) rfl rfl (Rn.lenD tv rfl (md rfl (nt ((Tr.block ?_)))))))))))))))
 refine Tr.loop (mk:=fun (x2:Int)=>⟨look [(1,.ptr (Γ.n0 + 1) 0),(7,.d (.lst 3 (List.map Qe a1.Edges))),(8,(i_ (a1.Edges.length:Int))),(9,(i_ x2))],Qk Γ.n0 (bxs [(1,.cells ((Qd a1)))]) M,Γ.n0 + 72⟩) h (by exact Qm ⟨(kPtr rfl),(sm rfl),(sm rfl),(sm rfl),tv⟩ ⟨⟨_,rfl,rfl,(.same rfl)⟩,tv⟩ rfl) (fun k3 z h=>?_)
 ·obtain ⟨x2,rfl⟩ : ∃ x,x = z:=⟨_,rfl⟩
  replace h:_ = some _:=h
  refine sr ((Rn.bin tv rfl rfl rfl (nt ((Tr.seq ?_)))))
  refine Tr.cond rfl (fun hb4=>?_) (fun hb4=>?_)
  ·replace h:=ifT hb4 h
   refine Tr.skip (toN ?_)
   refine Tr.cutJ (fun ((c22,c23,c24):Int×Int×Int)=>⟨look [(1,.ptr (Γ.n0 + 1) 0),(7,.d (.lst 3 (List.map Qe a1.Edges))),(8,(i_ (a1.Edges.length:Int))),(9,(i_ x2))],Qk Γ.n0 (bxs [(1,.cells ((Qd a1))),(4,.cells ([(i_ c22),(i_ c23),(i_ c24)]))]) M,Γ.n0 + 72⟩) h (fun J25 h=>?_) (fun z h=>?_)
   ·refine Tr.block (sr ((md rfl ?_)))
    obtain ⟨x5,h6,h⟩:=bnd h
    refine Rn.idxD (e:=Qe) tv rfl rfl h6 (Rn.loadCA (vs:=(Qb5 x5)) tv rfl rfl rfl (Rn.alloc tv rfl (md rfl (Rn.store (v:=(Qcn x5)) (cs':=(Qb5 x5)) tv rfl rfl rfl rfl rfl rfl (nt ((Tr.seq (Tr.block ?_))))))))
    refine Tr.cutB (fun (x10:Bool)=>⟨look [(1,.ptr (Γ.n0 + 1) 0),(3,(i_ x2)),(4,.ptr (Γ.n0 + 4) 0),(7,.d (.lst 3 (List.map Qe a1.Edges))),(8,(i_ (a1.Edges.length:Int))),(9,(i_ x2)),(14,(b_ x10))],Qk Γ.n0 (bxs [(1,.cells ((Qd a1))),(4,.cells ((Qb5 x5)))]) M,Γ.n0 + 72⟩) h (fun z h=>?_) (fun z h=>?_)
    ·refine Tr.rgn (Rn.fldP (o':=0) tv rfl rfl (Rn.load (v:=(i_ x5.From)) tv rfl (Ql rfl) rfl rfl (Rn.bin tv rfl rfl rfl (md rfl ?_))))
     refine Qbs (decide (x5.From < 0)) (fun hb7=>?_) (fun hb7=>?_)
     ·replace h:=ifT hb7 h
      refine Rn.sk (nw rfl hb7) (Rn.sk (nw rfl hb7) (Rn.sk (nw rfl hb7) (Rn.sk (nw rfl hb7) (Rn.sk (nw rfl hb7) (Rn.pickT (v:=(b_ true)) tv rfl hb7 rfl (md rfl (Rn.sk (nw (b:=true) rfl rfl) (Rn.sk (nw (b:=true) rfl rfl) (Rn.sk (nw (b:=true) rfl rfl) (Rn.pickT (v:=(b_ true)) tv rfl rfl rfl (md rfl (Rn.sk (nw (b:=true) rfl rfl) (Rn.sk (nw (b:=true) rfl rfl) (Rn.sk (nw (b:=true) rfl rfl) (Rn.sk (nw (b:=true) rfl rfl) (Rn.sk (nw (b:=true) rfl rfl) (Rn.pickT (v:=(b_ true)) tv rfl rfl rfl (md rfl (Rn.nil ?_)))))))))))))))))))
      replace h:=si h; subst h
      exact Qh [] ⟨(kPtr rfl),(sm rfl),(kPtr rfl),(sm rfl),(sm rfl),(sm rfl),(sm rfl),tv⟩ ⟨⟨_,rfl,rfl,(.same rfl)⟩,⟨_,rfl,rfl,(.same rfl)⟩,tv⟩ rfl
     ·replace h:=ifF hb7 h
      refine Rn.fldP (o':=0) (gw rfl hb7) rfl rfl (Rn.load (v:=(i_ x5.From)) (gw rfl hb7) rfl (Ql rfl) rfl rfl (Rn.fldP (o':=1) (gw rfl hb7) rfl rfl (Rn.load (v:=(i_ a1.States)) (gw rfl hb7) rfl (Ql rfl) rfl rfl (Rn.bin (gw rfl hb7) rfl rfl rfl (Rn.pickF (v:=(b_ (decide (x5.From≥a1.States)))) tv rfl hb7 rfl (md rfl ?_))))))
      refine Qbs (decide (x5.From≥a1.States)) (fun hb8=>?_) (fun hb8=>?_)
      ·replace h:=ifT hb8 h
       refine Rn.sk (nw rfl hb8) (Rn.sk (nw rfl hb8) (Rn.sk (nw rfl hb8) (Rn.pickT (v:=(b_ true)) tv rfl hb8 rfl (md rfl (Rn.sk (nw (b:=true) rfl rfl) (Rn.sk (nw (b:=true) rfl rfl) (Rn.sk (nw (b:=true) rfl rfl) (Rn.sk (nw (b:=true) rfl rfl) (Rn.sk (nw (b:=true) rfl rfl) (Rn.pickT (v:=(b_ true)) tv rfl rfl rfl (md rfl (Rn.nil ?_))))))))))))
       replace h:=si h; subst h
       exact Qh [] ⟨(kPtr rfl),(sm rfl),(kPtr rfl),(sm rfl),(sm rfl),(sm rfl),(sm rfl),tv⟩ ⟨⟨_,rfl,rfl,(.same rfl)⟩,⟨_,rfl,rfl,(.same rfl)⟩,tv⟩ rfl
      ·replace h:=ifF hb8 h
       refine Rn.fldP (o':=2) (gw rfl hb8) rfl rfl (Rn.load (v:=(i_ x5.To)) (gw rfl hb8) rfl (Ql rfl) rfl rfl (Rn.bin (gw rfl hb8) rfl rfl rfl (Rn.pickF (v:=(b_ (decide (x5.To < 0)))) tv rfl hb8 rfl (md rfl ?_))))
       refine Qbs (decide (x5.To < 0)) (fun hb9=>?_) (fun hb9=>?_)
       ·replace h:=ifT hb9 h
        refine Rn.sk (nw rfl hb9) (Rn.sk (nw rfl hb9) (Rn.sk (nw rfl hb9) (Rn.sk (nw rfl hb9) (Rn.sk (nw rfl hb9) (Rn.pickT (v:=(b_ true)) tv rfl hb9 rfl (md rfl (Rn.nil ?_)))))))
        replace h:=si h; subst h
        exact Qh [] ⟨(kPtr rfl),(sm rfl),(kPtr rfl),(sm rfl),(sm rfl),(sm rfl),(sm rfl),tv⟩ ⟨⟨_,rfl,rfl,(.same rfl)⟩,⟨_,rfl,rfl,(.same rfl)⟩,tv⟩ rfl
       ·replace h:=ifF hb9 h
        refine Rn.fldP (o':=2) (gw rfl hb9) rfl rfl (Rn.load (v:=(i_ x5.To)) (gw rfl hb9) rfl (Ql rfl) rfl rfl (Rn.fldP (o':=1) (gw rfl hb9) rfl rfl (Rn.load (v:=(i_ a1.States)) (gw rfl hb9) rfl (Ql rfl) rfl rfl (Rn.bin (gw rfl hb9) rfl rfl rfl (Rn.pickF (v:=(b_ (decide (x5.To≥a1.States)))) tv rfl hb9 rfl (md rfl (Rn.nil ?_)))))))
        replace h:=si h; subst h
        exact Qh [] ⟨(kPtr rfl),(sm rfl),(kPtr rfl),(sm rfl),(sm rfl),(sm rfl),(sm rfl),tv⟩ ⟨⟨_,rfl,rfl,(.same rfl)⟩,⟨_,rfl,rfl,(.same rfl)⟩,tv⟩ rfl
    ·obtain ⟨x10,rfl⟩ : ∃ x,x = z:=⟨_,rfl⟩
     refine Tr.cond rfl (fun hb11=>?_) (fun hb11=>?_)
     ·replace h:=bT hb11 h
      refine sr ((md rfl (nt ((Tr.ret ?_)))))
      replace h:=si h; subst h
      exact ⟨.inr rfl,(i_ 2),rfl,fun _ _ _ _ h=>h,tv,fun k hk=>Qc hk⟩
     ·replace h:=bF hb11 h
      refine sr ((Rn.fldP (o':=0) tv rfl rfl (Rn.load (v:=(l_ a1.Alphabet)) tv rfl (Ql rfl) rfl rfl (Rn.fldP (o':=1) tv rfl rfl (Rn.load (v:=(i_ x5.Event)) tv rfl (Ql rfl) rfl rfl ?_)))))
      obtain ⟨x13,h12,h⟩:=bnd h
      refine Rn.call (args:=[(l_ a1.Alphabet),(i_ x5.Event)]) tv rfl (H_slices_Contains_int _ _ _ h12) pc9 (Rn.un tv rfl rfl (md rfl (Rn.nil (toN ?_))))
      refine Tr.cond rfl (fun hb14=>?_) (fun hb14=>?_)
      ·have hb14:=nT' hb14
       replace h:=bF hb14 h
       refine sr ((md rfl (nt ((Tr.ret ?_)))))
       replace h:=si h; subst h
       exact ⟨.inr rfl,(i_ 9),rfl,fun _ _ _ _ h=>h,tv,fun k hk=>Qc hk⟩
      ·have hb14:=nF' hb14
       replace h:=bT hb14 h
       refine Tr.skip (toN (Tr.seq (sr ((md rfl (Rn.bin tv rfl rfl rfl (Rn.nil (toN ?_))))))))
       refine Tr.cond rfl (fun hb15=>?_) (fun hb15=>?_)
       ·replace h:=bT hb15 h
        refine Tr.exit ?_
        exact ⟨_,h,(by exact Qh [] ⟨(kPtr rfl),(sm rfl),(sm rfl),(sm rfl),tv⟩ ⟨⟨_,rfl,rfl,(.same rfl)⟩,⟨_,rfl,rfl,(.same rfl)⟩,tv⟩ rfl)⟩
       ·replace h:=bF hb15 h
        refine Tr.skip (toN (sr ((Rn.fldP (o':=3) tv rfl rfl (Rn.load (v:=.d (.lst 3 (List.map Qe a1.Edges))) tv rfl (Ql rfl) rfl rfl (md rfl (Rn.bin tv rfl rfl rfl ?_)))))))
        obtain ⟨x16,h17,h⟩:=bnd h
        refine Rn.idxD (e:=Qe) tv rfl rfl h17 (Rn.loadCA (vs:=(Qb5 x16)) tv rfl rfl rfl (Rn.alloc tv rfl (Rn.store (v:=(Qcn x16)) (cs':=(Qb5 x16)) tv rfl rfl rfl rfl rfl rfl (Rn.nil (toN ?_)))))
        refine Tr.cutB (fun (x20:Bool)=>⟨look [(1,.ptr (Γ.n0 + 1) 0),(7,.d (.lst 3 (List.map Qe a1.Edges))),(8,(i_ (a1.Edges.length:Int))),(9,(i_ x2)),(70,(b_ x20))],Qk Γ.n0 (bxs [(1,.cells ((Qd a1))),(4,.cells ((Qb5 x5))),(5,.cells ((Qb5 x16)))]) M,Γ.n0 + 72⟩) h (fun z h=>?_) (fun z h=>?_)
        ·refine Tr.rgn (Rn.fldP (o':=0) tv rfl rfl (Rn.load (v:=(i_ x5.From)) tv rfl (Ql rfl) rfl rfl (Rn.fldP (o':=0) tv rfl rfl (Rn.load (v:=(i_ x16.From)) tv rfl (Ql rfl) rfl rfl (Rn.bin tv rfl rfl rfl (md rfl ?_))))))
         refine Qbs (decide (x5.From < x16.From)) (fun hb18=>?_) (fun hb18=>?_)
         ·replace h:=ifT hb18 h
          refine Rn.sk (nw rfl hb18) (Rn.sk (nw rfl hb18) (Rn.sk (nw rfl hb18) (Rn.sk (nw rfl hb18) (Rn.sk (nw rfl hb18) (Rn.sk (nw rfl hb18) (Rn.sk (nu rfl) (Rn.sk (nu rfl) (Rn.sk (nu rfl) (Rn.sk (nu rfl) (Rn.sk (nu rfl) (Rn.sk (nw rfl hb18) (Rn.pickT (v:=(b_ true)) tv rfl hb18 rfl (Rn.nil ?_)))))))))))))
          replace h:=si h; subst h
          exact Qh [] ⟨(kPtr rfl),(sm rfl),(sm rfl),(sm rfl),(sm rfl),tv⟩ ⟨⟨_,rfl,rfl,(.same rfl)⟩,⟨_,rfl,rfl,(.same rfl)⟩,⟨_,rfl,rfl,(.same rfl)⟩,tv⟩ rfl
         ·replace h:=ifF hb18 h
          refine Rn.fldP (o':=0) (gw rfl hb18) rfl rfl (Rn.load (v:=(i_ x5.From)) (gw rfl hb18) rfl (Ql rfl) rfl rfl (Rn.fldP (o':=0) (gw rfl hb18) rfl rfl (Rn.load (v:=(i_ x16.From)) (gw rfl hb18) rfl (Ql rfl) rfl rfl (Rn.bin (gw rfl hb18) rfl rfl rfl (Rn.movD (gw rfl hb18) rfl ?_)))))
          refine Qbs (x5.From == x16.From) (fun hb19=>?_) (fun hb19=>?_)
          ·replace h:=bT hb19 h
           refine Rn.fldP (o':=1) (gw rfl hb19) rfl rfl (Rn.load (v:=(i_ x5.Event)) (gw rfl hb19) rfl (Ql rfl) rfl rfl (Rn.fldP (o':=1) (gw rfl hb19) rfl rfl (Rn.load (v:=(i_ x16.Event)) (gw rfl hb19) rfl (Ql rfl) rfl rfl (Rn.bin (gw rfl hb19) rfl rfl rfl (Rn.pickT (v:=(b_ (decide (x5.Event≤x16.Event)))) (gw rfl hb18) rfl hb19 rfl (Rn.pickF (v:=(b_ (decide (x5.Event≤x16.Event)))) tv rfl hb18 rfl (Rn.nil ?_)))))))
           replace h:=si h; subst h
           exact Qh [] ⟨(kPtr rfl),(sm rfl),(sm rfl),(sm rfl),(sm rfl),tv⟩ ⟨⟨_,rfl,rfl,(.same rfl)⟩,⟨_,rfl,rfl,(.same rfl)⟩,⟨_,rfl,rfl,(.same rfl)⟩,tv⟩ rfl
          ·replace h:=bF hb19 h
           refine Rn.sk (nw rfl hb19) (Rn.sk (nw rfl hb19) (Rn.sk (nw rfl hb19) (Rn.sk (nw rfl hb19) (Rn.sk (nw rfl hb19) (Rn.pickF (v:=(b_ false)) (gw rfl hb18) rfl hb19 rfl (Rn.pickF (v:=(b_ false)) tv rfl hb18 rfl (Rn.nil ?_)))))))
           replace h:=si h; subst h
           exact Qh [] ⟨(kPtr rfl),(sm rfl),(sm rfl),(sm rfl),(sm rfl),tv⟩ ⟨⟨_,rfl,rfl,(.same rfl)⟩,⟨_,rfl,rfl,(.same rfl)⟩,⟨_,rfl,rfl,(.same rfl)⟩,tv⟩ rfl
        ·obtain ⟨x20,rfl⟩ : ∃ x,x = z:=⟨_,rfl⟩
         refine Tr.cond rfl (fun hb21=>?_) (fun hb21=>?_)
         ·replace h:=bT hb21 h
          refine sr ((md rfl (nt ((Tr.ret ?_)))))
          replace h:=si h; subst h
          exact ⟨.inr rfl,(i_ 5),rfl,fun _ _ _ _ h=>h,tv,fun k hk=>Qc hk⟩
         ·replace h:=bF hb21 h
          refine Tr.skip ?_
          exact ⟨_,h,(by exact Qh [5] ⟨(kPtr rfl),(sm rfl),(sm rfl),(sm rfl),tv⟩ ⟨⟨_,rfl,rfl,(.same rfl)⟩,⟨_,rfl,rfl,(.same rfl)⟩,tv⟩ rfl)⟩
   ·obtain ⟨c22,c23,c24⟩:=z
    refine Tr.rgn (Rn.bin tv rfl rfl rfl (md rfl (Rn.nil ?_)))
    exact ⟨_,h,(by exact Qm ⟨(kPtr rfl),(sm rfl),(sm rfl),(sm rfl),tv⟩ ⟨⟨_,rfl,rfl,(.same rfl)⟩,tv⟩ rfl)⟩
  ·replace h:=ifF hb4 h
   refine Tr.exit (toN (sr ((md rfl (nt ((Tr.ret ?_)))))))
   replace h:=si h; subst h
   exact ⟨.inr rfl,(i_ 0),rfl,fun _ _ _ _ h=>h,tv,fun k hk=>Qc hk⟩
theorem Qzj {P:Program} {c:Nat} {Qba:(List Int)→Int→Option Int} {Q7:Qb→Option Int}
    (H_automaton_checkSet:Qf5 P 26 Qba)
    (H_automaton_checkEdges:Qe2 P 27 Q7) (hcf:Qj P c = some Qiu):Qbu P c (Qf Qba Q7):=by
 intro a1 r h
 refine Qbm hcf rfl fun Γ M hP hnt hM=>?_
 subst hP
 refine Tr.init [(0,(Qa a1))] rfl ?_
 unfold Qf at h
 unfold Qiu
 refine sr ((Rn.box (v:=(Qa a1)) (cs:=(Qd a1)) tv rfl rfl rfl rfl rfl (md rfl (nt ((Tr.seq (sr ((Rn.fldP (o':=0) tv rfl rfl (Rn.load (v:=(l_ a1.Alphabet)) tv rfl (Ql rfl) rfl rfl ?_))))))))))
 obtain ⟨x3,h2,h⟩:=bnd h
 refine Rn.call (args:=[(l_ a1.Alphabet),(i_ 32)]) tv rfl (H_automaton_checkSet _ _ _ h2) pc9 (md rfl (nt ((sr ((md rfl (Rn.bin tv rfl rfl rfl (Rn.nil (toN ?_)))))))))
 refine Tr.cond rfl (fun hb4=>?_) (fun hb4=>?_)
 ·replace h:=bT hb4 h
  refine sr ((md rfl (md rfl (nt ((Tr.ret ?_))))))
  replace h:=si h; subst h
  exact ⟨.inr rfl,(i_ x3),rfl,fun _ _ _ _ h=>h,tv,fun k hk=>Qc hk⟩
 ·replace h:=bF hb4 h
  refine Tr.skip (toN (Tr.seq (Tr.block (sr ((Rn.fldP (o':=1) tv rfl rfl (Rn.load (v:=(i_ a1.States)) tv rfl (Ql rfl) rfl rfl (Rn.bin tv rfl rfl rfl (md rfl (Rn.nil (toN ?_)))))))))))
  refine Tr.cond rfl (fun hb5=>?_) (fun hb5=>?_)
  ·replace h:=ifT hb5 h
   refine sr ((md rfl (nt ((Tr.ret ?_)))))
   replace h:=si h; subst h
   exact ⟨.inr rfl,(i_ 2),rfl,fun _ _ _ _ h=>h,tv,fun k hk=>Qc hk⟩
  ·replace h:=ifF hb5 h
   refine sr ((Rn.fldP (o':=1) tv rfl rfl (Rn.load (v:=(i_ a1.States)) tv rfl (Ql rfl) rfl rfl (Rn.bin tv rfl rfl rfl (md rfl (Rn.nil (toN ?_)))))))
   refine Tr.cond rfl (fun hb6=>?_) (fun hb6=>?_)
   ·replace h:=ifT hb6 h
    refine sr ((md rfl (nt ((Tr.ret ?_)))))
    replace h:=si h; subst h
    exact ⟨.inr rfl,(i_ 3),rfl,fun _ _ _ _ h=>h,tv,fun k hk=>Qc hk⟩
   ·replace h:=ifF hb6 h
    refine Tr.skip (toN (Tr.seq (sr ((Rn.fldP (o':=2) tv rfl rfl (Rn.load (v:=(l_ a1.Marked)) tv rfl (Ql rfl) rfl rfl (Rn.fldP (o':=1) tv rfl rfl (Rn.load (v:=(i_ a1.States)) tv rfl (Ql rfl) rfl rfl ?_))))))))
    obtain ⟨x8,h7,h⟩:=bnd h
    refine Rn.call (args:=[(l_ a1.Marked),(i_ a1.States)]) tv rfl (H_automaton_checkSet _ _ _ h7) pc9 (md rfl (nt ((sr ((md rfl (Rn.bin tv rfl rfl rfl (Rn.nil (toN ?_)))))))))
    refine Tr.cond rfl (fun hb9=>?_) (fun hb9=>?_)
    ·replace h:=bT hb9 h
     refine sr ((md rfl (md rfl (nt ((Tr.ret ?_))))))
     replace h:=si h; subst h
     exact ⟨.inr rfl,(i_ x8),rfl,fun _ _ _ _ h=>h,tv,fun k hk=>Qc hk⟩
    ·replace h:=bF hb9 h
     refine Tr.skip (toN (sr ((Rn.load (v:=(Qa a1)) tv rfl (Ql rfl) rfl rfl ?_))))
     obtain ⟨x11,h10,h⟩:=bnd h
     refine Rn.call (args:=[(Qa a1)]) tv rfl (H_automaton_checkEdges _ _ h10) pc9 (md rfl (nt ((Tr.ret ?_))))
     replace h:=si h; subst h
     exact ⟨.inr rfl,(i_ x11),rfl,fun _ _ _ _ h=>h,tv,fun k hk=>Qc hk⟩
theorem Qmp {P:Program} {c:Nat} {Qf:Qb→Option Int}
    (H_automaton_Check:Qbu P 13 Qf) (hcf:Qj P c = some Qe5):Qe4 P c (Q8 Qf):=by
 intro a1 state2 r h
 refine Qbm hcf rfl fun Γ M hP hnt hM=>?_
 subst hP
 refine Tr.init [(0,(Qa a1)),(1,(i_ state2))] rfl ?_
 unfold Q8 at h
 unfold Qe5
 refine sr ((Rn.box (v:=(Qa a1)) (cs:=(Qd a1)) tv rfl rfl rfl rfl rfl (md rfl (nt ((Tr.seq (sr ((Rn.load (v:=(Qa a1)) tv rfl (Ql rfl) rfl rfl ?_)))))))))
 obtain ⟨x4,h3,h⟩:=bnd h
 refine Rn.call (args:=[(Qa a1)]) tv rfl (H_automaton_Check _ _ h3) pc9 (md rfl (nt ((sr ((md rfl (Rn.bin tv rfl rfl rfl (Rn.nil (toN ?_)))))))))
 refine Tr.cond rfl (fun hb5=>?_) (fun hb5=>?_)
 ·replace h:=bT hb5 h
  refine sr ((md rfl (md rfl (nt ((Tr.ret ?_))))))
  replace h:=si h; subst h
  exact ⟨.inr rfl,(i_ x4),rfl,fun _ _ _ _ h=>h,tv,fun k hk=>Qc hk⟩
 ·replace h:=bF hb5 h
  refine Tr.skip (toN (Tr.seq ?_))
  refine Tr.cutB (fun (x7:Bool)=>⟨look [(18,(b_ x7))],Qk Γ.n0 (bxs [(2,.cells ((Qd a1)))]) M,Γ.n0 + 19⟩) h (fun z h=>?_) (fun z h=>?_)
  ·refine Tr.rgn (md rfl (Rn.bin tv rfl rfl rfl (md rfl ?_)))
   refine Qbs (decide (state2 < 0)) (fun hb6=>?_) (fun hb6=>?_)
   ·replace h:=ifT hb6 h
    refine Rn.sk (nw rfl hb6) (Rn.sk (nw rfl hb6) (Rn.sk (nw rfl hb6) (Rn.sk (nw rfl hb6) (Rn.pickT (v:=(b_ true)) tv rfl hb6 rfl (Rn.nil ?_)))))
    replace h:=si h; subst h
    exact Qh [] ⟨(sm rfl),tv⟩ ⟨⟨_,rfl,rfl,(.same rfl)⟩,tv⟩ rfl
   ·replace h:=ifF hb6 h
    refine Rn.movD (gw rfl hb6) rfl (Rn.fldP (o':=1) (gw rfl hb6) rfl rfl (Rn.load (v:=(i_ a1.States)) (gw rfl hb6) rfl (Ql rfl) rfl rfl (Rn.bin (gw rfl hb6) rfl rfl rfl (Rn.pickF (v:=(b_ (decide (state2≥a1.States)))) tv rfl hb6 rfl (Rn.nil ?_)))))
    replace h:=si h; subst h
    exact Qh [] ⟨(sm rfl),tv⟩ ⟨⟨_,rfl,rfl,(.same rfl)⟩,tv⟩ rfl
  ·obtain ⟨x7,rfl⟩ : ∃ x,x = z:=⟨_,rfl⟩
   refine Tr.cond rfl (fun hb8=>?_) (fun hb8=>?_)
   ·replace h:=bT hb8 h
    refine sr ((md rfl (nt ((Tr.ret ?_)))))
    replace h:=si h; subst h
    exact ⟨.inr rfl,(i_ 2),rfl,fun _ _ _ _ h=>h,tv,fun k hk=>Qc hk⟩
   ·replace h:=bF hb8 h
    refine Tr.skip (toN (sr ((md rfl (nt ((Tr.ret ?_)))))))
    replace h:=si h; subst h
    exact ⟨.inr rfl,(i_ 0),rfl,fun _ _ _ _ h=>h,tv,fun k hk=>Qc hk⟩
theorem Qii {P:Program} {c:Nat} (hcf:Qj P c = some Qdd) (fuel:Nat):Qdc P c (Qt fuel):=by
 intro x1 target2 cmp3 g4 cp5 r h
 intro M nb hc6 ho8 hf7
 refine Q40 hcf rfl M nb fun Γ hP hnt hn0 hM=>?_
 subst hP hn0
 refine Tr.init [(0,.d (.lst 3 (List.map Qe x1))),(1,(i_ target2)),(2,.clo g4 cp5)] rfl ?_
 unfold Qt at h
 unfold Qdd
 refine sr ((md rfl (md rfl (nt ((sr ((md rfl (Rn.lenD tv rfl (md rfl (nt ((sr ((md rfl (md rfl (md rfl (Rn.nil (toN ?_)))))))))))))))))))
 refine Tr.cutB (fun (i20:Int)=>⟨look [(0,.d (.lst 3 (List.map Qe x1))),(1,(i_ target2)),(2,.clo g4 cp5),(8,(i_ (x1.length:Int))),(9,(i_ i20))],Qk Γ.n0 (bxs []) M,Γ.n0 + 49⟩) h (fun z h=>?_) (fun z h=>?_)
 ·refine Tr.block ?_
  refine Tr.loop (mk:=fun ((i11,j12):Int×Int)=>⟨look [(0,.d (.lst 3 (List.map Qe x1))),(1,(i_ target2)),(2,.clo g4 cp5),(8,(i_ (x1.length:Int))),(9,(i_ i11)),(10,(i_ j12))],Qk Γ.n0 (bxs []) M,Γ.n0 + 49⟩) h (by exact Qm ⟨(sm rfl),(sm rfl),(kFun hM ho8),(sm rfl),(sm rfl),(sm rfl),tv⟩ tv rfl) (fun k13 z h=>?_)
  ·obtain ⟨i11,j12⟩:=z
   replace h:_ = some _:=h
   refine Tr.seq (sr ((md rfl (md rfl (Rn.bin tv rfl rfl rfl (Rn.nil (toN ?_)))))))
   refine Tr.cond rfl (fun hb14=>?_) (fun hb14=>?_)
   ·replace h:=ifT hb14 h
    refine Tr.skip (toN (Tr.block (sr ((md rfl (md rfl (Rn.bin tv rfl rfl rfl (Rn.conv tv rfl (Rn.bin tv rfl rfl rfl (Rn.conv tv rfl (md rfl (nt ((sr ((Rn.mov (v:=.clo g4 cp5) tv rfl (md rfl (md rfl ?_))))))))))))))))))
    obtain ⟨x15,h16,h⟩:=bnd h
    refine Rn.idxD (e:=Qe) tv rfl rfl h16 (Rn.loadCA (vs:=(Qb5 x15)) tv rfl rfl rfl (md rfl ?_))
    obtain ⟨x18,h17,h⟩:=bnd h
    refine Rn.callvM (args:=[(Qcn x15),(i_ target2)] ++ cp5) tv rfl (by rw [hc6]; rfl) (fun M2 nb2 hn hx=>hf7 _ _ _ h17 M2 nb2 (by omega) ((Q6d hM).trans hx)) rfl pc9 ?_
    refine Rn.bin tv rfl rfl rfl (Rn.nil (toN ?_))
    refine Tr.cond rfl (fun hb19=>?_) (fun hb19=>?_)
    ·replace h:=ifT hb19 h
     refine Tr.rgn (md rfl (Rn.bin tv rfl rfl rfl (md rfl (Rn.nil ?_))))
     exact ⟨_,h,(by exact Qm ⟨(sm rfl),(sm rfl),(kFun hM ho8),(sm rfl),(sm rfl),(sm rfl),tv⟩ tv rfl)⟩
    ·replace h:=ifF hb19 h
     refine Tr.rgn (md rfl (md rfl (Rn.nil ?_)))
     exact ⟨_,h,(by exact Qm ⟨(sm rfl),(sm rfl),(kFun hM ho8),(sm rfl),(sm rfl),(sm rfl),tv⟩ tv rfl)⟩
   ·replace h:=ifF hb14 h
    refine Tr.exit ?_
    replace h:=si h; subst h
    exact Qh [] ⟨(sm rfl),(sm rfl),(kFun hM ho8),(sm rfl),(sm rfl),tv⟩ tv rfl
 ·obtain ⟨i20,rfl⟩ : ∃ x,x = z:=⟨_,rfl⟩
  refine sr ((md rfl (md rfl (md rfl (Rn.bin tv rfl rfl rfl (md rfl ?_))))))
  refine Qbs (decide (i20 < (x1.length:Int))) (fun hb21=>?_) (fun hb21=>?_)
  ·replace h:=ifT hb21 h
   refine Rn.mov (v:=.clo g4 cp5) (gw rfl hb21) rfl (Rn.movD (gw rfl hb21) rfl (Rn.movD (gw rfl hb21) rfl ?_))
   obtain ⟨x22,h23,h⟩:=bnd h
   refine Rn.idxD (e:=Qe) (gw rfl hb21) rfl rfl h23 (Rn.loadCA (vs:=(Qb5 x22)) (gw rfl hb21) rfl rfl rfl (Rn.movD (gw rfl hb21) rfl ?_))
   obtain ⟨x25,h24,h⟩:=bnd h
   refine Rn.callvM (args:=[(Qcn x22),(i_ target2)] ++ cp5) (gw rfl hb21) rfl (by rw [hc6]; rfl) (fun M2 nb2 hn hx=>hf7 _ _ _ h24 M2 nb2 (by omega) ((Q6d hM).trans hx)) rfl pc9 ?_
   refine Rn.bin (gw rfl hb21) rfl rfl rfl (Rn.pickT (v:=(b_ (x25 == 0))) tv rfl hb21 rfl (md rfl (md rfl (nt ((Tr.ret ?_))))))
   replace h:=si h; subst h
   exact ⟨.inr rfl,.tup [(i_ i20),(b_ (x25 == 0))],res2 rfl rfl,(WkV.tup (.cons (.same rfl) (.cons (.same rfl) .nil))).rd,⟨tv,tv,tv⟩,fun k hk=>Qc hk⟩
  ·replace h:=ifF hb21 h
   refine Rn.sk (nw rfl hb21) (Rn.sk (nw rfl hb21) (Rn.sk (nw rfl hb21) (Rn.sk (nw rfl hb21) (Rn.sk (nw rfl hb21) (Rn.sk (nw rfl hb21) (Rn.sk (nw rfl hb21) (Rn.sk (nw rfl hb21) (Rn.pickF (v:=(b_ false)) tv rfl hb21 rfl (md rfl (md rfl (nt ((Tr.ret ?_)))))))))))))
   replace h:=si h; subst h
   exact ⟨.inr rfl,.tup [(i_ i20),(b_ false)],res2 rfl rfl,(WkV.tup (.cons (.same rfl) (.cons (.same rfl) .nil))).rd,⟨tv,tv,tv⟩,fun k hk=>Qc hk⟩
theorem Qzk {P:Program} {c:Nat} (hcf:Qj P c = some Qi5):Qi4 P c (Qcr):=by
 intro x1 s2 r h
 refine Qbm hcf rfl fun Γ M hP hnt hM=>?_
 subst hP
 refine Tr.init [(0,(Qcn x1)),(1,(i_ s2))] rfl ?_
 unfold Qcr at h
 unfold Qi5
 refine sr ((Rn.box (v:=(Qcn x1)) (cs:=(Qb5 x1)) tv rfl rfl rfl rfl rfl (md rfl (nt ((sr ((Rn.fldP (o':=0) tv rfl rfl (Rn.load (v:=(i_ x1.From)) tv rfl (Ql rfl) rfl rfl (md rfl (Rn.bin tv rfl rfl rfl (md rfl (nt ((Tr.ret ?_)))))))))))))))
 replace h:=si h; subst h
 exact ⟨.inr rfl,(i_ (IntKind.wrap .i64 (x1.From - s2))),rfl,fun _ _ _ _ h=>h,tv,fun k hk=>Qc hk⟩
theorem Qzl {P:Program} {c:Nat} (hcf:Qj P c = some Qi7):Qi6 P c (Qcs):=by
 intro x1 s2 r h
 refine Qbm hcf rfl fun Γ M hP hnt hM=>?_
 subst hP
 refine Tr.init [(0,(Qcn x1)),(1,(i_ s2))] rfl ?_
 unfold Qcs at h
 unfold Qi7
 refine sr ((Rn.box (v:=(Qcn x1)) (cs:=(Qb5 x1)) tv rfl rfl rfl rfl rfl (md rfl (nt ((sr ((Rn.fldP (o':=0) tv rfl rfl (Rn.load (v:=(i_ x1.From)) tv rfl (Ql rfl) rfl rfl (md rfl (Rn.bin tv rfl rfl rfl (md rfl (nt ((Tr.ret ?_)))))))))))))))
 replace h:=si h; subst h
 exact ⟨.inr rfl,(i_ (IntKind.wrap .i64 (x1.From - s2))),rfl,fun _ _ _ _ h=>h,tv,fun k hk=>Qc hk⟩
theorem Q22 {P:Program} {c:Nat} {Qt:(List Qi)→Int→(Qi→Int→Option Int)→Option (Int×Bool)} {Qcr:Qi→Int→Option Int} {Qcs:Qi→Int→Option Int}
    (H_slices_BinarySearchFunc_int:Qdc P 87 Qt)
    (H_automaton_out_1:Qi4 P 88 Qcr)
    (H_automaton_out_2:Qi6 P 89 Qcs) (hcf:Qj P c = some Qk0):Qh0 P c (Qbl Qt Qcr Qcs):=by
 intro a1 state2 r h
 refine Qbm hcf rfl fun Γ M hP hnt hM=>?_
 subst hP
 refine Tr.init [(0,(Qa a1)),(1,(i_ state2))] rfl ?_
 unfold Qbl at h
 unfold Qk0
 refine sr ((Rn.box (v:=(Qa a1)) (cs:=(Qd a1)) tv rfl rfl rfl rfl rfl (Rn.movTC (v:=.nils 3) tv (nt ((sr ((Rn.fldP (o':=3) tv rfl rfl (Rn.load (v:=.d (.lst 3 (List.map Qe a1.Edges))) tv rfl (Ql rfl) rfl rfl (md rfl ?_))))))))))
 obtain ⟨⟨r8,r9⟩,h7,h⟩:=bnd h
 refine Rn.callM (args:=[.d (.lst 3 (List.map Qe a1.Edges)),(i_ state2),.clo 88 []]) tv rfl (fun M2 nb2 hn hx=>H_slices_BinarySearchFunc_int _ _ _ 88 [] _ h7 M2 nb2 rfl tv (fun a3 a4 r5 h6 M3 nb3 hn3 hx3=>H_automaton_out_1 a3 a4 r5 h6 M3 nb3 )) rfl pc9 ?_
 refine Rn.mov (v:=.tup [(i_ r8),(b_ r9)]) tv rfl (Rn.ext (v:=(i_ r8)) (vs:=[(i_ r8),(b_ r9)]) tv rfl rfl rfl (Rn.ext (v:=(b_ r9)) (vs:=[(i_ r8),(b_ r9)]) tv rfl rfl rfl (md rfl (md rfl (nt ((sr ((Rn.fldP (o':=3) tv rfl rfl (Rn.load (v:=.d (.lst 3 (List.map Qe a1.Edges))) tv rfl (Ql rfl) rfl rfl (md rfl (Rn.bin tv rfl rfl rfl ?_))))))))))))
 obtain ⟨⟨r15,r16⟩,h14,h⟩:=bnd h
 refine Rn.callM (args:=[.d (.lst 3 (List.map Qe a1.Edges)),(i_ (IntKind.wrap .i64 (state2 + 1))),.clo 89 []]) tv rfl (fun M2 nb2 hn hx=>H_slices_BinarySearchFunc_int _ _ _ 89 [] _ h14 M2 nb2 rfl tv (fun a10 a11 r12 h13 M3 nb3 hn3 hx3=>H_automaton_out_2 a10 a11 r12 h13 M3 nb3 )) rfl pc9 ?_
 refine Rn.mov (v:=.tup [(i_ r15),(b_ r16)]) tv rfl (Rn.ext (v:=(i_ r15)) (vs:=[(i_ r15),(b_ r16)]) tv rfl rfl rfl (Rn.ext (v:=(b_ r16)) (vs:=[(i_ r15),(b_ r16)]) tv rfl rfl rfl (md rfl (md rfl (nt ((sr ((Rn.fldP (o':=3) tv rfl rfl (Rn.load (v:=.d (.lst 3 (List.map Qe a1.Edges))) tv rfl (Ql rfl) rfl rfl (md rfl (md rfl ?_))))))))))))
 obtain ⟨x17,h18,h⟩:=bnd h
 refine Rn.slc2 (e:=Qe) tv rfl rfl rfl h18 (Rn.movTD tv rfl (nt ((Tr.ret ?_))))
 replace h:=si h; subst h
 exact ⟨.inr rfl,(.d (.lst 3 (List.map Qe x17))),rfl,fun _ _ _ _ h=>h,tv,fun k hk=>Qc hk⟩
theorem Qtv {P:Program} {c:Nat} {Q8:Qb→Int→Option Int} {Qbl:Qb→Int→Option ((List Qi))}
    (H_automaton_checkState:Qe4 P 64 Q8)
    (H_automaton_out:Qh0 P 65 Qbl) (hcf:Qj P c = some Qg4) (fuel:Nat):Qg3 P c (Qbp Q8 Qbl fuel):=by
 intro a1 state2 r h
 refine Qbm hcf rfl fun Γ M hP hnt hM=>?_
 subst hP
 refine Tr.init [(0,(Qa a1)),(1,(i_ state2))] rfl ?_
 unfold Qbp at h
 unfold Qg4
 refine sr ((Rn.box (v:=(Qa a1)) (cs:=(Qd a1)) tv rfl rfl rfl rfl rfl (Rn.movTC (v:=.nils 1) tv (md rfl (nt ((Tr.seq (sr ((Rn.load (v:=(Qa a1)) tv rfl (Ql rfl) rfl rfl (md rfl ?_)))))))))))
 obtain ⟨x4,h3,h⟩:=bnd h
 refine Rn.call (args:=[(Qa a1),(i_ state2)]) tv rfl (H_automaton_checkState _ _ _ h3) pc9 (md rfl (nt ((sr ((md rfl (Rn.bin tv rfl rfl rfl (Rn.nil (toN ?_)))))))))
 refine Tr.cond rfl (fun hb5=>?_) (fun hb5=>?_)
 ·replace h:=bT hb5 h
  refine sr ((md rfl (Rn.movTC (v:=.nils 1) tv (md rfl (nt ((Tr.ret ?_)))))))
  replace h:=si h; subst h
  exact ⟨.inr rfl,.tup [.nils 1,(i_ x4)],res2 rfl rfl,(WkV.tup (.cons (WkV.nilsO _) (.cons (.same rfl) .nil))).rd,⟨tv,tv,tv⟩,fun k hk=>Qc hk⟩
 ·replace h:=bF hb5 h
  refine Tr.skip (toN (sr ((Rn.movTC (v:=.nils 1) tv (Rn.nil (toN ?_))))))
  refine Tr.cutB (fun (l16:List Int)=>⟨look [(7,(o_ l16))],Qk Γ.n0 (bxs [(2,.cells ((Qd a1)))]) M,Γ.n0 + 31⟩) h (fun z h=>?_) (fun z h=>?_)
  ·refine sr ((Rn.load (v:=(Qa a1)) tv rfl (Ql rfl) rfl rfl (md rfl ?_)))
   obtain ⟨x7,h6,h⟩:=bnd h
   refine Rn.call (args:=[(Qa a1),(i_ state2)]) tv rfl (H_automaton_out _ _ _ h6) pc9 (Rn.lenD tv rfl (md rfl (nt ((Tr.block ?_)))))
   refine Tr.loop (mk:=fun ((l8,x9):(List Int)×Int)=>⟨look [(7,(o_ l8)),(18,.d (.lst 3 (List.map Qe x7))),(19,(i_ (x7.length:Int))),(20,(i_ x9))],Qk Γ.n0 (bxs [(2,.cells ((Qd a1)))]) M,Γ.n0 + 31⟩) h (by exact Qm ⟨(WkV.nilsO _),(sm rfl),(sm rfl),(sm rfl),tv⟩ ⟨⟨_,rfl,rfl,(.same rfl)⟩,tv⟩ rfl) (fun k10 z h=>?_)
   ·obtain ⟨l8,x9⟩:=z
    replace h:_ = some _:=h
    refine sr ((Rn.bin tv rfl rfl rfl (nt ((Tr.seq ?_)))))
    refine Tr.cond rfl (fun hb11=>?_) (fun hb11=>?_)
    ·replace h:=ifT hb11 h
     refine Tr.skip (toN (Tr.seq (Tr.block (Tr.seq (Tr.rgn ?_)))))
     obtain ⟨x12,h13,h⟩:=bnd h
     refine Rn.idxD (e:=Qe) tv rfl rfl h13 (Rn.loadCA (vs:=(Qb5 x12)) tv rfl rfl rfl (Rn.alloc tv rfl (Rn.store (v:=(Qcn x12)) (cs':=(Qb5 x12)) tv rfl rfl rfl rfl rfl rfl (nt ((Tr.rgn (Rn.movTO tv rfl (Rn.fldP (o':=1) tv rfl rfl (Rn.load (v:=(i_ x12.Event)) tv rfl (Ql rfl) rfl rfl (Rn.bslice (xs:=[(i_ x12.Event)]) (cs:=[(i_ x12.Event)]) tv rfl rfl rfl rfl ?_))))))))))
     obtain ⟨x14,h15,h⟩:=bnd h
     refine Rn.app (e:=(eI .i64)) tv rfl rfl rfl (Qjj rfl rfl rfl) h15 rfl (Rn.movTO tv rfl (nt ((Tr.rgn (Rn.bin tv rfl rfl rfl (md rfl (Rn.nil ?_)))))))
     exact ⟨_,h,(by exact Qm ⟨(sm rfl),(sm rfl),(sm rfl),(sm rfl),tv⟩ ⟨⟨_,rfl,rfl,(.same rfl)⟩,tv⟩ rfl)⟩
    ·replace h:=ifF hb11 h
     refine Tr.exit ?_
     replace h:=si h; subst h
     exact Qh [] ⟨(sm rfl),tv⟩ ⟨⟨_,rfl,rfl,(.same rfl)⟩,tv⟩ rfl
  ·obtain ⟨l16,rfl⟩ : ∃ x,x = z:=⟨_,rfl⟩
   refine sr ((Rn.movTO tv rfl (Rn.movTO tv rfl (md rfl (nt ((Tr.ret ?_)))))))
   replace h:=si h; subst h
   exact ⟨.inr rfl,.tup [(o_ l16),(i_ 0)],res2 rfl rfl,(WkV.tup (.cons (.same rfl) (.cons (.same rfl) .nil))).rd,⟨tv,tv,tv⟩,fun k hk=>Qc hk⟩
theorem Qwg {P:Program} {c:Nat} (hcf:Qj P c = some Qh2):Qh1 P c (Qcj):=by
 intro inA1 inB2 r h
 refine Qbm hcf rfl fun Γ M hP hnt hM=>?_
 subst hP
 refine Tr.init [(0,(b_ inA1)),(1,(b_ inB2))] rfl ?_
 unfold Qcj at h
 unfold Qh2
 refine sr ((md rfl (nt ((sr ((md rfl (md rfl ?_))))))))
 refine Qbs inA1 (fun hb3=>?_) (fun hb3=>?_)
 ·replace h:=bT hb3 h
  refine Rn.movD (gw rfl hb3) rfl (Rn.un (gw rfl hb3) rfl rfl (Rn.pickT (v:=(b_ (!inB2))) tv rfl hb3 rfl (md rfl (nt ((Tr.ret ?_))))))
  replace h:=si h; subst h
  exact ⟨.inr rfl,(b_ (!inB2)),rfl,fun _ _ _ _ h=>h,tv,fun k hk=>Qc hk⟩
 ·replace h:=bF hb3 h
  refine Rn.sk (nw rfl hb3) (Rn.sk (nw rfl hb3) (Rn.pickF (v:=(b_ false)) tv rfl hb3 rfl (md rfl (nt ((Tr.ret ?_))))))
  replace h:=si h; subst h
  exact ⟨.inr rfl,(b_ false),rfl,fun _ _ _ _ h=>h,tv,fun k hk=>Qc hk⟩
theorem Q07 {P:Program} {c:Nat} {Qu:(List Int)→(List Int)→(Bool→Bool→Option Bool)→Option ((List Int))} {Qcj:Bool→Bool→Option Bool}
    (H_alphabet_merge:Qeo P 66 Qu)
    (H_alphabet_Minus_1:Qh1 P 67 Qcj) (hcf:Qj P c = some Qjv):Qju P c (Qc3 Qu Qcj):=by
 intro a1 b2 r h
 refine Qbm hcf rfl fun Γ M hP hnt hM=>?_
 subst hP
 refine Tr.init [(0,(l_ a1)),(1,(l_ b2))] rfl ?_
 unfold Qc3 at h
 unfold Qjv
 refine sr ((Rn.movTC (v:=.nils 1) tv (nt ((sr ((md rfl (md rfl ?_))))))))
 obtain ⟨x8,h7,h⟩:=bnd h
 refine Rn.callM (args:=[(l_ a1),(l_ b2),.clo 67 []]) tv rfl (fun M2 nb2 hn hx=>H_alphabet_merge _ _ _ 67 [] _ h7 M2 nb2 rfl tv (fun a3 a4 r5 h6 M3 nb3 hn3 hx3=>H_alphabet_Minus_1 a3 a4 r5 h6 M3 nb3 )) rfl pc9 ?_
 refine Rn.movTO tv rfl (nt ((Tr.ret ?_)))
 replace h:=si h; subst h
 exact ⟨.inr rfl,(o_ x8),rfl,fun _ _ _ _ h=>h,tv,fun k hk=>Qc hk⟩
theorem Qo4 {P:Program} {c:Nat} {Qbp:Qb→Int→Option ((List Int)×Int)} {Qc3:(List Int)→(List Int)→Option ((List Int))}
    (H_automaton_Enabled:Qg3 P 29 Qbp)
    (H_alphabet_Minus:Qju P 30 Qc3) (hcf:Qj P c = some Qfk):Qdu P c (Qr Qbp Qc3):=by
 intro a1 state2 r h
 refine Qbm hcf rfl fun Γ M hP hnt hM=>?_
 subst hP
 refine Tr.init [(0,(Qa a1)),(1,(i_ state2))] rfl ?_
 unfold Qr at h
 unfold Qfk
 refine sr ((Rn.box (v:=(Qa a1)) (cs:=(Qd a1)) tv rfl rfl rfl rfl rfl (Rn.movTC (v:=.nils 1) tv (md rfl (nt ((sr ((Rn.load (v:=(Qa a1)) tv rfl (Ql rfl) rfl rfl (md rfl ?_))))))))))
 obtain ⟨⟨r4,r5⟩,h3,h⟩:=bnd h
 refine Rn.call (args:=[(Qa a1),(i_ state2)]) tv rfl (H_automaton_Enabled _ _ _ h3) pc9 (Rn.mov (v:=.tup [(l_ r4),(i_ r5)]) tv rfl (Rn.extTD (vs:=[(l_ r4),(i_ r5)]) tv rfl rfl rfl (Rn.ext (v:=(i_ r5)) (vs:=[(l_ r4),(i_ r5)]) tv rfl rfl rfl (Rn.movTD tv rfl (md rfl (nt ((Tr.seq (sr ((md rfl (Rn.bin tv rfl rfl rfl (Rn.nil (toN ?_))))))))))))))
 refine Tr.cond rfl (fun hb6=>?_) (fun hb6=>?_)
 ·replace h:=bT hb6 h
  refine sr ((md rfl (Rn.movTC (v:=.nils 1) tv (md rfl (nt ((Tr.ret ?_)))))))
  replace h:=si h; subst h
  exact ⟨.inr rfl,.tup [.nils 1,(i_ r5)],res2 rfl rfl,(WkV.tup (.cons (WkV.nilsO _) (.cons (.same rfl) .nil))).rd,⟨tv,tv,tv⟩,fun k hk=>Qc hk⟩
 ·replace h:=bF hb6 h
  refine Tr.skip (toN (sr ((Rn.fldP (o':=0) tv rfl rfl (Rn.load (v:=(l_ a1.Alphabet)) tv rfl (Ql rfl) rfl rfl (md rfl ?_))))))
  obtain ⟨x8,h7,h⟩:=bnd h
  refine Rn.call (args:=[(l_ a1.Alphabet),(l_ r4)]) tv rfl (H_alphabet_Minus _ _ _ h7) pc9 (Rn.movTO tv rfl (md rfl (nt ((Tr.ret ?_)))))
  replace h:=si h; subst h
  exact ⟨.inr rfl,.tup [(o_ x8),(i_ 0)],res2 rfl rfl,(WkV.tup (.cons (.same rfl) (.cons (.same rfl) .nil))).rd,⟨tv,tv,tv⟩,fun k hk=>Qc hk⟩
theorem Qwh {P:Program} {c:Nat} (hcf:Qj P c = some Qh4) (fuel:Nat):Qh3 P c (Qb1 fuel):=by
 intro s1 s2 r h
 refine Qbm hcf rfl fun Γ M hP hnt hM=>?_
 subst hP
 refine Tr.init [(0,(l_ s1)),(1,(l_ s2))] rfl ?_
 unfold Qb1 at h
 unfold Qh4
 refine sr ((md rfl (nt ((Tr.seq (sr ((md rfl (Rn.lenD tv rfl (md rfl (Rn.lenD tv rfl (Rn.bin tv rfl rfl rfl (Rn.nil (toN ?_))))))))))))))
 refine Tr.cond rfl (fun hb3=>?_) (fun hb3=>?_)
 ·replace h:=bT hb3 h
  refine sr ((md rfl (nt ((Tr.ret ?_)))))
  replace h:=si h; subst h
  exact ⟨.inr rfl,(b_ false),rfl,fun _ _ _ _ h=>h,tv,fun k hk=>Qc hk⟩
 ·replace h:=bF hb3 h
  refine Tr.skip (toN (Tr.seq (sr ((md rfl (Rn.lenD tv rfl (md rfl (nt ((Tr.block ?_))))))))))
  refine Tr.loop (mk:=fun (x4:Int)=>⟨look [(0,(l_ s1)),(1,(l_ s2)),(12,(i_ (s1.length:Int))),(13,(i_ x4))],Qk Γ.n0 (bxs []) M,Γ.n0 + 26⟩) h (by exact Qm ⟨(sm rfl),(sm rfl),(sm rfl),(sm rfl),tv⟩ tv rfl) (fun k5 z h=>?_)
  ·obtain ⟨x4,rfl⟩ : ∃ x,x = z:=⟨_,rfl⟩
   replace h:_ = some _:=h
   refine sr ((Rn.bin tv rfl rfl rfl (nt ((Tr.seq ?_)))))
   refine Tr.cond rfl (fun hb6=>?_) (fun hb6=>?_)
   ·replace h:=ifT hb6 h
    refine Tr.skip (toN (Tr.seq (Tr.block (sr ((md rfl (md rfl (nt ((Tr.seq ?_))))))))))
    refine Tr.rgnD (by decide) ?_
    refine md rfl (md rfl ?_)
    obtain ⟨x7,h8,h⟩:=bnd h
    refine Rn.idxD (e:=(eI .i64)) tv rfl rfl h8 (Rn.loadC (x:=.int .i64 x7) tv rfl (md rfl (md rfl ?_)))
    obtain ⟨x9,h10,h⟩:=bnd h
    refine Rn.idxD (e:=(eI .i64)) tv rfl rfl h10 (Rn.loadC (x:=.int .i64 x9) tv rfl (Rn.bin tv rfl rfl rfl ?_))
    refine Rn.nil ⟨rfl,?_⟩
    refine toN ?_
    refine Tr.cond rfl (fun hb11=>?_) (fun hb11=>?_)
    ·replace h:=bT hb11 h
     refine sr ((md rfl (nt ((Tr.ret ?_)))))
     replace h:=si h; subst h
     exact ⟨.inr rfl,(b_ false),rfl,fun _ _ _ _ h=>h,tv,fun k hk=>Qc hk⟩
    ·replace h:=bF hb11 h
     refine Tr.skip (toN (Tr.rgn (Rn.bin tv rfl rfl rfl (md rfl (Rn.nil ?_)))))
     exact ⟨_,h,(by exact Qm ⟨(sm rfl),(sm rfl),(sm rfl),(sm rfl),tv⟩ tv rfl)⟩
   ·replace h:=ifF hb6 h
    refine Tr.exit (toN (sr ((md rfl (nt ((Tr.ret ?_)))))))
    replace h:=si h; subst h
    exact ⟨.inr rfl,(b_ true),rfl,fun _ _ _ _ h=>h,tv,fun k hk=>Qc hk⟩
theorem Qtw {P:Program} {c:Nat} (hcf:Qj P c = some Qg6) (fuel:Nat):Qg5 P c (Qb7 fuel):=by
 intro s1 s2 r h
 refine Qbm hcf rfl fun Γ M hP hnt hM=>?_
 subst hP
 refine Tr.init [(0,.d (.lst 3 (List.map Qe s1))),(1,.d (.lst 3 (List.map Qe s2)))] rfl ?_
 unfold Qb7 at h
 unfold Qg6
 refine sr ((md rfl (nt ((Tr.seq (sr ((md rfl (Rn.lenD tv rfl (md rfl (Rn.lenD tv rfl (Rn.bin tv rfl rfl rfl (Rn.nil (toN ?_))))))))))))))
 refine Tr.cond rfl (fun hb3=>?_) (fun hb3=>?_)
 ·replace h:=bT hb3 h
  refine sr ((md rfl (nt ((Tr.ret ?_)))))
  replace h:=si h; subst h
  exact ⟨.inr rfl,(b_ false),rfl,fun _ _ _ _ h=>h,tv,fun k hk=>Qc hk⟩
 ·replace h:=bF hb3 h
  refine Tr.skip (toN (Tr.seq (sr ((md rfl (Rn.lenD tv rfl (md rfl (nt ((Tr.block ?_))))))))))
  refine Tr.loop (mk:=fun (x4:Int)=>⟨look [(0,.d (.lst 3 (List.map Qe s1))),(1,.d (.lst 3 (List.map Qe s2))),(12,(i_ (s1.length:Int))),(13,(i_ x4))],Qk Γ.n0 (bxs []) M,Γ.n0 + 26⟩) h (by exact Qm ⟨(sm rfl),(sm rfl),(sm rfl),(sm rfl),tv⟩ tv rfl) (fun k5 z h=>?_)
  ·obtain ⟨x4,rfl⟩ : ∃ x,x = z:=⟨_,rfl⟩
   replace h:_ = some _:=h
   refine sr ((Rn.bin tv rfl rfl rfl (nt ((Tr.seq ?_)))))
   refine Tr.cond rfl (fun hb6=>?_) (fun hb6=>?_)
   ·replace h:=ifT hb6 h
    refine Tr.skip (toN (Tr.seq (Tr.block (sr ((md rfl (md rfl (nt ((Tr.seq ?_))))))))))
    refine Tr.rgnD (by decide) ?_
    refine md rfl (md rfl ?_)
    obtain ⟨x7,h8,h⟩:=bnd h
    refine Rn.idxD (e:=Qe) tv rfl rfl h8 (Rn.loadCA (vs:=(Qb5 x7)) tv rfl rfl rfl (md rfl (md rfl ?_)))
    obtain ⟨x9,h10,h⟩:=bnd h
    refine Rn.idxD (e:=Qe) tv rfl rfl h10 (Rn.loadCA (vs:=(Qb5 x9)) tv rfl rfl rfl (Rn.eqa (r:=((x7.From == x9.From) && ((x7.Event == x9.Event) && ((x7.To == x9.To) && true)))) tv rfl rfl rfl ?_))
    refine Rn.nil ⟨rfl,?_⟩
    refine toN ?_
    refine Tr.cond rfl (fun hb11=>?_) (fun hb11=>?_)
    ·have hb11:=nT' hb11
     replace h:=bF hb11 h
     refine sr ((md rfl (nt ((Tr.ret ?_)))))
     replace h:=si h; subst h
     exact ⟨.inr rfl,(b_ false),rfl,fun _ _ _ _ h=>h,tv,fun k hk=>Qc hk⟩
    ·have hb11:=nF' hb11
     replace h:=bT hb11 h
     refine Tr.skip (toN (Tr.rgn (Rn.bin tv rfl rfl rfl (md rfl (Rn.nil ?_)))))
     exact ⟨_,h,(by exact Qm ⟨(sm rfl),(sm rfl),(sm rfl),(sm rfl),tv⟩ tv rfl)⟩
   ·replace h:=ifF hb6 h
    refine Tr.exit (toN (sr ((md rfl (nt ((Tr.ret ?_)))))))
    replace h:=si h; subst h
    exact ⟨.inr rfl,(b_ true),rfl,fun _ _ _ _ h=>h,tv,fun k hk=>Qc hk⟩
theorem Qo5 {P:Program} {c:Nat} {Qr:Qb→Int→Option ((List Int)×Int)} {Qbb:(List Int)→Option (Qb×Int)} {Qbw:(List Int)→(List Int)→Int→Option (Qb×Int)} {Qbx:(List Qp)→Int→Option (Qb×Int)} {Qb1:(List Int)→(List Int)→Option Bool} {Qb7:(List Qi)→(List Qi)→Option Bool}
    (H_requirement_Refused:Qdu P 16 Qr)
    (H_requirement_Alternate:Qeg P 18 Qbb)
    (H_requirement_Buffer:Qf1 P 19 Qbw)
    (H_requirement_AtMost:Qf3 P 20 Qbx)
    (H_slices_Equal_int:Qh3 P 21 Qb1)
    (H_slices_Equal_Edge:Qg5 P 22 Qb7) (hcf:Qj P c = some Qfm):Qfl P c (Qbc Qr Qbb Qbw Qbx Qb1 Qb7):=by
 intro  r h
 refine Qbm hcf rfl fun Γ M hP hnt hM=>?_
 subst hP
 refine Tr.init [] rfl ?_
 unfold Qbc at h
 unfold Qfm
 refine sr ((md rfl (nt ((sr ((Rn.bslice (xs:=[(i_ 3),(i_ 1)]) (cs:=[(i_ 3),(i_ 1)]) tv rfl rfl rfl rfl ?_)))))))
 refine Rn.weak (by show WeakSt Γ _ ⟨look [(0,(b_ false)),(10,(l_ [3,1]))],Qk Γ.n0 (bxs []) M,Γ.n0 + 75⟩; exact Qfh 10 [.int .i64 3,.int .i64 1] rfl rfl ⟨(.same rfl),(fSl rfl rfl),tv⟩ tv rfl) ?_
 obtain ⟨⟨r2,r3⟩,h1,h⟩:=bnd h
 refine Rn.call (args:=[(l_ [3,1])]) tv rfl (H_requirement_Alternate _ _ h1) pc9 (Rn.mov (v:=.tup [(Qa r2),(i_ r3)]) tv rfl (Rn.ext (v:=(Qa r2)) (vs:=[(Qa r2),(i_ r3)]) tv rfl rfl rfl (Rn.ext (v:=(i_ r3)) (vs:=[(Qa r2),(i_ r3)]) tv rfl rfl rfl (Rn.alloc tv rfl (Rn.storeT (v:=(Qa r2)) (ds:=(Qd r2)) (cs':=(Qd r2)) tv rfl rfl rfl rfl rfl rfl rfl (md rfl (nt ((sr ((Rn.bslice (xs:=[(i_ 0)]) (cs:=[(i_ 0)]) tv rfl rfl rfl rfl (Rn.bslice (xs:=[(i_ 1)]) (cs:=[(i_ 1)]) tv rfl rfl rfl rfl ?_))))))))))))
 refine Rn.weak (by show WeakSt Γ _ ⟨look [(0,(b_ false)),(1,.ptr (Γ.n0 + 1) 0),(2,(i_ r3)),(9,.tup [(Qa r2),(i_ r3)]),(10,(l_ [3,1])),(11,.tup [(Qa r2),(i_ r3)]),(12,(Qa r2)),(13,(i_ r3)),(15,(l_ [0])),(16,.sl 1 (Γ.n0 + 16) 0 1 1)],Qk Γ.n0 (bxs [(1,.cells ((Qd r2))),(16,.cells ([(i_ 1)]))]) M,Γ.n0 + 75⟩; exact Qfh 15 [.int .i64 0] rfl rfl ⟨(.same rfl),(fPtr rfl),(.same rfl),(.same rfl),(.same rfl),(.same rfl),(.same rfl),(.same rfl),(fSl rfl rfl),(fSlO rfl),tv⟩ ⟨⟨_,rfl,rfl,(.same rfl)⟩,⟨_,rfl,rfl,(.same rfl)⟩,tv⟩ rfl) ?_
 refine Rn.weak (by show WeakSt Γ _ ⟨look [(0,(b_ false)),(1,.ptr (Γ.n0 + 1) 0),(2,(i_ r3)),(9,.tup [(Qa r2),(i_ r3)]),(10,(l_ [3,1])),(11,.tup [(Qa r2),(i_ r3)]),(12,(Qa r2)),(13,(i_ r3)),(15,(l_ [0])),(16,(l_ [1]))],Qk Γ.n0 (bxs [(1,.cells ((Qd r2)))]) M,Γ.n0 + 75⟩; exact Qfh 16 [.int .i64 1] rfl rfl ⟨(.same rfl),(fPtr rfl),(.same rfl),(.same rfl),(.same rfl),(.same rfl),(.same rfl),(.same rfl),(.same rfl),(fSl rfl rfl),tv⟩ ⟨⟨_,rfl,rfl,(.same rfl)⟩,tv⟩ rfl) ?_
 obtain ⟨⟨r5,r6⟩,h4,h⟩:=bnd h
 refine Rn.call (args:=[(l_ [0]),(l_ [1]),(i_ 2)]) tv rfl (H_requirement_Buffer _ _ _ _ h4) pc9 (Rn.mov (v:=.tup [(Qa r5),(i_ r6)]) tv rfl (Rn.ext (v:=(Qa r5)) (vs:=[(Qa r5),(i_ r6)]) tv rfl rfl rfl (Rn.ext (v:=(i_ r6)) (vs:=[(Qa r5),(i_ r6)]) tv rfl rfl rfl (Rn.alloc tv rfl (Rn.storeT (v:=(Qa r5)) (ds:=(Qd r5)) (cs':=(Qd r5)) tv rfl rfl rfl rfl rfl rfl rfl (md rfl (nt ((sr ((Rn.build (v:=.agg [(i_ 0),(i_ 1)]) tv rfl (Rn.build (v:=.agg [(i_ 2),(i_ 3)]) tv rfl (Rn.bslice (xs:=[.agg [(i_ 0),(i_ 1)],.agg [(i_ 2),(i_ 3)]]) (cs:=[(i_ 0),(i_ 1),(i_ 2),(i_ 3)]) tv rfl rfl rfl rfl ?_)))))))))))))
 refine Rn.weak (by show WeakSt Γ _ ⟨look [(0,(b_ false)),(1,.ptr (Γ.n0 + 1) 0),(2,(i_ r3)),(3,.ptr (Γ.n0 + 3) 0),(4,(i_ r6)),(9,.tup [(Qa r2),(i_ r3)]),(10,(l_ [3,1])),(11,.tup [(Qa r2),(i_ r3)]),(12,(Qa r2)),(13,(i_ r3)),(14,.tup [(Qa r5),(i_ r6)]),(15,(l_ [0])),(16,(l_ [1])),(17,.tup [(Qa r5),(i_ r6)]),(18,(Qa r5)),(19,(i_ r6)),(21,.agg [(i_ 0),(i_ 1)]),(22,.agg [(i_ 2),(i_ 3)]),(23,.d (.lst 2 (List.map Q6 [(Qp.mk 0 1),(Qp.mk 2 3)])))],Qk Γ.n0 (bxs [(1,.cells ((Qd r2))),(3,.cells ((Qd r5)))]) M,Γ.n0 + 75⟩; exact Qfh 23 [.int .i64 0,.int .i64 1,.int .i64 2,.int .i64 3] rfl rfl ⟨(.same rfl),(fPtr rfl),(.same rfl),(fPtr rfl),(.same rfl),(.same rfl),(.same rfl),(.same rfl),(.same rfl),(.same rfl),(.same rfl),(.same rfl),(.same rfl),(.same rfl),(.same rfl),(.same rfl),(.same rfl),(.same rfl),(fSl rfl rfl),tv⟩ ⟨⟨_,rfl,rfl,(.same rfl)⟩,⟨_,rfl,rfl,(.same rfl)⟩,tv⟩ rfl) ?_
 obtain ⟨⟨r8,r9⟩,h7,h⟩:=bnd h
 refine Rn.call (args:=[.d (.lst 2 (List.map Q6 [(Qp.mk 0 1),(Qp.mk 2 3)])),(i_ 1)]) tv rfl (H_requirement_AtMost _ _ _ h7) pc9 (Rn.mov (v:=.tup [(Qa r8),(i_ r9)]) tv rfl (Rn.ext (v:=(Qa r8)) (vs:=[(Qa r8),(i_ r9)]) tv rfl rfl rfl (Rn.ext (v:=(i_ r9)) (vs:=[(Qa r8),(i_ r9)]) tv rfl rfl rfl (Rn.alloc tv rfl (Rn.storeT (v:=(Qa r8)) (ds:=(Qd r8)) (cs':=(Qd r8)) tv rfl rfl rfl rfl rfl rfl rfl (md rfl (nt ((sr ((Rn.load (v:=(Qa r8)) tv rfl (Ql rfl) rfl rfl ?_)))))))))))
 obtain ⟨⟨r11,r12⟩,h10,h⟩:=bnd h
 refine Rn.call (args:=[(Qa r8),(i_ 1)]) tv rfl (H_requirement_Refused _ _ _ h10) pc9 (Rn.mov (v:=.tup [(l_ r11),(i_ r12)]) tv rfl (Rn.extTD (vs:=[(l_ r11),(i_ r12)]) tv rfl rfl rfl (Rn.ext (v:=(i_ r12)) (vs:=[(l_ r11),(i_ r12)]) tv rfl rfl rfl (Rn.movTD tv rfl (md rfl (Rn.nil (toN ?_)))))))
 refine Tr.cutB (fun (x27:Bool)=>⟨look [(0,(b_ x27))],Qk Γ.n0 (bxs [(1,.cells ((Qd r2))),(3,.cells ((Qd r5))),(5,.cells ((Qd r8)))]) M,Γ.n0 + 75⟩) h (fun z h=>?_) (fun z h=>?_)
 ·refine Tr.rgn (md rfl (Rn.bin tv rfl rfl rfl (md rfl ?_)))
  refine Qbs (r3 == 0) (fun hb13=>?_) (fun hb13=>?_)
  ·replace h:=bT hb13 h
   refine Rn.movD (gw rfl hb13) rfl (Rn.bin (gw rfl hb13) rfl rfl rfl (Rn.pickT (v:=(b_ (r6 == 0))) tv rfl hb13 rfl (md rfl ?_)))
   refine Qbs (r6 == 0) (fun hb14=>?_) (fun hb14=>?_)
   ·replace h:=bT hb14 h
    refine Rn.movD (gw rfl hb14) rfl (Rn.bin (gw rfl hb14) rfl rfl rfl (Rn.pickT (v:=(b_ (r9 == 0))) tv rfl hb14 rfl (md rfl ?_)))
    refine Qbs (r9 == 0) (fun hb15=>?_) (fun hb15=>?_)
    ·replace h:=bT hb15 h
     refine Rn.movD (gw rfl hb15) rfl (Rn.bin (gw rfl hb15) rfl rfl rfl (Rn.pickT (v:=(b_ (r12 == 0))) tv rfl hb15 rfl (md rfl ?_)))
     refine Qbs (r12 == 0) (fun hb16=>?_) (fun hb16=>?_)
     ·replace h:=bT hb16 h
      refine Rn.fldP (o':=0) (gw rfl hb16) rfl rfl (Rn.load (v:=(l_ r2.Alphabet)) (gw rfl hb16) rfl (Ql rfl) rfl rfl (Rn.bslice (xs:=[(i_ 1),(i_ 3)]) (cs:=[(i_ 1),(i_ 3)]) (gw rfl hb16) rfl rfl rfl rfl ?_))
      refine Rn.weak (by show WeakSt Γ _ ⟨look [(0,(b_ false)),(1,.ptr (Γ.n0 + 1) 0),(2,(i_ r3)),(3,.ptr (Γ.n0 + 3) 0),(4,(i_ r6)),(5,.ptr (Γ.n0 + 5) 0),(6,(i_ r9)),(7,(l_ r11)),(8,(i_ r12)),(9,.tup [(Qa r2),(i_ r3)]),(10,(l_ [3,1])),(11,.tup [(Qa r2),(i_ r3)]),(12,(Qa r2)),(13,(i_ r3)),(14,.tup [(Qa r5),(i_ r6)]),(15,(l_ [0])),(16,(l_ [1])),(17,.tup [(Qa r5),(i_ r6)]),(18,(Qa r5)),(19,(i_ r6)),(20,.tup [(Qa r8),(i_ r9)]),(21,.agg [(i_ 0),(i_ 1)]),(22,.agg [(i_ 2),(i_ 3)]),(23,.d (.lst 2 (List.map Q6 [(Qp.mk 0 1),(Qp.mk 2 3)]))),(24,.tup [(Qa r8),(i_ r9)]),(25,(Qa r8)),(26,(i_ r9)),(27,.tup [(l_ r11),(i_ r12)]),(28,(Qa r8)),(29,.tup [(o_ r11),(i_ r12)]),(30,(l_ r11)),(31,(i_ r12)),(32,(i_ r3)),(33,(b_ (r3 == 0))),(34,(b_ (r3 == 0))),(35,(i_ r6)),(36,(b_ (r6 == 0))),(37,(b_ (r6 == 0))),(38,(b_ (r6 == 0))),(39,(i_ r9)),(40,(b_ (r9 == 0))),(41,(b_ (r9 == 0))),(42,(b_ (r9 == 0))),(43,(i_ r12)),(44,(b_ (r12 == 0))),(45,(b_ (r12 == 0))),(46,(b_ (r12 == 0))),(47,.ptr (Γ.n0 + 1) 0),(48,(l_ r2.Alphabet)),(49,(l_ [1,3]))],Qk Γ.n0 (bxs [(1,.cells ((Qd r2))),(3,.cells ((Qd r5))),(5,.cells ((Qd r8)))]) M,Γ.n0 + 75⟩; exact Qfh 49 [.int .i64 1,.int .i64 3] rfl rfl ⟨(.same rfl),(fPtr rfl),(.same rfl),(fPtr rfl),(.same rfl),(fPtr rfl),(.same rfl),(.same rfl),(.same rfl),(.same rfl),(.same rfl),(.same rfl),(.same rfl),(.same rfl),(.same rfl),(.same rfl),(.same rfl),(.same rfl),(.same rfl),(.same rfl),(.same rfl),(.same rfl),(.same rfl),(.same rfl),(.same rfl),(.same rfl),(.same rfl),(.same rfl),(.same rfl),(.same rfl),(.same rfl),(.same rfl),(.same rfl),(.same rfl),(.same rfl),(.same rfl),(.same rfl),(.same rfl),(.same rfl),(.same rfl),(.same rfl),(.same rfl),(.same rfl),(.same rfl),(.same rfl),(.same rfl),(.same rfl),(fPtr rfl),(.same rfl),(fSl rfl rfl),tv⟩ ⟨⟨_,rfl,rfl,(.same rfl)⟩,⟨_,rfl,rfl,(.same rfl)⟩,⟨_,rfl,rfl,(.same rfl)⟩,tv⟩ rfl) ?_
      obtain ⟨x18,h17,h⟩:=bnd h
      refine Rn.call (args:=[(l_ r2.Alphabet),(l_ [1,3])]) (gw rfl hb16) rfl (H_slices_Equal_int _ _ _ h17) pc9 (Rn.pickT (v:=(b_ x18)) tv rfl hb16 rfl (md rfl ?_))
      refine Qbs x18 (fun hb19=>?_) (fun hb19=>?_)
      ·replace h:=bT hb19 h
       refine Rn.fldP (o':=3) (gw rfl hb19) rfl rfl (Rn.load (v:=.d (.lst 3 (List.map Qe r2.Edges))) (gw rfl hb19) rfl (Ql rfl) rfl rfl (Rn.build (v:=.agg [(i_ 0),(i_ 3),(i_ 1)]) (gw rfl hb19) rfl (Rn.build (v:=.agg [(i_ 1),(i_ 1),(i_ 0)]) (gw rfl hb19) rfl (Rn.bslice (xs:=[.agg [(i_ 0),(i_ 3),(i_ 1)],.agg [(i_ 1),(i_ 1),(i_ 0)]]) (cs:=[(i_ 0),(i_ 3),(i_ 1),(i_ 1),(i_ 1),(i_ 0)]) (gw rfl hb19) rfl rfl rfl rfl ?_))))
       refine Rn.weak (by show WeakSt Γ _ ⟨look [(0,(b_ false)),(1,.ptr (Γ.n0 + 1) 0),(2,(i_ r3)),(3,.ptr (Γ.n0 + 3) 0),(4,(i_ r6)),(5,.ptr (Γ.n0 + 5) 0),(6,(i_ r9)),(7,(l_ r11)),(8,(i_ r12)),(9,.tup [(Qa r2),(i_ r3)]),(10,(l_ [3,1])),(11,.tup [(Qa r2),(i_ r3)]),(12,(Qa r2)),(13,(i_ r3)),(14,.tup [(Qa r5),(i_ r6)]),(15,(l_ [0])),(16,(l_ [1])),(17,.tup [(Qa r5),(i_ r6)]),(18,(Qa r5)),(19,(i_ r6)),(20,.tup [(Qa r8),(i_ r9)]),(21,.agg [(i_ 0),(i_ 1)]),(22,.agg [(i_ 2),(i_ 3)]),(23,.d (.lst 2 (List.map Q6 [(Qp.mk 0 1),(Qp.mk 2 3)]))),(24,.tup [(Qa r8),(i_ r9)]),(25,(Qa r8)),(26,(i_ r9)),(27,.tup [(l_ r11),(i_ r12)]),(28,(Qa r8)),(29,.tup [(o_ r11),(i_ r12)]),(30,(l_ r11)),(31,(i_ r12)),(32,(i_ r3)),(33,(b_ (r3 == 0))),(34,(b_ (r3 == 0))),(35,(i_ r6)),(36,(b_ (r6 == 0))),(37,(b_ (r6 == 0))),(38,(b_ (r6 == 0))),(39,(i_ r9)),(40,(b_ (r9 == 0))),(41,(b_ (r9 == 0))),(42,(b_ (r9 == 0))),(43,(i_ r12)),(44,(b_ (r12 == 0))),(45,(b_ (r12 == 0))),(46,(b_ (r12 == 0))),(47,.ptr (Γ.n0 + 1) 0),(48,(l_ r2.Alphabet)),(49,(l_ [1,3])),(50,(b_ x18)),(51,(b_ x18)),(52,(b_ x18)),(53,.ptr (Γ.n0 + 1) 3),(54,.d (.lst 3 (List.map Qe r2.Edges))),(55,.agg [(i_ 0),(i_ 3),(i_ 1)]),(56,.agg [(i_ 1),(i_ 1),(i_ 0)]),(57,.d (.lst 3 (List.map Qe [(Qi.mk 0 3 1),(Qi.mk 1 1 0)])))],Qk Γ.n0 (bxs [(1,.cells ((Qd r2))),(3,.cells ((Qd r5))),(5,.cells ((Qd r8)))]) M,Γ.n0 + 75⟩; exact Qfh 57 [.int .i64 0,.int .i64 3,.int .i64 1,.int .i64 1,.int .i64 1,.int .i64 0] rfl rfl ⟨(.same rfl),(fPtr rfl),(.same rfl),(fPtr rfl),(.same rfl),(fPtr rfl),(.same rfl),(.same rfl),(.same rfl),(.same rfl),(.same rfl),(.same rfl),(.same rfl),(.same rfl),(.same rfl),(.same rfl),(.same rfl),(.same rfl),(.same rfl),(.same rfl),(.same rfl),(.same rfl),(.same rfl),(.same rfl),(.same rfl),(.same rfl),(.same rfl),(.same rfl),(.same rfl),(.same rfl),(.same rfl),(.same rfl),(.same rfl),(.same rfl),(.same rfl),(.same rfl),(.same rfl),(.same rfl),(.same rfl),(.same rfl),(.same rfl),(.same rfl),(.same rfl),(.same rfl),(.same rfl),(.same rfl),(.same rfl),(fPtr rfl),(.same rfl),(.same rfl),(.same rfl),(.same rfl),(.same rfl),(fPtr rfl),(.same rfl),(.same rfl),(.same rfl),(fSl rfl rfl),tv⟩ ⟨⟨_,rfl,rfl,(.same rfl)⟩,⟨_,rfl,rfl,(.same rfl)⟩,⟨_,rfl,rfl,(.same rfl)⟩,tv⟩ rfl) ?_
       obtain ⟨x21,h20,h⟩:=bnd h
       refine Rn.call (args:=[.d (.lst 3 (List.map Qe r2.Edges)),.d (.lst 3 (List.map Qe [(Qi.mk 0 3 1),(Qi.mk 1 1 0)]))]) (gw rfl hb19) rfl (H_slices_Equal_Edge _ _ _ h20) pc9 (Rn.pickT (v:=(b_ x21)) tv rfl hb19 rfl (md rfl ?_))
       refine Qbs x21 (fun hb22=>?_) (fun hb22=>?_)
       ·replace h:=bT hb22 h
        refine Rn.fldP (o':=1) (gw rfl hb22) rfl rfl (Rn.load (v:=(i_ r5.States)) (gw rfl hb22) rfl (Ql rfl) rfl rfl (Rn.bin (gw rfl hb22) rfl rfl rfl (Rn.pickT (v:=(b_ (r5.States == 3))) tv rfl hb22 rfl (md rfl ?_))))
        refine Qbs (r5.States == 3) (fun hb23=>?_) (fun hb23=>?_)
        ·replace h:=bT hb23 h
         refine Rn.fldP (o':=1) (gw rfl hb23) rfl rfl (Rn.load (v:=(i_ r8.States)) (gw rfl hb23) rfl (Ql rfl) rfl rfl (Rn.bin (gw rfl hb23) rfl rfl rfl (Rn.pickT (v:=(b_ (r8.States == 3))) tv rfl hb23 rfl (md rfl ?_))))
         refine Qbs (r8.States == 3) (fun hb24=>?_) (fun hb24=>?_)
         ·replace h:=bT hb24 h
          refine Rn.movD (gw rfl hb24) rfl (Rn.bslice (xs:=[(i_ 0),(i_ 2),(i_ 3)]) (cs:=[(i_ 0),(i_ 2),(i_ 3)]) (gw rfl hb24) rfl rfl rfl rfl ?_)
          refine Rn.weak (by show WeakSt Γ _ ⟨look [(0,(b_ false)),(1,.ptr (Γ.n0 + 1) 0),(2,(i_ r3)),(3,.ptr (Γ.n0 + 3) 0),(4,(i_ r6)),(5,.ptr (Γ.n0 + 5) 0),(6,(i_ r9)),(7,(l_ r11)),(8,(i_ r12)),(9,.tup [(Qa r2),(i_ r3)]),(10,(l_ [3,1])),(11,.tup [(Qa r2),(i_ r3)]),(12,(Qa r2)),(13,(i_ r3)),(14,.tup [(Qa r5),(i_ r6)]),(15,(l_ [0])),(16,(l_ [1])),(17,.tup [(Qa r5),(i_ r6)]),(18,(Qa r5)),(19,(i_ r6)),(20,.tup [(Qa r8),(i_ r9)]),(21,.agg [(i_ 0),(i_ 1)]),(22,.agg [(i_ 2),(i_ 3)]),(23,.d (.lst 2 (List.map Q6 [(Qp.mk 0 1),(Qp.mk 2 3)]))),(24,.tup [(Qa r8),(i_ r9)]),(25,(Qa r8)),(26,(i_ r9)),(27,.tup [(l_ r11),(i_ r12)]),(28,(Qa r8)),(29,.tup [(o_ r11),(i_ r12)]),(30,(l_ r11)),(31,(i_ r12)),(32,(i_ r3)),(33,(b_ (r3 == 0))),(34,(b_ (r3 == 0))),(35,(i_ r6)),(36,(b_ (r6 == 0))),(37,(b_ (r6 == 0))),(38,(b_ (r6 == 0))),(39,(i_ r9)),(40,(b_ (r9 == 0))),(41,(b_ (r9 == 0))),(42,(b_ (r9 == 0))),(43,(i_ r12)),(44,(b_ (r12 == 0))),(45,(b_ (r12 == 0))),(46,(b_ (r12 == 0))),(47,.ptr (Γ.n0 + 1) 0),(48,(l_ r2.Alphabet)),(49,(l_ [1,3])),(50,(b_ x18)),(51,(b_ x18)),(52,(b_ x18)),(53,.ptr (Γ.n0 + 1) 3),(54,.d (.lst 3 (List.map Qe r2.Edges))),(55,.agg [(i_ 0),(i_ 3),(i_ 1)]),(56,.agg [(i_ 1),(i_ 1),(i_ 0)]),(57,.d (.lst 3 (List.map Qe [(Qi.mk 0 3 1),(Qi.mk 1 1 0)]))),(58,(b_ x21)),(59,(b_ x21)),(60,(b_ x21)),(61,.ptr (Γ.n0 + 3) 1),(62,(i_ r5.States)),(63,(b_ (r5.States == 3))),(64,(b_ (r5.States == 3))),(65,(b_ (r5.States == 3))),(66,.ptr (Γ.n0 + 5) 1),(67,(i_ r8.States)),(68,(b_ (r8.States == 3))),(69,(b_ (r8.States == 3))),(70,(b_ (r8.States == 3))),(71,(l_ r11)),(72,(l_ [0,2,3]))],Qk Γ.n0 (bxs [(1,.cells ((Qd r2))),(3,.cells ((Qd r5))),(5,.cells ((Qd r8)))]) M,Γ.n0 + 75⟩; exact Qfh 72 [.int .i64 0,.int .i64 2,.int .i64 3] rfl rfl ⟨(.same rfl),(fPtr rfl),(.same rfl),(fPtr rfl),(.same rfl),(fPtr rfl),(.same rfl),(.same rfl),(.same rfl),(.same rfl),(.same rfl),(.same rfl),(.same rfl),(.same rfl),(.same rfl),(.same rfl),(.same rfl),(.same rfl),(.same rfl),(.same rfl),(.same rfl),(.same rfl),(.same rfl),(.same rfl),(.same rfl),(.same rfl),(.same rfl),(.same rfl),(.same rfl),(.same rfl),(.same rfl),(.same rfl),(.same rfl),(.same rfl),(.same rfl),(.same rfl),(.same rfl),(.same rfl),(.same rfl),(.same rfl),(.same rfl),(.same rfl),(.same rfl),(.same rfl),(.same rfl),(.same rfl),(.same rfl),(fPtr rfl),(.same rfl),(.same rfl),(.same rfl),(.same rfl),(.same rfl),(fPtr rfl),(.same rfl),(.same rfl),(.same rfl),(.same rfl),(.same rfl),(.same rfl),(.same rfl),(fPtr rfl),(.same rfl),(.same rfl),(.same rfl),(.same rfl),(fPtr rfl),(.same rfl),(.same rfl),(.same rfl),(.same rfl),(.same rfl),(fSl rfl rfl),tv⟩ ⟨⟨_,rfl,rfl,(.same rfl)⟩,⟨_,rfl,rfl,(.same rfl)⟩,⟨_,rfl,rfl,(.same rfl)⟩,tv⟩ rfl) ?_
          obtain ⟨x26,h25,h⟩:=bnd h
          refine Rn.call (args:=[(l_ r11),(l_ [0,2,3])]) (gw rfl hb24) rfl (H_slices_Equal_int _ _ _ h25) pc9 (Rn.pickT (v:=(b_ x26)) tv rfl hb24 rfl (md rfl (Rn.nil ?_)))
          replace h:=si h; subst h
          exact Qh [] ⟨(sm rfl),tv⟩ ⟨⟨_,rfl,rfl,(.same rfl)⟩,⟨_,rfl,rfl,(.same rfl)⟩,⟨_,rfl,rfl,(.same rfl)⟩,tv⟩ rfl
         ·replace h:=bF hb24 h
          refine Rn.sk (nw rfl hb24) (Rn.sk (nw rfl hb24) (Rn.sk (nw rfl hb24) (Rn.pickF (v:=(b_ false)) tv rfl hb24 rfl (md rfl (Rn.nil ?_)))))
          replace h:=si h; subst h
          exact Qh [] ⟨(sm rfl),tv⟩ ⟨⟨_,rfl,rfl,(.same rfl)⟩,⟨_,rfl,rfl,(.same rfl)⟩,⟨_,rfl,rfl,(.same rfl)⟩,tv⟩ rfl
        ·replace h:=bF hb23 h
         refine Rn.sk (nw rfl hb23) (Rn.sk (nw rfl hb23) (Rn.sk (nw rfl hb23) (Rn.pickF (v:=(b_ false)) tv rfl hb23 rfl (md rfl (Rn.sk (nw (b:=false) rfl rfl) (Rn.sk (nw (b:=false) rfl rfl) (Rn.sk (nw (b:=false) rfl rfl) (Rn.pickF (v:=(b_ false)) tv rfl rfl rfl (md rfl (Rn.nil ?_))))))))))
         replace h:=si h; subst h
         exact Qh [] ⟨(sm rfl),tv⟩ ⟨⟨_,rfl,rfl,(.same rfl)⟩,⟨_,rfl,rfl,(.same rfl)⟩,⟨_,rfl,rfl,(.same rfl)⟩,tv⟩ rfl
       ·replace h:=bF hb22 h
        refine Rn.sk (nw rfl hb22) (Rn.sk (nw rfl hb22) (Rn.sk (nw rfl hb22) (Rn.pickF (v:=(b_ false)) tv rfl hb22 rfl (md rfl (Rn.sk (nw (b:=false) rfl rfl) (Rn.sk (nw (b:=false) rfl rfl) (Rn.sk (nw (b:=false) rfl rfl) (Rn.pickF (v:=(b_ false)) tv rfl rfl rfl (md rfl (Rn.sk (nw (b:=false) rfl rfl) (Rn.sk (nw (b:=false) rfl rfl) (Rn.sk (nw (b:=false) rfl rfl) (Rn.pickF (v:=(b_ false)) tv rfl rfl rfl (md rfl (Rn.nil ?_)))))))))))))))
        replace h:=si h; subst h
        exact Qh [] ⟨(sm rfl),tv⟩ ⟨⟨_,rfl,rfl,(.same rfl)⟩,⟨_,rfl,rfl,(.same rfl)⟩,⟨_,rfl,rfl,(.same rfl)⟩,tv⟩ rfl
      ·replace h:=bF hb19 h
       refine Rn.sk (nw rfl hb19) (Rn.sk (nw rfl hb19) (Rn.sk (nw rfl hb19) (Rn.sk (nw rfl hb19) (Rn.sk (nw rfl hb19) (Rn.sk (nw rfl hb19) (Rn.pickF (v:=(b_ false)) tv rfl hb19 rfl (md rfl (Rn.sk (nw (b:=false) rfl rfl) (Rn.sk (nw (b:=false) rfl rfl) (Rn.sk (nw (b:=false) rfl rfl) (Rn.pickF (v:=(b_ false)) tv rfl rfl rfl (md rfl (Rn.sk (nw (b:=false) rfl rfl) (Rn.sk (nw (b:=false) rfl rfl) (Rn.sk (nw (b:=false) rfl rfl) (Rn.pickF (v:=(b_ false)) tv rfl rfl rfl (md rfl (Rn.sk (nw (b:=false) rfl rfl) (Rn.sk (nw (b:=false) rfl rfl) (Rn.sk (nw (b:=false) rfl rfl) (Rn.pickF (v:=(b_ false)) tv rfl rfl rfl (md rfl (Rn.nil ?_)))))))))))))))))))))))
       replace h:=si h; subst h
       exact Qh [] ⟨(sm rfl),tv⟩ ⟨⟨_,rfl,rfl,(.same rfl)⟩,⟨_,rfl,rfl,(.same rfl)⟩,⟨_,rfl,rfl,(.same rfl)⟩,tv⟩ rfl
     ·replace h:=bF hb16 h
      refine Rn.sk (nw rfl hb16) (Rn.sk (nw rfl hb16) (Rn.sk (nw rfl hb16) (Rn.sk (nw rfl hb16) (Rn.pickF (v:=(b_ false)) tv rfl hb16 rfl (md rfl (Rn.sk (nw (b:=false) rfl rfl) (Rn.sk (nw (b:=false) rfl rfl) (Rn.sk (nw (b:=false) rfl rfl) (Rn.sk (nw (b:=false) rfl rfl) (Rn.sk (nw (b:=false) rfl rfl) (Rn.sk (nw (b:=false) rfl rfl) (Rn.pickF (v:=(b_ false)) tv rfl rfl rfl (md rfl (Rn.sk (nw (b:=false) rfl rfl) (Rn.sk (nw (b:=false) rfl rfl) (Rn.sk (nw (b:=false) rfl rfl) (Rn.pickF (v:=(b_ false)) tv rfl rfl rfl (md rfl (Rn.sk (nw (b:=false) rfl rfl) (Rn.sk (nw (b:=false) rfl rfl) (Rn.sk (nw (b:=false) rfl rfl) (Rn.pickF (v:=(b_ false)) tv rfl rfl rfl (md rfl (Rn.sk (nw (b:=false) rfl rfl) (Rn.sk (nw (b:=false) rfl rfl) (Rn.sk (nw (b:=false) rfl rfl) (Rn.pickF (v:=(b_ false)) tv rfl rfl rfl (md rfl (Rn.nil ?_)))))))))))))))))))))))))))))
      replace h:=si h; subst h
      exact Qh [] ⟨(sm rfl),tv⟩ ⟨⟨_,rfl,rfl,(.same rfl)⟩,⟨_,rfl,rfl,(.same rfl)⟩,⟨_,rfl,rfl,(.same rfl)⟩,tv⟩ rfl
    ·replace h:=bF hb15 h
     refine Rn.sk (nw rfl hb15) (Rn.sk (nw rfl hb15) (Rn.pickF (v:=(b_ false)) tv rfl hb15 rfl (md rfl (Rn.sk (nw (b:=false) rfl rfl) (Rn.sk (nw (b:=false) rfl rfl) (Rn.sk (nw (b:=false) rfl rfl) (Rn.sk (nw (b:=false) rfl rfl) (Rn.pickF (v:=(b_ false)) tv rfl rfl rfl (md rfl (Rn.sk (nw (b:=false) rfl rfl) (Rn.sk (nw (b:=false) rfl rfl) (Rn.sk (nw (b:=false) rfl rfl) (Rn.sk (nw (b:=false) rfl rfl) (Rn.sk (nw (b:=false) rfl rfl) (Rn.sk (nw (b:=false) rfl rfl) (Rn.pickF (v:=(b_ false)) tv rfl rfl rfl (md rfl (Rn.sk (nw (b:=false) rfl rfl) (Rn.sk (nw (b:=false) rfl rfl) (Rn.sk (nw (b:=false) rfl rfl) (Rn.pickF (v:=(b_ false)) tv rfl rfl rfl (md rfl (Rn.sk (nw (b:=false) rfl rfl) (Rn.sk (nw (b:=false) rfl rfl) (Rn.sk (nw (b:=false) rfl rfl) (Rn.pickF (v:=(b_ false)) tv rfl rfl rfl (md rfl (Rn.sk (nw (b:=false) rfl rfl) (Rn.sk (nw (b:=false) rfl rfl) (Rn.sk (nw (b:=false) rfl rfl) (Rn.pickF (v:=(b_ false)) tv rfl rfl rfl (md rfl (Rn.nil ?_)))))))))))))))))))))))))))))))))
     replace h:=si h; subst h
     exact Qh [] ⟨(sm rfl),tv⟩ ⟨⟨_,rfl,rfl,(.same rfl)⟩,⟨_,rfl,rfl,(.same rfl)⟩,⟨_,rfl,rfl,(.same rfl)⟩,tv⟩ rfl
   ·replace h:=bF hb14 h
    refine Rn.sk (nw rfl hb14) (Rn.sk (nw rfl hb14) (Rn.pickF (v:=(b_ false)) tv rfl hb14 rfl (md rfl (Rn.sk (nw (b:=false) rfl rfl) (Rn.sk (nw (b:=false) rfl rfl) (Rn.pickF (v:=(b_ false)) tv rfl rfl rfl (md rfl (Rn.sk (nw (b:=false) rfl rfl) (Rn.sk (nw (b:=false) rfl rfl) (Rn.sk (nw (b:=false) rfl rfl) (Rn.sk (nw (b:=false) rfl rfl) (Rn.pickF (v:=(b_ false)) tv rfl rfl rfl (md rfl (Rn.sk (nw (b:=false) rfl rfl) (Rn.sk (nw (b:=false) rfl rfl) (Rn.sk (nw (b:=false) rfl rfl) (Rn.sk (nw (b:=false) rfl rfl) (Rn.sk (nw (b:=false) rfl rfl) (Rn.sk (nw (b:=false) rfl rfl) (Rn.pickF (v:=(b_ false)) tv rfl rfl rfl (md rfl (Rn.sk (nw (b:=false) rfl rfl) (Rn.sk (nw (b:=false) rfl rfl) (Rn.sk (nw (b:=false) rfl rfl) (Rn.pickF (v:=(b_ false)) tv rfl rfl rfl (md rfl (Rn.sk (nw (b:=false) rfl rfl) (Rn.sk (nw (b:=false) rfl rfl) (Rn.sk (nw (b:=false) rfl rfl) (Rn.pickF (v:=(b_ false)) tv rfl rfl rfl (md rfl (Rn.sk (nw (b:=false) rfl rfl) (Rn.sk (nw (b:=false) rfl rfl) (Rn.sk (nw (b:=false) rfl rfl) (Rn.pickF (v:=(b_ false)) tv rfl rfl rfl (md rfl (Rn.nil ?_)))))))))))))))))))))))))))))))))))))
    replace h:=si h; subst h
    exact Qh [] ⟨(sm rfl),tv⟩ ⟨⟨_,rfl,rfl,(.same rfl)⟩,⟨_,rfl,rfl,(.same rfl)⟩,⟨_,rfl,rfl,(.same rfl)⟩,tv⟩ rfl
  ·replace h:=bF hb13 h
   refine Rn.sk (nw rfl hb13) (Rn.sk (nw rfl hb13) (Rn.pickF (v:=(b_ false)) tv rfl hb13 rfl (md rfl (Rn.sk (nw (b:=false) rfl rfl) (Rn.sk (nw (b:=false) rfl rfl) (Rn.pickF (v:=(b_ false)) tv rfl rfl rfl (md rfl (Rn.sk (nw (b:=false) rfl rfl) (Rn.sk (nw (b:=false) rfl rfl) (Rn.pickF (v:=(b_ false)) tv rfl rfl rfl (md rfl (Rn.sk (nw (b:=false) rfl rfl) (Rn.sk (nw (b:=false) rfl rfl) (Rn.sk (nw (b:=false) rfl rfl) (Rn.sk (nw (b:=false) rfl rfl) (Rn.pickF (v:=(b_ false)) tv rfl rfl rfl (md rfl (Rn.sk (nw (b:=false) rfl rfl) (Rn.sk (nw (b:=false) rfl rfl) (Rn.sk (nw (b:=false) rfl rfl) (Rn.sk (nw (b:=false) rfl rfl) (Rn.sk (nw (b:=false) rfl rfl) (Rn.sk (nw (b:=false) rfl rfl) (Rn.pickF (v:=(b_ false)) tv rfl rfl rfl (md rfl (Rn.sk (nw (b:=false) rfl rfl) (Rn.sk (nw (b:=false) rfl rfl) (Rn.sk (nw (b:=false) rfl rfl) (Rn.pickF (v:=(b_ false)) tv rfl rfl rfl (md rfl (Rn.sk (nw (b:=false) rfl rfl) (Rn.sk (nw (b:=false) rfl rfl) (Rn.sk (nw (b:=false) rfl rfl) (Rn.pickF (v:=(b_ false)) tv rfl rfl rfl (md rfl (Rn.sk (nw (b:=false) rfl rfl) (Rn.sk (nw (b:=false) rfl rfl) (Rn.sk (nw (b:=false) rfl rfl) (Rn.pickF (v:=(b_ false)) tv rfl rfl rfl ?_)))))))))))))))))))))))))))))))))))))))
   refine md rfl (Rn.nil ?_)
   replace h:=si h; subst h
   exact Qh [] ⟨(sm rfl),tv⟩ ⟨⟨_,rfl,rfl,(.same rfl)⟩,⟨_,rfl,rfl,(.same rfl)⟩,⟨_,rfl,rfl,(.same rfl)⟩,tv⟩ rfl
 ·obtain ⟨x27,rfl⟩ : ∃ x,x = z:=⟨_,rfl⟩
  refine Tr.ret ?_
  replace h:=si h; subst h
  exact ⟨.inr rfl,(b_ x27),rfl,fun _ _ _ _ h=>h,tv,fun k hk=>Qc hk⟩
theorem Qtx {P:Program} {c:Nat} (hcf:Qj P c = some Qg8):Qg7 P c (Qbq):=by
 intro a1 r h
 refine Qbm hcf rfl fun Γ M hP hnt hM=>?_
 subst hP
 refine Tr.init [(0,(Qa a1))] rfl ?_
 unfold Qbq at h
 unfold Qg8
 refine sr ((Rn.box (v:=(Qa a1)) (cs:=(Qd a1)) tv rfl rfl rfl rfl rfl (md rfl (nt ((sr ((Rn.fldP (o':=1) tv rfl rfl (Rn.load (v:=(i_ a1.States)) tv rfl (Ql rfl) rfl rfl (Rn.bin tv rfl rfl rfl (md rfl ?_)))))))))))
 refine Qbs (decide (a1.States≤8)) (fun hb2=>?_) (fun hb2=>?_)
 ·replace h:=ifT hb2 h
  refine Rn.fldP (o':=0) (gw rfl hb2) rfl rfl (Rn.load (v:=(l_ a1.Alphabet)) (gw rfl hb2) rfl (Ql rfl) rfl rfl (Rn.lenD (gw rfl hb2) rfl (Rn.bin (gw rfl hb2) rfl rfl rfl (Rn.pickT (v:=(b_ (decide ((a1.Alphabet.length:Int)≤40)))) tv rfl hb2 rfl (md rfl ?_)))))
  refine Qbs (decide ((a1.Alphabet.length:Int)≤40)) (fun hb3=>?_) (fun hb3=>?_)
  ·replace h:=ifT hb3 h
   refine Rn.fldP (o':=2) (gw rfl hb3) rfl rfl (Rn.load (v:=(l_ a1.Marked)) (gw rfl hb3) rfl (Ql rfl) rfl rfl (Rn.lenD (gw rfl hb3) rfl (Rn.bin (gw rfl hb3) rfl rfl rfl (Rn.pickT (v:=(b_ (decide ((a1.Marked.length:Int)≤40)))) tv rfl hb3 rfl (md rfl ?_)))))
   refine Qbs (decide ((a1.Marked.length:Int)≤40)) (fun hb4=>?_) (fun hb4=>?_)
   ·replace h:=ifT hb4 h
    refine Rn.fldP (o':=3) (gw rfl hb4) rfl rfl (Rn.load (v:=.d (.lst 3 (List.map Qe a1.Edges))) (gw rfl hb4) rfl (Ql rfl) rfl rfl (Rn.lenD (gw rfl hb4) rfl (Rn.bin (gw rfl hb4) rfl rfl rfl (Rn.pickT (v:=(b_ (decide ((a1.Edges.length:Int)≤40)))) tv rfl hb4 rfl (md rfl (nt ((Tr.ret ?_))))))))
    replace h:=si h; subst h
    exact ⟨.inr rfl,(b_ (decide ((a1.Edges.length:Int)≤40))),rfl,fun _ _ _ _ h=>h,tv,fun k hk=>Qc hk⟩
   ·replace h:=ifF hb4 h
    refine Rn.sk (nw rfl hb4) (Rn.sk (nw rfl hb4) (Rn.sk (nw rfl hb4) (Rn.sk (nw rfl hb4) (Rn.pickF (v:=(b_ false)) tv rfl hb4 rfl (md rfl (nt ((Tr.ret ?_))))))))
    replace h:=si h; subst h
    exact ⟨.inr rfl,(b_ false),rfl,fun _ _ _ _ h=>h,tv,fun k hk=>Qc hk⟩
  ·replace h:=ifF hb3 h
   refine Rn.sk (nw rfl hb3) (Rn.sk (nw rfl hb3) (Rn.sk (nw rfl hb3) (Rn.sk (nw rfl hb3) (Rn.pickF (v:=(b_ false)) tv rfl hb3 rfl (md rfl (Rn.sk (nw (b:=false) rfl rfl) (Rn.sk (nw (b:=false) rfl rfl) (Rn.sk (nw (b:=false) rfl rfl) (Rn.sk (nw (b:=false) rfl rfl) (Rn.pickF (v:=(b_ false)) tv rfl rfl rfl (md rfl (nt ((Tr.ret ?_))))))))))))))
   replace h:=si h; subst h
   exact ⟨.inr rfl,(b_ false),rfl,fun _ _ _ _ h=>h,tv,fun k hk=>Qc hk⟩
 ·replace h:=ifF hb2 h
  refine Rn.sk (nw rfl hb2) (Rn.sk (nw rfl hb2) (Rn.sk (nw rfl hb2) (Rn.sk (nw rfl hb2) (Rn.pickF (v:=(b_ false)) tv rfl hb2 rfl (md rfl (Rn.sk (nw (b:=false) rfl rfl) (Rn.sk (nw (b:=false) rfl rfl) (Rn.sk (nw (b:=false) rfl rfl) (Rn.sk (nw (b:=false) rfl rfl) (Rn.pickF (v:=(b_ false)) tv rfl rfl rfl (md rfl (Rn.sk (nw (b:=false) rfl rfl) (Rn.sk (nw (b:=false) rfl rfl) (Rn.sk (nw (b:=false) rfl rfl) (Rn.sk (nw (b:=false) rfl rfl) (Rn.pickF (v:=(b_ false)) tv rfl rfl rfl (md rfl (nt ((Tr.ret ?_))))))))))))))))))))
  replace h:=si h; subst h
  exact ⟨.inr rfl,(b_ false),rfl,fun _ _ _ _ h=>h,tv,fun k hk=>Qc hk⟩
theorem Qo6 {P:Program} {c:Nat} (hcf:Qj P c = some Qfo) (fuel:Nat):Qfn P c (Qbn fuel):=by
 intro l1 n2 r h
 refine Qbm hcf rfl fun Γ M hP hnt hM=>?_
 subst hP
 refine Tr.init [(0,(l_ l1)),(1,(i_ n2))] rfl ?_
 unfold Qbn at h
 unfold Qfo
 refine sr ((md rfl (nt ((Tr.seq (sr ((md rfl (Rn.lenD tv rfl (md rfl (nt ((Tr.block ?_)))))))))))))
 refine Tr.loop (mk:=fun (x3:Int)=>⟨look [(0,(l_ l1)),(1,(i_ n2)),(7,(l_ l1)),(8,(i_ (l1.length:Int))),(9,(i_ x3))],Qk Γ.n0 (bxs []) M,Γ.n0 + 35⟩) h (by exact Qm ⟨(sm rfl),(sm rfl),(sm rfl),(sm rfl),(sm rfl),tv⟩ tv rfl) (fun k4 z h=>?_)
 ·obtain ⟨x3,rfl⟩ : ∃ x,x = z:=⟨_,rfl⟩
  replace h:_ = some _:=h
  refine sr ((Rn.bin tv rfl rfl rfl (nt ((Tr.seq ?_)))))
  refine Tr.cond rfl (fun hb5=>?_) (fun hb5=>?_)
  ·replace h:=ifT hb5 h
   refine Tr.skip (toN (Tr.seq (Tr.block (sr ((md rfl ?_))))))
   obtain ⟨x6,h7,h⟩:=bnd h
   refine Rn.idxD (e:=(eI .i64)) tv rfl rfl h7 (Rn.loadC (x:=.int .i64 x6) tv rfl (md rfl (md rfl (nt ((Tr.block ?_))))))
   refine Tr.cutB (fun (x9:Bool)=>⟨look [(0,(l_ l1)),(1,(i_ n2)),(5,(i_ x3)),(6,(i_ x6)),(7,(l_ l1)),(8,(i_ (l1.length:Int))),(9,(i_ x3)),(14,(b_ x9))],Qk Γ.n0 (bxs []) M,Γ.n0 + 35⟩) h (fun z h=>?_) (fun z h=>?_)
   ·refine Tr.rgn (md rfl (Rn.bin tv rfl rfl rfl (md rfl ?_)))
    refine Qbs (decide (x6 < 0)) (fun hb8=>?_) (fun hb8=>?_)
    ·replace h:=ifT hb8 h
     refine Rn.sk (nw rfl hb8) (Rn.sk (nw rfl hb8) (Rn.sk (nw rfl hb8) (Rn.pickT (v:=(b_ true)) tv rfl hb8 rfl (md rfl (Rn.nil ?_)))))
     replace h:=si h; subst h
     exact Qh [] ⟨(sm rfl),(sm rfl),(sm rfl),(sm rfl),(sm rfl),(sm rfl),(sm rfl),(sm rfl),tv⟩ tv rfl
    ·replace h:=ifF hb8 h
     refine Rn.movD (gw rfl hb8) rfl (Rn.movD (gw rfl hb8) rfl (Rn.bin (gw rfl hb8) rfl rfl rfl (Rn.pickF (v:=(b_ (decide (x6≥n2)))) tv rfl hb8 rfl (md rfl (Rn.nil ?_)))))
     replace h:=si h; subst h
     exact Qh [] ⟨(sm rfl),(sm rfl),(sm rfl),(sm rfl),(sm rfl),(sm rfl),(sm rfl),(sm rfl),tv⟩ tv rfl
   ·obtain ⟨x9,rfl⟩ : ∃ x,x = z:=⟨_,rfl⟩
    refine Tr.cond rfl (fun hb10=>?_) (fun hb10=>?_)
    ·replace h:=bT hb10 h
     refine sr ((md rfl (nt ((Tr.ret ?_)))))
     replace h:=si h; subst h
     exact ⟨.inr rfl,(i_ 2),rfl,fun _ _ _ _ h=>h,tv,fun k hk=>Qc hk⟩
    ·replace h:=bF hb10 h
     refine Tr.cutB (fun (x14:Bool)=>⟨look [(0,(l_ l1)),(1,(i_ n2)),(7,(l_ l1)),(8,(i_ (l1.length:Int))),(9,(i_ x3)),(22,(b_ x14))],Qk Γ.n0 (bxs []) M,Γ.n0 + 35⟩) h (fun z h=>?_) (fun z h=>?_)
     ·refine Tr.rgn (md rfl (Rn.bin tv rfl rfl rfl (md rfl ?_)))
      refine Qbs (decide (x3 > 0)) (fun hb11=>?_) (fun hb11=>?_)
      ·replace h:=ifT hb11 h
       refine Rn.movD (gw rfl hb11) rfl (Rn.movD (gw rfl hb11) rfl (Rn.movD (gw rfl hb11) rfl (Rn.bin (gw rfl hb11) rfl rfl rfl ?_)))
       obtain ⟨x12,h13,h⟩:=bnd h
       refine Rn.idxD (e:=(eI .i64)) (gw rfl hb11) rfl rfl h13 (Rn.loadC (x:=.int .i64 x12) (gw rfl hb11) rfl (Rn.bin (gw rfl hb11) rfl rfl rfl (Rn.pickT (v:=(b_ (decide (x6≤x12)))) tv rfl hb11 rfl (md rfl (Rn.nil ?_)))))
       replace h:=si h; subst h
       exact Qh [] ⟨(sm rfl),(sm rfl),(sm rfl),(sm rfl),(sm rfl),(sm rfl),tv⟩ tv rfl
      ·replace h:=ifF hb11 h
       refine Rn.sk (nw rfl hb11) (Rn.sk (nw rfl hb11) (Rn.sk (nw rfl hb11) (Rn.sk (nw rfl hb11) (Rn.sk (nw rfl hb11) (Rn.sk (nw rfl hb11) (Rn.sk (nw rfl hb11) (Rn.pickF (v:=(b_ false)) tv rfl hb11 rfl (md rfl (Rn.nil ?_)))))))))
       replace h:=si h; subst h
       exact Qh [] ⟨(sm rfl),(sm rfl),(sm rfl),(sm rfl),(sm rfl),(sm rfl),tv⟩ tv rfl
     ·obtain ⟨x14,rfl⟩ : ∃ x,x = z:=⟨_,rfl⟩
      refine Tr.cond rfl (fun hb15=>?_) (fun hb15=>?_)
      ·replace h:=bT hb15 h
       refine sr ((md rfl (nt ((Tr.ret ?_)))))
       replace h:=si h; subst h
       exact ⟨.inr rfl,(i_ 5),rfl,fun _ _ _ _ h=>h,tv,fun k hk=>Qc hk⟩
      ·replace h:=bF hb15 h
       refine Tr.skip (toN (Tr.rgn (Rn.bin tv rfl rfl rfl (md rfl (Rn.nil ?_)))))
       exact ⟨_,h,(by exact Qm ⟨(sm rfl),(sm rfl),(sm rfl),(sm rfl),(sm rfl),tv⟩ tv rfl)⟩
  ·replace h:=ifF hb5 h
   refine Tr.exit (toN (sr ((md rfl (nt ((Tr.ret ?_)))))))
   replace h:=si h; subst h
   exact ⟨.inr rfl,(i_ 0),rfl,fun _ _ _ _ h=>h,tv,fun k hk=>Qc hk⟩
theorem Qwi {P:Program} {c:Nat} {Qf:Qb→Option Int} {Qbn:(List Int)→Int→Option Int}
    (H_automaton_Check:Qbu P 13 Qf)
    (H_projection_checkSet:Qfn P 81 Qbn) (hcf:Qj P c = some Qh6):Qh5 P c (Qb2 Qf Qbn):=by
 intro a1 events2 r h
 refine Qbm hcf rfl fun Γ M hP hnt hM=>?_
 subst hP
 refine Tr.init [(0,(Qa a1)),(1,(l_ events2))] rfl ?_
 unfold Qb2 at h
 unfold Qh6
 refine sr ((Rn.box (v:=(Qa a1)) (cs:=(Qd a1)) tv rfl rfl rfl rfl rfl (md rfl (nt ((Tr.seq (sr ((Rn.load (v:=(Qa a1)) tv rfl (Ql rfl) rfl rfl ?_)))))))))
 obtain ⟨x4,h3,h⟩:=bnd h
 refine Rn.call (args:=[(Qa a1)]) tv rfl (H_automaton_Check _ _ h3) pc9 (md rfl (nt ((sr ((md rfl (Rn.bin tv rfl rfl rfl (Rn.nil (toN ?_)))))))))
 refine Tr.cond rfl (fun hb5=>?_) (fun hb5=>?_)
 ·replace h:=bT hb5 h
  refine sr ((md rfl (md rfl (nt ((Tr.ret ?_))))))
  replace h:=si h; subst h
  exact ⟨.inr rfl,(i_ x4),rfl,fun _ _ _ _ h=>h,tv,fun k hk=>Qc hk⟩
 ·replace h:=bF hb5 h
  refine Tr.skip (toN (sr ((md rfl ?_))))
  obtain ⟨x7,h6,h⟩:=bnd h
  refine Rn.call (args:=[(l_ events2),(i_ 32)]) tv rfl (H_projection_checkSet _ _ _ h6) pc9 (md rfl (nt ((Tr.ret ?_))))
  replace h:=si h; subst h
  exact ⟨.inr rfl,(i_ x7),rfl,fun _ _ _ _ h=>h,tv,fun k hk=>Qc hk⟩
theorem Qty {P:Program} {c:Nat} (hcf:Qj P c = some Qha):Qg9 P c (Qb8):=by
 intro s1 r h
 refine Qbm hcf rfl fun Γ M hP hnt hM=>?_
 subst hP
 refine Tr.init [(0,.d (.lst 3 (List.map Qe s1)))] rfl ?_
 unfold Qb8 at h
 unfold Qha
 refine sr ((Rn.movTC (v:=.nils 3) tv (nt ((Tr.seq (sr ((md rfl ?_))))))))
 refine Rn.isnil (e:=Qe) tv rfl h (fun b2 h=>?_)
 refine Rn.nil (toN ?_)
 refine Tr.cond rfl (fun hb3=>?_) (fun hb3=>?_)
 ·replace h:=bT hb3 h
  refine sr ((Rn.movTC (v:=.nils 3) tv (nt ((Tr.ret ?_)))))
  replace h:=si h; subst h
  exact ⟨.inr rfl,(.nils 3),rfl,(WkV.nilsO _).rd,tv,fun k hk=>Qc hk⟩
 ·replace h:=bF hb3 h
  refine Tr.skip (toN (sr ((Rn.bslice (xs:=[]) (cs:=[]) tv rfl rfl rfl rfl (md rfl ?_)))))
  obtain ⟨x4,h5,h⟩:=bnd h
  refine Rn.app0 (e:=Qe) tv rfl rfl rfl rfl Q9c h5 rfl (Rn.movTO tv rfl (nt ((Tr.ret ?_))))
  replace h:=si h; subst h
  exact ⟨.inr rfl,(.own 3 (List.map Qe x4)),rfl,fun _ _ _ _ h=>h,tv,fun k hk=>Qc hk⟩
theorem Qrs {P:Program} {c:Nat} {Qb2:Qb→(List Int)→Option Int} {Qb8:(List Qi)→Option ((List Qi))}
    (H_projection_check:Qh5 P 56 Qb2)
    (H_slices_Clone_Edge:Qg9 P 57 Qb8) (hcf:Qj P c = some Qf8):Qf7 P c (Qbi Qb2 Qb8):=by
 intro a1 alphabet2 r h
 refine Qbee hcf (args':=[.agg [(f_ a1.Alphabet),(i_ a1.States),(f_ a1.Marked),.f (.lst 3 (List.map Qe a1.Edges))],(f_ alphabet2)]) rfl rfl rfl rfl rfl rfl fun Γ M hP hnt hG hM0 hM=>?_
 subst hP
 refine Tr.init [(0,.agg [(f_ a1.Alphabet),(i_ a1.States),(f_ a1.Marked),.f (.lst 3 (List.map Qe a1.Edges))]),(1,(f_ alphabet2))] rfl ?_
 unfold Qbi at h
 unfold Qf8
 refine sr ((Rn.box (v:=.agg [(f_ a1.Alphabet),(i_ a1.States),(f_ a1.Marked),.f (.lst 3 (List.map Qe a1.Edges))]) (cs:=[(f_ a1.Alphabet),(i_ a1.States),(f_ a1.Marked),.f (.lst 3 (List.map Qe a1.Edges))]) tv rfl rfl rfl rfl rfl (Rn.alloc tv rfl (md rfl (nt ((Tr.seq (sr ((Rn.load (v:=.agg [(f_ a1.Alphabet),(i_ a1.States),(f_ a1.Marked),.f (.lst 3 (List.map Qe a1.Edges))]) tv rfl (Ql rfl) rfl rfl (Rn.mov (v:=(f_ alphabet2)) tv rfl ?_)))))))))))
 obtain ⟨x4,h3,h⟩:=bnd h
 refine Rn.call (args:=[.agg [(f_ a1.Alphabet),(i_ a1.States),(f_ a1.Marked),.f (.lst 3 (List.map Qe a1.Edges))],(f_ alphabet2)]) tv rfl (fun M2 nb2=>ACalls.weak (args':=[(Qa a1),(l_ alphabet2)]) (H_projection_check _ _ _ h3 M2 nb2) (.cons (WkV.agg (.cons fToD (.cons (sm rfl) (.cons fToD (.cons fToD .nil))))) (.cons fToD .nil)) rfl) pc9 ?_
 refine md rfl (nt ((sr ((md rfl (Rn.bin tv rfl rfl rfl (Rn.nil (toN ?_))))))))
 refine Tr.cond rfl (fun hb5=>?_) (fun hb5=>?_)
 ·replace h:=bT hb5 h
  refine sr ((Rn.build (v:=.agg [.nils 1,(i_ 0),.nils 1,.nils 3]) tv rfl (md rfl (Rn.storeT (v:=.agg [.nils 1,(i_ 0),.nils 1,.nils 3]) (ds:=[.nils 1,(i_ 0),.nils 1,.nils 3]) (cs':=[.nils 1,(i_ 0),.nils 1,.nils 3]) tv rfl rfl rfl rfl rfl rfl rfl (md rfl (nt ((Tr.ret ?_))))))))
  replace h:=si h; subst h
  exact ⟨.inr rfl,.tup [.agg [.nils 1,(i_ 0),.nils 1,.nils 3],(i_ x4)],res2 (Qfx rfl rfl rfl rfl) rfl,(WkV.tup (.cons (.same rfl) (.cons (.same rfl) .nil))).rd,⟨⟨tv,tv,tv,tv,tv⟩,tv,tv⟩,fun k hk=>Qc hk⟩
 ·replace h:=bF hb5 h
  refine Tr.skip (toN (Tr.seq ?_))
  refine Tr.rgnD (by decide) ?_
  refine Rn.fldP (o':=1) tv rfl rfl (Rn.load (v:=(i_ a1.States)) tv rfl (Ql rfl) rfl rfl (Rn.fldP (o':=2) tv rfl rfl (Rn.load (v:=(f_ a1.Marked)) tv rfl (Ql rfl) rfl rfl (Rn.fldP (o':=3) tv rfl rfl (Rn.load (v:=.f (.lst 3 (List.map Qe a1.Edges))) tv rfl (Ql rfl) rfl rfl ?_)))))
  obtain ⟨x7,h6,h⟩:=bnd h
  refine Rn.call (args:=[.f (.lst 3 (List.map Qe a1.Edges))]) tv rfl (fun M2 nb2=>ACalls.weak (args':=[.d (.lst 3 (List.map Qe a1.Edges))]) (H_slices_Clone_Edge _ _ h6 M2 nb2) (.cons fToD .nil) rfl) (fun _=>Qbd8 hM rfl) ?_
  refine Rn.buildT (v:=.agg [.nils 1,(i_ a1.States),(f_ a1.Marked),.own 3 (List.map Qe x7)]) tv rfl (Rn.alloc tv rfl (Rn.storeT (v:=.agg [.nils 1,(i_ a1.States),(f_ a1.Marked),.own 3 (List.map Qe x7)]) (ds:=[.nils 1,(i_ a1.States),(f_ a1.Marked),.own 3 (List.map Qe x7)]) (cs':=[.nils 1,(i_ a1.States),(f_ a1.Marked),.own 3 (List.map Qe x7)]) tv rfl rfl rfl rfl rfl rfl rfl ?_))
  refine Rn.nil ⟨rfl,?_⟩
  refine toN (Tr.seq ?_)
  cases h
theorem Qtz {P:Program} {c:Nat} {Qbi:Qb→(List Int)→Option (Qb×Int)}
    (H_projection_Inverse:Qf7 P 28 Qbi) (hcf:Qj P c = some Qhc):Qhb P c (Qbr Qbi):=by
 intro a1 events2 r h
 refine Qbm hcf rfl fun Γ M hP hnt hM=>?_
 subst hP
 refine Tr.init [(0,(Qa a1)),(1,(l_ events2))] rfl ?_
 unfold Qbr at h
 unfold Qhc
 refine sr ((Rn.box (v:=(Qa a1)) (cs:=(Qd a1)) tv rfl rfl rfl rfl rfl (Rn.alloc tv rfl (md rfl (nt ((sr ((Rn.load (v:=(Qa a1)) tv rfl (Ql rfl) rfl rfl (md rfl ?_))))))))))
 obtain ⟨⟨r4,r5⟩,h3,h⟩:=bnd h
 refine Rn.call (args:=[(Qa a1),(l_ events2)]) tv rfl (H_projection_Inverse _ _ _ h3) pc9 (Rn.ext (v:=.agg [.nils 1,(i_ r4.States),.nils 1,.nils 3]) (vs:=[.agg [.nils 1,(i_ r4.States),.nils 1,.nils 3],(i_ r5)]) tv rfl rfl rfl (Rn.ext (v:=(i_ r5)) (vs:=[.agg [.nils 1,(i_ r4.States),.nils 1,.nils 3],(i_ r5)]) tv rfl rfl rfl (Rn.storeT (v:=.agg [.nils 1,(i_ r4.States),.nils 1,.nils 3]) (ds:=[.nils 1,(i_ r4.States),.nils 1,.nils 3]) (cs':=[.nils 1,(i_ r4.States),.nils 1,.nils 3]) tv rfl rfl rfl rfl rfl rfl rfl (md rfl (nt ((Tr.ret ?_)))))))
 replace h:=si h; subst h
 exact ⟨.inr rfl,.tup [.agg [.nils 1,(i_ r4.States),.nils 1,.nils 3],(i_ r5)],res2 (Qfx rfl rfl rfl rfl) rfl,(WkV.tup (.cons (.same rfl) (.cons (.same rfl) .nil))).rd,⟨⟨tv,tv,tv,tv,tv⟩,tv,tv⟩,fun k hk=>Qc hk⟩
theorem Q23 {P:Program} {c:Nat} {Qf:Qb→Option Int}
    (H_automaton_Check:Qbu P 13 Qf) (hcf:Qj P c = some Qk2) (fuel:Nat):Qk1 P c (Qcz Qf fuel):=by
 intro l1 r h
 refine Qbm hcf rfl fun Γ M hP hnt hM=>?_
 subst hP
 refine Tr.init [(0,.d (.lst 4 (List.map Q1 l1)))] rfl ?_
 unfold Qcz at h
 unfold Qk2
 refine sr ((md rfl (nt ((Tr.seq (sr ((md rfl (Rn.lenD tv rfl (Rn.bin tv rfl rfl rfl (Rn.nil (toN ?_))))))))))))
 refine Tr.cond rfl (fun hb2=>?_) (fun hb2=>?_)
 ·replace h:=ifT hb2 h
  refine sr ((md rfl (nt ((Tr.ret ?_)))))
  replace h:=si h; subst h
  exact ⟨.inr rfl,(i_ 3),rfl,fun _ _ _ _ h=>h,tv,fun k hk=>Qc hk⟩
 ·replace h:=ifF hb2 h
  refine Tr.skip (toN (Tr.seq (sr ((md rfl (Rn.lenD tv rfl (md rfl (nt ((Tr.block ?_))))))))))
  refine Tr.loop (mk:=fun (x3:Int)=>⟨look [(9,.d (.lst 4 (List.map Q1 l1))),(10,(i_ (l1.length:Int))),(11,(i_ x3))],Qk Γ.n0 (bxs []) M,Γ.n0 + 21⟩) h (by exact Qm ⟨(sm rfl),(sm rfl),(sm rfl),tv⟩ tv rfl) (fun k4 z h=>?_)
  ·obtain ⟨x3,rfl⟩ : ∃ x,x = z:=⟨_,rfl⟩
   replace h:_ = some _:=h
   refine sr ((Rn.bin tv rfl rfl rfl (nt ((Tr.seq ?_)))))
   refine Tr.cond rfl (fun hb5=>?_) (fun hb5=>?_)
   ·replace h:=ifT hb5 h
    refine Tr.skip (toN (Tr.seq (Tr.block (Tr.seq (Tr.rgn ?_)))))
    obtain ⟨x6,h7,h⟩:=bnd h
    refine Rn.idxD (e:=Q1) tv rfl rfl h7 (Rn.loadCA (vs:=(Qd x6)) tv rfl rfl rfl (Rn.alloc tv rfl (Rn.storeT (v:=(Qa x6)) (ds:=(Qd x6)) (cs':=(Qd x6)) tv rfl rfl rfl rfl rfl rfl rfl (nt ((sr ((Rn.load (v:=(Qa x6)) tv rfl (Ql rfl) rfl rfl ?_))))))))
    obtain ⟨x9,h8,h⟩:=bnd h
    refine Rn.call (args:=[(Qa x6)]) tv rfl (H_automaton_Check _ _ h8) pc9 (md rfl (nt ((sr ((md rfl (Rn.bin tv rfl rfl rfl (Rn.nil (toN ?_)))))))))
    refine Tr.cond rfl (fun hb10=>?_) (fun hb10=>?_)
    ·replace h:=bT hb10 h
     refine sr ((md rfl (md rfl (nt ((Tr.ret ?_))))))
     replace h:=si h; subst h
     exact ⟨.inr rfl,(i_ x9),rfl,fun _ _ _ _ h=>h,tv,fun k hk=>Qc hk⟩
    ·replace h:=bF hb10 h
     refine Tr.skip (toN (Tr.rgn (Rn.bin tv rfl rfl rfl (md rfl (Rn.nil ?_)))))
     exact ⟨_,h,(by exact Qm ⟨(sm rfl),(sm rfl),(sm rfl),tv⟩ tv rfl)⟩
   ·replace h:=ifF hb5 h
    refine Tr.exit (toN (sr ((md rfl (nt ((Tr.ret ?_)))))))
    replace h:=si h; subst h
    exact ⟨.inr rfl,(i_ 0),rfl,fun _ _ _ _ h=>h,tv,fun k hk=>Qc hk⟩
theorem Qo7 {P:Program} {c:Nat} {Qcz:(List Qb)→Option Int}
    (H_product_Check:Qk1 P 49 Qcz) (hcf:Qj P c = some Qfq):Qfp P c (Qbd Qcz):=by
 intro l1 r h
 refine Qbm hcf rfl fun Γ M hP hnt hM=>?_
 subst hP
 refine Tr.init [(0,.d (.lst 4 (List.map Q1 l1)))] rfl ?_
 unfold Qbd at h
 unfold Qfq
 refine sr ((Rn.alloc tv rfl (Rn.movTC (v:=.nils 1) tv (md rfl (nt ((Tr.seq (sr ((md rfl ?_))))))))))
 obtain ⟨x3,h2,h⟩:=bnd h
 refine Rn.call (args:=[.d (.lst 4 (List.map Q1 l1))]) tv rfl (H_product_Check _ _ h2) pc9 (md rfl (nt ((sr ((md rfl (Rn.bin tv rfl rfl rfl (Rn.nil (toN ?_)))))))))
 refine Tr.cond rfl (fun hb4=>?_) (fun hb4=>?_)
 ·replace h:=bT hb4 h
  refine sr ((Rn.build (v:=.agg [.nils 1,(i_ 0),.nils 1,.nils 3]) tv rfl (md rfl (Rn.storeT (v:=.agg [.nils 1,(i_ 0),.nils 1,.nils 3]) (ds:=[.nils 1,(i_ 0),.nils 1,.nils 3]) (cs':=[.nils 1,(i_ 0),.nils 1,.nils 3]) tv rfl rfl rfl rfl rfl rfl rfl (Rn.movTC (v:=.nils 1) tv (md rfl (nt ((Tr.ret ?_)))))))))
  replace h:=si h; subst h
  exact ⟨.inr rfl,.tup [.agg [.nils 1,(i_ 0),.nils 1,.nils 3],.nils 1,(i_ x3)],res3 (Qfx rfl rfl rfl rfl) rfl rfl,(WkV.tup (.cons (.same rfl) (.cons (.same rfl) (.cons (.same rfl) .nil)))).rd,⟨⟨tv,tv,tv,tv,tv⟩,tv,tv,tv⟩,fun k hk=>Qc hk⟩
 ·replace h:=bF hb4 h
  refine Tr.skip (toN (Tr.seq ?_))
  cases h
theorem Qzm {P:Program} {c:Nat} {Qbd:(List Qb)→Option (Qb×(List (List Int))×Int)}
    (H_product_Synchronous:Qfp P 25 Qbd) (hcf:Qj P c = some Qi9):Qi8 P c (Qcc Qbd):=by
 intro l1 r h
 refine Qbm hcf rfl fun Γ M hP hnt hM=>?_
 subst hP
 refine Tr.init [(0,.d (.lst 4 (List.map Q1 l1)))] rfl ?_
 unfold Qcc at h
 unfold Qi9
 refine sr ((Rn.alloc tv rfl (md rfl (nt ((sr ((md rfl ?_))))))))
 obtain ⟨⟨r3,r4,r5⟩,h2,h⟩:=bnd h
 refine Rn.call (args:=[.d (.lst 4 (List.map Q1 l1))]) tv rfl (H_product_Synchronous _ _ h2) pc9 (Rn.mov (v:=.tup [.agg [.nils 1,(i_ r3.States),.nils 1,.nils 3],.nils 1,(i_ r5)]) tv rfl (Rn.ext (v:=.agg [.nils 1,(i_ r3.States),.nils 1,.nils 3]) (vs:=[.agg [.nils 1,(i_ r3.States),.nils 1,.nils 3],.nils 1,(i_ r5)]) tv rfl rfl rfl (Rn.extTN (vs:=[.agg [.nils 1,(i_ r3.States),.nils 1,.nils 3],.nils 1,(i_ r5)]) tv rfl rfl rfl (Rn.ext (v:=(i_ r5)) (vs:=[.agg [.nils 1,(i_ r3.States),.nils 1,.nils 3],.nils 1,(i_ r5)]) tv rfl rfl rfl (Rn.alloc tv rfl (Rn.storeT (v:=.agg [.nils 1,(i_ r3.States),.nils 1,.nils 3]) (ds:=[.nils 1,(i_ r3.States),.nils 1,.nils 3]) (cs':=[.nils 1,(i_ r3.States),.nils 1,.nils 3]) tv rfl rfl rfl rfl rfl rfl rfl (Rn.movTF (v:=.nils 1) tv rfl rfl (md rfl (nt ((sr ((Rn.load (v:=.agg [.nils 1,(i_ r3.States),.nils 1,.nils 3]) tv rfl (Ql rfl) rfl rfl (md rfl (Rn.storeT (v:=.agg [.nils 1,(i_ r3.States),.nils 1,.nils 3]) (ds:=[.nils 1,(i_ r3.States),.nils 1,.nils 3]) (cs':=[.nils 1,(i_ r3.States),.nils 1,.nils 3]) tv rfl rfl rfl rfl rfl rfl rfl (md rfl (nt ((Tr.ret ?_)))))))))))))))))))
 replace h:=si h; subst h
 exact ⟨.inr rfl,.tup [.agg [.nils 1,(i_ r3.States),.nils 1,.nils 3],(i_ r5)],res2 (Qfx rfl rfl rfl rfl) rfl,(WkV.tup (.cons (.same rfl) (.cons (.same rfl) .nil))).rd,⟨⟨tv,tv,tv,tv,tv⟩,tv,tv⟩,fun k hk=>Qc hk⟩
theorem Qka {P:Program} {c:Nat} {Qcc:(List Qb)→Option (Qb×Int)}
    (H_product_Compose:Qi8 P 10 Qcc) (hcf:Qj P c = some Qd4):Qd3 P c (Q0 Qcc):=by
 intro l1 r h
 refine Qbm hcf rfl fun Γ M hP hnt hM=>?_
 subst hP
 refine Tr.init [(0,.d (.lst 4 (List.map Q1 l1)))] rfl ?_
 unfold Q0 at h
 unfold Qd4
 refine sr ((Rn.alloc tv rfl (md rfl (nt ((sr ((md rfl ?_))))))))
 obtain ⟨⟨r3,r4⟩,h2,h⟩:=bnd h
 refine Rn.call (args:=[.d (.lst 4 (List.map Q1 l1))]) tv rfl (H_product_Compose _ _ h2) pc9 (Rn.ext (v:=.agg [.nils 1,(i_ r3.States),.nils 1,.nils 3]) (vs:=[.agg [.nils 1,(i_ r3.States),.nils 1,.nils 3],(i_ r4)]) tv rfl rfl rfl (Rn.ext (v:=(i_ r4)) (vs:=[.agg [.nils 1,(i_ r3.States),.nils 1,.nils 3],(i_ r4)]) tv rfl rfl rfl (Rn.storeT (v:=.agg [.nils 1,(i_ r3.States),.nils 1,.nils 3]) (ds:=[.nils 1,(i_ r3.States),.nils 1,.nils 3]) (cs':=[.nils 1,(i_ r3.States),.nils 1,.nils 3]) tv rfl rfl rfl rfl rfl rfl rfl (md rfl (nt ((Tr.ret ?_)))))))
 replace h:=si h; subst h
 exact ⟨.inr rfl,.tup [.agg [.nils 1,(i_ r3.States),.nils 1,.nils 3],(i_ r4)],res2 (Qfx rfl rfl rfl rfl) rfl,(WkV.tup (.cons (.same rfl) (.cons (.same rfl) .nil))).rd,⟨⟨tv,tv,tv,tv,tv⟩,tv,tv⟩,fun k hk=>Qc hk⟩
theorem Qmq {P:Program} {c:Nat} {Qf:Qb→Option Int}
    (H_automaton_Check:Qbu P 13 Qf) (hcf:Qj P c = some Qe7):Qe6 P c (Q9 Qf):=by
 intro a1 r h
 refine Qbm hcf rfl fun Γ M hP hnt hM=>?_
 subst hP
 refine Tr.init [(0,(Qa a1))] rfl ?_
 unfold Q9 at h
 unfold Qe7
 refine sr ((Rn.box (v:=(Qa a1)) (cs:=(Qd a1)) tv rfl rfl rfl rfl rfl (md rfl (md rfl (nt ((Tr.seq (sr ((Rn.load (v:=(Qa a1)) tv rfl (Ql rfl) rfl rfl ?_))))))))))
 obtain ⟨x3,h2,h⟩:=bnd h
 refine Rn.call (args:=[(Qa a1)]) tv rfl (H_automaton_Check _ _ h2) pc9 (md rfl (nt ((sr ((md rfl (Rn.bin tv rfl rfl rfl (Rn.nil (toN ?_)))))))))
 refine Tr.cond rfl (fun hb4=>?_) (fun hb4=>?_)
 ·replace h:=bT hb4 h
  refine sr ((md rfl (md rfl (md rfl (nt ((Tr.ret ?_)))))))
  replace h:=si h; subst h
  exact ⟨.inr rfl,.tup [(b_ false),(i_ x3)],res2 rfl rfl,(WkV.tup (.cons (.same rfl) (.cons (.same rfl) .nil))).rd,⟨tv,tv,tv⟩,fun k hk=>Qc hk⟩
 ·replace h:=bF hb4 h
  refine Tr.skip (toN (sr ((Rn.fldP (o':=2) tv rfl rfl (Rn.load (v:=(l_ a1.Marked)) tv rfl (Ql rfl) rfl rfl (Rn.lenD tv rfl (Rn.fldP (o':=1) tv rfl rfl (Rn.load (v:=(i_ a1.States)) tv rfl (Ql rfl) rfl rfl (Rn.bin tv rfl rfl rfl (md rfl (md rfl (nt ((Tr.ret ?_))))))))))))))
  replace h:=si h; subst h
  exact ⟨.inr rfl,.tup [(b_ ((a1.Marked.length:Int) == a1.States)),(i_ 0)],res2 rfl rfl,(WkV.tup (.cons (.same rfl) (.cons (.same rfl) .nil))).rd,⟨tv,tv,tv⟩,fun k hk=>Qc hk⟩
theorem Qwj {P:Program} {c:Nat} {Qf:Qb→Option Int}
    (H_automaton_Check:Qbu P 13 Qf) (hcf:Qj P c = some Qh8) (fuel:Nat):Qh7 P c (Qb3 Qf fuel):=by
 intro a1 r h
 refine Qbm hcf rfl fun Γ M hP hnt hM=>?_
 subst hP
 refine Tr.init [(0,(Qa a1))] rfl ?_
 unfold Qb3 at h
 unfold Qh8
 refine sr ((Rn.box (v:=(Qa a1)) (cs:=(Qd a1)) tv rfl rfl rfl rfl rfl (Rn.movTC (v:=.nils 1) tv (md rfl (nt ((Tr.seq (sr ((Rn.load (v:=(Qa a1)) tv rfl (Ql rfl) rfl rfl ?_))))))))))
 obtain ⟨x3,h2,h⟩:=bnd h
 refine Rn.call (args:=[(Qa a1)]) tv rfl (H_automaton_Check _ _ h2) pc9 (md rfl (nt ((sr ((md rfl (Rn.bin tv rfl rfl rfl (Rn.nil (toN ?_)))))))))
 refine Tr.cond rfl (fun hb4=>?_) (fun hb4=>?_)
 ·replace h:=bT hb4 h
  refine sr ((md rfl (Rn.movTC (v:=.nils 1) tv (md rfl (nt ((Tr.ret ?_)))))))
  replace h:=si h; subst h
  exact ⟨.inr rfl,.tup [.nils 1,(i_ x3)],res2 rfl rfl,(WkV.tup (.cons (WkV.nilsO _) (.cons (.same rfl) .nil))).rd,⟨tv,tv,tv⟩,fun k hk=>Qc hk⟩
 ·replace h:=bF hb4 h
  refine Tr.skip (toN (sr ((Rn.mkmap tv rfl (fun (x:Int)=>((i_ x):V)) (fun (x:Int)=>((i_ x):V)) (Rn.mov (v:=.mp (Γ.n0 + 16)) tv rfl (Rn.nil (toN ?_)))))))
  refine Tr.cutB (fun (c16:List (Int×Int))=>⟨look [(1,.ptr (Γ.n0 + 1) 0),(5,.mp (Γ.n0 + 16))],Qk Γ.n0 (bxs [(1,.cells ((Qd a1))),(16,.mp (mapE (fun (x:Int)=>((i_ x):V)) (fun (x:Int)=>((i_ x):V)) 0 c16) (c16).length)]) M,Γ.n0 + 54⟩) h (fun z h=>?_) (fun z h=>?_)
  ·refine sr ((Rn.fldP (o':=3) tv rfl rfl (Rn.load (v:=.d (.lst 3 (List.map Qe a1.Edges))) tv rfl (Ql rfl) rfl rfl (Rn.lenD tv rfl (md rfl (nt ((Tr.block ?_))))))))
   refine Tr.loop (mk:=fun ((x5,c6):Int×(List (Int×Int)))=>⟨look [(1,.ptr (Γ.n0 + 1) 0),(5,.mp (Γ.n0 + 16)),(18,.d (.lst 3 (List.map Qe a1.Edges))),(19,(i_ (a1.Edges.length:Int))),(20,(i_ x5))],Qk Γ.n0 (bxs [(1,.cells ((Qd a1))),(16,.mp (mapE (fun (x:Int)=>((i_ x):V)) (fun (x:Int)=>((i_ x):V)) 0 c6) (c6).length)]) M,Γ.n0 + 54⟩) h (by exact Qm ⟨(kPtr rfl),(kMp rfl),(sm rfl),(sm rfl),(sm rfl),tv⟩ ⟨⟨_,rfl,rfl,(.same rfl)⟩,⟨rfl,rfl⟩,tv⟩ rfl) (fun k7 z h=>?_)
   ·obtain ⟨x5,c6⟩:=z
    replace h:_ = some _:=h
    refine sr ((Rn.bin tv rfl rfl rfl (nt ((Tr.seq ?_)))))
    refine Tr.cond rfl (fun hb8=>?_) (fun hb8=>?_)
    ·replace h:=ifT hb8 h
     refine Tr.skip (toN ?_)
     refine Tr.cutB (fun ((c12,y13,y14,y15):(List (Int×Int))×Int×Int×Int)=>⟨look [(1,.ptr (Γ.n0 + 1) 0),(5,.mp (Γ.n0 + 16)),(18,.d (.lst 3 (List.map Qe a1.Edges))),(19,(i_ (a1.Edges.length:Int))),(20,(i_ x5))],Qk Γ.n0 (bxs [(1,.cells ((Qd a1))),(7,.cells ([(i_ y13),(i_ y14),(i_ y15)])),(16,.mp (mapE (fun (x:Int)=>((i_ x):V)) (fun (x:Int)=>((i_ x):V)) 0 c12) (c12).length)]) M,Γ.n0 + 54⟩) h (fun z h=>?_) (fun z h=>?_)
     ·refine Tr.block (Tr.seq (Tr.rgn ?_))
      obtain ⟨x9,h10,h⟩:=bnd h
      refine Rn.idxD (e:=Qe) tv rfl rfl h10 (Rn.loadCA (vs:=(Qb5 x9)) tv rfl rfl rfl (Rn.alloc tv rfl (Rn.store (v:=(Qcn x9)) (cs':=(Qb5 x9)) tv rfl rfl rfl rfl rfl rfl (nt ((sr ((Rn.fldP (o':=0) tv rfl rfl (Rn.load (v:=(i_ x9.From)) tv rfl (Ql rfl) rfl rfl (Rn.fldP (o':=2) tv rfl rfl (Rn.load (v:=(i_ x9.To)) tv rfl (Ql rfl) rfl rfl (Rn.bin tv rfl rfl rfl (Rn.nil (toN ?_))))))))))))))
      refine Tr.cond rfl (fun hb11=>?_) (fun hb11=>?_)
      ·replace h:=bT hb11 h
       refine Tr.rgn (Rn.mov (v:=.mp (Γ.n0 + 16)) tv rfl (Rn.fldP (o':=1) tv rfl rfl (Rn.load (v:=(i_ x9.Event)) tv rfl (Ql rfl) rfl rfl (Rn.lookup (ek:=(fun (x:Int)=>((i_ x):V))) (ev:=(fun (x:Int)=>((i_ x):V))) (m:=c6) (k:=x9.Event) (fun _ _=>rfl) (fun _=>rfl) (fun _=>rfl) 0 rfl tv rfl rfl rfl (Rn.bin tv rfl rfl rfl (Rn.mapset (ek:=(fun (x:Int)=>((i_ x):V))) (ev:=(fun (x:Int)=>((i_ x):V))) (m:=c6) (k:=x9.Event) (v:=(IntKind.wrap .i64 ((getM c6 x9.Event 0) + 1))) (fun _ _=>rfl) (fun _=>rfl) (fun _=>rfl) tv rfl rfl rfl rfl rfl (Rn.nil ?_)))))))
       replace h:=si h; subst h
       exact Qh [] ⟨(kPtr rfl),(kMp rfl),(sm rfl),(sm rfl),(sm rfl),tv⟩ ⟨⟨_,rfl,rfl,(.same rfl)⟩,⟨_,rfl,rfl,(.same rfl)⟩,⟨rfl,rfl⟩,tv⟩ rfl
      ·replace h:=bF hb11 h
       refine Tr.skip ?_
       replace h:=si h; subst h
       exact Qh [] ⟨(kPtr rfl),(kMp rfl),(sm rfl),(sm rfl),(sm rfl),tv⟩ ⟨⟨_,rfl,rfl,(.same rfl)⟩,⟨_,rfl,rfl,(.same rfl)⟩,⟨rfl,rfl⟩,tv⟩ rfl
     ·obtain ⟨c12,y13,y14,y15⟩:=z
      refine Tr.rgn (Rn.bin tv rfl rfl rfl (md rfl (Rn.nil ?_)))
      exact ⟨_,h,(by exact Qm ⟨(kPtr rfl),(kMp rfl),(sm rfl),(sm rfl),(sm rfl),tv⟩ ⟨⟨_,rfl,rfl,(.same rfl)⟩,⟨rfl,rfl⟩,tv⟩ rfl)⟩
    ·replace h:=ifF hb8 h
     refine Tr.exit ?_
     replace h:=si h; subst h
     exact Qh [] ⟨(kPtr rfl),(kMp rfl),tv⟩ ⟨⟨_,rfl,rfl,(.same rfl)⟩,⟨rfl,rfl⟩,tv⟩ rfl
  ·obtain ⟨c16,rfl⟩ : ∃ x,x = z:=⟨_,rfl⟩
   refine sr ((Rn.movTC (v:=.nils 1) tv (Rn.nil (toN ?_))))
   refine Tr.cutB (fun (out27:List Int)=>⟨look [(8,(o_ out27))],Qk Γ.n0 (bxs [(1,.cells ((Qd a1))),(16,.mp (mapE (fun (x:Int)=>((i_ x):V)) (fun (x:Int)=>((i_ x):V)) 0 c16) (c16).length)]) M,Γ.n0 + 54⟩) h (fun z h=>?_) (fun z h=>?_)
   ·refine sr ((Rn.fldP (o':=0) tv rfl rfl (Rn.load (v:=(l_ a1.Alphabet)) tv rfl (Ql rfl) rfl rfl (Rn.lenD tv rfl (md rfl (nt ((Tr.block ?_))))))))
    refine Tr.loop (mk:=fun ((out17,x18):(List Int)×Int)=>⟨look [(1,.ptr (Γ.n0 + 1) 0),(5,.mp (Γ.n0 + 16)),(8,(o_ out17)),(36,(l_ a1.Alphabet)),(37,(i_ (a1.Alphabet.length:Int))),(38,(i_ x18))],Qk Γ.n0 (bxs [(1,.cells ((Qd a1))),(16,.mp (mapE (fun (x:Int)=>((i_ x):V)) (fun (x:Int)=>((i_ x):V)) 0 c16) (c16).length)]) M,Γ.n0 + 54⟩) h (by exact Qm ⟨(kPtr rfl),(kMp rfl),(WkV.nilsO _),(sm rfl),(sm rfl),(sm rfl),tv⟩ ⟨⟨_,rfl,rfl,(.same rfl)⟩,⟨rfl,rfl⟩,tv⟩ rfl) (fun k19 z h=>?_)
    ·obtain ⟨out17,x18⟩:=z
     replace h:_ = some _:=h
     refine sr ((Rn.bin tv rfl rfl rfl (nt ((Tr.seq ?_)))))
     refine Tr.cond rfl (fun hb20=>?_) (fun hb20=>?_)
     ·replace h:=ifT hb20 h
      refine Tr.skip (toN ?_)
      refine Tr.cutB (fun (out26:List Int)=>⟨look [(1,.ptr (Γ.n0 + 1) 0),(5,.mp (Γ.n0 + 16)),(8,(o_ out26)),(36,(l_ a1.Alphabet)),(37,(i_ (a1.Alphabet.length:Int))),(38,(i_ x18))],Qk Γ.n0 (bxs [(1,.cells ((Qd a1))),(16,.mp (mapE (fun (x:Int)=>((i_ x):V)) (fun (x:Int)=>((i_ x):V)) 0 c16) (c16).length)]) M,Γ.n0 + 54⟩) h (fun z h=>?_) (fun z h=>?_)
      ·refine Tr.block (Tr.seq (Tr.rgn ?_))
       obtain ⟨x21,h22,h⟩:=bnd h
       refine Rn.idxD (e:=(eI .i64)) tv rfl rfl h22 (Rn.loadC (x:=.int .i64 x21) tv rfl (md rfl (nt ((sr ((Rn.mov (v:=.mp (Γ.n0 + 16)) tv rfl (md rfl (Rn.lookup (ek:=(fun (x:Int)=>((i_ x):V))) (ev:=(fun (x:Int)=>((i_ x):V))) (m:=c16) (k:=x21) (fun _ _=>rfl) (fun _=>rfl) (fun _=>rfl) 0 rfl tv rfl rfl rfl (Rn.fldP (o':=1) tv rfl rfl (Rn.load (v:=(i_ a1.States)) tv rfl (Ql rfl) rfl rfl (Rn.bin tv rfl rfl rfl (Rn.nil (toN ?_))))))))))))))
       refine Tr.cond rfl (fun hb23=>?_) (fun hb23=>?_)
       ·replace h:=bT hb23 h
        refine Tr.rgn (Rn.movTO tv rfl (md rfl (Rn.bslice (xs:=[(i_ x21)]) (cs:=[(i_ x21)]) tv rfl rfl rfl rfl ?_)))
        obtain ⟨x24,h25,h⟩:=bnd h
        refine Rn.app (e:=(eI .i64)) tv rfl rfl rfl (Qjj rfl rfl rfl) h25 rfl (Rn.movTO tv rfl (Rn.nil ?_))
        replace h:=si h; subst h
        exact Qh [50] ⟨(kPtr rfl),(kMp rfl),(sm rfl),(sm rfl),(sm rfl),(sm rfl),tv⟩ ⟨⟨_,rfl,rfl,(.same rfl)⟩,⟨rfl,rfl⟩,tv⟩ rfl
       ·replace h:=bF hb23 h
        refine Tr.skip ?_
        replace h:=si h; subst h
        exact Qh [] ⟨(kPtr rfl),(kMp rfl),(sm rfl),(sm rfl),(sm rfl),(sm rfl),tv⟩ ⟨⟨_,rfl,rfl,(.same rfl)⟩,⟨rfl,rfl⟩,tv⟩ rfl
      ·obtain ⟨out26,rfl⟩ : ∃ x,x = z:=⟨_,rfl⟩
       refine Tr.rgn (Rn.bin tv rfl rfl rfl (md rfl (Rn.nil ?_)))
       exact ⟨_,h,(by exact Qm ⟨(kPtr rfl),(kMp rfl),(sm rfl),(sm rfl),(sm rfl),(sm rfl),tv⟩ ⟨⟨_,rfl,rfl,(.same rfl)⟩,⟨rfl,rfl⟩,tv⟩ rfl)⟩
     ·replace h:=ifF hb20 h
      refine Tr.exit ?_
      replace h:=si h; subst h
      exact Qh [] ⟨(sm rfl),tv⟩ ⟨⟨_,rfl,rfl,(.same rfl)⟩,⟨rfl,rfl⟩,tv⟩ rfl
   ·obtain ⟨out27,rfl⟩ : ∃ x,x = z:=⟨_,rfl⟩
    refine sr ((Rn.movTO tv rfl (Rn.movTO tv rfl (md rfl (nt ((Tr.ret ?_)))))))
    replace h:=si h; subst h
    exact ⟨.inr rfl,.tup [(o_ out27),(i_ 0)],res2 rfl rfl,(WkV.tup (.cons (.same rfl) (.cons (.same rfl) .nil))).rd,⟨tv,tv,tv⟩,fun k hk=>Qc hk⟩
theorem Qwk {P:Program} {c:Nat} (hcf:Qj P c = some Qia):Qh9 P c (Qck):=by
 intro x1 x2 k3 r h
 intro M nb hk4
 refine Q40 hcf rfl M nb fun Γ hP hnt hn0 hM=>?_
 subst hP hn0
 refine Tr.init [(0,(Qcn x1)),(1,.ptr k3 0)] rfl ?_
 unfold Qck at h
 unfold Qia
 refine sr ((Rn.box (v:=(Qcn x1)) (cs:=(Qb5 x1)) tv rfl rfl rfl rfl rfl (md rfl (nt ((sr ((Rn.fldP (o':=1) tv rfl rfl (Rn.load (v:=(i_ x1.Event)) tv rfl (Ql rfl) rfl rfl (Rn.load (v:=(i_ x2)) tv rfl (Q0e hM hk4) rfl rfl (Rn.bin tv rfl rfl rfl (md rfl (nt ((Tr.ret ?_)))))))))))))))
 replace h:=si h; subst h
 exact ⟨.inr rfl,(b_ (x1.Event == x2)),rfl,fun _ _ _ _ h=>h,tv,fun k hk=>Qc hk⟩
theorem Qld {P:Program} {c:Nat} (hcf:Qj P c = some Qek) (fuel:Nat):Qej P c (Qbe fuel):=by
 intro s1 f2 g3 cp4 r h
 intro M nb hc5 ho7 hf6
 refine Q40 hcf rfl M nb fun Γ hP hnt hn0 hM=>?_
 subst hP hn0
 refine Tr.init [(0,.d (.lst 3 (List.map Qe s1))),(1,.clo g3 cp4)] rfl ?_
 unfold Qbe at h
 unfold Qek
 refine sr ((md rfl (nt ((Tr.seq (sr ((md rfl (Rn.lenD tv rfl (md rfl (nt ((Tr.block ?_)))))))))))))
 refine Tr.loop (mk:=fun (x9:Int)=>⟨look [(0,.d (.lst 3 (List.map Qe s1))),(1,.clo g3 cp4),(7,(i_ (s1.length:Int))),(8,(i_ x9))],Qk Γ.n0 (bxs []) M,Γ.n0 + 19⟩) h (by exact Qm ⟨(sm rfl),(kFun hM ho7),(sm rfl),(sm rfl),tv⟩ tv rfl) (fun k10 z h=>?_)
 ·obtain ⟨x9,rfl⟩ : ∃ x,x = z:=⟨_,rfl⟩
  replace h:_ = some _:=h
  refine sr ((Rn.bin tv rfl rfl rfl (nt ((Tr.seq ?_)))))
  refine Tr.cond rfl (fun hb11=>?_) (fun hb11=>?_)
  ·replace h:=ifT hb11 h
   refine Tr.skip (toN (Tr.seq (Tr.block (sr ((md rfl (md rfl (nt ((sr ((Rn.mov (v:=.clo g3 cp4) tv rfl (md rfl (md rfl ?_))))))))))))))
   obtain ⟨x12,h13,h⟩:=bnd h
   refine Rn.idxD (e:=Qe) tv rfl rfl h13 (Rn.loadCA (vs:=(Qb5 x12)) tv rfl rfl rfl ?_)
   obtain ⟨x15,h14,h⟩:=bnd h
   refine Rn.callvM (args:=[(Qcn x12)] ++ cp4) tv rfl (by rw [hc5]; rfl) (fun M2 nb2 hn hx=>hf6 _ _ h14 M2 nb2 (by omega) ((Q6d hM).trans hx)) rfl pc9 ?_
   refine Rn.nil (toN ?_)
   refine Tr.cond rfl (fun hb16=>?_) (fun hb16=>?_)
   ·replace h:=bT hb16 h
    refine sr ((md rfl (md rfl (nt ((Tr.ret ?_))))))
    replace h:=si h; subst h
    exact ⟨.inr rfl,(i_ x9),rfl,fun _ _ _ _ h=>h,tv,fun k hk=>Qc hk⟩
   ·replace h:=bF hb16 h
    refine Tr.skip (toN (Tr.rgn (Rn.bin tv rfl rfl rfl (md rfl (Rn.nil ?_)))))
    exact ⟨_,h,(by exact Qm ⟨(sm rfl),(kFun hM ho7),(sm rfl),(sm rfl),tv⟩ tv rfl)⟩
  ·replace h:=ifF hb11 h
   refine Tr.exit (toN (sr ((md rfl (nt ((Tr.ret ?_)))))))
   replace h:=si h; subst h
   exact ⟨.inr rfl,(i_ (-1)),rfl,fun _ _ _ _ h=>h,tv,fun k hk=>Qc hk⟩
theorem Q08 {P:Program} {c:Nat} {Qbl:Qb→Int→Option ((List Qi))} {Qbe:(List Qi)→(Qi→Option Bool)→Option Int} {Qck:Qi→Int→Option Bool}
    (H_automaton_out:Qh0 P 65 Qbl)
    (H_slices_IndexFunc_Edge:Qej P 126 Qbe)
    (H_automaton_next_1:Qh9 P 127 Qck) (hcf:Qj P c = some Qjx):Qjw P c (Qc4 Qbl Qbe Qck):=by
 intro a1 state2 event3 r h
 refine Qbm hcf rfl fun Γ M hP hnt hM=>?_
 subst hP
 refine Tr.init [(0,(Qa a1)),(1,(i_ state2)),(2,(i_ event3))] rfl ?_
 unfold Qc4 at h
 unfold Qjx
 refine sr ((Rn.box (v:=(Qa a1)) (cs:=(Qd a1)) tv rfl rfl rfl rfl rfl (Rn.box (v:=(i_ event3)) (cs:=[(i_ event3)]) tv rfl rfl rfl rfl rfl (md rfl (nt ((sr ((Rn.load (v:=(Qa a1)) tv rfl (Ql rfl) rfl rfl (md rfl ?_))))))))))
 obtain ⟨x5,h4,h⟩:=bnd h
 refine Rn.call (args:=[(Qa a1),(i_ state2)]) tv rfl (H_automaton_out _ _ _ h4) pc9 (Rn.movTD tv rfl (nt ((sr ((md rfl (Rn.k (v:=.clo 127 [.ptr (Γ.n0 + 5) 0]) tv rfl rfl rfl ?_)))))))
 obtain ⟨x10,h9,h⟩:=bnd h
 refine Rn.callM (args:=[.d (.lst 3 (List.map Qe x5)),.clo 127 [.ptr (Γ.n0 + 5) 0]]) tv rfl (fun M2 nb2 hn hx=>H_slices_IndexFunc_Edge _ _ 127 [.ptr (Γ.n0 + 5) 0] _ h9 M2 nb2 rfl ⟨Q3z (hx _ _ (Ql rfl)),tv⟩ (fun a6 r7 h8 M3 nb3 hn3 hx3=>H_automaton_next_1 a6 event3 (Γ.n0 + 5) r7 h8 M3 nb3 ((hx.trans hx3) _ _ (Ql rfl)))) rfl pc9 ?_
 refine md rfl (nt ((Tr.seq (sr ((md rfl (Rn.bin tv rfl rfl rfl (Rn.nil (toN ?_)))))))))
 refine Tr.cond rfl (fun hb11=>?_) (fun hb11=>?_)
 ·replace h:=ifT hb11 h
  refine sr ((md rfl (nt ((Tr.ret ?_)))))
  replace h:=si h; subst h
  exact ⟨.inr rfl,(i_ (-1)),rfl,fun _ _ _ _ h=>h,tv,fun k hk=>Qc hk⟩
 ·replace h:=ifF hb11 h
  refine Tr.skip (toN (sr ((md rfl (md rfl ?_)))))
  obtain ⟨x12,h13,h⟩:=bnd h
  refine Rn.idxD (e:=Qe) tv rfl rfl h13 (Rn.fldC tv rfl (Rn.loadC (x:=.int .i64 x12.To) tv rfl (md rfl (nt ((Tr.ret ?_))))))
  replace h:=si h; subst h
  exact ⟨.inr rfl,(i_ x12.To),rfl,fun _ _ _ _ h=>h,tv,fun k hk=>Qc hk⟩
theorem Qwl {P:Program} {c:Nat} {Qc4:Qb→Int→Int→Option Int}
    (H_automaton_next:Qjw P 115 Qc4) (hcf:Qj P c = some Qic) (fuel:Nat):Qib P c (Qcl Qc4 fuel):=by
 intro a1 state2 word3 r h
 refine Qbm hcf rfl fun Γ M hP hnt hM=>?_
 subst hP
 refine Tr.init [(0,(Qa a1)),(1,(i_ state2)),(2,(l_ word3))] rfl ?_
 unfold Qcl at h
 unfold Qic
 refine sr ((Rn.box (v:=(Qa a1)) (cs:=(Qd a1)) tv rfl rfl rfl rfl rfl (md rfl (md rfl (nt ((Tr.seq (sr ((md rfl (Rn.lenD tv rfl (md rfl (nt ((Tr.block ?_)))))))))))))))
 refine Tr.loop (mk:=fun ((state4,x5):Int×Int)=>⟨look [(1,(i_ state4)),(2,(l_ word3)),(3,.ptr (Γ.n0 + 3) 0),(11,(l_ word3)),(12,(i_ (word3.length:Int))),(13,(i_ x5))],Qk Γ.n0 (bxs [(3,.cells ((Qd a1)))]) M,Γ.n0 + 31⟩) h (by exact Qm ⟨(sm rfl),(sm rfl),(kPtr rfl),(sm rfl),(sm rfl),(sm rfl),tv⟩ ⟨⟨_,rfl,rfl,(.same rfl)⟩,tv⟩ rfl) (fun k6 z h=>?_)
 ·obtain ⟨state4,x5⟩:=z
  replace h:_ = some _:=h
  refine sr ((Rn.bin tv rfl rfl rfl (nt ((Tr.seq ?_)))))
  refine Tr.cond rfl (fun hb7=>?_) (fun hb7=>?_)
  ·replace h:=ifT hb7 h
   refine Tr.skip (toN (Tr.seq (Tr.block (sr ((md rfl ?_))))))
   obtain ⟨x8,h9,h⟩:=bnd h
   refine Rn.idxD (e:=(eI .i64)) tv rfl rfl h9 (Rn.loadC (x:=.int .i64 x8) tv rfl (md rfl (md rfl (nt ((sr ((Rn.load (v:=(Qa a1)) tv rfl (Ql rfl) rfl rfl (md rfl (md rfl ?_))))))))))
   obtain ⟨x11,h10,h⟩:=bnd h
   refine Rn.call (args:=[(Qa a1),(i_ state4),(i_ x8)]) tv rfl (H_automaton_next _ _ _ _ h10) pc9 (md rfl (nt ((Tr.seq (sr ((md rfl (Rn.bin tv rfl rfl rfl (Rn.nil (toN ?_))))))))))
   refine Tr.cond rfl (fun hb12=>?_) (fun hb12=>?_)
   ·replace h:=ifT hb12 h
    refine sr ((md rfl (md rfl (md rfl (md rfl (nt ((Tr.ret ?_))))))))
    replace h:=si h; subst h
    exact ⟨.inr rfl,.tup [(i_ state4),(i_ x5)],res2 rfl rfl,(WkV.tup (.cons (.same rfl) (.cons (.same rfl) .nil))).rd,⟨tv,tv,tv⟩,fun k hk=>Qc hk⟩
   ·replace h:=ifF hb12 h
    refine Tr.skip (toN (Tr.rgn (md rfl (md rfl (nt ((Tr.rgn (Rn.bin tv rfl rfl rfl (md rfl (Rn.nil ?_))))))))))
    exact ⟨_,h,(by exact Qm ⟨(sm rfl),(sm rfl),(kPtr rfl),(sm rfl),(sm rfl),(sm rfl),tv⟩ ⟨⟨_,rfl,rfl,(.same rfl)⟩,tv⟩ rfl)⟩
  ·replace h:=ifF hb7 h
   refine Tr.exit (toN (sr ((md rfl (md rfl (Rn.lenD tv rfl (md rfl (md rfl (nt ((Tr.ret ?_)))))))))))
   replace h:=si h; subst h
   exact ⟨.inr rfl,.tup [(i_ state4),(i_ (word3.length:Int))],res2 rfl rfl,(WkV.tup (.cons (.same rfl) (.cons (.same rfl) .nil))).rd,⟨tv,tv,tv⟩,fun k hk=>Qc hk⟩
theorem Qt0 {P:Program} {c:Nat} {Qcl:Qb→Int→(List Int)→Option (Int×Int)}
    (H_automaton_follow:Qib P 92 Qcl) (hcf:Qj P c = some Qhe):Qhd P c (Qb9 Qcl):=by
 intro a1 word2 r h
 refine Qbm hcf rfl fun Γ M hP hnt hM=>?_
 subst hP
 refine Tr.init [(0,(Qa a1)),(1,(l_ word2))] rfl ?_
 unfold Qb9 at h
 unfold Qhe
 refine sr ((Rn.box (v:=(Qa a1)) (cs:=(Qd a1)) tv rfl rfl rfl rfl rfl (md rfl (md rfl (nt ((Tr.seq (sr ((Rn.fldP (o':=1) tv rfl rfl (Rn.load (v:=(i_ a1.States)) tv rfl (Ql rfl) rfl rfl (Rn.bin tv rfl rfl rfl (Rn.nil (toN ?_))))))))))))))
 refine Tr.cond rfl (fun hb3=>?_) (fun hb3=>?_)
 ·replace h:=bT hb3 h
  refine sr ((md rfl (md rfl (nt ((Tr.ret ?_))))))
  replace h:=si h; subst h
  exact ⟨.inr rfl,.tup [(i_ 0),(b_ false)],res2 rfl rfl,(WkV.tup (.cons (.same rfl) (.cons (.same rfl) .nil))).rd,⟨tv,tv,tv⟩,fun k hk=>Qc hk⟩
 ·replace h:=bF hb3 h
  refine Tr.skip (toN (sr ((Rn.load (v:=(Qa a1)) tv rfl (Ql rfl) rfl rfl (md rfl ?_)))))
  obtain ⟨⟨r5,r6⟩,h4,h⟩:=bnd h
  refine Rn.call (args:=[(Qa a1),(i_ 0),(l_ word2)]) tv rfl (H_automaton_follow _ _ _ _ h4) pc9 (Rn.mov (v:=.tup [(i_ r5),(i_ r6)]) tv rfl (Rn.ext (v:=(i_ r5)) (vs:=[(i_ r5),(i_ r6)]) tv rfl rfl rfl (Rn.ext (v:=(i_ r6)) (vs:=[(i_ r5),(i_ r6)]) tv rfl rfl rfl (md rfl (md rfl (nt ((sr ((md rfl (md rfl (md rfl (Rn.lenD tv rfl (Rn.bin tv rfl rfl rfl (md rfl (md rfl (nt ((Tr.ret ?_)))))))))))))))))))
  replace h:=si h; subst h
  exact ⟨.inr rfl,.tup [(i_ r5),(b_ (r6 == (word2.length:Int)))],res2 rfl rfl,(WkV.tup (.cons (.same rfl) (.cons (.same rfl) .nil))).rd,⟨tv,tv,tv⟩,fun k hk=>Qc hk⟩
theorem Qo8 {P:Program} {c:Nat} {Qf:Qb→Option Int} {Qb9:Qb→(List Int)→Option (Int×Bool)}
    (H_automaton_Check:Qbu P 13 Qf)
    (H_automaton_reached:Qhd P 69 Qb9) (hcf:Qj P c = some Qfs):Qfr P c (Qbo Qf Qb9):=by
 intro a1 word2 r h
 refine Qbm hcf rfl fun Γ M hP hnt hM=>?_
 subst hP
 refine Tr.init [(0,(Qa a1)),(1,(l_ word2))] rfl ?_
 unfold Qbo at h
 unfold Qfs
 refine sr ((Rn.box (v:=(Qa a1)) (cs:=(Qd a1)) tv rfl rfl rfl rfl rfl (md rfl (md rfl (nt ((Tr.seq (sr ((Rn.load (v:=(Qa a1)) tv rfl (Ql rfl) rfl rfl ?_))))))))))
 obtain ⟨x4,h3,h⟩:=bnd h
 refine Rn.call (args:=[(Qa a1)]) tv rfl (H_automaton_Check _ _ h3) pc9 (md rfl (nt ((sr ((md rfl (Rn.bin tv rfl rfl rfl (Rn.nil (toN ?_)))))))))
 refine Tr.cond rfl (fun hb5=>?_) (fun hb5=>?_)
 ·replace h:=bT hb5 h
  refine sr ((md rfl (md rfl (md rfl (nt ((Tr.ret ?_)))))))
  replace h:=si h; subst h
  exact ⟨.inr rfl,.tup [(b_ false),(i_ x4)],res2 rfl rfl,(WkV.tup (.cons (.same rfl) (.cons (.same rfl) .nil))).rd,⟨tv,tv,tv⟩,fun k hk=>Qc hk⟩
 ·replace h:=bF hb5 h
  refine Tr.skip (toN (sr ((Rn.load (v:=(Qa a1)) tv rfl (Ql rfl) rfl rfl (md rfl ?_)))))
  obtain ⟨⟨r7,r8⟩,h6,h⟩:=bnd h
  refine Rn.call (args:=[(Qa a1),(l_ word2)]) tv rfl (H_automaton_reached _ _ _ h6) pc9 (Rn.mov (v:=.tup [(i_ r7),(b_ r8)]) tv rfl (Rn.ext (v:=(i_ r7)) (vs:=[(i_ r7),(b_ r8)]) tv rfl rfl rfl (Rn.ext (v:=(b_ r8)) (vs:=[(i_ r7),(b_ r8)]) tv rfl rfl rfl (md rfl (md rfl (nt ((sr ((md rfl (md rfl (md rfl (nt ((Tr.ret ?_)))))))))))))))
  replace h:=si h; subst h
  exact ⟨.inr rfl,.tup [(b_ r8),(i_ 0)],res2 rfl rfl,(WkV.tup (.cons (.same rfl) (.cons (.same rfl) .nil))).rd,⟨tv,tv,tv⟩,fun k hk=>Qc hk⟩
theorem Qrt {P:Program} {c:Nat} {Qf:Qb→Option Int} {Qz:(List Int)→Int→Option Bool} {Qbo:Qb→(List Int)→Option (Bool×Int)}
    (H_automaton_Check:Qbu P 13 Qf)
    (H_alphabet_Contains:Qei P 31 Qz)
    (H_automaton_Generates:Qfr P 32 Qbo) (hcf:Qj P c = some Qga) (fuel:Nat):Qf9 P c (Qbj Qf Qz Qbo fuel):=by
 intro a1 word2 r h
 refine Qbm hcf rfl fun Γ M hP hnt hM=>?_
 subst hP
 refine Tr.init [(0,(Qa a1)),(1,(l_ word2))] rfl ?_
 unfold Qbj at h
 unfold Qga
 refine sr ((Rn.box (v:=(Qa a1)) (cs:=(Qd a1)) tv rfl rfl rfl rfl rfl (md rfl (md rfl (nt ((Tr.seq (sr ((Rn.load (v:=(Qa a1)) tv rfl (Ql rfl) rfl rfl ?_))))))))))
 obtain ⟨x4,h3,h⟩:=bnd h
 refine Rn.call (args:=[(Qa a1)]) tv rfl (H_automaton_Check _ _ h3) pc9 (md rfl (nt ((sr ((md rfl (Rn.bin tv rfl rfl rfl (Rn.nil (toN ?_)))))))))
 refine Tr.cond rfl (fun hb5=>?_) (fun hb5=>?_)
 ·replace h:=bT hb5 h
  refine sr ((md rfl (md rfl (md rfl (nt ((Tr.ret ?_)))))))
  replace h:=si h; subst h
  exact ⟨.inr rfl,.tup [(b_ false),(i_ x4)],res2 rfl rfl,(WkV.tup (.cons (.same rfl) (.cons (.same rfl) .nil))).rd,⟨tv,tv,tv⟩,fun k hk=>Qc hk⟩
 ·replace h:=bF hb5 h
  refine Tr.skip (toN (Tr.seq (sr ((md rfl (Rn.lenD tv rfl (Rn.bin tv rfl rfl rfl (Rn.nil (toN ?_)))))))))
  refine Tr.cond rfl (fun hb6=>?_) (fun hb6=>?_)
  ·replace h:=ifT hb6 h
   refine sr ((md rfl (md rfl (nt ((Tr.ret ?_))))))
   replace h:=si h; subst h
   exact ⟨.inr rfl,.tup [(b_ false),(i_ 15)],res2 rfl rfl,(WkV.tup (.cons (.same rfl) (.cons (.same rfl) .nil))).rd,⟨tv,tv,tv⟩,fun k hk=>Qc hk⟩
  ·replace h:=ifF hb6 h
   refine Tr.skip (toN (sr ((Rn.movTC (v:=.nils 1) tv (nt ((Tr.seq (sr ((md rfl (Rn.lenD tv rfl (md rfl (nt ((Tr.block ?_)))))))))))))))
   refine Tr.loop (mk:=fun ((own7,x8):(List Int)×Int)=>⟨look [(2,.ptr (Γ.n0 + 2) 0),(7,(o_ own7)),(18,(l_ word2)),(19,(i_ (word2.length:Int))),(20,(i_ x8))],Qk Γ.n0 (bxs [(2,.cells ((Qd a1)))]) M,Γ.n0 + 44⟩) h (by exact Qm ⟨(kPtr rfl),(WkV.nilsO _),(sm rfl),(sm rfl),(sm rfl),tv⟩ ⟨⟨_,rfl,rfl,(.same rfl)⟩,tv⟩ rfl) (fun k9 z h=>?_)
   ·obtain ⟨own7,x8⟩:=z
    replace h:_ = some _:=h
    refine sr ((Rn.bin tv rfl rfl rfl (nt ((Tr.seq ?_)))))
    refine Tr.cond rfl (fun hb10=>?_) (fun hb10=>?_)
    ·replace h:=ifT hb10 h
     refine Tr.skip (toN ?_)
     refine Tr.cutJ (fun (own21:List Int)=>⟨look [(2,.ptr (Γ.n0 + 2) 0),(7,(o_ own21)),(18,(l_ word2)),(19,(i_ (word2.length:Int))),(20,(i_ x8))],Qk Γ.n0 (bxs [(2,.cells ((Qd a1)))]) M,Γ.n0 + 44⟩) h (fun J22 h=>?_) (fun z h=>?_)
     ·refine Tr.block (Tr.seq (Tr.rgn ?_))
      obtain ⟨x11,h12,h⟩:=bnd h
      refine Rn.idxD (e:=(eI .i64)) tv rfl rfl h12 (Rn.loadC (x:=.int .i64 x11) tv rfl (md rfl (nt ((Tr.seq ?_)))))
      refine Tr.cutB (fun (x14:Bool)=>⟨look [(2,.ptr (Γ.n0 + 2) 0),(7,(o_ own7)),(9,(i_ x11)),(18,(l_ word2)),(19,(i_ (word2.length:Int))),(20,(i_ x8)),(29,(b_ x14))],Qk Γ.n0 (bxs [(2,.cells ((Qd a1)))]) M,Γ.n0 + 44⟩) h (fun z h=>?_) (fun z h=>?_)
      ·refine Tr.rgn (md rfl (Rn.bin tv rfl rfl rfl (md rfl ?_)))
       refine Qbs (decide (x11 < 0)) (fun hb13=>?_) (fun hb13=>?_)
       ·replace h:=ifT hb13 h
        refine Rn.sk (nw rfl hb13) (Rn.sk (nw rfl hb13) (Rn.pickT (v:=(b_ true)) tv rfl hb13 rfl (Rn.nil ?_)))
        replace h:=si h; subst h
        exact Qh [] ⟨(kPtr rfl),(sm rfl),(sm rfl),(sm rfl),(sm rfl),(sm rfl),(sm rfl),tv⟩ ⟨⟨_,rfl,rfl,(.same rfl)⟩,tv⟩ rfl
       ·replace h:=ifF hb13 h
        refine Rn.movD (gw rfl hb13) rfl (Rn.bin (gw rfl hb13) rfl rfl rfl (Rn.pickF (v:=(b_ (decide (x11≥32)))) tv rfl hb13 rfl (Rn.nil ?_)))
        replace h:=si h; subst h
        exact Qh [] ⟨(kPtr rfl),(sm rfl),(sm rfl),(sm rfl),(sm rfl),(sm rfl),(sm rfl),tv⟩ ⟨⟨_,rfl,rfl,(.same rfl)⟩,tv⟩ rfl
      ·obtain ⟨x14,rfl⟩ : ∃ x,x = z:=⟨_,rfl⟩
       refine Tr.cond rfl (fun hb15=>?_) (fun hb15=>?_)
       ·replace h:=bT hb15 h
        refine sr ((md rfl (md rfl (nt ((Tr.ret ?_))))))
        replace h:=si h; subst h
        exact ⟨.inr rfl,.tup [(b_ false),(i_ 2)],res2 rfl rfl,(WkV.tup (.cons (.same rfl) (.cons (.same rfl) .nil))).rd,⟨tv,tv,tv⟩,fun k hk=>Qc hk⟩
       ·replace h:=bF hb15 h
        refine Tr.skip (toN (sr ((Rn.fldP (o':=0) tv rfl rfl (Rn.load (v:=(l_ a1.Alphabet)) tv rfl (Ql rfl) rfl rfl (md rfl ?_))))))
        obtain ⟨x17,h16,h⟩:=bnd h
        refine Rn.call (args:=[(l_ a1.Alphabet),(i_ x11)]) tv rfl (H_alphabet_Contains _ _ _ h16) pc9 (Rn.nil (toN ?_))
        refine Tr.cond rfl (fun hb18=>?_) (fun hb18=>?_)
        ·replace h:=bT hb18 h
         refine Tr.rgn (Rn.movTO tv rfl (md rfl (Rn.bslice (xs:=[(i_ x11)]) (cs:=[(i_ x11)]) tv rfl rfl rfl rfl ?_)))
         obtain ⟨x19,h20,h⟩:=bnd h
         refine Rn.app (e:=(eI .i64)) tv rfl rfl rfl (Qjj rfl rfl rfl) h20 rfl (Rn.movTO tv rfl (Rn.nil ?_))
         exact ⟨_,h,(by exact Qh [36] ⟨(kPtr rfl),(sm rfl),(sm rfl),(sm rfl),(sm rfl),tv⟩ ⟨⟨_,rfl,rfl,(.same rfl)⟩,tv⟩ rfl)⟩
        ·replace h:=bF hb18 h
         refine Tr.skip ?_
         exact ⟨_,h,(by exact Qh [] ⟨(kPtr rfl),(sm rfl),(sm rfl),(sm rfl),(sm rfl),tv⟩ ⟨⟨_,rfl,rfl,(.same rfl)⟩,tv⟩ rfl)⟩
     ·obtain ⟨own21,rfl⟩ : ∃ x,x = z:=⟨_,rfl⟩
      refine Tr.rgn (Rn.bin tv rfl rfl rfl (md rfl (Rn.nil ?_)))
      exact ⟨_,h,(by exact Qm ⟨(kPtr rfl),(sm rfl),(sm rfl),(sm rfl),(sm rfl),tv⟩ ⟨⟨_,rfl,rfl,(.same rfl)⟩,tv⟩ rfl)⟩
    ·replace h:=ifF hb10 h
     refine Tr.exit (toN (sr ((Rn.load (v:=(Qa a1)) tv rfl (Ql rfl) rfl rfl (Rn.mov (v:=(l_ own7)) tv rfl ?_)))))
     obtain ⟨⟨r24,r25⟩,h23,h⟩:=bnd h
     refine Rn.call (args:=[(Qa a1),(l_ own7)]) tv rfl (H_automaton_Generates _ _ _ h23) pc9 (Rn.ext (v:=(b_ r24)) (vs:=[(b_ r24),(i_ r25)]) tv rfl rfl rfl (Rn.ext (v:=(i_ r25)) (vs:=[(b_ r24),(i_ r25)]) tv rfl rfl rfl (md rfl (md rfl (nt ((Tr.ret ?_)))))))
     replace h:=si h; subst h
     exact ⟨.inr rfl,.tup [(b_ r24),(i_ r25)],res2 rfl rfl,(WkV.tup (.cons (.same rfl) (.cons (.same rfl) .nil))).rd,⟨tv,tv,tv⟩,fun k hk=>Qc hk⟩
end Go.Abs
end
section
namespace Go.Abs
open Go
set_option maxRecDepth 10000
set_option maxHeartbeats 4000000
theorem Qge {P:Program} {c:Nat} {Qbc:Option Bool} {Q9:Qb→Option (Bool×Int)} {Q0:(List Qb)→Option (Qb×Int)} {Qbq:Qb→Option Bool} {Qf:Qb→Option Int} {Qbr:Qb→(List Int)→Option (Qb×Int)} {Qb3:Qb→Option ((List Int)×Int)} {Qr:Qb→Int→Option ((List Int)×Int)} {Qbj:Qb→(List Int)→Option (Bool×Int)}
    (H_overseerlaw21_known:Qfl P 5 Qbc)
    (H_requirement_IsSafety:Qe6 P 8 Q9)
    (H_requirement_Conjunction:Qd3 P 9 Q0)
    (H_overseerlaw21_few:Qg7 P 12 Qbq)
    (H_automaton_Check:Qbu P 13 Qf)
    (H_requirement_Widen:Qhb P 14 Qbr)
    (H_requirement_Idle:Qh7 P 15 Qb3)
    (H_requirement_Refused:Qdu P 16 Qr)
    (H_requirement_Allows:Qf9 P 17 Qbj) (hcf:Qj P c = some Qcv):Qdq P c (Qbt Qbc Q9 Q0 Qbq Qf Qbr Qb3 Qr Qbj):=by
 intro a1 r h
 refine Qbm hcf rfl fun Γ M hP hnt hM=>?_
 subst hP
 refine Tr.init [(0,(Qa a1))] rfl ?_
 unfold Qbt at h
 unfold Qcv
 refine sr ((Rn.box (v:=(Qa a1)) (cs:=(Qd a1)) tv rfl rfl rfl rfl rfl (md rfl (nt ((Tr.seq ?_))))))
 refine Tr.cutB (fun (x7:Bool)=>⟨look [(1,.ptr (Γ.n0 + 1) 0),(22,(b_ x7))],Qk Γ.n0 (bxs [(1,.cells ((Qd a1)))]) M,Γ.n0 + 110⟩) h (fun z h=>?_) (fun z h=>?_)
 ·refine Tr.rgn ?_
  obtain ⟨x3,h2,h⟩:=bnd h
  refine Rn.call (args:=[]) tv rfl (H_overseerlaw21_known _ h2) pc9 (Rn.un tv rfl rfl (md rfl ?_))
  refine Qbs x3 (fun hb4=>?_) (fun hb4=>?_)
  ·replace h:=bT hb4 h
   refine Rn.load (v:=(Qa a1)) (gw rfl (nT hb4)) rfl (Ql rfl) rfl rfl ?_
   obtain ⟨x6,h5,h⟩:=bnd h
   refine Rn.call (args:=[(Qa a1)]) (gw rfl (nT hb4)) rfl (H_overseerlaw21_few _ _ h5) pc9 (Rn.un (gw rfl (nT hb4)) rfl rfl (Rn.pickF (v:=(b_ (!x6))) tv rfl (nT hb4) rfl (Rn.nil ?_)))
   replace h:=si h; subst h
   exact Qh [] ⟨(kPtr rfl),(sm rfl),tv⟩ ⟨⟨_,rfl,rfl,(.same rfl)⟩,tv⟩ rfl
  ·replace h:=bF hb4 h
   refine Rn.sk (nw rfl (nF hb4)) (Rn.sk (nw rfl (nF hb4)) (Rn.sk (nw rfl (nF hb4)) (Rn.pickT (v:=(b_ true)) tv rfl (nF hb4) rfl (Rn.nil ?_))))
   replace h:=si h; subst h
   exact Qh [] ⟨(kPtr rfl),(sm rfl),tv⟩ ⟨⟨_,rfl,rfl,(.same rfl)⟩,tv⟩ rfl
 ·obtain ⟨x7,rfl⟩ : ∃ x,x = z:=⟨_,rfl⟩
  refine Tr.cond rfl (fun hb8=>?_) (fun hb8=>?_)
  ·replace h:=bT hb8 h
   refine Tr.seq (Tr.rgn ?_)
   obtain ⟨x10,h9,h⟩:=bnd h
   refine Rn.call (args:=[]) tv rfl (H_overseerlaw21_known _ h9) pc9 (md rfl (nt ((Tr.ret ?_))))
   replace h:=si h; subst h
   exact ⟨.inr rfl,(b_ x10),rfl,fun _ _ _ _ h=>h,tv,fun k hk=>Qc hk⟩
  ·replace h:=bF hb8 h
   refine Tr.skip (toN (sr ((Rn.load (v:=(Qa a1)) tv rfl (Ql rfl) rfl rfl ?_))))
   obtain ⟨x12,h11,h⟩:=bnd h
   refine Rn.call (args:=[(Qa a1)]) tv rfl (H_automaton_Check _ _ h11) pc9 (md rfl (nt ((Tr.seq (sr ((md rfl (Rn.bin tv rfl rfl rfl (Rn.nil (toN ?_))))))))))
   refine Tr.cond rfl (fun hb13=>?_) (fun hb13=>?_)
   ·replace h:=bT hb13 h
    refine sr ((md rfl (nt ((Tr.ret ?_)))))
    replace h:=si h; subst h
    exact ⟨.inr rfl,(b_ true),rfl,fun _ _ _ _ h=>h,tv,fun k hk=>Qc hk⟩
   ·replace h:=bF hb13 h
    refine Tr.skip (toN (sr ((Rn.load (v:=(Qa a1)) tv rfl (Ql rfl) rfl rfl ?_))))
    obtain ⟨⟨r15,r16⟩,h14,h⟩:=bnd h
    refine Rn.call (args:=[(Qa a1),.nils 1]) tv rfl (fun M2 nb2=>ACalls.weak (args':=[(Qa a1),(l_ [])]) (H_requirement_Widen _ _ _ h14 M2 nb2) (.cons (sm rfl) (.cons (WkV.nilsD _) .nil)) rfl) pc9 ?_
    refine Rn.mov (v:=.tup [.agg [.nils 1,(i_ r15.States),.nils 1,.nils 3],(i_ r16)]) tv rfl (Rn.ext (v:=.agg [.nils 1,(i_ r15.States),.nils 1,.nils 3]) (vs:=[.agg [.nils 1,(i_ r15.States),.nils 1,.nils 3],(i_ r16)]) tv rfl rfl rfl (Rn.ext (v:=(i_ r16)) (vs:=[.agg [.nils 1,(i_ r15.States),.nils 1,.nils 3],(i_ r16)]) tv rfl rfl rfl (Rn.alloc tv rfl (Rn.storeT (v:=.agg [.nils 1,(i_ r15.States),.nils 1,.nils 3]) (ds:=[.nils 1,(i_ r15.States),.nils 1,.nils 3]) (cs':=[.nils 1,(i_ r15.States),.nils 1,.nils 3]) tv rfl rfl rfl rfl rfl rfl rfl (md rfl (nt ((sr ((Rn.build (v:=.agg [.nils 1,(i_ 1),.nils 1,.nils 3]) tv rfl (Rn.load (v:=(Qa a1)) tv rfl (Ql rfl) rfl rfl (Rn.bslice (xs:=[.agg [.nils 1,(i_ 1),.nils 1,.nils 3],(Qa a1)]) (cs:=[.nils 1,(i_ 1),.nils 1,.nils 3,(l_ a1.Alphabet),(i_ a1.States),(l_ a1.Marked),.d (.lst 3 (List.map Qe a1.Edges))]) tv rfl rfl rfl rfl ?_))))))))))))
    refine Rn.weak (by show WeakSt Γ _ ⟨look [(1,.ptr (Γ.n0 + 1) 0),(3,(i_ x12)),(4,.ptr (Γ.n0 + 4) 0),(5,(i_ r16)),(22,(b_ x7)),(24,(Qa a1)),(25,(i_ x12)),(26,(i_ x12)),(27,(b_ (x12 == 0))),(28,.tup [.agg [.nils 1,(i_ r15.States),.nils 1,.nils 3],(i_ r16)]),(29,(Qa a1)),(30,.tup [.agg [.nils 1,(i_ r15.States),.nils 1,.nils 3],(i_ r16)]),(31,.agg [.nils 1,(i_ r15.States),.nils 1,.nils 3]),(32,(i_ r16)),(34,.agg [.nils 1,(i_ 1),.nils 1,.nils 3]),(35,(Qa a1)),(36,.d (.lst 4 (List.map Q1 ([(Qb.mk [] 1 [] []),a1]))))],Qk Γ.n0 (bxs [(1,.cells ((Qd a1))),(4,.cells ([.nils 1,(i_ r15.States),.nils 1,.nils 3]))]) M,Γ.n0 + 110⟩; exact Qfh 36 [.lst 1 [],.int .i64 1,.lst 1 [],.lst 3 [],.lst 1 (List.map (eI .i64) a1.Alphabet),.int .i64 a1.States,.lst 1 (List.map (eI .i64) a1.Marked),.lst 3 (List.map Qe a1.Edges)] rfl rfl ⟨(fPtr rfl),(.same rfl),(fPtr rfl),(.same rfl),(.same rfl),(.same rfl),(.same rfl),(.same rfl),(.same rfl),(.same rfl),(.same rfl),(.same rfl),(.same rfl),(.same rfl),(.same rfl),(.same rfl),(fSl rfl rfl),tv⟩ ⟨⟨_,rfl,rfl,(.same rfl)⟩,⟨_,rfl,rfl,(.same rfl)⟩,tv⟩ rfl) ?_
    obtain ⟨⟨r18,r19⟩,h17,h⟩:=bnd h
    refine Rn.call (args:=[.d (.lst 4 (List.map Q1 ([(Qb.mk [] 1 [] []),a1])))]) tv rfl (H_requirement_Conjunction _ _ h17) pc9 (Rn.mov (v:=.tup [.agg [.nils 1,(i_ r18.States),.nils 1,.nils 3],(i_ r19)]) tv rfl (Rn.ext (v:=.agg [.nils 1,(i_ r18.States),.nils 1,.nils 3]) (vs:=[.agg [.nils 1,(i_ r18.States),.nils 1,.nils 3],(i_ r19)]) tv rfl rfl rfl (Rn.ext (v:=(i_ r19)) (vs:=[.agg [.nils 1,(i_ r18.States),.nils 1,.nils 3],(i_ r19)]) tv rfl rfl rfl (Rn.alloc tv rfl (Rn.storeT (v:=.agg [.nils 1,(i_ r18.States),.nils 1,.nils 3]) (ds:=[.nils 1,(i_ r18.States),.nils 1,.nils 3]) (cs':=[.nils 1,(i_ r18.States),.nils 1,.nils 3]) tv rfl rfl rfl rfl rfl rfl rfl (md rfl (nt ((sr ((Rn.load (v:=(Qa a1)) tv rfl (Ql rfl) rfl rfl ?_)))))))))))
    obtain ⟨⟨r21,r22⟩,h20,h⟩:=bnd h
    refine Rn.call (args:=[(Qa a1)]) tv rfl (H_requirement_IsSafety _ _ h20) pc9 (Rn.mov (v:=.tup [(b_ r21),(i_ r22)]) tv rfl (Rn.ext (v:=(b_ r21)) (vs:=[(b_ r21),(i_ r22)]) tv rfl rfl rfl (Rn.ext (v:=(i_ r22)) (vs:=[(b_ r21),(i_ r22)]) tv rfl rfl rfl (md rfl (md rfl (nt ((sr ((Rn.load (v:=(Qa a1)) tv rfl (Ql rfl) rfl rfl ?_))))))))))
    obtain ⟨⟨r24,r25⟩,h23,h⟩:=bnd h
    refine Rn.call (args:=[(Qa a1)]) tv rfl (H_requirement_Idle _ _ h23) pc9 (Rn.mov (v:=.tup [(l_ r24),(i_ r25)]) tv rfl (Rn.extTD (vs:=[(l_ r24),(i_ r25)]) tv rfl rfl rfl (Rn.ext (v:=(i_ r25)) (vs:=[(l_ r24),(i_ r25)]) tv rfl rfl rfl (Rn.movTD tv rfl (md rfl (nt ((sr ((Rn.load (v:=(Qa a1)) tv rfl (Ql rfl) rfl rfl ?_))))))))))
    obtain ⟨⟨r27,r28⟩,h26,h⟩:=bnd h
    refine Rn.call (args:=[(Qa a1),(i_ 0)]) tv rfl (H_requirement_Refused _ _ _ h26) pc9 (Rn.mov (v:=.tup [(l_ r27),(i_ r28)]) tv rfl (Rn.extTD (vs:=[(l_ r27),(i_ r28)]) tv rfl rfl rfl (Rn.ext (v:=(i_ r28)) (vs:=[(l_ r27),(i_ r28)]) tv rfl rfl rfl (Rn.movTD tv rfl (md rfl (nt ((sr ((Rn.load (v:=(Qa a1)) tv rfl (Ql rfl) rfl rfl ?_))))))))))
    obtain ⟨⟨r30,r31⟩,h29,h⟩:=bnd h
    refine Rn.call (args:=[(Qa a1),.nils 1]) tv rfl (fun M2 nb2=>ACalls.weak (args':=[(Qa a1),(l_ [])]) (H_requirement_Allows _ _ _ h29 M2 nb2) (.cons (sm rfl) (.cons (WkV.nilsD _) .nil)) rfl) pc9 ?_
    refine Rn.mov (v:=.tup [(b_ r30),(i_ r31)]) tv rfl (Rn.ext (v:=(b_ r30)) (vs:=[(b_ r30),(i_ r31)]) tv rfl rfl rfl (Rn.ext (v:=(i_ r31)) (vs:=[(b_ r30),(i_ r31)]) tv rfl rfl rfl (md rfl (md rfl (Rn.nil (toN ?_))))))
    refine Tr.cutB (fun (x40:Bool)=>⟨look [(2,(b_ x40))],Qk Γ.n0 (bxs [(1,.cells ((Qd a1))),(4,.cells ([.nils 1,(i_ r15.States),.nils 1,.nils 3])),(6,.cells ([.nils 1,(i_ r18.States),.nils 1,.nils 3]))]) M,Γ.n0 + 110⟩) h (fun z h=>?_) (fun z h=>?_)
    ·refine Tr.rgn (md rfl (md rfl (Rn.bin tv rfl rfl rfl (md rfl ?_))))
     refine Qbs (r16 == x12) (fun hb32=>?_) (fun hb32=>?_)
     ·replace h:=bT hb32 h
      refine Rn.movD (gw rfl hb32) rfl (Rn.movD (gw rfl hb32) rfl (Rn.bin (gw rfl hb32) rfl rfl rfl (Rn.pickT (v:=(b_ (r19 == x12))) tv rfl hb32 rfl (md rfl ?_))))
      refine Qbs (r19 == x12) (fun hb33=>?_) (fun hb33=>?_)
      ·replace h:=bT hb33 h
       refine Rn.movD (gw rfl hb33) rfl (Rn.movD (gw rfl hb33) rfl (Rn.bin (gw rfl hb33) rfl rfl rfl (Rn.pickT (v:=(b_ (r22 == x12))) tv rfl hb33 rfl (md rfl ?_))))
       refine Qbs (r22 == x12) (fun hb34=>?_) (fun hb34=>?_)
       ·replace h:=bT hb34 h
        refine Rn.movD (gw rfl hb34) rfl (Rn.movD (gw rfl hb34) rfl (Rn.bin (gw rfl hb34) rfl rfl rfl (Rn.pickT (v:=(b_ (r25 == x12))) tv rfl hb34 rfl (md rfl ?_))))
        refine Qbs (r25 == x12) (fun hb35=>?_) (fun hb35=>?_)
        ·replace h:=bT hb35 h
         refine Rn.movD (gw rfl hb35) rfl (Rn.movD (gw rfl hb35) rfl (Rn.bin (gw rfl hb35) rfl rfl rfl (Rn.pickT (v:=(b_ (r28 == x12))) tv rfl hb35 rfl (md rfl ?_))))
         refine Qbs (r28 == x12) (fun hb36=>?_) (fun hb36=>?_)
         ·replace h:=bT hb36 h
          refine Rn.movD (gw rfl hb36) rfl (Rn.movD (gw rfl hb36) rfl (Rn.bin (gw rfl hb36) rfl rfl rfl (Rn.pickT (v:=(b_ (r31 == x12))) tv rfl hb36 rfl (md rfl ?_))))
          refine Qbs (r31 == x12) (fun hb37=>?_) (fun hb37=>?_)
          ·replace h:=bT hb37 h
           refine Rn.movD (gw rfl hb37) rfl (Rn.un (gw rfl hb37) rfl rfl (Rn.pickT (v:=(b_ (!r21))) tv rfl hb37 rfl (md rfl ?_)))
           refine Qbs r21 (fun hb38=>?_) (fun hb38=>?_)
           ·replace h:=bT hb38 h
            refine Rn.sk (nw rfl (nT hb38)) (Rn.sk (nw rfl (nT hb38)) (Rn.pickF (v:=(b_ false)) tv rfl (nT hb38) rfl (md rfl (Rn.sk (nw (b:=false) rfl rfl) (Rn.sk (nw (b:=false) rfl rfl) (Rn.sk (nw (b:=false) rfl rfl) (Rn.sk (nw (b:=false) rfl rfl) (Rn.sk (nw (b:=false) rfl rfl) (Rn.sk (nw (b:=false) rfl rfl) (Rn.sk (nw (b:=false) rfl rfl) (Rn.sk (nw (b:=false) rfl rfl) (Rn.sk (nw (b:=false) rfl rfl) (Rn.sk (nw (b:=false) rfl rfl) (Rn.sk (nw (b:=false) rfl rfl) (Rn.sk (nw (b:=false) rfl rfl) (Rn.pickF (v:=(b_ false)) tv rfl rfl rfl (md rfl (Rn.nil ?_))))))))))))))))))
            replace h:=si h; subst h
            exact Qh [] ⟨(sm rfl),tv⟩ ⟨⟨_,rfl,rfl,(.same rfl)⟩,⟨_,rfl,rfl,(.same rfl)⟩,⟨_,rfl,rfl,(.same rfl)⟩,tv⟩ rfl
           ·replace h:=bF hb38 h
            refine Rn.movD (gw rfl (nF hb38)) rfl (Rn.un (gw rfl (nF hb38)) rfl rfl (Rn.pickT (v:=(b_ (!r30))) tv rfl (nF hb38) rfl (md rfl ?_)))
            refine Qbs r30 (fun hb39=>?_) (fun hb39=>?_)
            ·replace h:=bT hb39 h
             refine Rn.sk (nw rfl (nT hb39)) (Rn.sk (nw rfl (nT hb39)) (Rn.sk (nw rfl (nT hb39)) (Rn.sk (nw rfl (nT hb39)) (Rn.sk (nw rfl (nT hb39)) (Rn.sk (nw rfl (nT hb39)) (Rn.sk (nw rfl (nT hb39)) (Rn.sk (nw rfl (nT hb39)) (Rn.sk (nw rfl (nT hb39)) (Rn.sk (nw rfl (nT hb39)) (Rn.sk (nw rfl (nT hb39)) (Rn.sk (nw rfl (nT hb39)) (Rn.pickF (v:=(b_ false)) tv rfl (nT hb39) rfl (md rfl (Rn.nil ?_))))))))))))))
             replace h:=si h; subst h
             exact Qh [] ⟨(sm rfl),tv⟩ ⟨⟨_,rfl,rfl,(.same rfl)⟩,⟨_,rfl,rfl,(.same rfl)⟩,⟨_,rfl,rfl,(.same rfl)⟩,tv⟩ rfl
            ·replace h:=bF hb39 h
             refine Rn.movD (gw rfl (nF hb39)) rfl (Rn.lenD (gw rfl (nF hb39)) rfl (Rn.movD (gw rfl (nF hb39)) rfl (Rn.lenD (gw rfl (nF hb39)) rfl (Rn.bin (gw rfl (nF hb39)) rfl rfl rfl (Rn.fldP (o':=1) (gw rfl (nF hb39)) rfl rfl (Rn.load (v:=(i_ r15.States)) (gw rfl (nF hb39)) rfl (Ql rfl) rfl rfl (Rn.bin (gw rfl (nF hb39)) rfl rfl rfl (Rn.fldP (o':=1) (gw rfl (nF hb39)) rfl rfl (Rn.load (v:=(i_ r18.States)) (gw rfl (nF hb39)) rfl (Ql rfl) rfl rfl (Rn.bin (gw rfl (nF hb39)) rfl rfl rfl (Rn.bin (gw rfl (nF hb39)) rfl rfl rfl (Rn.pickT (v:=(b_ ((IntKind.wrap .i64 ((IntKind.wrap .i64 ((IntKind.wrap .i64 ((r24.length:Int) + (r27.length:Int))) + r15.States)) + r18.States)) == 0))) tv rfl (nF hb39) rfl (md rfl (Rn.nil ?_))))))))))))))
             replace h:=si h; subst h
             exact Qh [] ⟨(sm rfl),tv⟩ ⟨⟨_,rfl,rfl,(.same rfl)⟩,⟨_,rfl,rfl,(.same rfl)⟩,⟨_,rfl,rfl,(.same rfl)⟩,tv⟩ rfl
          ·replace h:=bF hb37 h
           refine Rn.sk (nw rfl hb37) (Rn.sk (nw rfl hb37) (Rn.pickF (v:=(b_ false)) tv rfl hb37 rfl (md rfl (Rn.sk (nw (b:=false) rfl rfl) (Rn.sk (nw (b:=false) rfl rfl) (Rn.pickF (v:=(b_ false)) tv rfl rfl rfl (md rfl (Rn.sk (nw (b:=false) rfl rfl) (Rn.sk (nw (b:=false) rfl rfl) (Rn.sk (nw (b:=false) rfl rfl) (Rn.sk (nw (b:=false) rfl rfl) (Rn.sk (nw (b:=false) rfl rfl) (Rn.sk (nw (b:=false) rfl rfl) (Rn.sk (nw (b:=false) rfl rfl) (Rn.sk (nw (b:=false) rfl rfl) (Rn.sk (nw (b:=false) rfl rfl) (Rn.sk (nw (b:=false) rfl rfl) (Rn.sk (nw (b:=false) rfl rfl) (Rn.sk (nw (b:=false) rfl rfl) (Rn.pickF (v:=(b_ false)) tv rfl rfl rfl (md rfl (Rn.nil ?_))))))))))))))))))))))
           replace h:=si h; subst h
           exact Qh [] ⟨(sm rfl),tv⟩ ⟨⟨_,rfl,rfl,(.same rfl)⟩,⟨_,rfl,rfl,(.same rfl)⟩,⟨_,rfl,rfl,(.same rfl)⟩,tv⟩ rfl
         ·replace h:=bF hb36 h
          refine Rn.sk (nw rfl hb36) (Rn.sk (nw rfl hb36) (Rn.sk (nw rfl hb36) (Rn.pickF (v:=(b_ false)) tv rfl hb36 rfl (md rfl (Rn.sk (nw (b:=false) rfl rfl) (Rn.sk (nw (b:=false) rfl rfl) (Rn.pickF (v:=(b_ false)) tv rfl rfl rfl (md rfl (Rn.sk (nw (b:=false) rfl rfl) (Rn.sk (nw (b:=false) rfl rfl) (Rn.pickF (v:=(b_ false)) tv rfl rfl rfl (md rfl (Rn.sk (nw (b:=false) rfl rfl) (Rn.sk (nw (b:=false) rfl rfl) (Rn.sk (nw (b:=false) rfl rfl) (Rn.sk (nw (b:=false) rfl rfl) (Rn.sk (nw (b:=false) rfl rfl) (Rn.sk (nw (b:=false) rfl rfl) (Rn.sk (nw (b:=false) rfl rfl) (Rn.sk (nw (b:=false) rfl rfl) (Rn.sk (nw (b:=false) rfl rfl) (Rn.sk (nw (b:=false) rfl rfl) (Rn.sk (nw (b:=false) rfl rfl) (Rn.sk (nw (b:=false) rfl rfl) (Rn.pickF (v:=(b_ false)) tv rfl rfl rfl (md rfl (Rn.nil ?_)))))))))))))))))))))))))))
          replace h:=si h; subst h
          exact Qh [] ⟨(sm rfl),tv⟩ ⟨⟨_,rfl,rfl,(.same rfl)⟩,⟨_,rfl,rfl,(.same rfl)⟩,⟨_,rfl,rfl,(.same rfl)⟩,tv⟩ rfl
        ·replace h:=bF hb35 h
         refine Rn.sk (nw rfl hb35) (Rn.sk (nw rfl hb35) (Rn.sk (nw rfl hb35) (Rn.pickF (v:=(b_ false)) tv rfl hb35 rfl (md rfl (Rn.sk (nw (b:=false) rfl rfl) (Rn.sk (nw (b:=false) rfl rfl) (Rn.sk (nw (b:=false) rfl rfl) (Rn.pickF (v:=(b_ false)) tv rfl rfl rfl (md rfl (Rn.sk (nw (b:=false) rfl rfl) (Rn.sk (nw (b:=false) rfl rfl) (Rn.pickF (v:=(b_ false)) tv rfl rfl rfl (md rfl (Rn.sk (nw (b:=false) rfl rfl) (Rn.sk (nw (b:=false) rfl rfl) (Rn.pickF (v:=(b_ false)) tv rfl rfl rfl (md rfl (Rn.sk (nw (b:=false) rfl rfl) (Rn.sk (nw (b:=false) rfl rfl) (Rn.sk (nw (b:=false) rfl rfl) (Rn.sk (nw (b:=false) rfl rfl) (Rn.sk (nw (b:=false) rfl rfl) (Rn.sk (nw (b:=false) rfl rfl) (Rn.sk (nw (b:=false) rfl rfl) (Rn.sk (nw (b:=false) rfl rfl) (Rn.sk (nw (b:=false) rfl rfl) (Rn.sk (nw (b:=false) rfl rfl) (Rn.sk (nw (b:=false) rfl rfl) (Rn.sk (nw (b:=false) rfl rfl) (Rn.pickF (v:=(b_ false)) tv rfl rfl rfl (md rfl (Rn.nil ?_))))))))))))))))))))))))))))))))
         replace h:=si h; subst h
         exact Qh [] ⟨(sm rfl),tv⟩ ⟨⟨_,rfl,rfl,(.same rfl)⟩,⟨_,rfl,rfl,(.same rfl)⟩,⟨_,rfl,rfl,(.same rfl)⟩,tv⟩ rfl
       ·replace h:=bF hb34 h
        refine Rn.sk (nw rfl hb34) (Rn.sk (nw rfl hb34) (Rn.sk (nw rfl hb34) (Rn.pickF (v:=(b_ false)) tv rfl hb34 rfl (md rfl (Rn.sk (nw (b:=false) rfl rfl) (Rn.sk (nw (b:=false) rfl rfl) (Rn.sk (nw (b:=false) rfl rfl) (Rn.pickF (v:=(b_ false)) tv rfl rfl rfl (md rfl (Rn.sk (nw (b:=false) rfl rfl) (Rn.sk (nw (b:=false) rfl rfl) (Rn.sk (nw (b:=false) rfl rfl) (Rn.pickF (v:=(b_ false)) tv rfl rfl rfl (md rfl (Rn.sk (nw (b:=false) rfl rfl) (Rn.sk (nw (b:=false) rfl rfl) (Rn.pickF (v:=(b_ false)) tv rfl rfl rfl (md rfl (Rn.sk (nw (b:=false) rfl rfl) (Rn.sk (nw (b:=false) rfl rfl) (Rn.pickF (v:=(b_ false)) tv rfl rfl rfl (md rfl (Rn.sk (nw (b:=false) rfl rfl) (Rn.sk (nw (b:=false) rfl rfl) (Rn.sk (nw (b:=false) rfl rfl) (Rn.sk (nw (b:=false) rfl rfl) (Rn.sk (nw (b:=false) rfl rfl) (Rn.sk (nw (b:=false) rfl rfl) (Rn.sk (nw (b:=false) rfl rfl) (Rn.sk (nw (b:=false) rfl rfl) (Rn.sk (nw (b:=false) rfl rfl) (Rn.sk (nw (b:=false) rfl rfl) (Rn.sk (nw (b:=false) rfl rfl) (Rn.sk (nw (b:=false) rfl rfl) (Rn.pickF (v:=(b_ false)) tv rfl rfl rfl (md rfl (Rn.nil ?_)))))))))))))))))))))))))))))))))))))
        replace h:=si h; subst h
        exact Qh [] ⟨(sm rfl),tv⟩ ⟨⟨_,rfl,rfl,(.same rfl)⟩,⟨_,rfl,rfl,(.same rfl)⟩,⟨_,rfl,rfl,(.same rfl)⟩,tv⟩ rfl
      ·replace h:=bF hb33 h
       refine Rn.sk (nw rfl hb33) (Rn.sk (nw rfl hb33) (Rn.sk (nw rfl hb33) (Rn.pickF (v:=(b_ false)) tv rfl hb33 rfl (md rfl (Rn.sk (nw (b:=false) rfl rfl) (Rn.sk (nw (b:=false) rfl rfl) (Rn.sk (nw (b:=false) rfl rfl) (Rn.pickF (v:=(b_ false)) tv rfl rfl rfl (md rfl (Rn.sk (nw (b:=false) rfl rfl) (Rn.sk (nw (b:=false) rfl rfl) (Rn.sk (nw (b:=false) rfl rfl) (Rn.pickF (v:=(b_ false)) tv rfl rfl rfl (md rfl (Rn.sk (nw (b:=false) rfl rfl) (Rn.sk (nw (b:=false) rfl rfl) (Rn.sk (nw (b:=false) rfl rfl) (Rn.pickF (v:=(b_ false)) tv rfl rfl rfl (md rfl (Rn.sk (nw (b:=false) rfl rfl) (Rn.sk (nw (b:=false) rfl rfl) (Rn.pickF (v:=(b_ false)) tv rfl rfl rfl (md rfl (Rn.sk (nw (b:=false) rfl rfl) (Rn.sk (nw (b:=false) rfl rfl) (Rn.pickF (v:=(b_ false)) tv rfl rfl rfl (md rfl (Rn.sk (nw (b:=false) rfl rfl) (Rn.sk (nw (b:=false) rfl rfl) (Rn.sk (nw (b:=false) rfl rfl) (Rn.sk (nw (b:=false) rfl rfl) (Rn.sk (nw (b:=false) rfl rfl) (Rn.sk (nw (b:=false) rfl rfl) (Rn.sk (nw (b:=false) rfl rfl) (Rn.sk (nw (b:=false) rfl rfl) (Rn.sk (nw (b:=false) rfl rfl) (Rn.sk (nw (b:=false) rfl rfl) (Rn.sk (nw (b:=false) rfl rfl) (Rn.sk (nw (b:=false) rfl rfl) ?_)))))))))))))))))))))))))))))))))))))))
       refine Rn.pickF (v:=(b_ false)) tv rfl rfl rfl (md rfl (Rn.nil ?_))
       replace h:=si h; subst h
       exact Qh [] ⟨(sm rfl),tv⟩ ⟨⟨_,rfl,rfl,(.same rfl)⟩,⟨_,rfl,rfl,(.same rfl)⟩,⟨_,rfl,rfl,(.same rfl)⟩,tv⟩ rfl
     ·replace h:=bF hb32 h
      refine Rn.sk (nw rfl hb32) (Rn.sk (nw rfl hb32) (Rn.sk (nw rfl hb32) (Rn.pickF (v:=(b_ false)) tv rfl hb32 rfl (md rfl (Rn.sk (nw (b:=false) rfl rfl) (Rn.sk (nw (b:=false) rfl rfl) (Rn.sk (nw (b:=false) rfl rfl) (Rn.pickF (v:=(b_ false)) tv rfl rfl rfl (md rfl (Rn.sk (nw (b:=false) rfl rfl) (Rn.sk (nw (b:=false) rfl rfl) (Rn.sk (nw (b:=false) rfl rfl) (Rn.pickF (v:=(b_ false)) tv rfl rfl rfl (md rfl (Rn.sk (nw (b:=false) rfl rfl) (Rn.sk (nw (b:=false) rfl rfl) (Rn.sk (nw (b:=false) rfl rfl) (Rn.pickF (v:=(b_ false)) tv rfl rfl rfl (md rfl (Rn.sk (nw (b:=false) rfl rfl) (Rn.sk (nw (b:=false) rfl rfl) (Rn.sk (nw (b:=false) rfl rfl) (Rn.pickF (v:=(b_ false)) tv rfl rfl rfl (md rfl (Rn.sk (nw (b:=false) rfl rfl) (Rn.sk (nw (b:=false) rfl rfl) (Rn.pickF (v:=(b_ false)) tv rfl rfl rfl (md rfl (Rn.sk (nw (b:=false) rfl rfl) (Rn.sk (nw (b:=false) rfl rfl) (Rn.pickF (v:=(b_ false)) tv rfl rfl rfl (md rfl (Rn.sk (nw (b:=false) rfl rfl) (Rn.sk (nw (b:=false) rfl rfl) (Rn.sk (nw (b:=false) rfl rfl) (Rn.sk (nw (b:=false) rfl rfl) (Rn.sk (nw (b:=false) rfl rfl) (Rn.sk (nw (b:=false) rfl rfl) (Rn.sk (nw (b:=false) rfl rfl) ?_)))))))))))))))))))))))))))))))))))))))
      refine Rn.sk (nw (b:=false) rfl rfl) (Rn.sk (nw (b:=false) rfl rfl) (Rn.sk (nw (b:=false) rfl rfl) (Rn.sk (nw (b:=false) rfl rfl) (Rn.sk (nw (b:=false) rfl rfl) (Rn.pickF (v:=(b_ false)) tv rfl rfl rfl (md rfl (Rn.nil ?_)))))))
      replace h:=si h; subst h
      exact Qh [] ⟨(sm rfl),tv⟩ ⟨⟨_,rfl,rfl,(.same rfl)⟩,⟨_,rfl,rfl,(.same rfl)⟩,⟨_,rfl,rfl,(.same rfl)⟩,tv⟩ rfl
    ·obtain ⟨x40,rfl⟩ : ∃ x,x = z:=⟨_,rfl⟩
     refine Tr.ret ?_
     replace h:=si h; subst h
     exact ⟨.inr rfl,(b_ x40),rfl,fun _ _ _ _ h=>h,tv,fun k hk=>Qc hk⟩
end Go.Abs
end
section
namespace Go.Proofs
open Go.Abs
set_option maxRecDepth 100000
theorem Qhl:Qj Tryz.prog 4 = some Qcv:=by kernel_rfl
theorem Qwm:Qj Tryz.prog 5 = some Qfm:=by kernel_rfl
theorem Qt1:Qj Tryz.prog 8 = some Qe7:=by kernel_rfl
theorem Qmr:Qj Tryz.prog 9 = some Qd4:=by kernel_rfl
theorem Q4i:Qj Tryz.prog 10 = some Qi9:=by kernel_rfl
theorem Q09:Qj Tryz.prog 12 = some Qg8:=by kernel_rfl
theorem Q4j:Qj Tryz.prog 13 = some Qiu:=by kernel_rfl
theorem Q1a:Qj Tryz.prog 14 = some Qhc:=by kernel_rfl
theorem Q24:Qj Tryz.prog 15 = some Qh8:=by kernel_rfl
theorem Qwn:Qj Tryz.prog 16 = some Qfk:=by kernel_rfl
theorem Qzn:Qj Tryz.prog 17 = some Qga:=by kernel_rfl
theorem Qru:Qj Tryz.prog 18 = some Qeh:=by kernel_rfl
theorem Qzo:Qj Tryz.prog 19 = some Qf2:=by kernel_rfl
theorem Qzp:Qj Tryz.prog 20 = some Qf4:=by kernel_rfl
theorem Q25:Qj Tryz.prog 21 = some Qh4:=by kernel_rfl
theorem Q1b:Qj Tryz.prog 22 = some Qg6:=by kernel_rfl
theorem Qwo:Qj Tryz.prog 25 = some Qfq:=by kernel_rfl
theorem Qzq:Qj Tryz.prog 26 = some Qf6:=by kernel_rfl
theorem Qt2:Qj Tryz.prog 27 = some Qe3:=by kernel_rfl
theorem Qzr:Qj Tryz.prog 28 = some Qf8:=by kernel_rfl
theorem Q1c:Qj Tryz.prog 29 = some Qg4:=by kernel_rfl
theorem Q46:Qj Tryz.prog 30 = some Qjv:=by kernel_rfl
theorem Q1d:Qj Tryz.prog 31 = some Qg2:=by kernel_rfl
theorem Qwp:Qj Tryz.prog 32 = some Qfs:=by kernel_rfl
theorem Qt3:Qj Tryz.prog 33 = some Qev:=by kernel_rfl
theorem Qwq:Qj Tryz.prog 34 = some Qfj:=by kernel_rfl
theorem Qzs:Qj Tryz.prog 35 = some Qfy:=by kernel_rfl
theorem Q1e:Qj Tryz.prog 36 = some Qgz:=by kernel_rfl
theorem Qms:Qj Tryz.prog 37 = some Qd0:=by kernel_rfl
theorem Q26:Qj Tryz.prog 38 = some Qht:=by kernel_rfl
theorem Q47:Qj Tryz.prog 39 = some Qjr:=by kernel_rfl
theorem Qt4:Qj Tryz.prog 40 = some Qez:=by kernel_rfl
theorem Q4k:Qj Tryz.prog 41 = some Qit:=by kernel_rfl
theorem Qt5:Qj Tryz.prog 42 = some Qe1:=by kernel_rfl
theorem Q27:Qj Tryz.prog 43 = some Qhp:=by kernel_rfl
theorem Q48:Qj Tryz.prog 44 = some Qjt:=by kernel_rfl
theorem Q6j:Qj Tryz.prog 49 = some Qk2:=by kernel_rfl
theorem Qwr:Qj Tryz.prog 55 = some Qfi:=by kernel_rfl
theorem Q28:Qj Tryz.prog 56 = some Qh6:=by kernel_rfl
theorem Q1f:Qj Tryz.prog 57 = some Qha:=by kernel_rfl
theorem Qt6:Qj Tryz.prog 64 = some Qe5:=by kernel_rfl
theorem Q6k:Qj Tryz.prog 65 = some Qk0:=by kernel_rfl
theorem Q49:Qj Tryz.prog 66 = some Qjp:=by kernel_rfl
theorem Q29:Qj Tryz.prog 67 = some Qh2:=by kernel_rfl
theorem Qmt:Qj Tryz.prog 68 = some Qd2:=by kernel_rfl
theorem Q1g:Qj Tryz.prog 69 = some Qhe:=by kernel_rfl
theorem Q3a:Qj Tryz.prog 70 = some Qhr:=by kernel_rfl
theorem Q1h:Qj Tryz.prog 71 = some Qg1:=by kernel_rfl
theorem Qzt:Qj Tryz.prog 72 = some Qf0:=by kernel_rfl
theorem Q3b:Qj Tryz.prog 73 = some Qhv:=by kernel_rfl
theorem Q3c:Qj Tryz.prog 75 = some Qhz:=by kernel_rfl
theorem Qws:Qj Tryz.prog 81 = some Qfo:=by kernel_rfl
theorem Qjy:Qj Tryz.prog 87 = some Qdd:=by kernel_rfl
theorem Q4l:Qj Tryz.prog 88 = some Qi5:=by kernel_rfl
theorem Q4m:Qj Tryz.prog 89 = some Qi7:=by kernel_rfl
theorem Q6z:Qj Tryz.prog 90 = some Ql7:=by kernel_rfl
theorem Q3d:Qj Tryz.prog 91 = some Qhx:=by kernel_rfl
theorem Q3e:Qj Tryz.prog 92 = some Qic:=by kernel_rfl
theorem Qt7:Qj Tryz.prog 93 = some Qex:=by kernel_rfl
theorem Q6l:Qj Tryz.prog 114 = some Qkq:=by kernel_rfl
theorem Q5a:Qj Tryz.prog 115 = some Qjx:=by kernel_rfl
theorem Qrv:Qj Tryz.prog 126 = some Qek:=by kernel_rfl
theorem Q3f:Qj Tryz.prog 127 = some Qia:=by kernel_rfl
end Go.Proofs
end
section
namespace Go.Abs
open Go Go.Sort
section plain
variable {β:Type}
def insB (lt:β→β→Bool) (x:β):List β→List β
 | []=>[x]
 | y :: ys=>if lt y x then y :: insB lt x ys else x :: y :: ys
def Q42 (lt:β→β→Bool):List β→List β
 | []=>[]
 | x :: xs=>insB lt x (Q42 lt xs)
theorem Q6m (lt:β→β→Bool) (x:β):∀ l,(insB lt x l).Perm (x :: l)
 | []=>.refl _
 | y :: ys=>by
  unfold insB; split
  ·exact ((Q6m lt x ys).cons y).trans (.swap x y ys)
  ·exact .refl _
theorem Q1i (lt:β→β→Bool):∀ l,(Q42 lt l).Perm l
 | []=>.refl _
 | x :: xs=>(Q6m lt x _).trans ((Q1i lt xs).cons x)
theorem Q3g (lt:β→β→Bool) (l:List β):(Q42 lt l).length = l.length:=(Q1i lt l).length_eq
theorem Q6n {lt:β→β→Bool} (h:SWO lt) (x:β):∀ l,l.Pairwise (fun a b=>lt b a = false)→(insB lt x l).Pairwise fun a b=>lt b a = false
 | [],_=>by simp [insB]
 | y :: ys,hl=>by
  obtain ⟨h1,h2⟩:=List.pairwise_cons.1 hl
  unfold insB; split
  ·rename_i hc
   refine List.pairwise_cons.2 ⟨fun z hz=>?_,Q6n h x ys h2⟩
   rcases List.mem_cons.1 ((Q6m lt x ys).mem_iff.1 hz) with rfl | hz
   ·cases hb:lt z y with
    | false=>rfl
    | true=>have:=h.trans _ _ _ hc hb; rw [h.irrefl] at this; cases this
   ·exact h1 z hz
  ·rename_i hc
   have hc:lt y x = false:=by cases h:lt y x <;> simp_all
   refine List.pairwise_cons.2 ⟨fun z hz=>?_,hl⟩
   rcases List.mem_cons.1 hz with rfl | hz
   ·exact hc
   ·exact h.ntrans _ _ _ (h1 z hz) hc
theorem Q3h {lt:β→β→Bool} (h:SWO lt):∀ l,(Q42 lt l).Pairwise fun a b=>lt b a = false
 | []=>.nil
 | x :: xs=>Q6n h x _ (Q3h h xs)
end plain
def Qwt (a b:Int):Bool:=decide (a < b)
end Go.Abs
end
section
namespace Go.Abs
def Qbfs (l:List Int):Option (List Int):=if l.length≤lim then some (Q42 Qwt l) else none
end Go.Abs
end
section
namespace Go.Abs
open Go Go.Abs
set_option maxRecDepth 10000
set_option maxHeartbeats 4000000
def Qdv:Nat:=1099511627776
def Qdw:=Qx Qdv
def Qc8:=Qq Qdw
def Qe8:=Qs Qc8 Qdv
def Qlk:=Qcf
def Qgf:=Qw Qbfs Qlk
def Qgu:=Q2
def Qdx:=Qn Qdv
def Qhf:=Qy
def Qid:=Qbb Qe8 Qdx Qgf Qhf Qgu
def Qk5:=Qb6 Qdv
def Qgw:=Qu Qdv
def Qik:=Qbf
def Qjz:=Qbv Qgw Qik
def Qll:=Qcg Qk5 Qjz Qdv
def Qlm:=Qch
def Qr5:=Qc1 Qgw Qlm
def Qwu:=Qcy
def Qz7:=Qdg Qwu
def Qln:=Qb0
def Qgv:=Q3 Qz7 Qln Qdv
def Qhg:=Qz Qgv
def Qil:=Qbg Qhg
def Qj0:=Qbw Qdx Qhf Qll Qr5 Qil
def Qlo:=Qci
def Qr6:=Qc2 Qlo
def Qim:=Qbh Qdw Qr6
def Qo9:=Qcq
def Qj1:=Qbx Qe8 Qdx Qgf Qo9 Qim Qdv
def Qd8:=Qba Qdv
def Qdo:=Q7 Qc8 Qdv
def Q4:=Qf Qd8 Qdo
def Qe9:=Q8 Q4
def Qep:=Qt Qdv
def Qpa:=Qcr
def Qpb:=Qcs
def Qk6:=Qbl Qep Qpa Qpb
def Qhh:=Qbp Qe9 Qk6 Qdv
def Qlp:=Qcj
def Qr7:=Qc3 Qgw Qlp
def Qc9:=Qr Qhh Qr7
def Qlq:=Qb1 Qdv
def Qk7:=Qb7 Qdv
def Qft:=Qbc Qc9 Qid Qj0 Qj1 Qlq Qk7
def Qel:=Qbq
def Qjk:=Qbn Qdv
def Qie:=Qb2 Q4 Qjk
def Qk8:=Qb8
def Qgg:=Qbi Qie Qk8
def Qem:=Qbr Qgg
def Qif:=Qcz Q4 Qdv
def Qfu:=Qbd Qif
def Qja:=Qcc Qfu
def Qc5:=Q0 Qja
def Qdp:=Q9 Q4
def Qfe:=Qb3 Q4 Qdv
def Qlr:=Qck
def Qig:=Qbe Qdv
def Qr8:=Qc4 Qk6 Qig Qlr
def Qls:=Qcl Qr8 Qdv
def Qk9:=Qb9 Qls
def Qjl:=Qbo Q4 Qk9
def Qd9:=Qbj Q4 Qhg Qjl Qdv
def Qcw:=Qbt Qft Qdp Qc5 Qel Q4 Qem Qfe Qc9 Qd9
end Go.Abs
end
section
namespace Go.Abs
open Go Go.Sort Go.RowKit
theorem Q97 {P:Program} {f:FuncId} {ex:Array Value} {exV:List V} {sz nb:Nat} {M:Mem} (hb:Qho P f = true) (hex:∀ g w us,RFs g w exV us→us = ex.toList)
  (h:∀ (p:Option Addr) (cap:Nat) (w:World),Calls P f (#[.slice p 0 cap] ++ ex) w fun e' w'=>e' = .returned (.tuple #[])∧w' = w) :
  ACalls P f (.d (.lst sz []) :: exV) M nb (.tup []) M nb:=by
 refine ⟨hb,Nat.le_refl _,fun w g us hm hMon hfresh hus hfl hons=>?_⟩
 obtain ⟨u0,us',rfl,hu0,hus'⟩:=hus
 have h1:=hex _ _ _ hus'
 subst h1
 have h2:∃ p cap,u0 = .slice p 0 cap:=by
  have:=RF_d.1 hu0
  obtain ⟨a,cap,rfl,_,_⟩:=this
  exact ⟨a,cap,rfl⟩
 obtain ⟨p,cap,rfl⟩:=h2
 have e1:(Value.slice p 0 cap :: ex.toList).toArray = #[.slice p 0 cap] ++ ex:=by apply Array.ext'; simp
 rw [e1]
 refine (h p cap w).mono ?_
 rintro e' w' ⟨rfl,rfl⟩
 exact ⟨_,g,rfl,hm,⟨[],rfl,rfl⟩,trivial,hMon,Fr.refl _ _ _⟩
theorem Q98 (l:List Int):(l.mergeSort fun x y=>decide (x≤y)) = Q42 Qwt l:=by
 have hO:Go.Sort.SWO Qwt:=⟨fun x=>by simp [Qwt],fun x y z h1 h2=>by simp [Qwt] at *; omega,fun x y z h1 h2=>by simp [Qwt] at *; omega⟩
 refine List.Perm.eq_of_pairwise (le:=fun a b=>Qwt b a = false) (fun a b _ _ h1 h2=>by simp [Qwt] at *; omega) ?_ (Q3h hO l) ((List.mergeSort_perm _ _).trans (Q1i _ l).symm)
 have:=List.pairwise_mergeSort (le:=fun x y:Int=>decide (x≤y)) (fun a b c h1 h2=>by simp at *; omega) (fun a b=>by simp; omega) l
 exact this.imp fun h=>by simp [Qwt] at *; omega
end Go.Abs
end
section
namespace Go.Abs
open Go Go.Sort Go.RowKit
theorem Q6o (xs:List Int):rowV (eI .i64) xs = xs.map (Value.int .i64):=by
 unfold rowV
 induction xs with
 | nil=>rfl
 | cons x xs ih=>simp only [List.map_cons,List.flatten_cons,List.map_append,ih]; rfl
theorem Qbc3 {P:Program} {c:Nat} (hb:Qho P c = true)
  (hs:∀ (blk off cap:Nat) (zs:List Int) (w:World),Holds (Value.int .i64) w blk off zs.toArray→blk < w.heap.size→zs.length < 4611686018427387904 →
   Calls P c #[.slice (some ⟨blk,off,none⟩) zs.length cap] w fun e w'=>e = .returned (.tuple #[])∧∃ n os,w' = grow (putRow (Value.int .i64) (Sort.ahead w n) blk off (zs.mergeSort fun x y=>decide (x≤y)).toArray) os)
  (hnone:∀ (p:Option Addr) (cap:Nat) (w:World),Calls P c (#[.slice p 0 cap] ++ #[]) w fun e' w'=>e' = .returned (.tuple #[])∧w' = w) :
  RowK P c (eI .i64) 1 [] (fun l=>if l.length≤lim then some (Q42 Qwt l) else none):=by
 have hrow:Qbfp P c (eI .i64) #[] (fun xs=>Q42 Qwt xs):=by
  intro blk cap xs w hcell hblk hsz
  refine Calls.mono (hs blk 0 cap xs w ?_ hblk hsz) ?_
  ·intro j hj
   have hj' : j < xs.length:=by simpa using hj
   have:=hcell j (by rw [Q6o]; simpa using hj')
   rw [Q6o] at this
   rw [Nat.zero_add]
   refine ⟨?_,this.2⟩
   rw [this.1,getElem!_pos xs.toArray j hj]
   simp [hj']
  ·rintro e w' ⟨rfl,n,os,rfl⟩
   refine ⟨rfl,n,os,?_⟩
   rw [Q98,Q6o]
   congr 1
   unfold putRow
   congr 1
   funext c
   unfold putCells
   congr 1
   funext k x
   simp only [List.size_toArray,List.length_map]
   split
   ·rename_i h
    simp only [id]
    rw [getElem!_pos _ _ (by simp; omega),getElem!_pos _ _ (by simp; omega)]
    simp
   ·rfl
 intro xs ys h
 dsimp only at h
 split at h <;> cases h
 rename_i hl
 refine ⟨Q3g _ _,fun h0=>?_,fun hl2 cap k0 M nb hM=>?_⟩
 ·subst h0
  exact ⟨rfl,fun M nb=>Q97 (ex:=#[]) (exV:=[]) hb (fun _ _ _ h=>h) hnone⟩
 ·exact Qbbg (e:=eI .i64) (fun _=>rfl) (fun _=>rfl) (fun xs=>Q3g _ _) (ex:=#[]) (exV:=[]) (fun _ _ _ h=>h) hb hrow xs cap k0 M nb hM (by unfold lim at hl; omega)
end Go.Abs
end
section
namespace Go.Proofs
open Go.Shelf
def Tryz.laysSlM5_f56_ren:Go.Shelf.Ren:=⟨fun | 5=>59 | 8=>84 | 7=>83 | 19=>104 | 20=>105 | 10=>96 | 11=>97 | 12=>98 | 13=>99 | 14=>100 | 15=>101 | 16=>90 | 17=>102 | 18=>103 | 30=>118 | 31=>119 | 32=>120 | 33=>121 | 34=>122 | 35=>114 | 40=>132 | n=>n,fun | 23=>31 | 25=>3 | 3=>3 | 32=>78 | 22=>31 | 0=>0 | 44=>109 | 46=>111 | 4=>4 | 36=>137 | 35=>136 | 41=>92 | 5=>5 | 9=>9 | 53=>150 | 57=>154 | 63=>164 | 64=>132 | n=>n,fun | n=>n⟩
theorem Tryz.laysSlM5_f56:Go.Proofs.SlLaysM.n5 Tryz.prog Tryz.laysSlM5_f56_ren:={
 mixed:=by kernel_rfl
 f5:=⟨Tryz.f59.name,by decide,Tryz.func59.trans (congrArg some (by kernel_rfl))⟩
 f7:=⟨Tryz.f83.name,by decide,Tryz.func83.trans (congrArg some (by kernel_rfl))⟩
 f8:=Tryz.func84.trans (congrArg some (by kernel_rfl))
 f10:=⟨Tryz.f96.name,by decide,Tryz.func96.trans (congrArg some (by kernel_rfl))⟩
 f11:=⟨Tryz.f97.name,by decide,Tryz.func97.trans (congrArg some (by kernel_rfl))⟩
 f12:=⟨Tryz.f98.name,by decide,Tryz.func98.trans (congrArg some (by kernel_rfl))⟩
 f13:=⟨Tryz.f99.name,by decide,Tryz.func99.trans (congrArg some (by kernel_rfl))⟩
 f14:=⟨Tryz.f100.name,by decide,Tryz.func100.trans (congrArg some (by kernel_rfl))⟩
 f15:=⟨Tryz.f101.name,by decide,Tryz.func101.trans (congrArg some (by kernel_rfl))⟩
 f16:=⟨Tryz.f90.name,by decide,Tryz.func90.trans (congrArg some (by kernel_rfl))⟩
 f17:=⟨Tryz.f102.name,by decide,Tryz.func102.trans (congrArg some (by kernel_rfl))⟩
 f18:=⟨Tryz.f103.name,by decide,Tryz.func103.trans (congrArg some (by kernel_rfl))⟩
 f19:=Tryz.func104.trans (congrArg some (by kernel_rfl))
 f20:=Tryz.func105.trans (congrArg some (by kernel_rfl))
 f30:=⟨Tryz.f118.name,by decide,Tryz.func118.trans (congrArg some (by kernel_rfl))⟩
 f31:=Tryz.func119.trans (congrArg some (by kernel_rfl))
 f32:=Tryz.func120.trans (congrArg some (by kernel_rfl))
 f33:=⟨Tryz.f121.name,by decide,Tryz.func121.trans (congrArg some (by kernel_rfl))⟩
 f34:=⟨Tryz.f122.name,by decide,Tryz.func122.trans (congrArg some (by kernel_rfl))⟩
 f35:=⟨Tryz.f114.name,by decide,Tryz.func114.trans (congrArg some (by kernel_rfl))⟩
 f40:=⟨Tryz.f132.name,by decide,Tryz.func132.trans (congrArg some (by kernel_rfl))⟩
 t0:=Tryz.underlying0
 a0:=Tryz.isAgg0
 z0:=Tryz.sizeOf0
 v0:=Tryz.zeroValue0
 t3:=Tryz.underlying3
 a3:=Tryz.isAgg3
 z3:=Tryz.sizeOf3
 v3:=Tryz.zeroValue3
 t4:=Tryz.underlying4
 a4:=Tryz.isAgg4
 z4:=Tryz.sizeOf4
 v4:=Tryz.zeroValue4
 t5:=Tryz.underlying5
 a5:=Tryz.isAgg5
 z5:=Tryz.sizeOf5
 v5:=Tryz.zeroValue5
 t9:=Tryz.underlying9
 a9:=Tryz.isAgg9
 z9:=Tryz.sizeOf9
 v9:=Tryz.zeroValue9
 t22:=Tryz.underlying31
 a22:=Tryz.isAgg31
 z22:=Tryz.sizeOf31
 v22:=Tryz.zeroValue31
 t23:=Tryz.underlying31
 a23:=Tryz.isAgg31
 z23:=Tryz.sizeOf31
 v23:=Tryz.zeroValue31
 t25:=Tryz.underlying3
 a25:=Tryz.isAgg3
 z25:=Tryz.sizeOf3
 v25:=Tryz.zeroValue3
 t32:=Tryz.underlying78
 a32:=Tryz.isAgg78
 z32:=Tryz.sizeOf78
 v32:=Tryz.zeroValue78
 t35:=Tryz.underlying136
 a35:=Tryz.isAgg136
 z35:=Tryz.sizeOf136
 v35:=Tryz.zeroValue136
 t36:=Tryz.underlying137
 a36:=Tryz.isAgg137
 z36:=Tryz.sizeOf137
 v36:=Tryz.zeroValue137
 t41:=Tryz.underlying92
 a41:=Tryz.isAgg92
 z41:=Tryz.sizeOf92
 v41:=Tryz.zeroValue92
 t44:=Tryz.underlying109
 a44:=Tryz.isAgg109
 z44:=Tryz.sizeOf109
 v44:=Tryz.zeroValue109
 t46:=Tryz.underlying111
 a46:=Tryz.isAgg111
 z46:=Tryz.sizeOf111
 v46:=Tryz.zeroValue111
 t53:=Tryz.underlying150
 a53:=Tryz.isAgg150
 z53:=Tryz.sizeOf150
 v53:=Tryz.zeroValue150
 t57:=Tryz.underlying154
 a57:=Tryz.isAgg154
 z57:=Tryz.sizeOf154
 v57:=Tryz.zeroValue154
 t63:=Tryz.underlying164
 a63:=Tryz.isAgg164
 z63:=Tryz.sizeOf164
 v63:=Tryz.zeroValue164
 t64:=Tryz.underlying132
 a64:=Tryz.isAgg132
 z64:=Tryz.sizeOf132
 v64:=Tryz.zeroValue132 }
open Go.Sort Go.RowKit in
theorem Tryz.slices_Sort_int (blk off cap:Nat) (zs:List Int) (w:World) (hH:Holds (Value.int .i64) w blk off zs.toArray) (hblk:blk < w.heap.size) (hsz:zs.length < 4611686018427387904) :
  Calls Tryz.prog 59 #[.slice (some ⟨blk,off,none⟩) zs.length cap] w fun e w' =>
   e = .returned (.tuple #[])∧∃ n os,w' = grow (putRow (Value.int .i64) (Sort.ahead w n) blk off (zs.mergeSort fun x y=>decide (x≤y)).toArray) os:=AnyM.slices_Sort_int Tryz.laysSlM5_f56 blk off cap zs w hH hblk hsz
open Go.RowKit Go.Sort in
theorem Tryz.slices_Sort_int_none (p:Option Addr) (cap:Nat) (w:World) :
  Calls Tryz.prog 59 #[.slice p 0 cap] w fun e w'=>e = .returned (.tuple #[])∧w' = w:=AnyM.slices_Sort_int_none Tryz.laysSlM5_f56 p cap w
end Go.Proofs
end
section
namespace Go.Proofs
open Go.Abs
theorem Tryz.rowK59:Go.Abs.RowK Tryz.prog 59 (eI .i64) 1 [] Qbfs :=
 Qbc3 (by kernel_rfl) Tryz.slices_Sort_int Tryz.slices_Sort_int_none
end Go.Proofs
end
section
namespace Go.Proofs
open Go Go.Abs
set_option maxRecDepth 10000
set_option maxHeartbeats 4000000
theorem Qla:Qfd Tryz.prog 43 Qdw:=Qwa Q27 Qdv
theorem Qin:Qdt Tryz.prog 55 Qc8:=Qo2 Qla Qwr
theorem Qih:Qdn Tryz.prog 33 Qe8:=Qmk Qin Qt3 Qdv
theorem Q1j:Qhq Tryz.prog 70 Qlk:=Qwb Q3a
theorem Qjm:Qd7 Tryz.prog 35 Qgf:=Qrn Tryz.rowK59 Q1j Qzs
theorem Qle:Qdz Tryz.prog 37 Qgu:=Qj8 Qms
theorem Qfa:Qc7 Tryz.prog 34 Qdx:=Qo3 Qwq Qdv
theorem Qj2:Qef Tryz.prog 36 Qhf:=Qts Q1e
theorem Qpc:Qeg Tryz.prog 18 Qid:=Qlc Qih Qfa Qjm Qj2 Qle Qru
theorem Qzu:Qg0 Tryz.prog 71 Qk5:=Qtt Q1h Qdv
theorem Qjb:Qeo Tryz.prog 66 Qgw:=Q04 Q49 Qdv
theorem Qrw:Qew Tryz.prog 93 Qik:=Qml Qt7
theorem Qwv:Qfz Tryz.prog 72 Qjz:=Qro Qjb Qrw Qzt
theorem Q1k:Qhs Tryz.prog 38 Qll:=Qwc Qzu Qwv Q26 Qdv
theorem Q1l:Qhu Tryz.prog 73 Qlm:=Qwd Q3b
theorem Q4n:Qjq Tryz.prog 39 Qr5:=Q05 Qjb Q1l Q47
theorem Q5b:Qkp Tryz.prog 114 Qwu:=Q21 Q6l
theorem Q6p:Ql6 Tryz.prog 90 Qz7:=Q4h Q5b Q6z
theorem Q1m:Qhw Tryz.prog 91 Qln:=Qwe Q3d
theorem Qlf:Qd1 Tryz.prog 68 Qgv:=Qj9 Q6p Q1m Qmt Qdv
theorem Qj3:Qei Tryz.prog 31 Qhg:=Qtu Qlf Q1d
theorem Qrx:Qey Tryz.prog 40 Qil:=Qmm Qj3 Qt4
theorem Qww:Qf1 Tryz.prog 19 Qj0:=Qrp Qfa Qj2 Q1k Q4n Qrx Qzo
theorem Q1n:Qhy Tryz.prog 75 Qlo:=Qwf Q3c
theorem Q4o:Qjs Tryz.prog 44 Qr6:=Q06 Q1n Q48
theorem Qry:Qe0 Tryz.prog 42 Qim:=Qmn Qla Q4o Qt5
theorem Q3i:Qis Tryz.prog 41 Qo9:=Qzi Q4k
theorem Qwx:Qf3 Tryz.prog 20 Qj1:=Qrq Qih Qfa Qjm Q3i Qry Qzp Qdv
theorem Qwy:Qf5 Tryz.prog 26 Qd8:=Qrr Qzq Qdv
theorem Qrz:Qe2 Tryz.prog 27 Qdo:=Qmo Qin Qt2 Qdv
theorem Qcm:Qbu Tryz.prog 13 Q4:=Qzj Qwy Qrz Q4j
theorem Qr0:Qe4 Tryz.prog 64 Qe9:=Qmp Qcm Qt6
theorem Qjn:Qdc Tryz.prog 87 Qep:=Qii Qjy Qdv
theorem Q3j:Qi4 Tryz.prog 88 Qpa:=Qzk Q4l
theorem Q3k:Qi6 Tryz.prog 89 Qpb:=Qzl Q4m
theorem Qr9:Qh0 Tryz.prog 65 Qk6:=Q22 Qjn Q3j Q3k Q6k
theorem Qzv:Qg3 Tryz.prog 29 Qhh:=Qtv Qr0 Qr9 Q1c Qdv
theorem Q1o:Qh1 Tryz.prog 67 Qlp:=Qwg Q29
theorem Q4p:Qju Tryz.prog 30 Qr7:=Q07 Qjb Q1o Q46
theorem Qio:Qdu Tryz.prog 16 Qc9:=Qo4 Qzv Q4p Qwn
theorem Q1p:Qh3 Tryz.prog 21 Qlq:=Qwh Q25 Qdv
theorem Qzw:Qg5 Tryz.prog 22 Qk7:=Qtw Q1b Qdv
theorem Qt8:Qfl Tryz.prog 5 Qft:=Qo5 Qio Qpc Qww Qwx Q1p Qzw Qwm
theorem Qzx:Qg7 Tryz.prog 12 Qel:=Qtx Q09
theorem Qt9:Qfn Tryz.prog 81 Qjk:=Qo6 Qws Qdv
theorem Q1q:Qh5 Tryz.prog 56 Qie:=Qwi Qcm Qt9 Q28
theorem Qzy:Qg9 Tryz.prog 57 Qk8:=Qty Q1f
theorem Qwz:Qf7 Tryz.prog 28 Qgg:=Qrs Q1q Qzy Qzr
theorem Qzz:Qhb Tryz.prog 14 Qem:=Qtz Qwz Q1a
theorem Q5c:Qk1 Tryz.prog 49 Qif:=Q23 Qcm Q6j Qdv
theorem Qua:Qfp Tryz.prog 25 Qfu:=Qo7 Q5c Qwo
theorem Q3l:Qi8 Tryz.prog 10 Qja:=Qzm Qua Q4i
theorem Qlg:Qd3 Tryz.prog 9 Qc5:=Qka Q3l Qmr
theorem Qr1:Qe6 Tryz.prog 8 Qdp:=Qmq Qcm Qt1
theorem Q1r:Qh7 Tryz.prog 15 Qfe:=Qwj Qcm Q24 Qdv
theorem Q1s:Qh9 Tryz.prog 127 Qlr:=Qwk Q3f
theorem Qpd:Qej Tryz.prog 126 Qig:=Qld Qrv Qdv
theorem Q4q:Qjw Tryz.prog 115 Qr8:=Q08 Qr9 Qpd Q1s Q5a
theorem Q1t:Qib Tryz.prog 92 Qls:=Qwl Q4q Q3e Qdv
theorem Qz0:Qhd Tryz.prog 69 Qk9:=Qt0 Q1t Q1g
theorem Qub:Qfr Tryz.prog 32 Qjl:=Qo8 Qcm Qz0 Qwp
theorem Qw0:Qf9 Tryz.prog 17 Qd9:=Qrt Qcm Qj3 Qub Qzn Qdv
theorem Q1u:Qdq Tryz.prog 4 Qcw:=Qge Qt8 Qr1 Qlg Qzx Qcm Qzz Q1r Qio Qw0 Qhl
end Go.Proofs
end
section
namespace Go.Abs
open Go Go.ChangeShapes Go.WideShapes Go.ChangeAt Go.RowKit
def live (w:World):Nat→Nat→Prop:=fun b o=>(w.cell? ⟨b,o,none⟩).isSome = true
def RDs (w:World):List D→List Value→Prop
 | [],vs=>vs = []
 | x :: xs,vs=>∃ u us,vs = u :: us∧RD (live w) w x u∧RDs w xs us
theorem Q7p {w:World}:∀ {xs ys:List D} {us vs:List Value},RDs w xs us→RDs w ys vs→RDs w (xs ++ ys) (us ++ vs)
 | [],ys,us,vs,h,k=>by simp only [RDs] at h; subst h; simpa using k
 | x :: xs,ys,us,vs,⟨u,us',e,r,h⟩,k=>by subst e; exact ⟨u,us' ++ vs,by simp,r,Q7p h k⟩
def RDat (w:World) (cs:List Value) (off:Nat) (xs:List D):Prop:=RDs w xs ((cs.drop off).take xs.length)
theorem RDat.app {w:World} {cs:List Value} {off:Nat} {xs ys:List D} (h:RDat w cs off xs) {n:Nat} (hn:n = off + xs.length) (k:RDat w cs n ys):RDat w cs off (xs ++ ys):=by
 subst hn
 have:=Q7p h k
 unfold RDat
 rw [List.length_append,List.take_add,List.drop_drop]
 exact this
theorem RDat.nil {w:World} {cs:List Value} {off:Nat}:RDat w cs off []:=by simp [RDat,RDs]
theorem RDat.all {w:World} {cs:List Value} {xs:List D} (h:RDat w cs 0 xs) (hl:cs.length = xs.length):RDs w xs cs:=by
 unfold RDat at h
 rw [List.drop_zero,← hl,List.take_length] at h
 exact h
theorem Qbc4 {w:World} {b:Nat}:∀ {xs:List D} {vs:List Value} {o:Nat},RDs w xs vs→(∀ i v,vs[i]? = some v→w.cell? ⟨b,o + i,none⟩ = some v)→RDc (live w) w b xs o
 | [],vs,o,_,_=>by simp [RDc]
 | x :: xs,vs,o,⟨u,us,e,r,h⟩,hc=>by
  subst e
  have h0:=hc 0 u rfl
  rw [Nat.add_zero] at h0
  refine ⟨by simp [live,h0],⟨u,h0,r⟩,Qbc4 h fun i v hv=>?_⟩
  have:=hc (i + 1) v (by simpa using hv)
  rw [show o + 1 + i = o + (i + 1) from by omega]; exact this
def Q60 {α:Type} (P:Program) (t:TypeId) (e:α→List D) (wf:α→Prop):Prop :=
 ∀ {H:Type} {enc:TypeId×Value→H} {w:World} {base:Nat} {spare:Nat→Bool} {held:Bool} {fuel:Nat} {cs:List Value} {x:DataW H×List MemPlace},
  DataW.trod enc P w base spare held fuel t cs = some x→∃ a,wf a∧RDs w (e a) cs
def wfI (k:IntKind) (n:Int):Prop:=(Lit.int k n).wf = true
def wfL {α:Type} (wf:α→Prop) (l:List α):Prop:=l.length≤maxLen∧∀ a∈l,wf a
variable {P:Program} {t:TypeId}
theorem Qbc5 {k:IntKind} (ht:P.underlying t = some (.int k)):Q60 P t (fun n:Int=>[.int k n]) (wfI k):=by
 intro H enc w base spare held fuel cs x h
 obtain ⟨n,rfl,_,hw⟩:=DataW.trod_int ht h
 exact ⟨n,hw,_,_,rfl,by simp [RD],rfl⟩
theorem cells?_get {w:World} {base:Nat} {a:Addr} {n:Nat} {cs:List Value} (h:w.cells? base a n = some cs):cs.length = n∧∀ i v,cs[i]? = some v→w.cell? (a.add i) = some v:=by
 obtain ⟨h1,h2,h3⟩:=World.cells?_some h
 refine ⟨h2,fun i v hv=>?_⟩
 have hi:=(List.getElem?_eq_some_iff.1 hv).1
 have:=h3 i (by omega)
 rw [this]; simpa using hv
theorem Q6q {α:Type} {el:TypeId} {e:α→List D} {wf:α→Prop} {sz:Nat} (ht:P.underlying t = some (.slice el)) (he:Q60 P el e wf) (hsz:P.cellsOf el = sz) (hpos:0 < sz) (hlen:∀ a,(e a).length = sz) :
  Q60 P t (fun l:List α=>[.lst sz (l.map e)]) (wfL wf):=by
 intro H enc w base spare held fuel cs x h
 rcases DataW.trod_slice ht h with ⟨rfl,_⟩ | ⟨a,len,cap,Qfv,rest,n,_,rfl,_,hb,hl,hm,helen,hel,_,_⟩
 ·exact ⟨[],⟨by simp,by simp⟩,_,_,rfl,by simp only [RD,List.map_nil,List.length_nil]; exact ⟨none,0,rfl,Nat.le_refl _,.inl trivial⟩,rfl⟩
 ·have key:∀ m,m≤len→∃ l:List α,l.length = m∧(∀ x∈l,wf x)∧∀ i y,l[i]? = some y→∃ vs,w.cells? base (a.add (i * sz)) sz = some vs∧RDs w (e y) vs:=by
   intro m
   induction m with
   | zero=>exact fun _=>⟨[],rfl,by simp,by simp⟩
   | succ m ih =>
    intro hm'
    obtain ⟨l,h1,h2,h3⟩:=ih (by omega)
    have h4:=hel m (by omega)
    have h5:Qfv[m]? = some Qfv[m]:=List.getElem?_eq_getElem (by omega)
    rw [h5,hsz,Option.bind_eq_some_iff] at h4
    obtain ⟨vs,h6,h7⟩:=h4
    obtain ⟨y,h8,h9⟩:=he h7
    refine ⟨l ++ [y],by simp [h1],?_,fun i z hz=>?_⟩
    ·intro x hx
     rcases List.mem_append.1 hx with hx | hx
     ·exact h2 x hx
     ·simp at hx; subst hx; exact h8
    ·by_cases hi:i < m
     ·rw [List.getElem?_append_left (by omega)] at hz; exact h3 i z hz
     ·have:i = m:=by
       have:=(List.getElem?_eq_some_iff.1 hz).1
       simp at this; omega
      subst this
      rw [List.getElem?_append_right (by omega),h1] at hz
      simp at hz; subst hz
      exact ⟨vs,h6,h9⟩
  obtain ⟨l,h1,h2,h3⟩:=key len (Nat.le_refl _)
  have hmax:l.length≤maxLen:=by omega
  refine ⟨l,⟨hmax,h2⟩,_,_,rfl,?_,rfl⟩
  simp only [RD,List.length_map,h1]
  refine ⟨some a,cap,rfl,hl,?_⟩
  cases l with
  | nil=>exact .inl rfl
  | cons y l =>
   right
   have hspot:a.spot = none:=by
    obtain ⟨vs,h4,h5⟩:=h3 0 y rfl
    obtain ⟨h6,h7⟩:=cells?_get h4
    have hv:vs[0]? = some vs[0]:=List.getElem?_eq_getElem (by omega)
    have:=h7 0 _ hv
    cases hs:a.spot with
    | none=>rfl
    | some s =>
     unfold World.cell? at this
     split at this
     ·simp [Addr.add,hs] at this
     ·cases this
   obtain ⟨b,o,sp⟩:=a
   simp only at hspot
   subst hspot
   refine ⟨b,o,rfl,?_⟩
   have row:∀ (l:List α) (j:Nat),(∀ i y,l[i]? = some y→∃ vs,w.cells? base ((⟨b,o,none⟩ : Addr).add ((j + i) * sz)) sz = some vs∧RDs w (e y) vs)→RDL (live w) w sz b (l.map e) (o + j * sz):=by
    intro l
    induction l with
    | nil=>intro j _; simp [RDL]
    | cons y l ih =>
     intro j h
     obtain ⟨vs,h4,h5⟩:=h 0 y rfl
     obtain ⟨h6,h7⟩:=cells?_get h4
     refine ⟨hlen y,Qbc4 h5 fun i v hv=>?_,?_⟩
     ·have:=h7 i v hv
      rw [Qd5,Qd5] at this
      simpa [Nat.add_assoc] using this
     ·have:=ih (j + 1) fun i y hy=>by
       have:=h (i + 1) y (by simpa using hy)
       rw [show j + 1 + i = j + (i + 1) from by omega]; exact this
      rw [show o + j * sz + sz = o + (j + 1) * sz from by rw [Nat.add_mul]; omega]
      exact this
   have:=row (y :: l) 0 fun i y hy=>by simpa using h3 i y hy
   simpa using this
theorem Qr2 {α:Type} {el:TypeId} {e:α→List D} {wf:α→Prop} {sz:Nat} (he:Q60 P el e wf) (hsz:P.cellsOf el = sz) (hlen:∀ a,(e a).length = sz)
  {H:Type} {enc:TypeId×Value→H} {w:World} {base:Nat} {spare:Nat→Bool} {held:Bool} {fuel off:Nat} {cs:List Value} {x:DataW H×List MemPlace}
  (h:DataW.trod enc P w base spare held fuel el ((cs.drop off).take (P.cellsOf el)) = some x):∃ a,wf a∧RDat w cs off (e a):=by
 obtain ⟨a,h1,h2⟩:=he h
 refine ⟨a,h1,?_⟩
 unfold RDat
 rw [hlen,← hsz]; exact h2
theorem Q9m {H:Type} {enc:TypeId×Value→H} {w:World} {base:Nat} {spare:Nat→Bool} {held:Bool} {fuel:Nat} {cs:List Value} {x:DataW H×List MemPlace} {fs:Array Field}
  (ht:P.underlying t = some (.struct fs)) (h:DataW.trod enc P w base spare held fuel t cs = some x) :
  cs.length = P.cellsOf t∧∃ n,∀ (i:Nat) (f:Field),fs[i]? = some f→∃ y,DataW.trod enc P w base spare held n f.type ((cs.drop f.offset).take (P.cellsOf f.type)) = some y:=by
 obtain ⟨xs,n,_,_,h1,h2,h3⟩:=DataW.trod_struct ht h
 refine ⟨h1,n,fun i f hf=>?_⟩
 have hi:i < fs.size:=(Array.getElem?_eq_some_iff.1 hf).1
 exact ⟨xs[i]'(by omega),by rw [h3 i f hf]; exact List.getElem?_eq_getElem (by omega)⟩
def Q8i {α:Type} (P:Program) (t:TypeId) (v:α→V) (wf:α→Prop):Prop :=
 ∀ {H:Type} {enc:TypeId×Value→H} {w:World} {base b0:Nat} {spare:Nat→Bool} {held:Bool} {u:Value} {d:DataW H} {ps:List MemPlace},
  Value.okWide P w .any b0 t u→DataW.Trod enc P w base spare held t u d ps→∃ a,wf a∧RF ⟨fun _=>0,live w,fun _=>.ext⟩ w (v a) u
theorem Qbft {imm:Nat→Nat→Prop} {w:World} {x:D} {u:Value} (h:RD imm w x u):u.oneCell' = true:=by
 cases x with
 | int k n=>simp only [RD] at h; subst h; rfl
 | bool b=>simp only [RD] at h; subst h; rfl
 | str s=>simp only [RD] at h; subst h; rfl
 | lst sz l=>simp only [RD] at h; obtain ⟨a,cap,rfl,_⟩:=h; cases a <;> rfl
theorem Qbc6 {w:World} {g:G} (hg:g.imm = live w):∀ {xs:List D} {us:List Value} {ℓ:Owner} {i:Nat},RDs w xs us→RVs g w (xs.map V.d) ℓ i us∧∀ u∈us,u.oneCell' = true
 | [],us,ℓ,i,h=>by simp only [RDs] at h; subst h; simp [RVs]
 | x :: xs,us,ℓ,i,⟨u,us',e,r,h⟩=>by
  subst e
  obtain ⟨h1,h2⟩:=Qbc6 hg (ℓ:=ℓ) (i:=i + 1) h
  refine ⟨⟨u,us',rfl,by simpa [RV,hg] using r,h1⟩,fun v hv=>?_⟩
  rcases List.mem_cons.1 hv with rfl | hv
  ·exact Qbft r
  ·exact h2 v hv
theorem Qbe4 {α:Type} {e:α→List D} {wf:α→Prop} (he:Q60 P t e wf) (hagg:(∃ fs,P.underlying t = some (.struct fs))∨∃ n el,P.underlying t = some (.array n el)):Q8i P t (fun a=>.agg ((e a).map V.d)) wf:=by
 intro H enc w base b0 spare held u d ps hok hd
 obtain ⟨cs,rfl⟩ : ∃ cs,u = .agg cs:=by
  rcases hagg with ⟨fs,ht⟩ | ⟨n,el,ht⟩
  ·simp only [Value.okWide,ht] at hok; obtain ⟨cs,rfl,_⟩:=hok; exact ⟨cs,rfl⟩
  ·simp only [Value.okWide,ht] at hok; obtain ⟨cs,rfl,_⟩:=hok; exact ⟨cs,rfl⟩
 obtain ⟨fuel,hf⟩:=hd
 obtain ⟨a,h1,h2⟩:=he hf
 refine ⟨a,h1,fun ℓ=>?_⟩
 simp only [RV]
 obtain ⟨h3,h4⟩:=Qbc6 (g:=⟨fun _=>0,live w,fun _=>.ext⟩) rfl (ℓ:=ℓ) (i:=0) h2
 exact ⟨cs.toList,by simp,h3,h4⟩
def Qbfu (P:Program) (f:FuncId) (ts:List TypeId):Prop :=
 ∀ {H:Type} {enc:TypeId×Value→H} {w:World} {b0:Nat} {us:List Value} {ds:List (DataW H)} {ps:List MemPlace},
  (∀ (j:Nat) t u,ts[j]? = some t→us[j]? = some u→Value.okWide P w .any b0 t u)→DataW.TrodAll enc P w 0 (fun _=>true) true ts us ds ps →
  ∃ vs,RFs ⟨fun _=>0,live w,fun _=>.ext⟩ w vs us∧(∀ x∈vs,Flat x)∧V.lt.go 0 vs = true∧∀ M nb,ACalls P f vs M nb (.d (.bool true)) M nb
theorem Q3m (hl:laidOutB P = true) {W W' : World} {sp:Nat→Bool} {H:Type} {enc:TypeId×Value→H}:∀ {ts:List TypeId} {us:List Value} {ds:List (DataW H)} {ps:List MemPlace},
  (∀ t∈ts,P.readableRec t = true∧t < P.types.size)→DataW.TrodAll enc P W 0 (fun _=>true) true ts us ds ps→(∀ p∈ps,W.sameAt W' p)→(∀ p∈ps,sp p.block = true)→DataW.TrodAll enc P W' 0 sp true ts us ds ps
 | [],[],[],ps,_,h,_,_=>h
 | t :: ts,u :: us,d :: ds,ps,hr,⟨p,q,h1,h2,e⟩,hs,hp=>by
  subst e
  obtain ⟨r1,r2⟩:=hr t (by simp)
  exact ⟨p,q,WideElems.Trod_stays hl r1 r2 h1 (fun x hx=>hs x (by simp [hx])) (fun x hx=>hp x (by simp [hx])),Q3m hl (fun t ht=>hr t (by simp [ht])) h2 (fun x hx=>hs x (by simp [hx])) (fun x hx=>hp x (by simp [hx])),rfl⟩
 | [],[],_ :: _,_,_,h,_,_=>h.elim
 | [],_ :: _,_,_,_,h,_,_=>h.elim
 | _ :: _,[],_,_,_,h,_,_=>h.elim
 | _ :: _,_ :: _,[],_,_,h,_,_=>h.elim
theorem Q6r {W:World} {sp:Nat→Bool} {held:Bool} {base:Nat} {H:Type} {enc:TypeId×Value→H}:∀ {ts:List TypeId} {us:List Value} {ds:List (DataW H)} {ps:List MemPlace},
  DataW.TrodAll enc P W base sp held ts us ds ps→ds.length = ts.length∧us.length = ts.length
 | [],[],[],ps,h=>⟨rfl,rfl⟩
 | t :: ts,u :: us,d :: ds,ps,⟨p,q,h1,h2,e⟩=>by have:=Q6r h2; simp [this.1,this.2]
 | [],[],_ :: _,_,h=>h.elim
 | [],_ :: _,_,_,h=>h.elim
 | _ :: _,[],_,_,h=>h.elim
 | _ :: _,_ :: _,[],_,h=>h.elim
section
variable {α β γ δ:Type} {f:FuncId} {ta tb tc td:TypeId} {va:α→V} {vb:β→V} {vc:γ→V} {vd:δ→V} {wa:α→Prop} {wb:β→Prop} {wc:γ→Prop} {wd:δ→Prop}
theorem Qbf3 (ra:Q8i P ta va wa) (fa:∀ a,(va a).dem = va a) (la:∀ a,(va a).lt 0 = true) (law:∀ a,wa a→∀ M nb,ACalls P f [va a] M nb (.d (.bool true)) M nb):Qbfu P f [ta]:=by
 intro H enc w b0 us ds ps hok hT
 match us,ds,hT with
 | [u],[d],⟨p,q,h1,h2,e⟩ =>
  obtain ⟨a,ha,hra⟩:=ra (hok 0 _ _ rfl rfl) h1
  exact ⟨[va a],⟨u,[],rfl,hra,rfl⟩,fun x hx=>by rw [List.mem_singleton] at hx; subst hx; exact fa a,by simp [V.lt.go,la],law a ha⟩
 | [],_,hT=>cases ‹List (DataW H)› <;> exact hT.elim
 | [_],[],hT=>exact hT.elim
 | [_],_ :: _ :: _,⟨_,_,_,h2,_⟩=>exact h2.elim
 | _ :: _ :: _,[],hT=>exact hT.elim
 | _ :: _ :: _,[_],⟨_,_,_,h2,_⟩=>exact h2.elim
 | _ :: _ :: _,_ :: _ :: _,⟨_,_,_,h2,_⟩=>exact h2.elim
end
end Go.Abs
end
section
namespace Go.Proofs
open Go Go.Abs
set_option maxRecDepth 100000
def W_3 (x:Int):Prop:=wfI .i64 x
theorem R_3:Q60 Tryz.prog 3 (eI .i64) W_3:=Qbc5 Tryz.underlying3
def W_31 (x:List Int):Prop:=wfL W_3 x
theorem R_31:Q60 Tryz.prog 31 (eL 1 (eI .i64)) W_31:=Q6q Tryz.underlying31 R_3 (by kernel_rfl) (by decide) (fun _=>rfl)
def W_60 (x:Qi):Prop:=W_3 x.From∧W_3 x.Event∧W_3 x.To
theorem R_60:Q60 Tryz.prog 60 Qe W_60:=by
  intro H enc w base spare held fuel cs x h
  obtain ⟨hl,n,hf⟩:=Q9m Tryz.underlying60 h
  obtain ⟨y0,h0⟩:=hf 0 _ rfl
  obtain ⟨a0,w0,r0⟩:=Qr2 (off:=0) (sz:=1) R_3 (by kernel_rfl) (fun _=>rfl) h0
  obtain ⟨y1,h1⟩:=hf 1 _ rfl
  obtain ⟨a1,w1,r1⟩:=Qr2 (off:=1) (sz:=1) R_3 (by kernel_rfl) (fun _=>rfl) h1
  obtain ⟨y2,h2⟩:=hf 2 _ rfl
  obtain ⟨a2,w2,r2⟩:=Qr2 (off:=2) (sz:=1) R_3 (by kernel_rfl) (fun _=>rfl) h2
  exact ⟨⟨a0,a1,a2⟩,⟨w0,w1,w2⟩,RDat.all (xs:=Qe ⟨a0,a1,a2⟩) (RDat.app r0 rfl (RDat.app r1 rfl r2)) (hl.trans (by kernel_rfl))⟩
def W_32 (x:List Qi):Prop:=wfL W_60 x
theorem R_32:Q60 Tryz.prog 32 (eL 3 Qe) W_32:=Q6q Tryz.underlying32 R_60 (by kernel_rfl) (by decide) (fun _=>rfl)
def W_34 (x:Qb):Prop:=W_31 x.Alphabet∧W_3 x.States∧W_31 x.Marked∧W_32 x.Edges
theorem R_34:Q60 Tryz.prog 34 Q1 W_34:=by
  intro H enc w base spare held fuel cs x h
  obtain ⟨hl,n,hf⟩:=Q9m Tryz.underlying34 h
  obtain ⟨y0,h0⟩:=hf 0 _ rfl
  obtain ⟨a0,w0,r0⟩:=Qr2 (off:=0) (sz:=1) R_31 (by kernel_rfl) (fun _=>rfl) h0
  obtain ⟨y1,h1⟩:=hf 1 _ rfl
  obtain ⟨a1,w1,r1⟩:=Qr2 (off:=1) (sz:=1) R_3 (by kernel_rfl) (fun _=>rfl) h1
  obtain ⟨y2,h2⟩:=hf 2 _ rfl
  obtain ⟨a2,w2,r2⟩:=Qr2 (off:=2) (sz:=1) R_31 (by kernel_rfl) (fun _=>rfl) h2
  obtain ⟨y3,h3⟩:=hf 3 _ rfl
  obtain ⟨a3,w3,r3⟩:=Qr2 (off:=3) (sz:=1) R_32 (by kernel_rfl) (fun _=>rfl) h3
  exact ⟨⟨a0,a1,a2,a3⟩,⟨w0,w1,w2,w3⟩,RDat.all (xs:=Q1 ⟨a0,a1,a2,a3⟩) (RDat.app r0 rfl (RDat.app r1 rfl (RDat.app r2 rfl r3))) (hl.trans (by kernel_rfl))⟩
theorem A_34:Q8i Tryz.prog 34 (fun (a:Qb)=>.agg [.d (.lst 1 (List.map (eI .i64) a.Alphabet)),.d (.int .i64 a.States),.d (.lst 1 (List.map (eI .i64) a.Marked)),.d (.lst 3 (List.map Qe a.Edges))]) W_34:=Qbe4 R_34 (.inl ⟨_,Tryz.underlying34⟩)
end Go.Proofs
end
section
namespace Go.Abs
open Go
theorem Q7q {X R:Type} {F:(X→Option R)→X→Option R} (I:X→Prop) (m:X→Nat) (Q:X→Option R→Prop)
  (step:∀ (k:X→Option R) (x:X),I x→(∀ y,I y→m y < m x→Q y (k y))→Q x (F k x)):∀ (fuel:Nat) (x:X),I x→m x < fuel→Q x (Qhk F fuel x)
 | 0,x,_,h=>absurd h (Nat.not_lt_zero _)
 | fuel + 1,x,hi,h=>step _ x hi fun y hy hm=>Q7q I m Q step fuel y hy (by omega)
theorem Qbc7 {x:Int} (h1 : -9223372036854775808≤x) (h2:x≤9223372036854775807):IntKind.wrap .i64 x = x:=by
 simp [IntKind.wrap,IntKind.bits,IntKind.signed]; omega
theorem Q6s {n:Nat} (h:n < 9223372036854775807):IntKind.wrap .i64 ((n:Int) + 1) = ((n + 1:Nat):Int):=by
 rw [Qbc7 (by omega) (by omega)]; omega
theorem Q3n {α:Type} {l:List α} {n:Nat} (h:n < l.length):getO l (n:Int) = some l[n]:=by
 simp [getO,h]
theorem Q6t {R:Type} {F:(Int→Option R)→Int→Option R} {len fuel:Nat} (G:Nat→Option R) (hf:len < fuel)
  (step:∀ (k:Int→Option R) (n:Nat),n < len→k ((n + 1:Nat):Int) = G (n + 1)→F k (n:Int) = G n) (last:∀ k:Int→Option R,F k (len:Int) = G len):Qhk F fuel 0 = G 0:=by
 have:=Q7q (F:=F) (fun x=>∃ n:Nat,x = (n:Int)∧n≤len) (fun x=>len - x.toNat) (fun x r=>∀ n:Nat,x = (n:Int)→r = G n) (fun k x hx ih=>by
  obtain ⟨n,rfl,hn⟩:=hx
  intro m hm
  obtain rfl:n = m:=by omega
  by_cases h:n < len
  ·exact step k n h (ih _ ⟨n + 1,rfl,by omega⟩ (by omega) (n + 1) rfl)
  ·obtain rfl:n = len:=by omega
   exact last k) fuel 0 ⟨0,rfl,by omega⟩ (by simpa using hf)
 exact this 0 rfl
theorem Q9n {n:Nat} (h0:0 < n) (h:n < 9223372036854775807):IntKind.wrap .i64 ((n:Int) - 1) = ((n - 1:Nat):Int):=by
 rw [Qbc7 (by omega) (by omega)]; omega
section
variable {α:Type} {p:α→Bool}
end
end Go.Abs
end
section
namespace Go.Abs
abbrev big : Nat := 1000000000000
def Qbdw (a : Qb) : Prop := a.Alphabet.length < big ∧ a.Marked.length < big ∧ a.Edges.length < big
end Go.Abs
end
section
namespace Go.Abs
open Go
def Qjc (n:Int):Option Int→List Int→Int
 | _,[]=>0
 | p,x :: xs=>if x < 0∨x≥n then 2 else if ∃ y,p = some y∧x≤y then 5 else Qjc n (some x) xs
def Qlt (al:List Int) (st:Int):Option Qi→List Qi→Int
 | _,[]=>0
 | p,x :: xs=>if x.From < 0∨x.From≥st∨x.To < 0∨x.To≥st then 2 else if x.Event∉al then 9 else if ∃ y,p = some y∧(x.From < y.From∨x.From = y.From∧x.Event≤y.Event) then 5 else Qlt al st (some x) xs
def Q8j (a:Qb):Int :=
 if Qjc 32 none a.Alphabet≠0 then Qjc 32 none a.Alphabet else if a.States < 0 then 2 else if a.States > 4096 then 3 else
 if Qjc a.States none a.Marked≠0 then Qjc a.States none a.Marked else Qlt a.Alphabet a.States none a.Edges
def ahead {α:Type} (l:List α) (n:Nat):Option α:=if n = 0 then none else l[n - 1]?
theorem Qxc {α:Type} (l:List α):ahead l 0 = none:=rfl
theorem Q7r {α:Type} (l:List α) {n:Nat} (h:n < l.length):ahead l (n + 1) = some l[n]:=by simp [ahead,h]
theorem Q9o {α:Type} (l:List α) {n:Nat} (h0:0 < n) (h:n≤l.length):ahead l n = some (l[n - 1]'(by omega)):=by
 simp [ahead,show n≠0 from by omega,show n - 1 < l.length from by omega]
theorem Q9p {n:Int} {l:List Int} {k:Nat} (h:k < l.length):Qjc n (ahead l k) (l.drop k) = if l[k] < 0∨l[k]≥n then 2 else if ∃ y,ahead l k = some y∧l[k]≤y then 5 else Qjc n (ahead l (k + 1)) (l.drop (k + 1)):=by
 rw [List.drop_eq_getElem_cons h,Qjc,Q7r l h]
theorem Q8k {al:List Int} {n:Int} {l:List Qi} {k:Nat} (h:k < l.length):Qlt al n (ahead l k) (l.drop k) = if l[k].From < 0∨l[k].From≥n∨l[k].To < 0∨l[k].To≥n then 2 else if l[k].Event∉al then 9 else if ∃ y,ahead l k = some y∧(l[k].From < y.From∨l[k].From = y.From∧l[k].Event≤y.Event) then 5 else Qlt al n (ahead l (k + 1)) (l.drop (k + 1)):=by
 rw [List.drop_eq_getElem_cons h,Qlt,Q7r l h]
theorem Q6u {l:List Int} {n:Int} (hl:l.length < big):Qd8 l n = some (Qjc n none l):=by
 unfold Qd8 Qba
 refine (Q6t (len:=l.length) (fun k=>some (Qjc n (ahead l k) (l.drop k))) (by unfold Qdv; unfold big at hl; omega) ?_ ?_).trans (by simp [Qxc])
 ·intro k i hi ih
  have hb:i < 1000000000000:=by unfold big at hl; omega
  rw [Q9p hi]
  try dsimp only
  rw [if_pos (by omega),Q3n hi,Q6s (by omega),ih]
  simp only [Option.bind_some]
  by_cases h1:l[i] < 0
  ·simp [h1]
  ·by_cases h2:l[i]≥n
   ·simp [h1,h2]
   ·by_cases h0:0 < i
    ·rw [Q9n h0 (by omega),Q3n (by omega:i - 1 < l.length),Q9o l h0 (by omega)]
     by_cases h3:l[i]≤l[i - 1] <;> simp [h1,h2,h3,h0]
    ·obtain rfl:i = 0:=by omega
     simp [h1,h2,Qxc]
 ·intro k; simp [Qjc]
theorem Qbdx {l:List Int} {v:Int} (hl:l.length < big):Qdw l v = some (if v∈l then (l.idxOf v:Int) else -1):=by
 unfold Qdw Qx
 refine (Q6t (len:=l.length) (fun k=>some (if v∈l.drop k then ((k + (l.drop k).idxOf v:Nat):Int) else -1)) (by unfold Qdv; unfold big at hl; omega) ?_ ?_).trans (by simp)
 ·intro k i hi ih
  have hb:i < 1000000000000:=by unfold big at hl; omega
  try dsimp only
  rw [if_pos (by omega),Q3n hi,Q6s (by omega),ih,List.drop_eq_getElem_cons hi]
  simp only [Option.bind_some,List.mem_cons,List.idxOf_cons]
  by_cases h:v = l[i]
  ·simp [← h]
  ·have:¬ l[i] = v:=fun e=>h e.symm
   have hbq:(l[i] == v) = false:=by simp [this]
   by_cases h2:v∈l.drop (i + 1) <;> simp [h,h2,hbq]
   omega
 ·intro k; simp
theorem Q99 {l:List Int} {v:Int} (hl:l.length < big):Qc8 l v = some (decide (v∈l)):=by
 unfold Qc8 Qq
 rw [Qbdx hl]
 simp only [Option.bind_some,Option.some.injEq]
 by_cases h:v∈l <;> simp [h]
theorem Q8l {a:Qb} (h:Qbdw a):Qdo a = some (Qlt a.Alphabet a.States none a.Edges):=by
 obtain ⟨hal,_,hl⟩:=h
 unfold Qdo Q7
 refine (Q6t (len:=a.Edges.length) (fun k=>some (Qlt a.Alphabet a.States (ahead a.Edges k) (a.Edges.drop k))) (by unfold Qdv; unfold big at hl; omega) ?_ ?_).trans (by simp [Qxc])
 ·intro k i hi ih
  have hb:i < 1000000000000:=by unfold big at hl; omega
  rw [Q8k hi]
  unfold letJ
  try dsimp only
  rw [if_pos (by omega),Q3n hi,Q6s (by omega),ih]
  simp only [Option.bind_some,Q99 hal]
  generalize a.Edges[i] = x
  by_cases h1:x.From < 0
  ·simp [h1]
  by_cases h2:x.From≥a.States
  ·simp [h1,h2]
  by_cases h3:x.To < 0
  ·simp [h1,h2,h3]
  by_cases h4:x.To≥a.States
  ·simp [h1,h2,h3,h4]
  by_cases h5:x.Event∈a.Alphabet
  ·by_cases h0:0 < i
   ·rw [Q9n h0 (by omega),Q3n (by omega:i - 1 < a.Edges.length),Q9o a.Edges h0 (by omega)]
    generalize a.Edges[i - 1] = y
    have hi0:i≠0:=by omega
    by_cases h6:x.From < y.From
    ·simp [h1,h2,h3,h4,h5,h6,hi0]
    by_cases h7:y.From = x.From
    ·by_cases h8:x.Event≤y.Event <;> simp [h1,h2,h3,h4,h5,h6,h7,h8,hi0]
    ·have h7' : ¬ x.From = y.From:=fun e=>h7 e.symm
     simp [h1,h2,h3,h4,h5,h6,h7,hi0,h7']
   ·obtain rfl:i = 0:=by omega
    simp [h1,h2,h3,h4,h5,Qxc]
  ·simp [h1,h2,h3,h4,h5]
 ·intro k; unfold letJ; simp [Qlt]
theorem Qbdy {a:Qb} (h:Qbdw a):Q4 a = some (Q8j a):=by
 unfold Q4 Qf Q8j
 rw [Q6u h.1,Q6u h.2.1,Q8l h]
 simp only [Option.bind_some]
 by_cases h1:Qjc 32 none a.Alphabet = 0
 ·by_cases h2:a.States < 0
  ·simp [h1,h2]
  by_cases h3:a.States > 4096
  ·simp [h1,h2,h3]
  by_cases h4:Qjc a.States none a.Marked = 0 <;> simp [h1,h2,h3,h4]
 ·simp [h1]
end Go.Abs
end
section
namespace Go.Abs
open Go
theorem Qbbh:Qft = some true:=by kernel_rfl
theorem Qbe5 (a:Qb):Qel a = some (decide (a.States≤8∧a.Alphabet.length≤40∧a.Marked.length≤40∧a.Edges.length≤40)):=by
 unfold Qel Qbq
 by_cases h1:a.States≤8
 ·by_cases h2:a.Alphabet.length≤40
  ·by_cases h3:a.Marked.length≤40
   ·rw [if_pos h1,if_pos (by omega),if_pos (by omega)]; congr 1; apply decide_eq_decide.2; omega
   ·rw [if_pos h1,if_pos (by omega),if_neg (by omega)]; simp [h3]
  ·rw [if_pos h1,if_neg (by omega)]; simp [h2]
 ·rw [if_neg h1]; simp [h1]
section
variable {a:Qb} {w:Int} (hc:Q4 a = some w) (hw:w≠0)
include hc hw
theorem Q8m:Qif [⟨[],1,[],[]⟩,a] = some w:=by
 have h1:Q4 ⟨[],1,[],[]⟩ = some 0:=by kernel_rfl
 obtain ⟨n,hn⟩ : ∃ n,Qdv = n + 2:=⟨1099511627774,rfl⟩
 unfold Qif Qcz
 rw [hn]
 simp only [Qhk,List.length_cons,List.length_nil]
 have e0:getO [(⟨[],1,[],[]⟩ : Qb),a] 0 = some ⟨[],1,[],[]⟩:=rfl
 have e1:getO [(⟨[],1,[],[]⟩ : Qb),a] (IntKind.wrap .i64 (0 + 1)) = some a:=rfl
 rw [if_neg (by omega),if_pos (by omega),e0,e1]
 simp only [Option.bind_some,h1,hc]
 rw [if_neg (by simp),if_pos (by decide),if_pos (by simpa using hw)]
theorem Qbdz:Qc5 [⟨[],1,[],[]⟩,a] = some (⟨[],0,[],[]⟩,w):=by
 unfold Qc5 Q0 Qja Qcc Qfu Qbd
 rw [Q8m hc hw]
 simp [hw]
theorem Qbc8:Qem a [] = some (⟨[],0,[],[]⟩,w):=by
 unfold Qem Qbr Qgg Qbi Qie Qb2
 rw [hc]
 simp [hw]
theorem Qbd0:Qdp a = some (false,w):=by
 unfold Qdp Q9
 rw [hc]
 simp [hw]
theorem Qbd1:Qfe a = some ([],w):=by
 unfold Qfe Qb3
 rw [hc,Option.bind_some,if_pos (by simpa using hw)]
theorem Qbaa (s:Int):Qc9 a s = some ([],w):=by
 unfold Qc9 Qr Qhh Qbp Qe9 Q8
 rw [hc,Option.bind_some,if_pos (by simpa using hw),Option.bind_some,if_pos (by simpa using hw),Option.bind_some]
 dsimp only
 rw [if_pos (by simpa using hw)]
theorem Qbbi (l:List Int):Qd9 a l = some (false,w):=by
 unfold Qd9 Qbj
 rw [hc,Option.bind_some,if_pos (by simpa using hw)]
end
theorem Q9q (a:Qb):Qcw a = some true:=by
 unfold Qcw Qbt
 rw [Qbbh]
 simp only [Option.bind_some,if_true]
 rw [Qbe5]
 by_cases hf:a.States≤8∧a.Alphabet.length≤40∧a.Marked.length≤40∧a.Edges.length≤40
 ·have hs:Qbdw a:=by unfold Qbdw big; omega
  have hc:=Qbdy hs
  generalize Q8j a = w at hc
  rw [hc]
  simp only [hf,decide_true,Option.bind_some,Bool.not_true,Bool.false_eq_true,if_false,and_self]
  by_cases hw:w = 0
  ·rw [if_pos (by simp [hw])]
  ·rw [if_neg (by simpa using hw),Qbc8 hc hw,Qbdz hc hw,Qbd0 hc hw,Qbd1 hc hw,Qbaa hc hw,Qbbi hc hw]
   simp
   decide
 ·simp [hf]
end Go.Abs
end
section
namespace Go.Abs
open Go Go.ChangeShapes Go.WideShapes Go.ChangeAt Go.RowKit
theorem Qbc9 {X:World→Array Value→Prop} (hX:∀ (w w' : World) (args:Array Value),w.heap = w'.heap→X w args→X w' args) {C:Checked} {f:FuncId} {fn:Func} {s:ChangeSpec} {conds:List PathCond} {bt:TypeId} {os:Os} {H:Type} {enc:TypeId×Value→H}
  (own:ownKnob C.prog.godebug = none) (started:os.Started) (noInit:C.prog.inits.idxOf? f = none) (hfn:C.prog.funcs[f]? = some fn)
  (witness:∃ (w:World) (tape:Tape) (i:Input),w.os = os∧(w.forCall tape i).Shaped C.prog∧i.vars = []∧Input.okWide C.prog (w.forCall tape i) .any w.heap.size f i ∧
   ((s.pre enc C.prog fn conds false (w.forCall tape i).memory i.args∧X (w.forCall tape i).memory i.args)∧sizedMet enc C.prog fn (OpenSpec.ofChange s) false (w.forCall tape i).memory i.args)∧({}:Assume).holds C.prog (lone (Frame.enter C.prog f i.args .normal) [] (w.forCall tape i)))
  (hvars:s.vars = []) (hres:fn.resultTypes = #[bt]) (hbt:C.prog.underlying bt = some .bool)
  (hl:laidOutB C.prog = true) (hread:∀ t∈fn.params.toList,C.prog.readableRec t = true∧t < C.prog.types.size)
  (hspec:∀ ds:List (DataW H),ds.length = fn.params.size→s.fn H ds = { results:=[.lit (.bool true)],args:=ds })
  (law:Qbfu C.prog f fn.params.toList) :
  ReturnsInHanded {} C os f .any (fun w args=>(s.pre enc C.prog fn conds false w args∧X w args)∧sizedMet enc C.prog fn (OpenSpec.ofChange s) false w args) (s.post enc C.prog fn false true false false):=by
 refine returnsInHanded_of_change_and hX own started noInit hfn witness ?_
 intro W base args ds gs before hval hW hcnd _ _ _
 have hW':=hW
 obtain ⟨p,q,hA,hV,hps,hfz,hnd⟩:=hW
 rw [hvars] at hV
 obtain ⟨rfl,rfl⟩ : gs = []∧q = []:=by
  cases gs with
  | nil=>exact ⟨rfl,hV⟩
  | cons _ _=>exact hV.elim
 obtain ⟨vs,h1,h2,h3,h4⟩:=law (fun j t u ht hu=>hval j t u (by simpa using ht) (by simpa using hu)) hA
 obtain ⟨hb,_,h5⟩:=h4 (fun _=>none) 0
 have hlv:∀ b o,live W b o→b < W.heap.size:=by
  intro b o h
  simp only [live] at h
  obtain ⟨v,hv⟩:=Option.isSome_iff_exists.1 h
  unfold World.cell? at hv
  split at hv
  ·rename_i hh; exact (Array.getElem?_eq_some_iff.1 hh).1
  ·cases hv
 have hmr:MR ⟨fun _=>0,live W,fun _=>.ext⟩ W (fun _=>none) 0:=⟨fun k b h=>(by cases h),fun b o h=>⟨hlv b o h,fun k h=>by cases h⟩⟩
 have h6:=h5 W ⟨fun _=>0,live W,fun _=>.ext⟩ args.toList hmr (fun k cs h=>by cases h) (fun b=>⟨fun t p h=>(by cases h),fun p h=>(by cases h)⟩) h1 h2 (ons_mono (fun k hk=>absurd hk (Nat.not_lt_zero k)) _ (ons_lt vs h3))
 refine Calls.mono h6 fun e W' ⟨v,g',he,_,hr,_,_,hf⟩=>?_
 subst he
 have hv:v = .bool true:=by simpa [RV,RD] using hr
 subst hv
 have hbelow:Below W.heap.size W W':=⟨hf.os,hf.tape,hf.output,hf.size,fun k hk=>(hf.old k hk trivial).2.1⟩
 have hrl:(Value.bool true).resultList fn.resultTypes.size = [.bool true]:=by rw [hres]; rfl
 have hsp:s.fn H (ds ++ []) = { results:=[.lit (.bool true)],args:=ds }:=by
  rw [List.append_nil]
  exact hspec ds (by have:=(Q6r hA).1; simpa using this)
 have hlt:∀ p∈before,p.block < W.heap.size:=fun x hx=>hW'.lt x hx
 have hst:∀ sp:Nat→Bool,(∀ p∈before,sp p.block = true)→DataW.TrodAll enc C.prog W' 0 sp true fn.params.toList args.toList ds before:=by
  intro sp hsp'
  have e:p = before:=by rw [hps,List.append_nil]
  subst e
  exact Q3m hl hread hA (fun x hx=>hbelow.same (hlt x hx)) hsp'
 refine ⟨_,rfl,ds,[],before,[],before,[],hW',?_,?_,?_,World.keptBut_mono (fun p hp=>⟨hp,.inr (.inl hp)⟩) (hbelow.frame (· ∈ before)),fun h=>by cases h⟩
 ·rw [hsp,hrl,hres]
  exact ⟨[],[],⟨1,by simp [DataW.trod,Value.cells,hbt]⟩,rfl,rfl⟩
 ·rw [hsp]
  exact hst _ fun p hp=>by simpa using hlt p hp
 ·rw [hsp,hvars]; rfl
end Go.Abs
end
