/-
  Part 6 of the proof: see the last text.
-/
import Derived.Test.YtdfiohnppomfgaaGreatP5
import Derived.Test.YtdfiohnppomfgaaGreatProg
import Derived.KernelRfl
import Derived.Sort.Statements
import Derived.Lib.SlicesCompact
import Derived.Lib.RuneBytes
import Derived.Shelf.SlSortCmp.NoneTotal
import Derived.Shelf.SlGeneric
import Derived.Ground.SlgmProg
import Derived.Shelf.SortM.Plain
import Derived.Shelf.SortM.SortNone
import Derived.Shelf.Small.Bits
import Derived.Ground.Names2Prog
import Derived.Shelf.Slices.CompactI
import Derived.WalkKit
import Derived.Shelf.Strings.BuilderK
import Derived.Shelf.Strings.BuilderRune
import Derived.Shelf.Strconv.Itoa0
import Derived.Shelf.Spec.SlicesGrow
import Derived.Ground.Names8Prog
import Derived.BigCall
import Derived.Lib.OthersKept
set_option linter.unusedVariables false
set_option linter.unusedSimpArgs false
set_option linter.unusedSectionVars false
section
namespace Go.Abs
open Go
set_option linter.unusedVariables false
set_option maxRecDepth 10000
set_option maxHeartbeats 4000000
theorem Qxg {P : Program} {c : Nat} {Qu : Qb → (List Int) → Option Int} {Qk : (List Int) → Int → Option Bool} {Qc0 : (List Qe) → Option ((List Qe))} {Qc1 : (List (List Int)) → Option ((List Int))} {f_slices_Sort_int : List Int → Option (List Int)} {f_slices_Compact_int : List Int → Option (List Int)} {f_slices_SortFunc_Edge : List Qe → Option (List Qe)} {Qch : Qb → Option (Qb × Int)}
    (H_projection_check : Qdp P 38 Qu)
    (H_slices_Contains_int : Qb1 P 56 Qk)
    (H_slices_Clone_Edge : Qjc P 65 Qc0)
    (H_slices_Concat_int : Qje P 66 Qc1)
    (H_slices_Sort_int : RowK P 67 (eI .i64) 1 [] f_slices_Sort_int)
    (H_slices_Compact_int : CompK P 68 f_slices_Compact_int)
    (H_slices_SortFunc_Edge : RowK P 69 Qc 3 [.clo 70 []] f_slices_SortFunc_Edge)
    (H_automaton_Canonical : Qhd P 71 Qch) (hcf : Qw P c = some Qii) (fuel : Nat) : Qih P c (Qco Qu Qk Qc0 Qc1 f_slices_Sort_int f_slices_Compact_int f_slices_SortFunc_Edge Qch fuel):=by
 intro a1 alphabet2 r h
 refine Qblj hcf (args':=[.agg [.f (.lst 1 (List.map (eI .i64) a1.Alphabet)),(i_ a1.States),.f (.lst 1 (List.map (eI .i64) a1.Marked)),.f (.lst 3 (List.map Qc a1.Edges))],.f (.lst 1 (List.map (eI .i64) alphabet2))]) rfl rfl rfl rfl rfl rfl fun Γ M hP hnt hG hM0 hM=>?_
 subst hP
 refine Tr.init [(0,.agg [.f (.lst 1 (List.map (eI .i64) a1.Alphabet)),(i_ a1.States),.f (.lst 1 (List.map (eI .i64) a1.Marked)),.f (.lst 3 (List.map Qc a1.Edges))]),(1,.f (.lst 1 (List.map (eI .i64) alphabet2)))] rfl ?_
 unfold Qco at h
 unfold Qii
 refine sr ((Rn.box (v:=.agg [.f (.lst 1 (List.map (eI .i64) a1.Alphabet)),(i_ a1.States),.f (.lst 1 (List.map (eI .i64) a1.Marked)),.f (.lst 3 (List.map Qc a1.Edges))]) (cs:=[.f (.lst 1 (List.map (eI .i64) a1.Alphabet)),(i_ a1.States),.f (.lst 1 (List.map (eI .i64) a1.Marked)),.f (.lst 3 (List.map Qc a1.Edges))]) trivial rfl rfl rfl rfl rfl (Rn.alloc trivial rfl (md rfl (nt ((Tr.seq (sr ((Rn.load (v:=.agg [.f (.lst 1 (List.map (eI .i64) a1.Alphabet)),(i_ a1.States),.f (.lst 1 (List.map (eI .i64) a1.Marked)),.f (.lst 3 (List.map Qc a1.Edges))]) trivial rfl (Qm rfl) rfl rfl (Rn.mov (v:=.f (.lst 1 (List.map (eI .i64) alphabet2))) trivial rfl ?_)))))))))))
 obtain ⟨x4,h3,h⟩:=bnd h
 refine Rn.call (args:=[.agg [.f (.lst 1 (List.map (eI .i64) a1.Alphabet)),(i_ a1.States),.f (.lst 1 (List.map (eI .i64) a1.Marked)),.f (.lst 3 (List.map Qc a1.Edges))],.f (.lst 1 (List.map (eI .i64) alphabet2))]) trivial rfl (fun M2 nb2=>ACalls.weak (args':=[(Qa a1),(l_ alphabet2)]) (H_projection_check _ _ _ h3 M2 nb2) (.cons (WkV.agg (.cons fToD (.cons (sm rfl) (.cons fToD (.cons fToD .nil))))) (.cons fToD .nil)) rfl) pc9 ?_
 refine md rfl (nt ((sr ((md rfl (Rn.bin trivial rfl rfl rfl (Rn.nil (toN ?_))))))))
 refine Tr.cond rfl (fun hb5=>?_) (fun hb5=>?_)
 ·replace h:=bT hb5 h
  refine sr ((Rn.build (v:=.agg [.nils 1,(i_ 0),.nils 1,.nils 3]) trivial rfl (md rfl (Rn.storeT (v:=.agg [.nils 1,(i_ 0),.nils 1,.nils 3]) (ds:=[.nils 1,(i_ 0),.nils 1,.nils 3]) (cs':=[.nils 1,(i_ 0),.nils 1,.nils 3]) trivial rfl rfl rfl rfl rfl rfl rfl (md rfl (nt ((Tr.ret ?_))))))))
  replace h:=si h; subst h
  exact ⟨.inr rfl,.tup [.agg [.nils 1,(i_ 0),.nils 1,.nils 3],(i_ x4)],res2 (Qib rfl rfl rfl rfl) rfl,(WkV.tup (.cons (WkV.agg (.cons (WkV.nilsD _) (.cons (.same rfl) (.cons (WkV.nilsD _) (.cons (WkV.nilsD _) .nil))))) (.cons (.same rfl) .nil))).rd,⟨⟨trivial,trivial,trivial,trivial,trivial⟩,trivial,trivial⟩,fun k hk=>Qf hk⟩
 ·replace h:=bF hb5 h
  refine Tr.skip (toN (Tr.seq ?_))
  refine Tr.rgnD (by decide) ?_
  refine Rn.fldP (o':=1) trivial rfl rfl (Rn.load (v:=(i_ a1.States)) trivial rfl (Qm rfl) rfl rfl (Rn.fldP (o':=2) trivial rfl rfl (Rn.load (v:=.f (.lst 1 (List.map (eI .i64) a1.Marked))) trivial rfl (Qm rfl) rfl rfl (Rn.fldP (o':=3) trivial rfl rfl (Rn.load (v:=.f (.lst 3 (List.map Qc a1.Edges))) trivial rfl (Qm rfl) rfl rfl ?_)))))
  obtain ⟨x7,h6,h⟩:=bnd h
  refine Rn.call (args:=[.f (.lst 3 (List.map Qc a1.Edges))]) trivial rfl (fun M2 nb2=>ACalls.weak (args':=[.d (.lst 3 (List.map Qc a1.Edges))]) (H_slices_Clone_Edge _ _ h6 M2 nb2) (.cons fToD .nil) rfl) (fun _=>Q7u hM rfl) ?_
  refine Rn.buildT (v:=.agg [.nils 1,(i_ a1.States),.f (.lst 1 (List.map (eI .i64) a1.Marked)),.own 3 (List.map Qc x7)]) trivial rfl (Rn.alloc trivial rfl (Rn.storeT (v:=.agg [.nils 1,(i_ a1.States),.f (.lst 1 (List.map (eI .i64) a1.Marked)),.own 3 (List.map Qc x7)]) (ds:=[.nils 1,(i_ a1.States),.f (.lst 1 (List.map (eI .i64) a1.Marked)),.own 3 (List.map Qc x7)]) (cs':=[.nils 1,(i_ a1.States),.f (.lst 1 (List.map (eI .i64) a1.Marked)),.own 3 (List.map Qc x7)]) trivial rfl rfl rfl rfl rfl rfl rfl ?_))
  refine Rn.nil ⟨rfl,?_⟩
  refine toN (sr ((Rn.fldP (o':=0) trivial rfl rfl (Rn.load (v:=.f (.lst 1 (List.map (eI .i64) a1.Alphabet))) trivial rfl (Qm rfl) rfl rfl (Rn.mov (v:=.f (.lst 1 (List.map (eI .i64) alphabet2))) trivial rfl ?_)))))
  refine Rn.weak (by show WeakSt Γ _ ⟨look [(0,.agg [.f (.lst 1 (List.map (eI .i64) a1.Alphabet)),(i_ a1.States),.f (.lst 1 (List.map (eI .i64) a1.Marked)),.f (.lst 3 (List.map Qc a1.Edges))]),(1,.f (.lst 1 (List.map (eI .i64) alphabet2))),(2,.ptr (Γ.n0 + 2) 0),(4,.ptr (Γ.n0 + 4) 0),(5,(i_ 0)),(6,(i_ x4)),(7,.ptr (Γ.n0 + 7) 0),(11,.agg [.f (.lst 1 (List.map (eI .i64) a1.Alphabet)),(i_ a1.States),.f (.lst 1 (List.map (eI .i64) a1.Marked)),.f (.lst 3 (List.map Qc a1.Edges))]),(12,.f (.lst 1 (List.map (eI .i64) alphabet2))),(13,(i_ x4)),(14,(i_ x4)),(15,(b_ (x4 != 0))),(18,.ptr (Γ.n0 + 2) 1),(19,(i_ a1.States)),(20,.ptr (Γ.n0 + 2) 2),(21,.f (.lst 1 (List.map (eI .i64) a1.Marked))),(22,.ptr (Γ.n0 + 2) 3),(23,.f (.lst 3 (List.map Qc a1.Edges))),(24,.d (.lst 3 (List.map Qc x7))),(25,.agg [.nils 1,(i_ a1.States),.f (.lst 1 (List.map (eI .i64) a1.Marked)),.d (.lst 3 (List.map Qc x7))]),(26,.ptr (Γ.n0 + 2) 0),(27,(l_ a1.Alphabet)),(28,(l_ alphabet2))],Qo Γ.n0 (bxs [(2,.cells ([.f (.lst 1 (List.map (eI .i64) a1.Alphabet)),(i_ a1.States),.f (.lst 1 (List.map (eI .i64) a1.Marked)),.f (.lst 3 (List.map Qc a1.Edges))])),(4,.cells ([.nils 1,(i_ 0),.nils 1,.nils 3])),(7,.cells ([.nils 1,(i_ a1.States),.f (.lst 1 (List.map (eI .i64) a1.Marked)),.own 3 (List.map Qc x7)]))]) M,Γ.n0 + 74⟩; exact Qi [] ⟨(sm rfl),(sm rfl),(kPtr rfl),(kPtr rfl),(sm rfl),(sm rfl),(kPtr rfl),(sm rfl),(sm rfl),(sm rfl),(sm rfl),(sm rfl),(kPtr rfl),(sm rfl),(kPtr rfl),(sm rfl),(kPtr rfl),(sm rfl),(sm rfl),(sm rfl),(kPtr rfl),fToD,fToD,trivial⟩ ⟨⟨_,rfl,rfl,(.same rfl)⟩,⟨_,rfl,rfl,(.same rfl)⟩,⟨_,rfl,rfl,(.same rfl)⟩,trivial⟩ rfl) ?_
  refine Rn.bslice (xs:=[(l_ a1.Alphabet),(l_ alphabet2)]) (cs:=[(l_ a1.Alphabet),(l_ alphabet2)]) trivial rfl rfl rfl rfl ?_
  refine Rn.weak (by show WeakSt Γ _ ⟨look [(0,.agg [.f (.lst 1 (List.map (eI .i64) a1.Alphabet)),(i_ a1.States),.f (.lst 1 (List.map (eI .i64) a1.Marked)),.f (.lst 3 (List.map Qc a1.Edges))]),(1,.f (.lst 1 (List.map (eI .i64) alphabet2))),(2,.ptr (Γ.n0 + 2) 0),(4,.ptr (Γ.n0 + 4) 0),(5,(i_ 0)),(6,(i_ x4)),(7,.ptr (Γ.n0 + 7) 0),(11,.agg [.f (.lst 1 (List.map (eI .i64) a1.Alphabet)),(i_ a1.States),.f (.lst 1 (List.map (eI .i64) a1.Marked)),.f (.lst 3 (List.map Qc a1.Edges))]),(12,.f (.lst 1 (List.map (eI .i64) alphabet2))),(13,(i_ x4)),(14,(i_ x4)),(15,(b_ (x4 != 0))),(18,.ptr (Γ.n0 + 2) 1),(19,(i_ a1.States)),(20,.ptr (Γ.n0 + 2) 2),(21,.f (.lst 1 (List.map (eI .i64) a1.Marked))),(22,.ptr (Γ.n0 + 2) 3),(23,.f (.lst 3 (List.map Qc a1.Edges))),(24,.d (.lst 3 (List.map Qc x7))),(25,.agg [.nils 1,(i_ a1.States),.f (.lst 1 (List.map (eI .i64) a1.Marked)),.d (.lst 3 (List.map Qc x7))]),(26,.ptr (Γ.n0 + 2) 0),(27,(l_ a1.Alphabet)),(28,(l_ alphabet2)),(29,.d (.lst 1 (List.map (eL 1 (eI .i64)) [a1.Alphabet,alphabet2])))],Qo Γ.n0 (bxs [(2,.cells ([.f (.lst 1 (List.map (eI .i64) a1.Alphabet)),(i_ a1.States),.f (.lst 1 (List.map (eI .i64) a1.Marked)),.f (.lst 3 (List.map Qc a1.Edges))])),(4,.cells ([.nils 1,(i_ 0),.nils 1,.nils 3])),(7,.cells ([.nils 1,(i_ a1.States),.f (.lst 1 (List.map (eI .i64) a1.Marked)),.own 3 (List.map Qc x7)]))]) M,Γ.n0 + 74⟩; exact Qck 29 [.lst 1 (List.map (eI .i64) a1.Alphabet),.lst 1 (List.map (eI .i64) alphabet2)] rfl rfl ⟨(.same rfl),(.same rfl),(fPtr rfl),(fPtr rfl),(.same rfl),(.same rfl),(fPtr rfl),(.same rfl),(.same rfl),(.same rfl),(.same rfl),(.same rfl),(fPtr rfl),(.same rfl),(fPtr rfl),(.same rfl),(fPtr rfl),(.same rfl),(.same rfl),(.same rfl),(fPtr rfl),(.same rfl),(.same rfl),(fSl rfl rfl),trivial⟩ ⟨⟨_,rfl,rfl,(.same rfl)⟩,⟨_,rfl,rfl,(.same rfl)⟩,⟨_,rfl,rfl,(.same rfl)⟩,trivial⟩ rfl) ?_
  obtain ⟨x9,h8,h⟩:=bnd h
  refine Rn.call (args:=[.d (.lst 1 (List.map (eL 1 (eI .i64)) [a1.Alphabet,alphabet2]))]) trivial rfl (H_slices_Concat_int _ _ h8) pc9 (Rn.fldP (o':=0) trivial rfl rfl (Rn.storeO (cs':=[.own 1 (List.map (eI .i64) x9),(i_ a1.States),.f (.lst 1 (List.map (eI .i64) a1.Marked)),.own 3 (List.map Qc x7)]) trivial rfl rfl rfl rfl rfl (Rn.nil (toN ?_))))
  obtain ⟨row10,hs11,h⟩:=bnd h
  obtain ⟨hl12,hn13,hr14⟩:=H_slices_Sort_int _ _ hs11
  obtain ⟨row16,hs17,h⟩:=bnd h
  obtain ⟨hl18,hn19,hr20⟩:=H_slices_Compact_int _ _ hs17
  refine Tr.seqW2 ⟨look [(2,.ptr (Γ.n0 + 2) 0),(4,.ptr (Γ.n0 + 4) 0),(7,.ptr (Γ.n0 + 7) 0)],Qo Γ.n0 (bxs [(2,.cells ([.f (.lst 1 (List.map (eI .i64) a1.Alphabet)),(i_ a1.States),.f (.lst 1 (List.map (eI .i64) a1.Marked)),.f (.lst 3 (List.map Qc a1.Edges))])),(4,.cells ([.nils 1,(i_ 0),.nils 1,.nils 3])),(7,.cells ([.f (.lst 1 (List.map (eI .i64) row16)),(i_ a1.States),.f (.lst 1 (List.map (eI .i64) a1.Marked)),.own 3 (List.map Qc x7)]))]) M,Γ.n0 + 74⟩ ?_ ?_
  ·by_cases hx15 : x9 = []
   ·obtain ⟨hyx,hn13b⟩:=hn13 hx15
    replace hyx:=hyx.symm
    subst hyx
    replace hn13:=And.intro trivial hn13b
    obtain ⟨hyx2,hn19b⟩:=hn19 hx15
    replace hyx2:=hyx2.symm
    subst hyx2
    replace hn19:=And.intro trivial hn19b
    refine Tr.rgn (Rn.fldP (o':=0) trivial rfl rfl (Rn.load (v:=(l_ x9)) trivial rfl (Qm rfl) rfl rfl (Rn.call (args:=[.d (.lst 1 (List.map (eI .i64) x9))]) trivial rfl (hn13.2) pc9 (nt ((Tr.rgn (Rn.fldP (o':=0) trivial rfl rfl (Rn.load (v:=(l_ x9)) trivial rfl (Qm rfl) rfl rfl (Rn.call (args:=[.d (.lst 1 (List.map (eI .i64) x9))]) (r:=.d (.lst 1 (List.map (eI .i64) x9))) trivial rfl (hn19.2) pc9 (Rn.fldP (o':=0) trivial rfl rfl (Rn.storeD (cs':=[(l_ x9),(i_ a1.States),.f (.lst 1 (List.map (eI .i64) a1.Marked)),.own 3 (List.map Qc x7)]) trivial rfl rfl rfl rfl rfl ?_)))))))))))
    refine Rn.nil ⟨rfl,(by exact Qi [] ⟨(kPtr rfl),(kPtr rfl),(kPtr rfl),trivial⟩ ⟨⟨_,rfl,rfl,(.same rfl)⟩,⟨_,rfl,rfl,(.same rfl)⟩,⟨_,rfl,rfl,(.cons (Qbm8 hx15) (.cons (sm rfl) (.cons (sm rfl) (.cons (sm rfl) .nil))))⟩,trivial⟩ rfl)⟩
   ·refine Tr.weak (by show WeakSt Γ _ ⟨look [(2,.ptr (Γ.n0 + 2) 0),(4,.ptr (Γ.n0 + 4) 0),(7,.ptr (Γ.n0 + 7) 0)],Qo Γ.n0 (bxs [(2,.cells ([.f (.lst 1 (List.map (eI .i64) a1.Alphabet)),(i_ a1.States),.f (.lst 1 (List.map (eI .i64) a1.Marked)),.f (.lst 3 (List.map Qc a1.Edges))])),(4,.cells ([.nils 1,(i_ 0),.nils 1,.nils 3])),(7,.cells ([.own 1 (List.map (eI .i64) x9),(i_ a1.States),.f (.lst 1 (List.map (eI .i64) a1.Marked)),.own 3 (List.map Qc x7)]))]) M,Γ.n0 + 74⟩; exact Qi [] ⟨(kPtr rfl),(kPtr rfl),(kPtr rfl),trivial⟩ ⟨⟨_,rfl,rfl,(.same rfl)⟩,⟨_,rfl,rfl,(.same rfl)⟩,⟨_,rfl,rfl,(.same rfl)⟩,trivial⟩ rfl) ?_
    refine Qbji hG hM0 7 0 34 hx15 (fun _=>rfl) rfl rfl rfl rfl ⟨rfl,rfl,rfl,trivial⟩ ⟨⟨rfl,rfl,rfl,rfl,trivial⟩,⟨rfl,rfl,rfl,rfl,trivial⟩,⟨rfl,rfl,rfl,(Qbku (fun _=>rfl)),trivial⟩,trivial⟩ (fun c21 hc22 hc23=>?_)
    refine Tr.rgn (Rn.fldP (o':=0) trivial rfl rfl (Rn.load (v:=.sl 1 (Γ.n0 + 34) 0 x9.length c21) trivial rfl (Qm rfl) rfl rfl ?_))
    refine Rn.callRow (t:=34) (cs:=Qbm (List.map (eI .i64) x9) ((c21 - x9.length) * 1)) (cs':=Qbm (List.map (eI .i64) row10) ((c21 - x9.length) * 1)) trivial rfl rfl (fun M2 hM2=>hr14 hc23 _ _ _ _ hM2) rfl ?_
    refine nt ((Tr.rgn (Rn.fldP (o':=0) trivial rfl rfl (Rn.load (v:=.sl 1 (Γ.n0 + 34) 0 x9.length c21) trivial rfl (Qm rfl) rfl rfl ?_))))
    refine Rn.callRow (t:=34) (cs:=Qbm (List.map (eI .i64) row10) ((c21 - x9.length) * 1)) (cs':=Qbm (List.map (eI .i64) row16) ((c21 - row16.length) * 1)) trivial rfl rfl (fun M2 hM2=>Qbkx hr20 hl12 hc22 hM2) rfl ?_
    refine Rn.fldP (o':=0) trivial rfl rfl (Rn.storeV (v:=.sl 1 (Γ.n0 + 34) 0 row16.length c21) (cs':=[.sl 1 (Γ.n0 + 34) 0 row16.length c21,(i_ a1.States),.f (.lst 1 (List.map (eI .i64) a1.Marked)),.own 3 (List.map Qc x7)]) trivial rfl rfl rfl rfl rfl rfl rfl rfl ?_)
    refine Rn.weak (by show WeakSt Γ _ ⟨look [(2,.ptr (Γ.n0 + 2) 0),(4,.ptr (Γ.n0 + 4) 0),(7,.ptr (Γ.n0 + 7) 0),(32,.ptr (Γ.n0 + 7) 0),(34,.tup []),(35,.ptr (Γ.n0 + 7) 0),(37,.f (.lst 1 (List.map (eI .i64) row16))),(38,.ptr (Γ.n0 + 7) 0)],Qo Γ.n0 (bxs [(2,.cells ([.f (.lst 1 (List.map (eI .i64) a1.Alphabet)),(i_ a1.States),.f (.lst 1 (List.map (eI .i64) a1.Marked)),.f (.lst 3 (List.map Qc a1.Edges))])),(4,.cells ([.nils 1,(i_ 0),.nils 1,.nils 3])),(7,.cells ([.f (.lst 1 (List.map (eI .i64) row16)),(i_ a1.States),.f (.lst 1 (List.map (eI .i64) a1.Marked)),.own 3 (List.map Qc x7)]))]) M,Γ.n0 + 74⟩; exact Qqg 34 _ rfl Qbma ⟨(fPtr rfl),(fPtr rfl),(fPtr rfl),(fPtr rfl),(.same rfl),(fPtr rfl),(Qbkw (fun _=>rfl) (fun _=>rfl) rfl (Nat.le_trans (Nat.le_trans hl18 (Nat.le_of_eq hl12)) hc22)),(fPtr rfl),trivial⟩ ⟨⟨_,rfl,rfl,(.cons (.same rfl) (.cons (.same rfl) (.cons (.same rfl) (.cons (.same rfl) .nil))))⟩,⟨_,rfl,rfl,(.cons (.same rfl) (.cons (.same rfl) (.cons (.same rfl) (.cons (.same rfl) .nil))))⟩,⟨_,rfl,rfl,(.cons (Qbkw (fun _=>rfl) (fun _=>rfl) rfl (Nat.le_trans (Nat.le_trans hl18 (Nat.le_of_eq hl12)) hc22)) (.cons (.same rfl) (.cons (.same rfl) (.cons (.same rfl) .nil))))⟩,trivial⟩ rfl) ?_
    refine Rn.nil ⟨rfl,(by exact Qi [] ⟨(kPtr rfl),(kPtr rfl),(kPtr rfl),trivial⟩ ⟨⟨_,rfl,rfl,(.same rfl)⟩,⟨_,rfl,rfl,(.same rfl)⟩,⟨_,rfl,rfl,(.same rfl)⟩,trivial⟩ rfl)⟩
  ·refine Tr.cutB (fun (r41 : List Qe)=>⟨look [(4,.ptr (Γ.n0 + 4) 0),(7,.ptr (Γ.n0 + 7) 0)],Qo Γ.n0 (bxs [(2,.cells ([.f (.lst 1 (List.map (eI .i64) a1.Alphabet)),(i_ a1.States),.f (.lst 1 (List.map (eI .i64) a1.Marked)),.f (.lst 3 (List.map Qc a1.Edges))])),(4,.cells ([.nils 1,(i_ 0),.nils 1,.nils 3])),(7,.cells ([.f (.lst 1 (List.map (eI .i64) row16)),(i_ a1.States),.f (.lst 1 (List.map (eI .i64) a1.Marked)),.own 3 (List.map Qc r41)]))]) M,Γ.n0 + 74⟩) h (fun z h=>?_) (fun z h=>?_)
   ·refine sr ((Rn.fldP (o':=1) trivial rfl rfl (Rn.load (v:=(i_ a1.States)) trivial rfl (Qm rfl) rfl rfl (md rfl (nt ((Tr.block ?_)))))))
    refine Tr.loop (mk:=fun ((x24,r25) : Int × (List Qe))=>⟨look [(2,.ptr (Γ.n0 + 2) 0),(4,.ptr (Γ.n0 + 4) 0),(7,.ptr (Γ.n0 + 7) 0),(40,(i_ a1.States)),(41,(i_ x24))],Qo Γ.n0 (bxs [(2,.cells ([.f (.lst 1 (List.map (eI .i64) a1.Alphabet)),(i_ a1.States),.f (.lst 1 (List.map (eI .i64) a1.Marked)),.f (.lst 3 (List.map Qc a1.Edges))])),(4,.cells ([.nils 1,(i_ 0),.nils 1,.nils 3])),(7,.cells ([.f (.lst 1 (List.map (eI .i64) row16)),(i_ a1.States),.f (.lst 1 (List.map (eI .i64) a1.Marked)),.own 3 (List.map Qc r25)]))]) M,Γ.n0 + 74⟩) h (by exact Qj ⟨(kPtr rfl),(kPtr rfl),(kPtr rfl),(sm rfl),(sm rfl),trivial⟩ ⟨⟨_,rfl,rfl,(.same rfl)⟩,⟨_,rfl,rfl,(.same rfl)⟩,⟨_,rfl,rfl,(.same rfl)⟩,trivial⟩ rfl) (fun k26 z h=>?_)
    ·obtain ⟨x24,r25⟩:=z
     replace h : _ = some _:=h
     refine sr ((Rn.bin trivial rfl rfl rfl (nt ((Tr.seq ?_)))))
     refine Tr.cond rfl (fun hb27=>?_) (fun hb27=>?_)
     ·replace h:=ifT hb27 h
      refine Tr.skip (toN ?_)
      refine Tr.cutB (fun (r40 : List Qe)=>⟨look [(2,.ptr (Γ.n0 + 2) 0),(4,.ptr (Γ.n0 + 4) 0),(7,.ptr (Γ.n0 + 7) 0),(40,(i_ a1.States)),(41,(i_ x24))],Qo Γ.n0 (bxs [(2,.cells ([.f (.lst 1 (List.map (eI .i64) a1.Alphabet)),(i_ a1.States),.f (.lst 1 (List.map (eI .i64) a1.Marked)),.f (.lst 3 (List.map Qc a1.Edges))])),(4,.cells ([.nils 1,(i_ 0),.nils 1,.nils 3])),(7,.cells ([.f (.lst 1 (List.map (eI .i64) row16)),(i_ a1.States),.f (.lst 1 (List.map (eI .i64) a1.Marked)),.own 3 (List.map Qc r40)]))]) M,Γ.n0 + 74⟩) h (fun z h=>?_) (fun z h=>?_)
      ·refine Tr.block (sr ((md rfl (md rfl (nt ((sr ((Rn.fldP (o':=0) trivial rfl rfl (Rn.load (v:=.f (.lst 1 (List.map (eI .i64) row16))) trivial rfl (Qm rfl) rfl rfl ?_))))))))))
       refine Rn.weak (by show WeakSt Γ _ ⟨look [(2,.ptr (Γ.n0 + 2) 0),(4,.ptr (Γ.n0 + 4) 0),(7,.ptr (Γ.n0 + 7) 0),(8,(i_ x24)),(40,(i_ a1.States)),(41,(i_ x24)),(42,(b_ (decide (x24 < a1.States)))),(43,(i_ x24)),(44,.ptr (Γ.n0 + 7) 0),(45,(l_ row16))],Qo Γ.n0 (bxs [(2,.cells ([.f (.lst 1 (List.map (eI .i64) a1.Alphabet)),(i_ a1.States),.f (.lst 1 (List.map (eI .i64) a1.Marked)),.f (.lst 3 (List.map Qc a1.Edges))])),(4,.cells ([.nils 1,(i_ 0),.nils 1,.nils 3])),(7,.cells ([.f (.lst 1 (List.map (eI .i64) row16)),(i_ a1.States),.f (.lst 1 (List.map (eI .i64) a1.Marked)),.own 3 (List.map Qc r25)]))]) M,Γ.n0 + 74⟩; exact Qi [] ⟨(kPtr rfl),(kPtr rfl),(kPtr rfl),(sm rfl),(sm rfl),(sm rfl),(sm rfl),(sm rfl),(kPtr rfl),fToD,trivial⟩ ⟨⟨_,rfl,rfl,(.same rfl)⟩,⟨_,rfl,rfl,(.same rfl)⟩,⟨_,rfl,rfl,(.same rfl)⟩,trivial⟩ rfl) ?_
       refine Rn.lenD trivial rfl (md rfl (nt ((Tr.block ?_))))
       refine Tr.loop (mk:=fun ((x28,r29) : Int × (List Qe))=>⟨look [(2,.ptr (Γ.n0 + 2) 0),(4,.ptr (Γ.n0 + 4) 0),(7,.ptr (Γ.n0 + 7) 0),(8,(i_ x24)),(40,(i_ a1.States)),(41,(i_ x24)),(45,(l_ row16)),(46,(i_ (row16.length : Int))),(47,(i_ x28))],Qo Γ.n0 (bxs [(2,.cells ([.f (.lst 1 (List.map (eI .i64) a1.Alphabet)),(i_ a1.States),.f (.lst 1 (List.map (eI .i64) a1.Marked)),.f (.lst 3 (List.map Qc a1.Edges))])),(4,.cells ([.nils 1,(i_ 0),.nils 1,.nils 3])),(7,.cells ([.f (.lst 1 (List.map (eI .i64) row16)),(i_ a1.States),.f (.lst 1 (List.map (eI .i64) a1.Marked)),.own 3 (List.map Qc r29)]))]) M,Γ.n0 + 74⟩) h (by exact Qj ⟨(kPtr rfl),(kPtr rfl),(kPtr rfl),(sm rfl),(sm rfl),(sm rfl),(sm rfl),(sm rfl),(sm rfl),trivial⟩ ⟨⟨_,rfl,rfl,(.same rfl)⟩,⟨_,rfl,rfl,(.same rfl)⟩,⟨_,rfl,rfl,(.same rfl)⟩,trivial⟩ rfl) (fun k30 z h=>?_)
       ·obtain ⟨x28,r29⟩:=z
        replace h : _ = some _:=h
        refine sr ((Rn.bin trivial rfl rfl rfl (nt ((Tr.seq ?_)))))
        refine Tr.cond rfl (fun hb31=>?_) (fun hb31=>?_)
        ·replace h:=ifT hb31 h
         refine Tr.skip (toN ?_)
         refine Tr.cutB (fun (r39 : List Qe)=>⟨look [(2,.ptr (Γ.n0 + 2) 0),(4,.ptr (Γ.n0 + 4) 0),(7,.ptr (Γ.n0 + 7) 0),(8,(i_ x24)),(40,(i_ a1.States)),(41,(i_ x24)),(45,(l_ row16)),(46,(i_ (row16.length : Int))),(47,(i_ x28))],Qo Γ.n0 (bxs [(2,.cells ([.f (.lst 1 (List.map (eI .i64) a1.Alphabet)),(i_ a1.States),.f (.lst 1 (List.map (eI .i64) a1.Marked)),.f (.lst 3 (List.map Qc a1.Edges))])),(4,.cells ([.nils 1,(i_ 0),.nils 1,.nils 3])),(7,.cells ([.f (.lst 1 (List.map (eI .i64) row16)),(i_ a1.States),.f (.lst 1 (List.map (eI .i64) a1.Marked)),.own 3 (List.map Qc r39)]))]) M,Γ.n0 + 74⟩) h (fun z h=>?_) (fun z h=>?_)
         ·refine Tr.block (Tr.seq (Tr.rgn ?_))
          obtain ⟨x32,h33,h⟩:=bnd h
          refine Rn.idxD (e:=(eI .i64)) trivial rfl rfl h33 (Rn.loadC (x:=.int .i64 x32) trivial rfl (md rfl (nt ((sr ((Rn.fldP (o':=0) trivial rfl rfl (Rn.load (v:=.f (.lst 1 (List.map (eI .i64) a1.Alphabet))) trivial rfl (Qm rfl) rfl rfl (md rfl ?_)))))))))
          obtain ⟨x35,h34,h⟩:=bnd h
          refine Rn.call (args:=[.f (.lst 1 (List.map (eI .i64) a1.Alphabet)),(i_ x32)]) trivial rfl (fun M2 nb2=>ACalls.weak (args':=[(l_ a1.Alphabet),(i_ x32)]) (H_slices_Contains_int _ _ _ h34 M2 nb2) (.cons fToD (.cons (sm rfl) .nil)) rfl) pc9 ?_
          refine Rn.un trivial rfl rfl (Rn.nil (toN ?_))
          refine Tr.cond rfl (fun hb36=>?_) (fun hb36=>?_)
          ·have hb36:=nT' hb36
           replace h:=bF hb36 h
           refine Tr.rgn (Rn.fldP (o':=3) trivial rfl rfl (Rn.loadT (cs':=[.f (.lst 1 (List.map (eI .i64) row16)),(i_ a1.States),.f (.lst 1 (List.map (eI .i64) a1.Marked)),.d (.lst 3 (List.map Qc r29))]) trivial rfl rfl rfl rfl (md rfl (md rfl (md rfl (Rn.build (v:=.agg [(i_ x24),(i_ x32),(i_ x24)]) trivial rfl (Rn.bslice (xs:=[.agg [(i_ x24),(i_ x32),(i_ x24)]]) (cs:=[(i_ x24),(i_ x32),(i_ x24)]) trivial rfl rfl rfl rfl ?_)))))))
           obtain ⟨x37,h38,h⟩:=bnd h
           refine Rn.app (e:=Qc) trivial rfl rfl rfl (Qcc rfl rfl rfl) h38 rfl (Rn.fldP (o':=3) trivial rfl rfl (Rn.storeO (cs':=[.f (.lst 1 (List.map (eI .i64) row16)),(i_ a1.States),.f (.lst 1 (List.map (eI .i64) a1.Marked)),.own 3 (List.map Qc x37)]) trivial rfl rfl rfl rfl rfl (Rn.nil ?_)))
           replace h:=si h; subst h
           exact Qi [62] ⟨(kPtr rfl),(kPtr rfl),(kPtr rfl),(sm rfl),(sm rfl),(sm rfl),(sm rfl),(sm rfl),(sm rfl),trivial⟩ ⟨⟨_,rfl,rfl,(.same rfl)⟩,⟨_,rfl,rfl,(.same rfl)⟩,⟨_,rfl,rfl,(.same rfl)⟩,trivial⟩ rfl
          ·have hb36:=nF' hb36
           replace h:=bT hb36 h
           refine Tr.skip ?_
           replace h:=si h; subst h
           exact Qi [] ⟨(kPtr rfl),(kPtr rfl),(kPtr rfl),(sm rfl),(sm rfl),(sm rfl),(sm rfl),(sm rfl),(sm rfl),trivial⟩ ⟨⟨_,rfl,rfl,(.same rfl)⟩,⟨_,rfl,rfl,(.same rfl)⟩,⟨_,rfl,rfl,(.same rfl)⟩,trivial⟩ rfl
         ·obtain ⟨r39,rfl⟩ : ∃ x,x = z:=⟨_,rfl⟩
          refine Tr.rgn (Rn.bin trivial rfl rfl rfl (md rfl (Rn.nil ?_)))
          exact ⟨_,h,(by exact Qj ⟨(kPtr rfl),(kPtr rfl),(kPtr rfl),(sm rfl),(sm rfl),(sm rfl),(sm rfl),(sm rfl),(sm rfl),trivial⟩ ⟨⟨_,rfl,rfl,(.same rfl)⟩,⟨_,rfl,rfl,(.same rfl)⟩,⟨_,rfl,rfl,(.same rfl)⟩,trivial⟩ rfl)⟩
        ·replace h:=ifF hb31 h
         refine Tr.exit ?_
         replace h:=si h; subst h
         exact Qi [] ⟨(kPtr rfl),(kPtr rfl),(kPtr rfl),(sm rfl),(sm rfl),trivial⟩ ⟨⟨_,rfl,rfl,(.same rfl)⟩,⟨_,rfl,rfl,(.same rfl)⟩,⟨_,rfl,rfl,(.same rfl)⟩,trivial⟩ rfl
      ·obtain ⟨r40,rfl⟩ : ∃ x,x = z:=⟨_,rfl⟩
       refine Tr.rgn (Rn.bin trivial rfl rfl rfl (md rfl (Rn.nil ?_)))
       exact ⟨_,h,(by exact Qj ⟨(kPtr rfl),(kPtr rfl),(kPtr rfl),(sm rfl),(sm rfl),trivial⟩ ⟨⟨_,rfl,rfl,(.same rfl)⟩,⟨_,rfl,rfl,(.same rfl)⟩,⟨_,rfl,rfl,(.same rfl)⟩,trivial⟩ rfl)⟩
     ·replace h:=ifF hb27 h
      refine Tr.exit ?_
      replace h:=si h; subst h
      exact Qi [] ⟨(kPtr rfl),(kPtr rfl),trivial⟩ ⟨⟨_,rfl,rfl,(.same rfl)⟩,⟨_,rfl,rfl,(.same rfl)⟩,⟨_,rfl,rfl,(.same rfl)⟩,trivial⟩ rfl
   ·obtain ⟨r41,rfl⟩ : ∃ x,x = z:=⟨_,rfl⟩
    obtain ⟨row42,hs43,h⟩:=bnd h
    obtain ⟨hl44,hn45,hr46⟩:=H_slices_SortFunc_Edge _ _ hs43
    refine Tr.seqW ⟨look [(4,.ptr (Γ.n0 + 4) 0),(7,.ptr (Γ.n0 + 7) 0)],Qo Γ.n0 (bxs [(2,.cells ([.f (.lst 1 (List.map (eI .i64) a1.Alphabet)),(i_ a1.States),.f (.lst 1 (List.map (eI .i64) a1.Marked)),.f (.lst 3 (List.map Qc a1.Edges))])),(4,.cells ([.nils 1,(i_ 0),.nils 1,.nils 3])),(7,.cells ([.f (.lst 1 (List.map (eI .i64) row16)),(i_ a1.States),.f (.lst 1 (List.map (eI .i64) a1.Marked)),.f (.lst 3 (List.map Qc row42))]))]) M,Γ.n0 + 74⟩ ?_ ?_
    ·by_cases hx47 : r41 = []
     ·obtain ⟨hyx,hn45b⟩:=hn45 hx47
      replace hyx:=hyx.symm
      subst hyx
      replace hn45:=And.intro trivial hn45b
      refine Tr.rgn (Rn.fldP (o':=3) trivial rfl rfl (Rn.load (v:=.d (.lst 3 (List.map Qc r41))) trivial rfl (Qm rfl) rfl rfl (Rn.call (args:=[.d (.lst 3 (List.map Qc r41)),.clo 70 []]) trivial rfl (hn45.2) pc9 ?_)))
      refine Rn.nil ⟨rfl,(by exact Qi [] ⟨(kPtr rfl),(kPtr rfl),trivial⟩ ⟨⟨_,rfl,rfl,(.same rfl)⟩,⟨_,rfl,rfl,(.same rfl)⟩,⟨_,rfl,rfl,(.cons (sm rfl) (.cons (sm rfl) (.cons (sm rfl) (.cons (Qbnk hx47) .nil))))⟩,trivial⟩ rfl)⟩
     ·refine Tr.weak (by show WeakSt Γ _ ⟨look [(4,.ptr (Γ.n0 + 4) 0),(7,.ptr (Γ.n0 + 7) 0)],Qo Γ.n0 (bxs [(2,.cells ([.f (.lst 1 (List.map (eI .i64) a1.Alphabet)),(i_ a1.States),.f (.lst 1 (List.map (eI .i64) a1.Marked)),.f (.lst 3 (List.map Qc a1.Edges))])),(4,.cells ([.nils 1,(i_ 0),.nils 1,.nils 3])),(7,.cells ([.f (.lst 1 (List.map (eI .i64) row16)),(i_ a1.States),.f (.lst 1 (List.map (eI .i64) a1.Marked)),.own 3 (List.map Qc r41)]))]) M,Γ.n0 + 74⟩; exact Qi [] ⟨(kPtr rfl),(kPtr rfl),trivial⟩ ⟨⟨_,rfl,rfl,(.same rfl)⟩,⟨_,rfl,rfl,(.same rfl)⟩,⟨_,rfl,rfl,(.same rfl)⟩,trivial⟩ rfl) ?_
      refine Qbji hG hM0 7 3 69 hx47 (fun _=>rfl) rfl rfl rfl rfl ⟨rfl,rfl,trivial⟩ ⟨⟨rfl,rfl,rfl,rfl,trivial⟩,⟨rfl,rfl,rfl,rfl,trivial⟩,⟨rfl,rfl,rfl,rfl,trivial⟩,trivial⟩ (fun c48 hc49 hc50=>?_)
      refine Tr.rgn (Rn.fldP (o':=3) trivial rfl rfl (Rn.load (v:=.sl 3 (Γ.n0 + 69) 0 r41.length c48) trivial rfl (Qm rfl) rfl rfl ?_))
      refine Rn.callRow (t:=69) (cs:=Qbm (List.map Qc r41) ((c48 - r41.length) * 3)) (cs':=Qbm (List.map Qc row42) ((c48 - r41.length) * 3)) trivial rfl rfl (fun M2 hM2=>hr46 hc50 _ _ _ _ hM2) rfl ?_
      refine Rn.weak (by show WeakSt Γ _ ⟨look [(4,.ptr (Γ.n0 + 4) 0),(7,.ptr (Γ.n0 + 7) 0),(67,.ptr (Γ.n0 + 7) 3),(68,.f (.lst 3 (List.map Qc row42))),(69,.tup [])],Qo Γ.n0 (bxs [(2,.cells ([.f (.lst 1 (List.map (eI .i64) a1.Alphabet)),(i_ a1.States),.f (.lst 1 (List.map (eI .i64) a1.Marked)),.f (.lst 3 (List.map Qc a1.Edges))])),(4,.cells ([.nils 1,(i_ 0),.nils 1,.nils 3])),(7,.cells ([.f (.lst 1 (List.map (eI .i64) row16)),(i_ a1.States),.f (.lst 1 (List.map (eI .i64) a1.Marked)),.f (.lst 3 (List.map Qc row42))]))]) M,Γ.n0 + 74⟩; exact Qqg 69 _ rfl Qbma ⟨(fPtr rfl),(fPtr rfl),(fPtr rfl),(Qbkw (fun _=>rfl) (fun _=>rfl) hl44 hc49),(.same rfl),trivial⟩ ⟨⟨_,rfl,rfl,(.cons (.same rfl) (.cons (.same rfl) (.cons (.same rfl) (.cons (.same rfl) .nil))))⟩,⟨_,rfl,rfl,(.cons (.same rfl) (.cons (.same rfl) (.cons (.same rfl) (.cons (.same rfl) .nil))))⟩,⟨_,rfl,rfl,(.cons (.same rfl) (.cons (.same rfl) (.cons (.same rfl) (.cons (Qbkw (fun _=>rfl) (fun _=>rfl) hl44 hc49) .nil))))⟩,trivial⟩ rfl) ?_
      refine Rn.nil ⟨rfl,(by exact Qi [] ⟨(kPtr rfl),(kPtr rfl),trivial⟩ ⟨⟨_,rfl,rfl,(.same rfl)⟩,⟨_,rfl,rfl,(.same rfl)⟩,⟨_,rfl,rfl,(.same rfl)⟩,trivial⟩ rfl)⟩
    ·refine sr ((Rn.load (v:=.agg [.f (.lst 1 (List.map (eI .i64) row16)),(i_ a1.States),.f (.lst 1 (List.map (eI .i64) a1.Marked)),.f (.lst 3 (List.map Qc row42))]) trivial rfl (Qm rfl) rfl rfl ?_))
     obtain ⟨⟨r52,r53⟩,h51,h⟩:=bnd h
     refine Rn.call (args:=[.agg [.f (.lst 1 (List.map (eI .i64) row16)),(i_ a1.States),.f (.lst 1 (List.map (eI .i64) a1.Marked)),.f (.lst 3 (List.map Qc row42))]]) trivial rfl (fun M2 nb2=>ACalls.weak (args':=[.agg [(l_ row16),(i_ a1.States),(l_ a1.Marked),.d (.lst 3 (List.map Qc row42))]]) (H_automaton_Canonical _ _ h51 M2 nb2) (.cons (WkV.agg (.cons fToD (.cons (sm rfl) (.cons fToD (.cons fToD .nil))))) .nil) rfl) pc9 ?_
     refine Rn.ext (v:=(Qa r52)) (vs:=[(Qa r52),(i_ r53)]) trivial rfl rfl rfl (Rn.ext (v:=(i_ r53)) (vs:=[(Qa r52),(i_ r53)]) trivial rfl rfl rfl (Rn.storeT (v:=(Qa r52)) (ds:=(Qd r52)) (cs':=(Qd r52)) trivial rfl rfl rfl rfl rfl rfl rfl (md rfl (nt ((Tr.ret ?_))))))
     replace h:=si h; subst h
     exact ⟨.inr rfl,.tup [(Qa r52),(i_ r53)],res2 (Qib rfl rfl rfl rfl) rfl,(WkV.tup (.cons (.same rfl) (.cons (.same rfl) .nil))).rd,⟨⟨trivial,trivial,trivial,trivial,trivial⟩,trivial,trivial⟩,fun k hk=>Qf hk⟩
theorem Qpc {P : Program} {c : Nat} (hcf : Qw P c = some Qf8) (fuel : Nat) : Qcx P c (Qq fuel):=by
 intro a1 b2 r h
 refine Qce hcf rfl fun Γ M hP hnt hM=>?_
 subst hP
 refine Tr.init [(0,(l_ a1)),(1,(l_ b2))] rfl ?_
 unfold Qq at h
 unfold Qf8
 refine sr ((md rfl (nt ((Tr.seq (sr ((md rfl (Rn.lenD trivial rfl (md rfl (Rn.lenD trivial rfl (Rn.bin trivial rfl rfl rfl (Rn.nil (toN ?_))))))))))))))
 refine Tr.cond rfl (fun hb3=>?_) (fun hb3=>?_)
 ·replace h:=bT hb3 h
  refine sr ((md rfl (nt ((Tr.ret ?_)))))
  replace h:=si h; subst h
  exact ⟨.inr rfl,(b_ false),rfl,fun _ _ _ _ h=>h,trivial,fun k hk=>Qf hk⟩
 ·replace h:=bF hb3 h
  refine Tr.skip (toN (Tr.seq (sr ((md rfl (nt ((Tr.block ?_))))))))
  refine Tr.loop (mk:=fun (i4 : Int)=>⟨look [(0,(l_ a1)),(1,(l_ b2)),(5,(i_ i4))],Qo Γ.n0 (bxs []) M,Γ.n0 + 26⟩) h (by exact Qj ⟨(sm rfl),(sm rfl),(sm rfl),trivial⟩ trivial rfl) (fun k5 z h=>?_)
  ·obtain ⟨i4,rfl⟩ : ∃ x,x = z:=⟨_,rfl⟩
   replace h : _ = some _:=h
   refine Tr.seq (sr ((md rfl (md rfl (Rn.lenD trivial rfl (Rn.bin trivial rfl rfl rfl (Rn.nil (toN ?_))))))))
   refine Tr.cond rfl (fun hb6=>?_) (fun hb6=>?_)
   ·replace h:=ifT hb6 h
    refine Tr.skip (toN (Tr.seq (Tr.block (Tr.seq ?_))))
    refine Tr.rgnD (by decide) ?_
    refine md rfl (md rfl ?_)
    obtain ⟨x7,h8,h⟩:=bnd h
    refine Rn.idxD (e:=(eI .i64)) trivial rfl rfl h8 (Rn.loadC (x:=.int .i64 x7) trivial rfl (md rfl (md rfl ?_)))
    obtain ⟨x9,h10,h⟩:=bnd h
    refine Rn.idxD (e:=(eI .i64)) trivial rfl rfl h10 (Rn.loadC (x:=.int .i64 x9) trivial rfl (Rn.bin trivial rfl rfl rfl ?_))
    refine Rn.nil ⟨rfl,?_⟩
    refine toN ?_
    refine Tr.cond rfl (fun hb11=>?_) (fun hb11=>?_)
    ·replace h:=bT hb11 h
     refine sr ((md rfl (nt ((Tr.ret ?_)))))
     replace h:=si h; subst h
     exact ⟨.inr rfl,(b_ false),rfl,fun _ _ _ _ h=>h,trivial,fun k hk=>Qf hk⟩
    ·replace h:=bF hb11 h
     refine Tr.skip (toN (Tr.rgn (md rfl (Rn.bin trivial rfl rfl rfl (md rfl (Rn.nil ?_))))))
     exact ⟨_,h,(by exact Qj ⟨(sm rfl),(sm rfl),(sm rfl),trivial⟩ trivial rfl)⟩
   ·replace h:=ifF hb6 h
    refine Tr.exit (toN (sr ((md rfl (nt ((Tr.ret ?_)))))))
    replace h:=si h; subst h
    exact ⟨.inr rfl,(b_ true),rfl,fun _ _ _ _ h=>h,trivial,fun k hk=>Qf hk⟩
theorem Qxh {P : Program} {c : Nat} {Qq : (List Int) → (List Int) → Option Bool}
    (H_overseerref03_SameInts : Qcx P 19 Qq) (hcf : Qw P c = some Qik) (fuel : Nat) : Qij P c (Qcp Qq fuel):=by
 intro a1 b2 r h
 refine Qce hcf rfl fun Γ M hP hnt hM=>?_
 subst hP
 refine Tr.init [(0,(Qa a1)),(1,(Qa b2))] rfl ?_
 unfold Qcp at h
 unfold Qik
 refine sr ((Rn.box (v:=(Qa a1)) (cs:=(Qd a1)) trivial rfl rfl rfl rfl rfl (Rn.box (v:=(Qa b2)) (cs:=(Qd b2)) trivial rfl rfl rfl rfl rfl (md rfl (nt ((Tr.seq ?_)))))))
 refine Tr.cutB (fun (x10 : Bool)=>⟨look [(2,.ptr (Γ.n0 + 2) 0),(3,.ptr (Γ.n0 + 3) 0),(35,(b_ x10))],Qo Γ.n0 (bxs [(2,.cells ((Qd a1))),(3,.cells ((Qd b2)))]) M,Γ.n0 + 54⟩) h (fun z h=>?_) (fun z h=>?_)
 ·refine Tr.rgn (Rn.fldP (o':=0) trivial rfl rfl (Rn.load (v:=(l_ a1.Alphabet)) trivial rfl (Qm rfl) rfl rfl (Rn.fldP (o':=0) trivial rfl rfl (Rn.load (v:=(l_ b2.Alphabet)) trivial rfl (Qm rfl) rfl rfl ?_))))
  obtain ⟨x4,h3,h⟩:=bnd h
  refine Rn.call (args:=[(l_ a1.Alphabet),(l_ b2.Alphabet)]) trivial rfl (H_overseerref03_SameInts _ _ _ h3) pc9 (Rn.un trivial rfl rfl (md rfl ?_))
  refine Qdo x4 (fun hb5=>?_) (fun hb5=>?_)
  ·replace h:=bT hb5 h
   refine Rn.fldP (o':=1) (gw rfl (nT hb5)) rfl rfl (Rn.load (v:=(i_ a1.States)) (gw rfl (nT hb5)) rfl (Qm rfl) rfl rfl (Rn.fldP (o':=1) (gw rfl (nT hb5)) rfl rfl (Rn.load (v:=(i_ b2.States)) (gw rfl (nT hb5)) rfl (Qm rfl) rfl rfl (Rn.bin (gw rfl (nT hb5)) rfl rfl rfl (Rn.pickF (v:=(b_ (a1.States != b2.States))) trivial rfl (nT hb5) rfl (md rfl ?_))))))
   refine Qdo (a1.States != b2.States) (fun hb6=>?_) (fun hb6=>?_)
   ·replace h:=bT hb6 h
    refine Rn.sk (nw rfl hb6) (Rn.sk (nw rfl hb6) (Rn.sk (nw rfl hb6) (Rn.sk (nw rfl hb6) (Rn.sk (nw rfl hb6) (Rn.sk (nw rfl hb6) (Rn.pickT (v:=(b_ true)) trivial rfl hb6 rfl (md rfl (Rn.sk (nw (b:=true) rfl rfl) (Rn.sk (nw (b:=true) rfl rfl) (Rn.sk (nw (b:=true) rfl rfl) (Rn.sk (nw (b:=true) rfl rfl) (Rn.sk (nw (b:=true) rfl rfl) (Rn.sk (nw (b:=true) rfl rfl) (Rn.sk (nw (b:=true) rfl rfl) (Rn.pickT (v:=(b_ true)) trivial rfl rfl rfl (Rn.nil ?_))))))))))))))))
    replace h:=si h; subst h
    exact Qi [] ⟨(kPtr rfl),(kPtr rfl),(sm rfl),trivial⟩ ⟨⟨_,rfl,rfl,(.same rfl)⟩,⟨_,rfl,rfl,(.same rfl)⟩,trivial⟩ rfl
   ·replace h:=bF hb6 h
    refine Rn.fldP (o':=2) (gw rfl hb6) rfl rfl (Rn.load (v:=(l_ a1.Marked)) (gw rfl hb6) rfl (Qm rfl) rfl rfl (Rn.fldP (o':=2) (gw rfl hb6) rfl rfl (Rn.load (v:=(l_ b2.Marked)) (gw rfl hb6) rfl (Qm rfl) rfl rfl ?_)))
    obtain ⟨x8,h7,h⟩:=bnd h
    refine Rn.call (args:=[(l_ a1.Marked),(l_ b2.Marked)]) (gw rfl hb6) rfl (H_overseerref03_SameInts _ _ _ h7) pc9 (Rn.un (gw rfl hb6) rfl rfl (Rn.pickF (v:=(b_ (!x8))) trivial rfl hb6 rfl (md rfl ?_)))
    refine Qdo x8 (fun hb9=>?_) (fun hb9=>?_)
    ·replace h:=bT hb9 h
     refine Rn.fldP (o':=3) (gw rfl (nT hb9)) rfl rfl (Rn.load (v:=.d (.lst 3 (List.map Qc a1.Edges))) (gw rfl (nT hb9)) rfl (Qm rfl) rfl rfl (Rn.lenD (gw rfl (nT hb9)) rfl (Rn.fldP (o':=3) (gw rfl (nT hb9)) rfl rfl (Rn.load (v:=.d (.lst 3 (List.map Qc b2.Edges))) (gw rfl (nT hb9)) rfl (Qm rfl) rfl rfl (Rn.lenD (gw rfl (nT hb9)) rfl (Rn.bin (gw rfl (nT hb9)) rfl rfl rfl (Rn.pickF (v:=(b_ ((a1.Edges.length : Int) != (b2.Edges.length : Int)))) trivial rfl (nT hb9) rfl (Rn.nil ?_))))))))
     replace h:=si h; subst h
     exact Qi [] ⟨(kPtr rfl),(kPtr rfl),(sm rfl),trivial⟩ ⟨⟨_,rfl,rfl,(.same rfl)⟩,⟨_,rfl,rfl,(.same rfl)⟩,trivial⟩ rfl
    ·replace h:=bF hb9 h
     refine Rn.sk (nw rfl (nF hb9)) (Rn.sk (nw rfl (nF hb9)) (Rn.sk (nw rfl (nF hb9)) (Rn.sk (nw rfl (nF hb9)) (Rn.sk (nw rfl (nF hb9)) (Rn.sk (nw rfl (nF hb9)) (Rn.sk (nw rfl (nF hb9)) (Rn.pickT (v:=(b_ true)) trivial rfl (nF hb9) rfl (Rn.nil ?_))))))))
     replace h:=si h; subst h
     exact Qi [] ⟨(kPtr rfl),(kPtr rfl),(sm rfl),trivial⟩ ⟨⟨_,rfl,rfl,(.same rfl)⟩,⟨_,rfl,rfl,(.same rfl)⟩,trivial⟩ rfl
  ·replace h:=bF hb5 h
   refine Rn.sk (nw rfl (nF hb5)) (Rn.sk (nw rfl (nF hb5)) (Rn.sk (nw rfl (nF hb5)) (Rn.sk (nw rfl (nF hb5)) (Rn.sk (nw rfl (nF hb5)) (Rn.pickT (v:=(b_ true)) trivial rfl (nF hb5) rfl (md rfl (Rn.sk (nw (b:=true) rfl rfl) (Rn.sk (nw (b:=true) rfl rfl) (Rn.sk (nw (b:=true) rfl rfl) (Rn.sk (nw (b:=true) rfl rfl) (Rn.sk (nw (b:=true) rfl rfl) (Rn.sk (nw (b:=true) rfl rfl) (Rn.pickT (v:=(b_ true)) trivial rfl rfl rfl (md rfl (Rn.sk (nw (b:=true) rfl rfl) (Rn.sk (nw (b:=true) rfl rfl) (Rn.sk (nw (b:=true) rfl rfl) (Rn.sk (nw (b:=true) rfl rfl) (Rn.sk (nw (b:=true) rfl rfl) (Rn.sk (nw (b:=true) rfl rfl) (Rn.sk (nw (b:=true) rfl rfl) (Rn.pickT (v:=(b_ true)) trivial rfl rfl rfl (Rn.nil ?_)))))))))))))))))))))))
   replace h:=si h; subst h
   exact Qi [] ⟨(kPtr rfl),(kPtr rfl),(sm rfl),trivial⟩ ⟨⟨_,rfl,rfl,(.same rfl)⟩,⟨_,rfl,rfl,(.same rfl)⟩,trivial⟩ rfl
 ·obtain ⟨x10,rfl⟩ : ∃ x,x = z:=⟨_,rfl⟩
  refine Tr.cond rfl (fun hb11=>?_) (fun hb11=>?_)
  ·replace h:=bT hb11 h
   refine sr ((md rfl (nt ((Tr.ret ?_)))))
   replace h:=si h; subst h
   exact ⟨.inr rfl,(b_ false),rfl,fun _ _ _ _ h=>h,trivial,fun k hk=>Qf hk⟩
  ·replace h:=bF hb11 h
   refine Tr.skip (toN (Tr.seq (sr ((md rfl (nt ((Tr.block ?_))))))))
   refine Tr.loop (mk:=fun (i12 : Int)=>⟨look [(2,.ptr (Γ.n0 + 2) 0),(3,.ptr (Γ.n0 + 3) 0),(5,(i_ i12))],Qo Γ.n0 (bxs [(2,.cells ((Qd a1))),(3,.cells ((Qd b2)))]) M,Γ.n0 + 54⟩) h (by exact Qj ⟨(kPtr rfl),(kPtr rfl),(sm rfl),trivial⟩ ⟨⟨_,rfl,rfl,(.same rfl)⟩,⟨_,rfl,rfl,(.same rfl)⟩,trivial⟩ rfl) (fun k13 z h=>?_)
   ·obtain ⟨i12,rfl⟩ : ∃ x,x = z:=⟨_,rfl⟩
    replace h : _ = some _:=h
    refine Tr.seq (sr ((md rfl (Rn.fldP (o':=3) trivial rfl rfl (Rn.load (v:=.d (.lst 3 (List.map Qc a1.Edges))) trivial rfl (Qm rfl) rfl rfl (Rn.lenD trivial rfl (Rn.bin trivial rfl rfl rfl (Rn.nil (toN ?_)))))))))
    refine Tr.cond rfl (fun hb14=>?_) (fun hb14=>?_)
    ·replace h:=ifT hb14 h
     refine Tr.skip (toN (Tr.seq (Tr.block (Tr.seq ?_))))
     refine Tr.rgnD (by decide) ?_
     refine Rn.fldP (o':=3) trivial rfl rfl (Rn.load (v:=.d (.lst 3 (List.map Qc a1.Edges))) trivial rfl (Qm rfl) rfl rfl (md rfl ?_))
     obtain ⟨x15,h16,h⟩:=bnd h
     refine Rn.idxD (e:=Qc) trivial rfl rfl h16 (Rn.loadCA (vs:=(Qbi x15)) trivial rfl rfl rfl (Rn.fldP (o':=3) trivial rfl rfl (Rn.load (v:=.d (.lst 3 (List.map Qc b2.Edges))) trivial rfl (Qm rfl) rfl rfl (md rfl ?_))))
     obtain ⟨x17,h18,h⟩:=bnd h
     refine Rn.idxD (e:=Qc) trivial rfl rfl h18 (Rn.loadCA (vs:=(Qbi x17)) trivial rfl rfl rfl (Rn.eqa (r:=((x15.From == x17.From) && ((x15.Event == x17.Event) && ((x15.To == x17.To) && true)))) trivial rfl rfl rfl ?_))
     refine Rn.nil ⟨rfl,?_⟩
     refine toN ?_
     refine Tr.cond rfl (fun hb19=>?_) (fun hb19=>?_)
     ·have hb19:=nT' hb19
      replace h:=bF hb19 h
      refine sr ((md rfl (nt ((Tr.ret ?_)))))
      replace h:=si h; subst h
      exact ⟨.inr rfl,(b_ false),rfl,fun _ _ _ _ h=>h,trivial,fun k hk=>Qf hk⟩
     ·have hb19:=nF' hb19
      replace h:=bT hb19 h
      refine Tr.skip (toN (Tr.rgn (md rfl (Rn.bin trivial rfl rfl rfl (md rfl (Rn.nil ?_))))))
      exact ⟨_,h,(by exact Qj ⟨(kPtr rfl),(kPtr rfl),(sm rfl),trivial⟩ ⟨⟨_,rfl,rfl,(.same rfl)⟩,⟨_,rfl,rfl,(.same rfl)⟩,trivial⟩ rfl)⟩
    ·replace h:=ifF hb14 h
     refine Tr.exit (toN (sr ((md rfl (nt ((Tr.ret ?_)))))))
     replace h:=si h; subst h
     exact ⟨.inr rfl,(b_ true),rfl,fun _ _ _ _ h=>h,trivial,fun k hk=>Qf hk⟩
theorem Qnv {P : Program} {c : Nat} {Qq : (List Int) → (List Int) → Option Bool}
    (H_overseerref03_SameInts : Qcx P 19 Qq) (hcf : Qw P c = some Qfr) (fuel : Nat) : Qfq P c (Qbs Qq fuel):=by
 intro a1 b2 r h
 refine Qce hcf rfl fun Γ M hP hnt hM=>?_
 subst hP
 refine Tr.init [(0,.d (.lst 1 (List.map (eL 1 (eI .i64)) a1))),(1,.d (.lst 1 (List.map (eL 1 (eI .i64)) b2)))] rfl ?_
 unfold Qbs at h
 unfold Qfr
 refine sr ((md rfl (nt ((Tr.seq (sr ((md rfl (Rn.lenD trivial rfl (md rfl (Rn.lenD trivial rfl (Rn.bin trivial rfl rfl rfl (Rn.nil (toN ?_))))))))))))))
 refine Tr.cond rfl (fun hb3=>?_) (fun hb3=>?_)
 ·replace h:=bT hb3 h
  refine sr ((md rfl (nt ((Tr.ret ?_)))))
  replace h:=si h; subst h
  exact ⟨.inr rfl,(b_ false),rfl,fun _ _ _ _ h=>h,trivial,fun k hk=>Qf hk⟩
 ·replace h:=bF hb3 h
  refine Tr.skip (toN (Tr.seq (sr ((md rfl (nt ((Tr.block ?_))))))))
  refine Tr.loop (mk:=fun (i4 : Int)=>⟨look [(0,.d (.lst 1 (List.map (eL 1 (eI .i64)) a1))),(1,.d (.lst 1 (List.map (eL 1 (eI .i64)) b2))),(5,(i_ i4))],Qo Γ.n0 (bxs []) M,Γ.n0 + 27⟩) h (by exact Qj ⟨(sm rfl),(sm rfl),(sm rfl),trivial⟩ trivial rfl) (fun k5 z h=>?_)
  ·obtain ⟨i4,rfl⟩ : ∃ x,x = z:=⟨_,rfl⟩
   replace h : _ = some _:=h
   refine Tr.seq (sr ((md rfl (md rfl (Rn.lenD trivial rfl (Rn.bin trivial rfl rfl rfl (Rn.nil (toN ?_))))))))
   refine Tr.cond rfl (fun hb6=>?_) (fun hb6=>?_)
   ·replace h:=ifT hb6 h
    refine Tr.skip (toN (Tr.seq (Tr.block (Tr.seq ?_))))
    refine Tr.rgnD (by decide) ?_
    refine md rfl (md rfl ?_)
    obtain ⟨x7,h8,h⟩:=bnd h
    refine Rn.idxD (e:=(eL 1 (eI .i64))) trivial rfl rfl h8 (Rn.loadC (x:=.lst 1 (List.map (eI .i64) x7)) trivial rfl (md rfl (md rfl ?_)))
    obtain ⟨x9,h10,h⟩:=bnd h
    refine Rn.idxD (e:=(eL 1 (eI .i64))) trivial rfl rfl h10 (Rn.loadC (x:=.lst 1 (List.map (eI .i64) x9)) trivial rfl ?_)
    obtain ⟨x12,h11,h⟩:=bnd h
    refine Rn.call (args:=[(l_ x7),(l_ x9)]) trivial rfl (H_overseerref03_SameInts _ _ _ h11) pc0 (Rn.un trivial rfl rfl ?_)
    refine Rn.nil ⟨rfl,?_⟩
    refine toN ?_
    refine Tr.cond rfl (fun hb13=>?_) (fun hb13=>?_)
    ·have hb13:=nT' hb13
     replace h:=bF hb13 h
     refine sr ((md rfl (nt ((Tr.ret ?_)))))
     replace h:=si h; subst h
     exact ⟨.inr rfl,(b_ false),rfl,fun _ _ _ _ h=>h,trivial,fun k hk=>Qf hk⟩
    ·have hb13:=nF' hb13
     replace h:=bT hb13 h
     refine Tr.skip (toN (Tr.rgn (md rfl (Rn.bin trivial rfl rfl rfl (md rfl (Rn.nil ?_))))))
     exact ⟨_,h,(by exact Qj ⟨(sm rfl),(sm rfl),(sm rfl),trivial⟩ trivial rfl)⟩
   ·replace h:=ifF hb6 h
    refine Tr.exit (toN (sr ((md rfl (nt ((Tr.ret ?_)))))))
    replace h:=si h; subst h
    exact ⟨.inr rfl,(b_ true),rfl,fun _ _ _ _ h=>h,trivial,fun k hk=>Qf hk⟩
theorem Qs9 {P : Program} {c : Nat} {Qcn : Qb → (List Int) → Option (Qb × (List (List Int)) × Int)} {Qcp : Qb → Qb → Option Bool} {Qbs : (List (List Int)) → (List (List Int)) → Option Bool} {Qq : (List Int) → (List Int) → Option Bool} {Qdj : Qb → (List Int) → (List Int) → Bool → Option ((List Int) × Bool × Int)} {Qb0 : Option Qb} {Qco : Qb → (List Int) → Option (Qb × Int)}
    (H_projection_Project : Qif P 12 Qcn)
    (H_overseerref03_Same : Qij P 14 Qcp)
    (H_overseerlaw03_SameWords : Qfq P 15 Qbs)
    (H_overseerref03_SameInts : Qcx P 19 Qq)
    (H_projection_Lift : Qkx P 31 Qdj)
    (H_overseerlaw07_example : Qgg P 34 Qb0)
    (H_projection_Inverse : Qih P 35 Qco) (hcf : Qw P c = some Qhg) : Qhf P c (Qb2 Qcn Qcp Qbs Qq Qdj Qb0 Qco):=by
 intro  r h
 refine Qce hcf rfl fun Γ M hP hnt hM=>?_
 subst hP
 refine Tr.init [] rfl ?_
 unfold Qb2 at h
 unfold Qhg
 refine sr ((md rfl (nt ((Tr.seq (Tr.rgn ?_))))))
 obtain ⟨x2,h1,h⟩:=bnd h
 refine Rn.call (args:=[]) trivial rfl (H_overseerlaw07_example _ h1) pc9 (Rn.alloc trivial rfl (Rn.storeT (v:=(Qa x2)) (ds:=(Qd x2)) (cs':=(Qd x2)) trivial rfl rfl rfl rfl rfl rfl rfl (nt ((sr ((Rn.load (v:=(Qa x2)) trivial rfl (Qm rfl) rfl rfl (Rn.bslice (xs:=[(i_ 1)]) (cs:=[(i_ 1)]) trivial rfl rfl rfl rfl ?_))))))))
 refine Rn.weak (by show WeakSt Γ _ ⟨look [(0,(b_ false)),(1,.ptr (Γ.n0 + 1) 0),(10,(Qa x2)),(12,(Qa x2)),(13,(l_ [1]))],Qo Γ.n0 (bxs [(1,.cells ((Qd x2)))]) M,Γ.n0 + 74⟩; exact Qck 13 [.int .i64 1] rfl rfl ⟨(.same rfl),(fPtr rfl),(.same rfl),(.same rfl),(fSl rfl rfl),trivial⟩ ⟨⟨_,rfl,rfl,(.same rfl)⟩,trivial⟩ rfl) ?_
 obtain ⟨⟨r4,r5,r6⟩,h3,h⟩:=bnd h
 refine Rn.call (args:=[(Qa x2),(l_ [1])]) trivial rfl (H_projection_Project _ _ _ h3) pc9 (Rn.mov (v:=.tup [(Qa r4),.d (.lst 1 (List.map (eL 1 (eI .i64)) r5)),(i_ r6)]) trivial rfl (Rn.ext (v:=(Qa r4)) (vs:=[(Qa r4),.d (.lst 1 (List.map (eL 1 (eI .i64)) r5)),(i_ r6)]) trivial rfl rfl rfl (Rn.extTD (vs:=[(Qa r4),.d (.lst 1 (List.map (eL 1 (eI .i64)) r5)),(i_ r6)]) trivial rfl rfl rfl (Rn.ext (v:=(i_ r6)) (vs:=[(Qa r4),.d (.lst 1 (List.map (eL 1 (eI .i64)) r5)),(i_ r6)]) trivial rfl rfl rfl (Rn.alloc trivial rfl (Rn.storeT (v:=(Qa r4)) (ds:=(Qd r4)) (cs':=(Qd r4)) trivial rfl rfl rfl rfl rfl rfl rfl (Rn.movTD trivial rfl (md rfl (nt ((sr ((Rn.load (v:=(Qa x2)) trivial rfl (Qm rfl) rfl rfl (Rn.bslice (xs:=[(i_ 1)]) (cs:=[(i_ 1)]) trivial rfl rfl rfl rfl (Rn.bslice (xs:=[(i_ 1)]) (cs:=[(i_ 1)]) trivial rfl rfl rfl rfl ?_)))))))))))))))
 refine Rn.weak (by show WeakSt Γ _ ⟨look [(0,(b_ false)),(1,.ptr (Γ.n0 + 1) 0),(2,.ptr (Γ.n0 + 2) 0),(3,.d (.lst 1 (List.map (eL 1 (eI .i64)) r5))),(4,(i_ r6)),(10,(Qa x2)),(11,.tup [(Qa r4),.d (.lst 1 (List.map (eL 1 (eI .i64)) r5)),(i_ r6)]),(12,(Qa x2)),(13,(l_ [1])),(14,.tup [(Qa r4),.own 1 (List.map (eL 1 (eI .i64)) r5),(i_ r6)]),(15,(Qa r4)),(16,.d (.lst 1 (List.map (eL 1 (eI .i64)) r5))),(17,(i_ r6)),(19,(Qa x2)),(20,(l_ [1])),(21,.sl 1 (Γ.n0 + 21) 0 1 1)],Qo Γ.n0 (bxs [(1,.cells ((Qd x2))),(2,.cells ((Qd r4))),(21,.cells ([(i_ 1)]))]) M,Γ.n0 + 74⟩; exact Qck 20 [.int .i64 1] rfl rfl ⟨(.same rfl),(fPtr rfl),(fPtr rfl),(.same rfl),(.same rfl),(.same rfl),(.same rfl),(.same rfl),(.same rfl),(.same rfl),(.same rfl),(.same rfl),(.same rfl),(.same rfl),(fSl rfl rfl),(fSlO rfl),trivial⟩ ⟨⟨_,rfl,rfl,(.same rfl)⟩,⟨_,rfl,rfl,(.same rfl)⟩,⟨_,rfl,rfl,(.same rfl)⟩,trivial⟩ rfl) ?_
 refine Rn.weak (by show WeakSt Γ _ ⟨look [(0,(b_ false)),(1,.ptr (Γ.n0 + 1) 0),(2,.ptr (Γ.n0 + 2) 0),(3,.d (.lst 1 (List.map (eL 1 (eI .i64)) r5))),(4,(i_ r6)),(10,(Qa x2)),(11,.tup [(Qa r4),.d (.lst 1 (List.map (eL 1 (eI .i64)) r5)),(i_ r6)]),(12,(Qa x2)),(13,(l_ [1])),(14,.tup [(Qa r4),.own 1 (List.map (eL 1 (eI .i64)) r5),(i_ r6)]),(15,(Qa r4)),(16,.d (.lst 1 (List.map (eL 1 (eI .i64)) r5))),(17,(i_ r6)),(19,(Qa x2)),(20,(l_ [1])),(21,(l_ [1]))],Qo Γ.n0 (bxs [(1,.cells ((Qd x2))),(2,.cells ((Qd r4)))]) M,Γ.n0 + 74⟩; exact Qck 21 [.int .i64 1] rfl rfl ⟨(.same rfl),(fPtr rfl),(fPtr rfl),(.same rfl),(.same rfl),(.same rfl),(.same rfl),(.same rfl),(.same rfl),(.same rfl),(.same rfl),(.same rfl),(.same rfl),(.same rfl),(.same rfl),(fSl rfl rfl),trivial⟩ ⟨⟨_,rfl,rfl,(.same rfl)⟩,⟨_,rfl,rfl,(.same rfl)⟩,trivial⟩ rfl) ?_
 obtain ⟨⟨r8,r9,r10⟩,h7,h⟩:=bnd h
 refine Rn.call (args:=[(Qa x2),(l_ [1]),(l_ [1]),(b_ true)]) trivial rfl (H_projection_Lift _ _ _ _ _ h7) pc9 (Rn.mov (v:=.tup [(l_ r8),(b_ r9),(i_ r10)]) trivial rfl (Rn.extTD (vs:=[(l_ r8),(b_ r9),(i_ r10)]) trivial rfl rfl rfl (Rn.ext (v:=(b_ r9)) (vs:=[(l_ r8),(b_ r9),(i_ r10)]) trivial rfl rfl rfl (Rn.ext (v:=(i_ r10)) (vs:=[(l_ r8),(b_ r9),(i_ r10)]) trivial rfl rfl rfl (Rn.movTD trivial rfl (md rfl (md rfl (nt ((sr ((Rn.bslice (xs:=[(i_ 1)]) (cs:=[(i_ 1)]) trivial rfl rfl rfl rfl (Rn.buildT (v:=.agg [.sl 1 (Γ.n0 + 27) 0 1 1,(i_ 1),.nils 1,.nils 3]) trivial rfl (Rn.bslice (xs:=[(i_ 0),(i_ 1)]) (cs:=[(i_ 0),(i_ 1)]) trivial rfl rfl rfl rfl ?_))))))))))))))
 refine Rn.weak (by show WeakSt Γ _ ⟨look [(0,(b_ false)),(1,.ptr (Γ.n0 + 1) 0),(2,.ptr (Γ.n0 + 2) 0),(3,.d (.lst 1 (List.map (eL 1 (eI .i64)) r5))),(4,(i_ r6)),(5,(l_ r8)),(6,(b_ r9)),(7,(i_ r10)),(10,(Qa x2)),(11,.tup [(Qa r4),.d (.lst 1 (List.map (eL 1 (eI .i64)) r5)),(i_ r6)]),(12,(Qa x2)),(13,(l_ [1])),(14,.tup [(Qa r4),.own 1 (List.map (eL 1 (eI .i64)) r5),(i_ r6)]),(15,(Qa r4)),(16,.d (.lst 1 (List.map (eL 1 (eI .i64)) r5))),(17,(i_ r6)),(18,.tup [(l_ r8),(b_ r9),(i_ r10)]),(19,(Qa x2)),(20,(l_ [1])),(21,(l_ [1])),(22,.tup [(l_ r8),(b_ r9),(i_ r10)]),(23,(l_ r8)),(24,(b_ r9)),(25,(i_ r10)),(27,(l_ [1])),(28,.agg [(l_ [1]),(i_ 1),.nils 1,.nils 3]),(29,.sl 1 (Γ.n0 + 29) 0 2 2)],Qo Γ.n0 (bxs [(1,.cells ((Qd x2))),(2,.cells ((Qd r4))),(29,.cells ([(i_ 0),(i_ 1)]))]) M,Γ.n0 + 74⟩; exact Qck 27 [.int .i64 1] rfl rfl ⟨(.same rfl),(fPtr rfl),(fPtr rfl),(.same rfl),(.same rfl),(.same rfl),(.same rfl),(.same rfl),(.same rfl),(.same rfl),(.same rfl),(.same rfl),(.same rfl),(.same rfl),(.same rfl),(.same rfl),(.same rfl),(.same rfl),(.same rfl),(.same rfl),(.same rfl),(.same rfl),(.same rfl),(.same rfl),(fSl rfl rfl),(WkV.agg (.cons (fSl rfl rfl) (.cons (.same rfl) (.cons (.same rfl) (.cons (.same rfl) .nil))))),(fSlO rfl),trivial⟩ ⟨⟨_,rfl,rfl,(.same rfl)⟩,⟨_,rfl,rfl,(.same rfl)⟩,⟨_,rfl,rfl,(.same rfl)⟩,trivial⟩ rfl) ?_
 refine Rn.weak (by show WeakSt Γ _ ⟨look [(0,(b_ false)),(1,.ptr (Γ.n0 + 1) 0),(2,.ptr (Γ.n0 + 2) 0),(3,.d (.lst 1 (List.map (eL 1 (eI .i64)) r5))),(4,(i_ r6)),(5,(l_ r8)),(6,(b_ r9)),(7,(i_ r10)),(10,(Qa x2)),(11,.tup [(Qa r4),.d (.lst 1 (List.map (eL 1 (eI .i64)) r5)),(i_ r6)]),(12,(Qa x2)),(13,(l_ [1])),(14,.tup [(Qa r4),.own 1 (List.map (eL 1 (eI .i64)) r5),(i_ r6)]),(15,(Qa r4)),(16,.d (.lst 1 (List.map (eL 1 (eI .i64)) r5))),(17,(i_ r6)),(18,.tup [(l_ r8),(b_ r9),(i_ r10)]),(19,(Qa x2)),(20,(l_ [1])),(21,(l_ [1])),(22,.tup [(l_ r8),(b_ r9),(i_ r10)]),(23,(l_ r8)),(24,(b_ r9)),(25,(i_ r10)),(27,(l_ [1])),(28,.agg [(l_ [1]),(i_ 1),.nils 1,.nils 3]),(29,(l_ [0,1]))],Qo Γ.n0 (bxs [(1,.cells ((Qd x2))),(2,.cells ((Qd r4)))]) M,Γ.n0 + 74⟩; exact Qck 29 [.int .i64 0,.int .i64 1] rfl rfl ⟨(.same rfl),(fPtr rfl),(fPtr rfl),(.same rfl),(.same rfl),(.same rfl),(.same rfl),(.same rfl),(.same rfl),(.same rfl),(.same rfl),(.same rfl),(.same rfl),(.same rfl),(.same rfl),(.same rfl),(.same rfl),(.same rfl),(.same rfl),(.same rfl),(.same rfl),(.same rfl),(.same rfl),(.same rfl),(.same rfl),(.same rfl),(fSl rfl rfl),trivial⟩ ⟨⟨_,rfl,rfl,(.same rfl)⟩,⟨_,rfl,rfl,(.same rfl)⟩,trivial⟩ rfl) ?_
 obtain ⟨⟨r12,r13⟩,h11,h⟩:=bnd h
 refine Rn.call (args:=[.agg [(l_ [1]),(i_ 1),.nils 1,.nils 3],(l_ [0,1])]) trivial rfl (fun M2 nb2=>ACalls.weak (args':=[.agg [(l_ [1]),(i_ 1),(l_ []),.d (.lst 3 (List.map Qc []))],(l_ [0,1])]) (H_projection_Inverse _ _ _ h11 M2 nb2) (.cons (WkV.agg (.cons (sm rfl) (.cons (sm rfl) (.cons (WkV.nilsD _) (.cons (WkV.nilsD _) .nil))))) (.cons (sm rfl) .nil)) rfl) pc9 ?_
 refine Rn.mov (v:=.tup [(Qa r12),(i_ r13)]) trivial rfl (Rn.ext (v:=(Qa r12)) (vs:=[(Qa r12),(i_ r13)]) trivial rfl rfl rfl (Rn.ext (v:=(i_ r13)) (vs:=[(Qa r12),(i_ r13)]) trivial rfl rfl rfl (Rn.alloc trivial rfl (Rn.storeT (v:=(Qa r12)) (ds:=(Qd r12)) (cs':=(Qd r12)) trivial rfl rfl rfl rfl rfl rfl rfl (md rfl (Rn.nil (toN ?_)))))))
 refine Tr.cutB (fun (x27 : Bool)=>⟨look [(0,(b_ x27))],Qo Γ.n0 (bxs [(1,.cells ((Qd x2))),(2,.cells ((Qd r4))),(8,.cells ((Qd r12)))]) M,Γ.n0 + 74⟩) h (fun z h=>?_) (fun z h=>?_)
 ·refine Tr.rgn (md rfl (Rn.bin trivial rfl rfl rfl (md rfl ?_)))
  refine Qdo (r6 == 0) (fun hb14=>?_) (fun hb14=>?_)
  ·replace h:=bT hb14 h
   refine Rn.load (v:=(Qa r4)) (gw rfl hb14) rfl (Qm rfl) rfl rfl (Rn.bslice (xs:=[(i_ 1)]) (cs:=[(i_ 1)]) (gw rfl hb14) rfl rfl rfl rfl (Rn.bslice (xs:=[(i_ 1)]) (cs:=[(i_ 1)]) (gw rfl hb14) rfl rfl rfl rfl (Rn.build (v:=.agg [(i_ 0),(i_ 1),(i_ 1)]) (gw rfl hb14) rfl (Rn.build (v:=.agg [(i_ 1),(i_ 1),(i_ 1)]) (gw rfl hb14) rfl (Rn.bslice (xs:=[.agg [(i_ 0),(i_ 1),(i_ 1)],.agg [(i_ 1),(i_ 1),(i_ 1)]]) (cs:=[(i_ 0),(i_ 1),(i_ 1),(i_ 1),(i_ 1),(i_ 1)]) (gw rfl hb14) rfl rfl rfl rfl (Rn.buildT (v:=.agg [.sl 1 (Γ.n0 + 37) 0 1 1,(i_ 2),.sl 1 (Γ.n0 + 38) 0 1 1,.sl 3 (Γ.n0 + 41) 0 2 2]) (gw rfl hb14) rfl ?_))))))
   refine Rn.weak (by show WeakSt Γ _ ⟨look [(0,(b_ false)),(1,.ptr (Γ.n0 + 1) 0),(2,.ptr (Γ.n0 + 2) 0),(3,.d (.lst 1 (List.map (eL 1 (eI .i64)) r5))),(4,(i_ r6)),(5,(l_ r8)),(6,(b_ r9)),(7,(i_ r10)),(8,.ptr (Γ.n0 + 8) 0),(9,(i_ r13)),(10,(Qa x2)),(11,.tup [(Qa r4),.d (.lst 1 (List.map (eL 1 (eI .i64)) r5)),(i_ r6)]),(12,(Qa x2)),(13,(l_ [1])),(14,.tup [(Qa r4),.own 1 (List.map (eL 1 (eI .i64)) r5),(i_ r6)]),(15,(Qa r4)),(16,.d (.lst 1 (List.map (eL 1 (eI .i64)) r5))),(17,(i_ r6)),(18,.tup [(l_ r8),(b_ r9),(i_ r10)]),(19,(Qa x2)),(20,(l_ [1])),(21,(l_ [1])),(22,.tup [(l_ r8),(b_ r9),(i_ r10)]),(23,(l_ r8)),(24,(b_ r9)),(25,(i_ r10)),(26,.tup [(Qa r12),(i_ r13)]),(27,(l_ [1])),(28,.agg [(l_ [1]),(i_ 1),.nils 1,.nils 3]),(29,(l_ [0,1])),(30,.tup [(Qa r12),(i_ r13)]),(31,(Qa r12)),(32,(i_ r13)),(33,(i_ r6)),(34,(b_ (r6 == 0))),(35,(b_ (r6 == 0))),(36,(Qa r4)),(37,(l_ [1])),(38,.sl 1 (Γ.n0 + 38) 0 1 1),(39,.agg [(i_ 0),(i_ 1),(i_ 1)]),(40,.agg [(i_ 1),(i_ 1),(i_ 1)]),(41,.sl 3 (Γ.n0 + 41) 0 2 2),(42,.agg [(l_ [1]),(i_ 2),.sl 1 (Γ.n0 + 38) 0 1 1,.sl 3 (Γ.n0 + 41) 0 2 2])],Qo Γ.n0 (bxs [(1,.cells ((Qd x2))),(2,.cells ((Qd r4))),(8,.cells ((Qd r12))),(38,.cells ([(i_ 1)])),(41,.cells ([(i_ 0),(i_ 1),(i_ 1),(i_ 1),(i_ 1),(i_ 1)]))]) M,Γ.n0 + 74⟩; exact Qck 37 [.int .i64 1] rfl rfl ⟨(.same rfl),(fPtr rfl),(fPtr rfl),(.same rfl),(.same rfl),(.same rfl),(.same rfl),(.same rfl),(fPtr rfl),(.same rfl),(.same rfl),(.same rfl),(.same rfl),(.same rfl),(.same rfl),(.same rfl),(.same rfl),(.same rfl),(.same rfl),(.same rfl),(.same rfl),(.same rfl),(.same rfl),(.same rfl),(.same rfl),(.same rfl),(.same rfl),(.same rfl),(.same rfl),(.same rfl),(.same rfl),(.same rfl),(.same rfl),(.same rfl),(.same rfl),(.same rfl),(.same rfl),(fSl rfl rfl),(fSlO rfl),(.same rfl),(.same rfl),(fSlO rfl),(WkV.agg (.cons (fSl rfl rfl) (.cons (.same rfl) (.cons (fSlO rfl) (.cons (fSlO rfl) .nil))))),trivial⟩ ⟨⟨_,rfl,rfl,(.same rfl)⟩,⟨_,rfl,rfl,(.same rfl)⟩,⟨_,rfl,rfl,(.same rfl)⟩,⟨_,rfl,rfl,(.same rfl)⟩,⟨_,rfl,rfl,(.same rfl)⟩,trivial⟩ rfl) ?_
   refine Rn.weak (by show WeakSt Γ _ ⟨look [(0,(b_ false)),(1,.ptr (Γ.n0 + 1) 0),(2,.ptr (Γ.n0 + 2) 0),(3,.d (.lst 1 (List.map (eL 1 (eI .i64)) r5))),(4,(i_ r6)),(5,(l_ r8)),(6,(b_ r9)),(7,(i_ r10)),(8,.ptr (Γ.n0 + 8) 0),(9,(i_ r13)),(10,(Qa x2)),(11,.tup [(Qa r4),.d (.lst 1 (List.map (eL 1 (eI .i64)) r5)),(i_ r6)]),(12,(Qa x2)),(13,(l_ [1])),(14,.tup [(Qa r4),.own 1 (List.map (eL 1 (eI .i64)) r5),(i_ r6)]),(15,(Qa r4)),(16,.d (.lst 1 (List.map (eL 1 (eI .i64)) r5))),(17,(i_ r6)),(18,.tup [(l_ r8),(b_ r9),(i_ r10)]),(19,(Qa x2)),(20,(l_ [1])),(21,(l_ [1])),(22,.tup [(l_ r8),(b_ r9),(i_ r10)]),(23,(l_ r8)),(24,(b_ r9)),(25,(i_ r10)),(26,.tup [(Qa r12),(i_ r13)]),(27,(l_ [1])),(28,.agg [(l_ [1]),(i_ 1),.nils 1,.nils 3]),(29,(l_ [0,1])),(30,.tup [(Qa r12),(i_ r13)]),(31,(Qa r12)),(32,(i_ r13)),(33,(i_ r6)),(34,(b_ (r6 == 0))),(35,(b_ (r6 == 0))),(36,(Qa r4)),(37,(l_ [1])),(38,(l_ [1])),(39,.agg [(i_ 0),(i_ 1),(i_ 1)]),(40,.agg [(i_ 1),(i_ 1),(i_ 1)]),(41,.sl 3 (Γ.n0 + 41) 0 2 2),(42,.agg [(l_ [1]),(i_ 2),(l_ [1]),.sl 3 (Γ.n0 + 41) 0 2 2])],Qo Γ.n0 (bxs [(1,.cells ((Qd x2))),(2,.cells ((Qd r4))),(8,.cells ((Qd r12))),(41,.cells ([(i_ 0),(i_ 1),(i_ 1),(i_ 1),(i_ 1),(i_ 1)]))]) M,Γ.n0 + 74⟩; exact Qck 38 [.int .i64 1] rfl rfl ⟨(.same rfl),(fPtr rfl),(fPtr rfl),(.same rfl),(.same rfl),(.same rfl),(.same rfl),(.same rfl),(fPtr rfl),(.same rfl),(.same rfl),(.same rfl),(.same rfl),(.same rfl),(.same rfl),(.same rfl),(.same rfl),(.same rfl),(.same rfl),(.same rfl),(.same rfl),(.same rfl),(.same rfl),(.same rfl),(.same rfl),(.same rfl),(.same rfl),(.same rfl),(.same rfl),(.same rfl),(.same rfl),(.same rfl),(.same rfl),(.same rfl),(.same rfl),(.same rfl),(.same rfl),(.same rfl),(fSl rfl rfl),(.same rfl),(.same rfl),(fSlO rfl),(WkV.agg (.cons (.same rfl) (.cons (.same rfl) (.cons (fSl rfl rfl) (.cons (fSlO rfl) .nil))))),trivial⟩ ⟨⟨_,rfl,rfl,(.same rfl)⟩,⟨_,rfl,rfl,(.same rfl)⟩,⟨_,rfl,rfl,(.same rfl)⟩,⟨_,rfl,rfl,(.same rfl)⟩,trivial⟩ rfl) ?_
   refine Rn.weak (by show WeakSt Γ _ ⟨look [(0,(b_ false)),(1,.ptr (Γ.n0 + 1) 0),(2,.ptr (Γ.n0 + 2) 0),(3,.d (.lst 1 (List.map (eL 1 (eI .i64)) r5))),(4,(i_ r6)),(5,(l_ r8)),(6,(b_ r9)),(7,(i_ r10)),(8,.ptr (Γ.n0 + 8) 0),(9,(i_ r13)),(10,(Qa x2)),(11,.tup [(Qa r4),.d (.lst 1 (List.map (eL 1 (eI .i64)) r5)),(i_ r6)]),(12,(Qa x2)),(13,(l_ [1])),(14,.tup [(Qa r4),.own 1 (List.map (eL 1 (eI .i64)) r5),(i_ r6)]),(15,(Qa r4)),(16,.d (.lst 1 (List.map (eL 1 (eI .i64)) r5))),(17,(i_ r6)),(18,.tup [(l_ r8),(b_ r9),(i_ r10)]),(19,(Qa x2)),(20,(l_ [1])),(21,(l_ [1])),(22,.tup [(l_ r8),(b_ r9),(i_ r10)]),(23,(l_ r8)),(24,(b_ r9)),(25,(i_ r10)),(26,.tup [(Qa r12),(i_ r13)]),(27,(l_ [1])),(28,.agg [(l_ [1]),(i_ 1),.nils 1,.nils 3]),(29,(l_ [0,1])),(30,.tup [(Qa r12),(i_ r13)]),(31,(Qa r12)),(32,(i_ r13)),(33,(i_ r6)),(34,(b_ (r6 == 0))),(35,(b_ (r6 == 0))),(36,(Qa r4)),(37,(l_ [1])),(38,(l_ [1])),(39,.agg [(i_ 0),(i_ 1),(i_ 1)]),(40,.agg [(i_ 1),(i_ 1),(i_ 1)]),(41,.d (.lst 3 (List.map Qc [(Qe.mk 0 1 1),(Qe.mk 1 1 1)]))),(42,.agg [(l_ [1]),(i_ 2),(l_ [1]),.d (.lst 3 (List.map Qc [(Qe.mk 0 1 1),(Qe.mk 1 1 1)]))])],Qo Γ.n0 (bxs [(1,.cells ((Qd x2))),(2,.cells ((Qd r4))),(8,.cells ((Qd r12)))]) M,Γ.n0 + 74⟩; exact Qck 41 [.int .i64 0,.int .i64 1,.int .i64 1,.int .i64 1,.int .i64 1,.int .i64 1] rfl rfl ⟨(.same rfl),(fPtr rfl),(fPtr rfl),(.same rfl),(.same rfl),(.same rfl),(.same rfl),(.same rfl),(fPtr rfl),(.same rfl),(.same rfl),(.same rfl),(.same rfl),(.same rfl),(.same rfl),(.same rfl),(.same rfl),(.same rfl),(.same rfl),(.same rfl),(.same rfl),(.same rfl),(.same rfl),(.same rfl),(.same rfl),(.same rfl),(.same rfl),(.same rfl),(.same rfl),(.same rfl),(.same rfl),(.same rfl),(.same rfl),(.same rfl),(.same rfl),(.same rfl),(.same rfl),(.same rfl),(.same rfl),(.same rfl),(.same rfl),(fSl rfl rfl),(WkV.agg (.cons (.same rfl) (.cons (.same rfl) (.cons (.same rfl) (.cons (fSl rfl rfl) .nil))))),trivial⟩ ⟨⟨_,rfl,rfl,(.same rfl)⟩,⟨_,rfl,rfl,(.same rfl)⟩,⟨_,rfl,rfl,(.same rfl)⟩,trivial⟩ rfl) ?_
   obtain ⟨x16,h15,h⟩:=bnd h
   refine Rn.call (args:=[(Qa r4),.agg [(l_ [1]),(i_ 2),(l_ [1]),.d (.lst 3 (List.map Qc [(Qe.mk 0 1 1),(Qe.mk 1 1 1)]))]]) (gw rfl hb14) rfl (H_overseerref03_Same _ _ _ h15) pc9 (Rn.pickT (v:=(b_ x16)) trivial rfl hb14 rfl (md rfl ?_))
   refine Qdo x16 (fun hb17=>?_) (fun hb17=>?_)
   ·replace h:=bT hb17 h
    refine Rn.movD (gw rfl hb17) rfl (Rn.bslice (xs:=[(i_ 0),(i_ 1)]) (cs:=[(i_ 0),(i_ 1)]) (gw rfl hb17) rfl rfl rfl rfl (Rn.bslice (xs:=[(i_ 0),(i_ 1),(i_ 2)]) (cs:=[(i_ 0),(i_ 1),(i_ 2)]) (gw rfl hb17) rfl rfl rfl rfl (Rn.bslice (xs:=[.sl 1 (Γ.n0 + 47) 0 2 2,.sl 1 (Γ.n0 + 48) 0 3 3]) (cs:=[.sl 1 (Γ.n0 + 47) 0 2 2,.sl 1 (Γ.n0 + 48) 0 3 3]) (gw rfl hb17) rfl rfl rfl rfl ?_)))
    refine Rn.weak (by show WeakSt Γ _ ⟨look [(0,(b_ false)),(1,.ptr (Γ.n0 + 1) 0),(2,.ptr (Γ.n0 + 2) 0),(3,.d (.lst 1 (List.map (eL 1 (eI .i64)) r5))),(4,(i_ r6)),(5,(l_ r8)),(6,(b_ r9)),(7,(i_ r10)),(8,.ptr (Γ.n0 + 8) 0),(9,(i_ r13)),(10,(Qa x2)),(11,.tup [(Qa r4),.d (.lst 1 (List.map (eL 1 (eI .i64)) r5)),(i_ r6)]),(12,(Qa x2)),(13,(l_ [1])),(14,.tup [(Qa r4),.own 1 (List.map (eL 1 (eI .i64)) r5),(i_ r6)]),(15,(Qa r4)),(16,.d (.lst 1 (List.map (eL 1 (eI .i64)) r5))),(17,(i_ r6)),(18,.tup [(l_ r8),(b_ r9),(i_ r10)]),(19,(Qa x2)),(20,(l_ [1])),(21,(l_ [1])),(22,.tup [(l_ r8),(b_ r9),(i_ r10)]),(23,(l_ r8)),(24,(b_ r9)),(25,(i_ r10)),(26,.tup [(Qa r12),(i_ r13)]),(27,(l_ [1])),(28,.agg [(l_ [1]),(i_ 1),.nils 1,.nils 3]),(29,(l_ [0,1])),(30,.tup [(Qa r12),(i_ r13)]),(31,(Qa r12)),(32,(i_ r13)),(33,(i_ r6)),(34,(b_ (r6 == 0))),(35,(b_ (r6 == 0))),(36,(Qa r4)),(37,(l_ [1])),(38,(l_ [1])),(39,.agg [(i_ 0),(i_ 1),(i_ 1)]),(40,.agg [(i_ 1),(i_ 1),(i_ 1)]),(41,.d (.lst 3 (List.map Qc [(Qe.mk 0 1 1),(Qe.mk 1 1 1)]))),(42,.agg [(l_ [1]),(i_ 2),(l_ [1]),.d (.lst 3 (List.map Qc [(Qe.mk 0 1 1),(Qe.mk 1 1 1)]))]),(43,(b_ x16)),(44,(b_ x16)),(45,(b_ x16)),(46,.d (.lst 1 (List.map (eL 1 (eI .i64)) r5))),(47,(l_ [0,1])),(48,.sl 1 (Γ.n0 + 48) 0 3 3),(49,.sl 1 (Γ.n0 + 49) 0 2 2)],Qo Γ.n0 (bxs [(1,.cells ((Qd x2))),(2,.cells ((Qd r4))),(8,.cells ((Qd r12))),(48,.cells ([(i_ 0),(i_ 1),(i_ 2)])),(49,.cells ([(l_ [0,1]),.sl 1 (Γ.n0 + 48) 0 3 3]))]) M,Γ.n0 + 74⟩; exact Qck 47 [.int .i64 0,.int .i64 1] rfl rfl ⟨(.same rfl),(fPtr rfl),(fPtr rfl),(.same rfl),(.same rfl),(.same rfl),(.same rfl),(.same rfl),(fPtr rfl),(.same rfl),(.same rfl),(.same rfl),(.same rfl),(.same rfl),(.same rfl),(.same rfl),(.same rfl),(.same rfl),(.same rfl),(.same rfl),(.same rfl),(.same rfl),(.same rfl),(.same rfl),(.same rfl),(.same rfl),(.same rfl),(.same rfl),(.same rfl),(.same rfl),(.same rfl),(.same rfl),(.same rfl),(.same rfl),(.same rfl),(.same rfl),(.same rfl),(.same rfl),(.same rfl),(.same rfl),(.same rfl),(.same rfl),(.same rfl),(.same rfl),(.same rfl),(.same rfl),(.same rfl),(fSl rfl rfl),(fSlO rfl),(fSlO rfl),trivial⟩ ⟨⟨_,rfl,rfl,(.same rfl)⟩,⟨_,rfl,rfl,(.same rfl)⟩,⟨_,rfl,rfl,(.same rfl)⟩,⟨_,rfl,rfl,(.same rfl)⟩,⟨_,rfl,rfl,(.cons (fSl rfl rfl) (.cons (fSlO rfl) .nil))⟩,trivial⟩ rfl) ?_
    refine Rn.weak (by show WeakSt Γ _ ⟨look [(0,(b_ false)),(1,.ptr (Γ.n0 + 1) 0),(2,.ptr (Γ.n0 + 2) 0),(3,.d (.lst 1 (List.map (eL 1 (eI .i64)) r5))),(4,(i_ r6)),(5,(l_ r8)),(6,(b_ r9)),(7,(i_ r10)),(8,.ptr (Γ.n0 + 8) 0),(9,(i_ r13)),(10,(Qa x2)),(11,.tup [(Qa r4),.d (.lst 1 (List.map (eL 1 (eI .i64)) r5)),(i_ r6)]),(12,(Qa x2)),(13,(l_ [1])),(14,.tup [(Qa r4),.own 1 (List.map (eL 1 (eI .i64)) r5),(i_ r6)]),(15,(Qa r4)),(16,.d (.lst 1 (List.map (eL 1 (eI .i64)) r5))),(17,(i_ r6)),(18,.tup [(l_ r8),(b_ r9),(i_ r10)]),(19,(Qa x2)),(20,(l_ [1])),(21,(l_ [1])),(22,.tup [(l_ r8),(b_ r9),(i_ r10)]),(23,(l_ r8)),(24,(b_ r9)),(25,(i_ r10)),(26,.tup [(Qa r12),(i_ r13)]),(27,(l_ [1])),(28,.agg [(l_ [1]),(i_ 1),.nils 1,.nils 3]),(29,(l_ [0,1])),(30,.tup [(Qa r12),(i_ r13)]),(31,(Qa r12)),(32,(i_ r13)),(33,(i_ r6)),(34,(b_ (r6 == 0))),(35,(b_ (r6 == 0))),(36,(Qa r4)),(37,(l_ [1])),(38,(l_ [1])),(39,.agg [(i_ 0),(i_ 1),(i_ 1)]),(40,.agg [(i_ 1),(i_ 1),(i_ 1)]),(41,.d (.lst 3 (List.map Qc [(Qe.mk 0 1 1),(Qe.mk 1 1 1)]))),(42,.agg [(l_ [1]),(i_ 2),(l_ [1]),.d (.lst 3 (List.map Qc [(Qe.mk 0 1 1),(Qe.mk 1 1 1)]))]),(43,(b_ x16)),(44,(b_ x16)),(45,(b_ x16)),(46,.d (.lst 1 (List.map (eL 1 (eI .i64)) r5))),(47,(l_ [0,1])),(48,(l_ [0,1,2])),(49,.sl 1 (Γ.n0 + 49) 0 2 2)],Qo Γ.n0 (bxs [(1,.cells ((Qd x2))),(2,.cells ((Qd r4))),(8,.cells ((Qd r12))),(49,.cells ([(l_ [0,1]),(l_ [0,1,2])]))]) M,Γ.n0 + 74⟩; exact Qck 48 [.int .i64 0,.int .i64 1,.int .i64 2] rfl rfl ⟨(.same rfl),(fPtr rfl),(fPtr rfl),(.same rfl),(.same rfl),(.same rfl),(.same rfl),(.same rfl),(fPtr rfl),(.same rfl),(.same rfl),(.same rfl),(.same rfl),(.same rfl),(.same rfl),(.same rfl),(.same rfl),(.same rfl),(.same rfl),(.same rfl),(.same rfl),(.same rfl),(.same rfl),(.same rfl),(.same rfl),(.same rfl),(.same rfl),(.same rfl),(.same rfl),(.same rfl),(.same rfl),(.same rfl),(.same rfl),(.same rfl),(.same rfl),(.same rfl),(.same rfl),(.same rfl),(.same rfl),(.same rfl),(.same rfl),(.same rfl),(.same rfl),(.same rfl),(.same rfl),(.same rfl),(.same rfl),(.same rfl),(fSl rfl rfl),(fSlO rfl),trivial⟩ ⟨⟨_,rfl,rfl,(.same rfl)⟩,⟨_,rfl,rfl,(.same rfl)⟩,⟨_,rfl,rfl,(.same rfl)⟩,⟨_,rfl,rfl,(.cons (.same rfl) (.cons (fSl rfl rfl) .nil))⟩,trivial⟩ rfl) ?_
    refine Rn.weak (by show WeakSt Γ _ ⟨look [(0,(b_ false)),(1,.ptr (Γ.n0 + 1) 0),(2,.ptr (Γ.n0 + 2) 0),(3,.d (.lst 1 (List.map (eL 1 (eI .i64)) r5))),(4,(i_ r6)),(5,(l_ r8)),(6,(b_ r9)),(7,(i_ r10)),(8,.ptr (Γ.n0 + 8) 0),(9,(i_ r13)),(10,(Qa x2)),(11,.tup [(Qa r4),.d (.lst 1 (List.map (eL 1 (eI .i64)) r5)),(i_ r6)]),(12,(Qa x2)),(13,(l_ [1])),(14,.tup [(Qa r4),.own 1 (List.map (eL 1 (eI .i64)) r5),(i_ r6)]),(15,(Qa r4)),(16,.d (.lst 1 (List.map (eL 1 (eI .i64)) r5))),(17,(i_ r6)),(18,.tup [(l_ r8),(b_ r9),(i_ r10)]),(19,(Qa x2)),(20,(l_ [1])),(21,(l_ [1])),(22,.tup [(l_ r8),(b_ r9),(i_ r10)]),(23,(l_ r8)),(24,(b_ r9)),(25,(i_ r10)),(26,.tup [(Qa r12),(i_ r13)]),(27,(l_ [1])),(28,.agg [(l_ [1]),(i_ 1),.nils 1,.nils 3]),(29,(l_ [0,1])),(30,.tup [(Qa r12),(i_ r13)]),(31,(Qa r12)),(32,(i_ r13)),(33,(i_ r6)),(34,(b_ (r6 == 0))),(35,(b_ (r6 == 0))),(36,(Qa r4)),(37,(l_ [1])),(38,(l_ [1])),(39,.agg [(i_ 0),(i_ 1),(i_ 1)]),(40,.agg [(i_ 1),(i_ 1),(i_ 1)]),(41,.d (.lst 3 (List.map Qc [(Qe.mk 0 1 1),(Qe.mk 1 1 1)]))),(42,.agg [(l_ [1]),(i_ 2),(l_ [1]),.d (.lst 3 (List.map Qc [(Qe.mk 0 1 1),(Qe.mk 1 1 1)]))]),(43,(b_ x16)),(44,(b_ x16)),(45,(b_ x16)),(46,.d (.lst 1 (List.map (eL 1 (eI .i64)) r5))),(47,(l_ [0,1])),(48,(l_ [0,1,2])),(49,.d (.lst 1 (List.map (eL 1 (eI .i64)) ([[0,1],[0,1,2]]))))],Qo Γ.n0 (bxs [(1,.cells ((Qd x2))),(2,.cells ((Qd r4))),(8,.cells ((Qd r12)))]) M,Γ.n0 + 74⟩; exact Qck 49 [.lst 1 (List.map (eI .i64) [0,1]),.lst 1 (List.map (eI .i64) [0,1,2])] rfl rfl ⟨(.same rfl),(fPtr rfl),(fPtr rfl),(.same rfl),(.same rfl),(.same rfl),(.same rfl),(.same rfl),(fPtr rfl),(.same rfl),(.same rfl),(.same rfl),(.same rfl),(.same rfl),(.same rfl),(.same rfl),(.same rfl),(.same rfl),(.same rfl),(.same rfl),(.same rfl),(.same rfl),(.same rfl),(.same rfl),(.same rfl),(.same rfl),(.same rfl),(.same rfl),(.same rfl),(.same rfl),(.same rfl),(.same rfl),(.same rfl),(.same rfl),(.same rfl),(.same rfl),(.same rfl),(.same rfl),(.same rfl),(.same rfl),(.same rfl),(.same rfl),(.same rfl),(.same rfl),(.same rfl),(.same rfl),(.same rfl),(.same rfl),(.same rfl),(fSl rfl rfl),trivial⟩ ⟨⟨_,rfl,rfl,(.same rfl)⟩,⟨_,rfl,rfl,(.same rfl)⟩,⟨_,rfl,rfl,(.same rfl)⟩,trivial⟩ rfl) ?_
    obtain ⟨x19,h18,h⟩:=bnd h
    refine Rn.call (args:=[.d (.lst 1 (List.map (eL 1 (eI .i64)) r5)),.d (.lst 1 (List.map (eL 1 (eI .i64)) ([[0,1],[0,1,2]])))]) (gw rfl hb17) rfl (H_overseerlaw03_SameWords _ _ _ h18) pc9 (Rn.pickT (v:=(b_ x19)) trivial rfl hb17 rfl (md rfl ?_))
    refine Qdo x19 (fun hb20=>?_) (fun hb20=>?_)
    ·replace h:=bT hb20 h
     refine Rn.movD (gw rfl hb20) rfl (Rn.bin (gw rfl hb20) rfl rfl rfl (Rn.pickT (v:=(b_ (r10 == 0))) trivial rfl hb20 rfl (md rfl ?_)))
     refine Qdo (r10 == 0) (fun hb21=>?_) (fun hb21=>?_)
     ·replace h:=bT hb21 h
      refine Rn.movD (gw rfl hb21) rfl (Rn.pickT (v:=(b_ r9)) trivial rfl hb21 rfl (md rfl ?_))
      refine Qdo r9 (fun hb22=>?_) (fun hb22=>?_)
      ·replace h:=bT hb22 h
       refine Rn.movD (gw rfl hb22) rfl (Rn.bslice (xs:=[(i_ 0),(i_ 1)]) (cs:=[(i_ 0),(i_ 1)]) (gw rfl hb22) rfl rfl rfl rfl ?_)
       refine Rn.weak (by show WeakSt Γ _ ⟨look [(0,(b_ false)),(1,.ptr (Γ.n0 + 1) 0),(2,.ptr (Γ.n0 + 2) 0),(3,.d (.lst 1 (List.map (eL 1 (eI .i64)) r5))),(4,(i_ r6)),(5,(l_ r8)),(6,(b_ r9)),(7,(i_ r10)),(8,.ptr (Γ.n0 + 8) 0),(9,(i_ r13)),(10,(Qa x2)),(11,.tup [(Qa r4),.d (.lst 1 (List.map (eL 1 (eI .i64)) r5)),(i_ r6)]),(12,(Qa x2)),(13,(l_ [1])),(14,.tup [(Qa r4),.own 1 (List.map (eL 1 (eI .i64)) r5),(i_ r6)]),(15,(Qa r4)),(16,.d (.lst 1 (List.map (eL 1 (eI .i64)) r5))),(17,(i_ r6)),(18,.tup [(l_ r8),(b_ r9),(i_ r10)]),(19,(Qa x2)),(20,(l_ [1])),(21,(l_ [1])),(22,.tup [(l_ r8),(b_ r9),(i_ r10)]),(23,(l_ r8)),(24,(b_ r9)),(25,(i_ r10)),(26,.tup [(Qa r12),(i_ r13)]),(27,(l_ [1])),(28,.agg [(l_ [1]),(i_ 1),.nils 1,.nils 3]),(29,(l_ [0,1])),(30,.tup [(Qa r12),(i_ r13)]),(31,(Qa r12)),(32,(i_ r13)),(33,(i_ r6)),(34,(b_ (r6 == 0))),(35,(b_ (r6 == 0))),(36,(Qa r4)),(37,(l_ [1])),(38,(l_ [1])),(39,.agg [(i_ 0),(i_ 1),(i_ 1)]),(40,.agg [(i_ 1),(i_ 1),(i_ 1)]),(41,.d (.lst 3 (List.map Qc [(Qe.mk 0 1 1),(Qe.mk 1 1 1)]))),(42,.agg [(l_ [1]),(i_ 2),(l_ [1]),.d (.lst 3 (List.map Qc [(Qe.mk 0 1 1),(Qe.mk 1 1 1)]))]),(43,(b_ x16)),(44,(b_ x16)),(45,(b_ x16)),(46,.d (.lst 1 (List.map (eL 1 (eI .i64)) r5))),(47,(l_ [0,1])),(48,(l_ [0,1,2])),(49,.d (.lst 1 (List.map (eL 1 (eI .i64)) ([[0,1],[0,1,2]])))),(50,(b_ x19)),(51,(b_ x19)),(52,(b_ x19)),(53,(i_ r10)),(54,(b_ (r10 == 0))),(55,(b_ (r10 == 0))),(56,(b_ (r10 == 0))),(57,(b_ r9)),(58,(b_ r9)),(59,(b_ r9)),(60,(l_ r8)),(61,(l_ [0,1]))],Qo Γ.n0 (bxs [(1,.cells ((Qd x2))),(2,.cells ((Qd r4))),(8,.cells ((Qd r12)))]) M,Γ.n0 + 74⟩; exact Qck 61 [.int .i64 0,.int .i64 1] rfl rfl ⟨(.same rfl),(fPtr rfl),(fPtr rfl),(.same rfl),(.same rfl),(.same rfl),(.same rfl),(.same rfl),(fPtr rfl),(.same rfl),(.same rfl),(.same rfl),(.same rfl),(.same rfl),(.same rfl),(.same rfl),(.same rfl),(.same rfl),(.same rfl),(.same rfl),(.same rfl),(.same rfl),(.same rfl),(.same rfl),(.same rfl),(.same rfl),(.same rfl),(.same rfl),(.same rfl),(.same rfl),(.same rfl),(.same rfl),(.same rfl),(.same rfl),(.same rfl),(.same rfl),(.same rfl),(.same rfl),(.same rfl),(.same rfl),(.same rfl),(.same rfl),(.same rfl),(.same rfl),(.same rfl),(.same rfl),(.same rfl),(.same rfl),(.same rfl),(.same rfl),(.same rfl),(.same rfl),(.same rfl),(.same rfl),(.same rfl),(.same rfl),(.same rfl),(.same rfl),(.same rfl),(.same rfl),(.same rfl),(fSl rfl rfl),trivial⟩ ⟨⟨_,rfl,rfl,(.same rfl)⟩,⟨_,rfl,rfl,(.same rfl)⟩,⟨_,rfl,rfl,(.same rfl)⟩,trivial⟩ rfl) ?_
       obtain ⟨x24,h23,h⟩:=bnd h
       refine Rn.call (args:=[(l_ r8),(l_ [0,1])]) (gw rfl hb22) rfl (H_overseerref03_SameInts _ _ _ h23) pc9 (Rn.pickT (v:=(b_ x24)) trivial rfl hb22 rfl (md rfl ?_))
       refine Qdo x24 (fun hb25=>?_) (fun hb25=>?_)
       ·replace h:=bT hb25 h
        refine Rn.movD (gw rfl hb25) rfl (Rn.bin (gw rfl hb25) rfl rfl rfl (Rn.pickT (v:=(b_ (r13 == 0))) trivial rfl hb25 rfl (md rfl ?_)))
        refine Qdo (r13 == 0) (fun hb26=>?_) (fun hb26=>?_)
        ·replace h:=bT hb26 h
         refine Rn.fldP (o':=3) (gw rfl hb26) rfl rfl (Rn.load (v:=.d (.lst 3 (List.map Qc r12.Edges))) (gw rfl hb26) rfl (Qm rfl) rfl rfl (Rn.lenD (gw rfl hb26) rfl (Rn.bin (gw rfl hb26) rfl rfl rfl (Rn.pickT (v:=(b_ ((r12.Edges.length : Int) == 1))) trivial rfl hb26 rfl (md rfl (Rn.nil ?_))))))
         replace h:=si h; subst h
         exact Qi [] ⟨(sm rfl),trivial⟩ ⟨⟨_,rfl,rfl,(.same rfl)⟩,⟨_,rfl,rfl,(.same rfl)⟩,⟨_,rfl,rfl,(.same rfl)⟩,trivial⟩ rfl
        ·replace h:=bF hb26 h
         refine Rn.sk (nw rfl hb26) (Rn.sk (nw rfl hb26) (Rn.sk (nw rfl hb26) (Rn.sk (nw rfl hb26) (Rn.pickF (v:=(b_ false)) trivial rfl hb26 rfl (md rfl (Rn.nil ?_))))))
         replace h:=si h; subst h
         exact Qi [] ⟨(sm rfl),trivial⟩ ⟨⟨_,rfl,rfl,(.same rfl)⟩,⟨_,rfl,rfl,(.same rfl)⟩,⟨_,rfl,rfl,(.same rfl)⟩,trivial⟩ rfl
       ·replace h:=bF hb25 h
        refine Rn.sk (nw rfl hb25) (Rn.sk (nw rfl hb25) (Rn.pickF (v:=(b_ false)) trivial rfl hb25 rfl (md rfl (Rn.sk (nw (b:=false) rfl rfl) (Rn.sk (nw (b:=false) rfl rfl) (Rn.sk (nw (b:=false) rfl rfl) (Rn.sk (nw (b:=false) rfl rfl) (Rn.pickF (v:=(b_ false)) trivial rfl rfl rfl (md rfl (Rn.nil ?_))))))))))
        replace h:=si h; subst h
        exact Qi [] ⟨(sm rfl),trivial⟩ ⟨⟨_,rfl,rfl,(.same rfl)⟩,⟨_,rfl,rfl,(.same rfl)⟩,⟨_,rfl,rfl,(.same rfl)⟩,trivial⟩ rfl
      ·replace h:=bF hb22 h
       refine Rn.sk (nw rfl hb22) (Rn.sk (nw rfl hb22) (Rn.sk (nw rfl hb22) (Rn.pickF (v:=(b_ false)) trivial rfl hb22 rfl (md rfl (Rn.sk (nw (b:=false) rfl rfl) (Rn.sk (nw (b:=false) rfl rfl) (Rn.pickF (v:=(b_ false)) trivial rfl rfl rfl (md rfl (Rn.sk (nw (b:=false) rfl rfl) (Rn.sk (nw (b:=false) rfl rfl) (Rn.sk (nw (b:=false) rfl rfl) (Rn.sk (nw (b:=false) rfl rfl) (Rn.pickF (v:=(b_ false)) trivial rfl rfl rfl (md rfl (Rn.nil ?_)))))))))))))))
       replace h:=si h; subst h
       exact Qi [] ⟨(sm rfl),trivial⟩ ⟨⟨_,rfl,rfl,(.same rfl)⟩,⟨_,rfl,rfl,(.same rfl)⟩,⟨_,rfl,rfl,(.same rfl)⟩,trivial⟩ rfl
     ·replace h:=bF hb21 h
      refine Rn.sk (nw rfl hb21) (Rn.pickF (v:=(b_ false)) trivial rfl hb21 rfl (md rfl (Rn.sk (nw (b:=false) rfl rfl) (Rn.sk (nw (b:=false) rfl rfl) (Rn.sk (nw (b:=false) rfl rfl) (Rn.pickF (v:=(b_ false)) trivial rfl rfl rfl (md rfl (Rn.sk (nw (b:=false) rfl rfl) (Rn.sk (nw (b:=false) rfl rfl) (Rn.pickF (v:=(b_ false)) trivial rfl rfl rfl (md rfl (Rn.sk (nw (b:=false) rfl rfl) (Rn.sk (nw (b:=false) rfl rfl) (Rn.sk (nw (b:=false) rfl rfl) (Rn.sk (nw (b:=false) rfl rfl) (Rn.pickF (v:=(b_ false)) trivial rfl rfl rfl (md rfl (Rn.nil ?_))))))))))))))))))
      replace h:=si h; subst h
      exact Qi [] ⟨(sm rfl),trivial⟩ ⟨⟨_,rfl,rfl,(.same rfl)⟩,⟨_,rfl,rfl,(.same rfl)⟩,⟨_,rfl,rfl,(.same rfl)⟩,trivial⟩ rfl
    ·replace h:=bF hb20 h
     refine Rn.sk (nw rfl hb20) (Rn.sk (nw rfl hb20) (Rn.pickF (v:=(b_ false)) trivial rfl hb20 rfl (md rfl (Rn.sk (nw (b:=false) rfl rfl) (Rn.pickF (v:=(b_ false)) trivial rfl rfl rfl (md rfl (Rn.sk (nw (b:=false) rfl rfl) (Rn.sk (nw (b:=false) rfl rfl) (Rn.sk (nw (b:=false) rfl rfl) (Rn.pickF (v:=(b_ false)) trivial rfl rfl rfl (md rfl (Rn.sk (nw (b:=false) rfl rfl) (Rn.sk (nw (b:=false) rfl rfl) (Rn.pickF (v:=(b_ false)) trivial rfl rfl rfl (md rfl (Rn.sk (nw (b:=false) rfl rfl) (Rn.sk (nw (b:=false) rfl rfl) (Rn.sk (nw (b:=false) rfl rfl) (Rn.sk (nw (b:=false) rfl rfl) (Rn.pickF (v:=(b_ false)) trivial rfl rfl rfl (md rfl (Rn.nil ?_))))))))))))))))))))))
     replace h:=si h; subst h
     exact Qi [] ⟨(sm rfl),trivial⟩ ⟨⟨_,rfl,rfl,(.same rfl)⟩,⟨_,rfl,rfl,(.same rfl)⟩,⟨_,rfl,rfl,(.same rfl)⟩,trivial⟩ rfl
   ·replace h:=bF hb17 h
    refine Rn.sk (nw rfl hb17) (Rn.sk (nw rfl hb17) (Rn.sk (nw rfl hb17) (Rn.sk (nw rfl hb17) (Rn.sk (nw rfl hb17) (Rn.pickF (v:=(b_ false)) trivial rfl hb17 rfl (md rfl (Rn.sk (nw (b:=false) rfl rfl) (Rn.sk (nw (b:=false) rfl rfl) (Rn.pickF (v:=(b_ false)) trivial rfl rfl rfl (md rfl (Rn.sk (nw (b:=false) rfl rfl) (Rn.pickF (v:=(b_ false)) trivial rfl rfl rfl (md rfl (Rn.sk (nw (b:=false) rfl rfl) (Rn.sk (nw (b:=false) rfl rfl) (Rn.sk (nw (b:=false) rfl rfl) (Rn.pickF (v:=(b_ false)) trivial rfl rfl rfl (md rfl (Rn.sk (nw (b:=false) rfl rfl) (Rn.sk (nw (b:=false) rfl rfl) (Rn.pickF (v:=(b_ false)) trivial rfl rfl rfl (md rfl (Rn.sk (nw (b:=false) rfl rfl) (Rn.sk (nw (b:=false) rfl rfl) (Rn.sk (nw (b:=false) rfl rfl) (Rn.sk (nw (b:=false) rfl rfl) (Rn.pickF (v:=(b_ false)) trivial rfl rfl rfl (md rfl (Rn.nil ?_)))))))))))))))))))))))))))))
    replace h:=si h; subst h
    exact Qi [] ⟨(sm rfl),trivial⟩ ⟨⟨_,rfl,rfl,(.same rfl)⟩,⟨_,rfl,rfl,(.same rfl)⟩,⟨_,rfl,rfl,(.same rfl)⟩,trivial⟩ rfl
  ·replace h:=bF hb14 h
   refine Rn.sk (nw rfl hb14) (Rn.sk (nw rfl hb14) (Rn.sk (nw rfl hb14) (Rn.sk (nw rfl hb14) (Rn.sk (nw rfl hb14) (Rn.sk (nw rfl hb14) (Rn.sk (nw rfl hb14) (Rn.sk (nw rfl hb14) (Rn.pickF (v:=(b_ false)) trivial rfl hb14 rfl (md rfl (Rn.sk (nw (b:=false) rfl rfl) (Rn.sk (nw (b:=false) rfl rfl) (Rn.sk (nw (b:=false) rfl rfl) (Rn.sk (nw (b:=false) rfl rfl) (Rn.sk (nw (b:=false) rfl rfl) (Rn.pickF (v:=(b_ false)) trivial rfl rfl rfl (md rfl (Rn.sk (nw (b:=false) rfl rfl) (Rn.sk (nw (b:=false) rfl rfl) (Rn.pickF (v:=(b_ false)) trivial rfl rfl rfl (md rfl (Rn.sk (nw (b:=false) rfl rfl) (Rn.pickF (v:=(b_ false)) trivial rfl rfl rfl (md rfl (Rn.sk (nw (b:=false) rfl rfl) (Rn.sk (nw (b:=false) rfl rfl) (Rn.sk (nw (b:=false) rfl rfl) (Rn.pickF (v:=(b_ false)) trivial rfl rfl rfl (md rfl (Rn.sk (nw (b:=false) rfl rfl) (Rn.sk (nw (b:=false) rfl rfl) (Rn.pickF (v:=(b_ false)) trivial rfl rfl rfl (md rfl (Rn.sk (nw (b:=false) rfl rfl) (Rn.sk (nw (b:=false) rfl rfl) (Rn.sk (nw (b:=false) rfl rfl) (Rn.sk (nw (b:=false) rfl rfl) (Rn.pickF (v:=(b_ false)) trivial rfl rfl rfl (md rfl (Rn.nil ?_)))))))))))))))))))))))))))))))))))))))
   replace h:=si h; subst h
   exact Qi [] ⟨(sm rfl),trivial⟩ ⟨⟨_,rfl,rfl,(.same rfl)⟩,⟨_,rfl,rfl,(.same rfl)⟩,⟨_,rfl,rfl,(.same rfl)⟩,trivial⟩ rfl
 ·obtain ⟨x27,rfl⟩ : ∃ x,x = z:=⟨_,rfl⟩
  refine Tr.ret ?_
  replace h:=si h; subst h
  exact ⟨.inr rfl,(b_ x27),rfl,fun _ _ _ _ h=>h,trivial,fun k hk=>Qf hk⟩
theorem Qmr {P : Program} {c : Nat} (hcf : Qw P c = some Qfb) (fuel : Nat) : Qfa P c (Qbk fuel):=by
 intro s1 r h
 refine Qce hcf rfl fun Γ M hP hnt hM=>?_
 subst hP
 refine Tr.init [(0,.d (.int .u8 s1))] rfl ?_
 unfold Qbk at h
 unfold Qfb
 refine sr ((Rn.movTC (v:=.nils 1) trivial (nt ((sr ((Rn.movTC (v:=.nils 1) trivial (Rn.nil (toN ?_)))))))))
 refine Tr.cutB (fun (out12 : List Int)=>⟨look [(3,.own 1 (List.map (eI .i64) out12))],Qo Γ.n0 (bxs []) M,Γ.n0 + 19⟩) h (fun z h=>?_) (fun z h=>?_)
 ·refine sr ((md rfl (nt ((Tr.block ?_)))))
  refine Tr.loop (mk:=fun ((out2,i3) : (List Int) × Int)=>⟨look [(0,.d (.int .u8 s1)),(3,.own 1 (List.map (eI .i64) out2)),(4,(i_ i3))],Qo Γ.n0 (bxs []) M,Γ.n0 + 19⟩) h (by exact Qj ⟨(sm rfl),(WkV.nilsO _),(sm rfl),trivial⟩ trivial rfl) (fun k4 z h=>?_)
  ·obtain ⟨out2,i3⟩:=z
   replace h : _ = some _:=h
   refine Tr.seq (sr ((md rfl (Rn.bin trivial rfl rfl rfl (Rn.nil (toN ?_))))))
   refine Tr.cond rfl (fun hb5=>?_) (fun hb5=>?_)
   ·replace h:=ifT hb5 h
    refine Tr.skip (toN ?_)
    refine Tr.cutB (fun (out11 : List Int)=>⟨look [(0,.d (.int .u8 s1)),(3,.own 1 (List.map (eI .i64) out11)),(4,(i_ i3))],Qo Γ.n0 (bxs []) M,Γ.n0 + 19⟩) h (fun z h=>?_) (fun z h=>?_)
    ·refine Tr.block (sr ((md rfl (md rfl ?_))))
     obtain ⟨s6,h7,h⟩:=bnd h
     refine Rn.bin trivial rfl rfl (Qbfx h7) (Rn.bin trivial rfl rfl rfl (Rn.bin trivial rfl rfl rfl (Rn.nil (toN ?_))))
     refine Tr.cond rfl (fun hb8=>?_) (fun hb8=>?_)
     ·replace h:=bT hb8 h
      refine Tr.rgn (Rn.movTO trivial rfl (md rfl (Rn.bslice (xs:=[(i_ i3)]) (cs:=[(i_ i3)]) trivial rfl rfl rfl rfl ?_)))
      obtain ⟨x9,h10,h⟩:=bnd h
      refine Rn.app (e:=(eI .i64)) trivial rfl rfl rfl (Qcc rfl rfl rfl) h10 rfl (Rn.movTO trivial rfl (Rn.nil ?_))
      replace h:=si h; subst h
      exact Qi [16] ⟨(sm rfl),(sm rfl),(sm rfl),trivial⟩ trivial rfl
     ·replace h:=bF hb8 h
      refine Tr.skip ?_
      replace h:=si h; subst h
      exact Qi [] ⟨(sm rfl),(sm rfl),(sm rfl),trivial⟩ trivial rfl
    ·obtain ⟨out11,rfl⟩ : ∃ x,x = z:=⟨_,rfl⟩
     refine Tr.rgn (md rfl (Rn.bin trivial rfl rfl rfl (md rfl (Rn.nil ?_))))
     exact ⟨_,h,(by exact Qj ⟨(sm rfl),(sm rfl),(sm rfl),trivial⟩ trivial rfl)⟩
   ·replace h:=ifF hb5 h
    refine Tr.exit ?_
    replace h:=si h; subst h
    exact Qi [] ⟨(sm rfl),trivial⟩ trivial rfl
 ·obtain ⟨out12,rfl⟩ : ∃ x,x = z:=⟨_,rfl⟩
  refine sr ((Rn.movTO trivial rfl (Rn.movTO trivial rfl (nt ((Tr.ret ?_))))))
  replace h:=si h; subst h
  exact ⟨.inr rfl,(.own 1 (List.map (eI .i64) out12)),rfl,fun _ _ _ _ h=>h,trivial,fun k hk=>Qf hk⟩
theorem Qta {P : Program} {c : Nat} (hcf : Qw P c = some Qhh) : Qff P c (Q2):=by
 intro alphabet1 r h
 refine Qce hcf rfl fun Γ M hP hnt hM=>?_
 subst hP
 refine Tr.init [(0,(l_ alphabet1))] rfl ?_
 unfold Q2 at h
 unfold Qhh
 refine sr ((Rn.alloc trivial rfl (nt ((sr ((Rn.bslice (xs:=[]) (cs:=[]) trivial rfl rfl rfl rfl (md rfl ?_))))))))
 obtain ⟨x2,h3,h⟩:=bnd h
 refine Rn.app0 (e:=(eI .i64)) trivial rfl rfl rfl rfl Q1c h3 rfl (Rn.buildT (v:=.agg [.own 1 (List.map (eI .i64) x2),(i_ 0),.nils 1,.nils 3]) trivial rfl (Rn.storeT (v:=.agg [.own 1 (List.map (eI .i64) x2),(i_ 0),.nils 1,.nils 3]) (ds:=[.own 1 (List.map (eI .i64) x2),(i_ 0),.nils 1,.nils 3]) (cs':=[.own 1 (List.map (eI .i64) x2),(i_ 0),.nils 1,.nils 3]) trivial rfl rfl rfl rfl rfl rfl rfl (nt ((Tr.ret ?_)))))
 replace h:=si h; subst h
 exact ⟨.inr rfl,(.agg [(l_ x2),(i_ 0),.nils 1,.nils 3]),Qib rfl rfl rfl rfl,fun _ _ _ _ h=>h,⟨trivial,trivial,trivial,trivial,trivial⟩,fun k hk=>Qf hk⟩
theorem Qxi {P : Program} {c : Nat} (hcf : Qw P c = some Qil) (fuel : Nat) : Qfy P c (Qbd fuel):=by
 intro a1 state2 event3 r h
 refine Qce hcf rfl fun Γ M hP hnt hM=>?_
 subst hP
 refine Tr.init [(0,(Qa a1)),(1,(i_ state2)),(2,(i_ event3))] rfl ?_
 unfold Qbd at h
 unfold Qil
 refine sr ((Rn.box (v:=(Qa a1)) (cs:=(Qd a1)) trivial rfl rfl rfl rfl rfl (md rfl (nt ((Tr.seq (sr ((md rfl (nt ((Tr.block ?_))))))))))))
 refine Tr.loop (mk:=fun (i4 : Int)=>⟨look [(1,(i_ state2)),(2,(i_ event3)),(3,.ptr (Γ.n0 + 3) 0),(7,(i_ i4))],Qo Γ.n0 (bxs [(3,.cells ((Qd a1)))]) M,Γ.n0 + 39⟩) h (by exact Qj ⟨(sm rfl),(sm rfl),(kPtr rfl),(sm rfl),trivial⟩ ⟨⟨_,rfl,rfl,(.same rfl)⟩,trivial⟩ rfl) (fun k5 z h=>?_)
 ·obtain ⟨i4,rfl⟩ : ∃ x,x = z:=⟨_,rfl⟩
  replace h : _ = some _:=h
  refine Tr.seq (sr ((md rfl (Rn.fldP (o':=3) trivial rfl rfl (Rn.load (v:=.d (.lst 3 (List.map Qc a1.Edges))) trivial rfl (Qm rfl) rfl rfl (Rn.lenD trivial rfl (Rn.bin trivial rfl rfl rfl (Rn.nil (toN ?_)))))))))
  refine Tr.cond rfl (fun hb6=>?_) (fun hb6=>?_)
  ·replace h:=ifT hb6 h
   refine Tr.skip (toN (Tr.seq (Tr.block ?_)))
   refine Tr.cutB (fun (x12 : Bool)=>⟨look [(1,(i_ state2)),(2,(i_ event3)),(3,.ptr (Γ.n0 + 3) 0),(7,(i_ i4)),(32,(b_ x12))],Qo Γ.n0 (bxs [(3,.cells ((Qd a1)))]) M,Γ.n0 + 39⟩) h (fun z h=>?_) (fun z h=>?_)
   ·refine Tr.rgn (Rn.fldP (o':=3) trivial rfl rfl (Rn.load (v:=.d (.lst 3 (List.map Qc a1.Edges))) trivial rfl (Qm rfl) rfl rfl (md rfl ?_)))
    obtain ⟨x7,h8,h⟩:=bnd h
    refine Rn.idxD (e:=Qc) trivial rfl rfl h8 (Rn.fldC trivial rfl (Rn.loadC (x:=.int .i64 x7.From) trivial rfl (md rfl (Rn.bin trivial rfl rfl rfl (md rfl ?_)))))
    refine Qdo (x7.From == state2) (fun hb9=>?_) (fun hb9=>?_)
    ·replace h:=bT hb9 h
     refine Rn.fldP (o':=3) (gw rfl hb9) rfl rfl (Rn.load (v:=.d (.lst 3 (List.map Qc a1.Edges))) (gw rfl hb9) rfl (Qm rfl) rfl rfl (Rn.movD (gw rfl hb9) rfl ?_))
     obtain ⟨x10,h11,h⟩:=bnd h
     refine Rn.idxD (e:=Qc) (gw rfl hb9) rfl rfl h11 (Rn.fldC (gw rfl hb9) rfl (Rn.loadC (x:=.int .i64 x10.Event) (gw rfl hb9) rfl (Rn.movD (gw rfl hb9) rfl (Rn.bin (gw rfl hb9) rfl rfl rfl (Rn.pickT (v:=(b_ (x10.Event == event3))) trivial rfl hb9 rfl (Rn.nil ?_))))))
     replace h:=si h; subst h
     exact Qi [] ⟨(sm rfl),(sm rfl),(kPtr rfl),(sm rfl),(sm rfl),trivial⟩ ⟨⟨_,rfl,rfl,(.same rfl)⟩,trivial⟩ rfl
    ·replace h:=bF hb9 h
     refine Rn.sk (nw rfl hb9) (Rn.sk (nw rfl hb9) (Rn.sk (nw rfl hb9) (Rn.sk (nw rfl hb9) (Rn.sk (nw rfl hb9) (Rn.sk (nw rfl hb9) (Rn.sk (nw rfl hb9) (Rn.sk (nw rfl hb9) (Rn.pickF (v:=(b_ false)) trivial rfl hb9 rfl (Rn.nil ?_)))))))))
     replace h:=si h; subst h
     exact Qi [] ⟨(sm rfl),(sm rfl),(kPtr rfl),(sm rfl),(sm rfl),trivial⟩ ⟨⟨_,rfl,rfl,(.same rfl)⟩,trivial⟩ rfl
   ·obtain ⟨x12,rfl⟩ : ∃ x,x = z:=⟨_,rfl⟩
    refine Tr.cond rfl (fun hb13=>?_) (fun hb13=>?_)
    ·replace h:=bT hb13 h
     refine sr ((Rn.fldP (o':=3) trivial rfl rfl (Rn.load (v:=.d (.lst 3 (List.map Qc a1.Edges))) trivial rfl (Qm rfl) rfl rfl (md rfl ?_))))
     obtain ⟨x14,h15,h⟩:=bnd h
     refine Rn.idxD (e:=Qc) trivial rfl rfl h15 (Rn.fldC trivial rfl (Rn.loadC (x:=.int .i64 x14.To) trivial rfl (md rfl (nt ((Tr.ret ?_))))))
     replace h:=si h; subst h
     exact ⟨.inr rfl,(i_ x14.To),rfl,fun _ _ _ _ h=>h,trivial,fun k hk=>Qf hk⟩
    ·replace h:=bF hb13 h
     refine Tr.skip (toN (Tr.rgn (md rfl (Rn.bin trivial rfl rfl rfl (md rfl (Rn.nil ?_))))))
     exact ⟨_,h,(by exact Qj ⟨(sm rfl),(sm rfl),(kPtr rfl),(sm rfl),trivial⟩ ⟨⟨_,rfl,rfl,(.same rfl)⟩,trivial⟩ rfl)⟩
  ·replace h:=ifF hb6 h
   refine Tr.exit (toN (sr ((md rfl (nt ((Tr.ret ?_)))))))
   replace h:=si h; subst h
   exact ⟨.inr rfl,(i_ (-1)),rfl,fun _ _ _ _ h=>h,trivial,fun k hk=>Qf hk⟩
theorem Q0n {P : Program} {c : Nat} (hcf : Qw P c = some Qjg) (fuel : Nat) : Qgi P c (Qbh fuel):=by
 intro l1 n2 r h
 refine Qce hcf rfl fun Γ M hP hnt hM=>?_
 subst hP
 refine Tr.init [(0,(l_ l1)),(1,(i_ n2))] rfl ?_
 unfold Qbh at h
 unfold Qjg
 refine sr ((md rfl (nt ((Tr.seq (sr ((md rfl (nt ((Tr.block ?_)))))))))))
 refine Tr.loop (mk:=fun (i3 : Int)=>⟨look [(0,(l_ l1)),(1,(i_ n2)),(5,(i_ i3))],Qo Γ.n0 (bxs []) M,Γ.n0 + 18⟩) h (by exact Qj ⟨(sm rfl),(sm rfl),(sm rfl),trivial⟩ trivial rfl) (fun k4 z h=>?_)
 ·obtain ⟨i3,rfl⟩ : ∃ x,x = z:=⟨_,rfl⟩
  replace h : _ = some _:=h
  refine Tr.seq (sr ((md rfl (md rfl (Rn.lenD trivial rfl (Rn.bin trivial rfl rfl rfl (Rn.nil (toN ?_))))))))
  refine Tr.cond rfl (fun hb5=>?_) (fun hb5=>?_)
  ·replace h:=ifT hb5 h
   refine Tr.skip (toN (Tr.seq (Tr.block (sr ((md rfl (md rfl ?_)))))))
   obtain ⟨x6,h7,h⟩:=bnd h
   refine Rn.idxD (e:=(eI .i64)) trivial rfl rfl h7 (Rn.loadC (x:=.int .i64 x6) trivial rfl (md rfl (Rn.bin trivial rfl rfl rfl (Rn.nil (toN ?_)))))
   refine Tr.cond rfl (fun hb8=>?_) (fun hb8=>?_)
   ·replace h:=bT hb8 h
    refine sr ((md rfl (nt ((Tr.ret ?_)))))
    replace h:=si h; subst h
    exact ⟨.inr rfl,(b_ true),rfl,fun _ _ _ _ h=>h,trivial,fun k hk=>Qf hk⟩
   ·replace h:=bF hb8 h
    refine Tr.skip (toN (Tr.rgn (md rfl (Rn.bin trivial rfl rfl rfl (md rfl (Rn.nil ?_))))))
    exact ⟨_,h,(by exact Qj ⟨(sm rfl),(sm rfl),(sm rfl),trivial⟩ trivial rfl)⟩
  ·replace h:=ifF hb5 h
   refine Tr.exit (toN (sr ((md rfl (nt ((Tr.ret ?_)))))))
   replace h:=si h; subst h
   exact ⟨.inr rfl,(b_ false),rfl,fun _ _ _ _ h=>h,trivial,fun k hk=>Qf hk⟩
theorem Qtb {P : Program} {c : Nat} {Qbh : (List Int) → Int → Option Bool} {Qbd : Qb → Int → Int → Option Int}
    (H_overseerref03_has : Qgi P 73 Qbh)
    (H_overseerref03_Step : Qfy P 74 Qbd) (hcf : Qw P c = some Qhj) (fuel : Nat) : Qhi P c (Qb3 Qbh Qbd fuel):=by
 intro a1 r h
 refine Qce hcf rfl fun Γ M hP hnt hM=>?_
 subst hP
 refine Tr.init [(0,(Qa a1))] rfl ?_
 unfold Qb3 at h
 unfold Qhj
 refine sr ((Rn.box (v:=(Qa a1)) (cs:=(Qd a1)) trivial rfl rfl rfl rfl rfl (Rn.movTC (v:=.nils 1) trivial (nt ((sr ((Rn.movTC (v:=.nils 1) trivial (Rn.nil (toN ?_))))))))))
 refine Tr.cutB (fun (out5 : List Int)=>⟨look [(1,.ptr (Γ.n0 + 1) 0),(3,.own 1 (List.map (eI .i64) out5))],Qo Γ.n0 (bxs [(1,.cells ((Qd a1)))]) M,Γ.n0 + 50⟩) h (fun z h=>?_) (fun z h=>?_)
 ·refine sr ((Rn.fldP (o':=1) trivial rfl rfl (Rn.load (v:=(i_ a1.States)) trivial rfl (Qm rfl) rfl rfl (Rn.bin trivial rfl rfl rfl (Rn.nil (toN ?_))))))
  refine Tr.cond rfl (fun hb2=>?_) (fun hb2=>?_)
  ·replace h:=ifT hb2 h
   refine Tr.rgn (Rn.movTF (v:=.nils 1) trivial rfl rfl (Rn.bslice (xs:=[(i_ 0)]) (cs:=[(i_ 0)]) trivial rfl rfl rfl rfl ?_))
   refine Rn.weak (by show WeakSt Γ _ ⟨look [(0,(Qa a1)),(1,.ptr (Γ.n0 + 1) 0),(2,.nils 1),(3,.nils 1),(7,.ptr (Γ.n0 + 1) 1),(8,(i_ a1.States)),(9,(b_ (decide (a1.States > 0)))),(10,.own 1 (List.map (eI .i64) [])),(11,.sl 1 (Γ.n0 + 11) 0 1 1)],Qo Γ.n0 (bxs [(1,.cells ((Qd a1))),(11,.cells ([(i_ 0)]))]) M,Γ.n0 + 50⟩; exact Qi [] ⟨(sm rfl),(kPtr rfl),(sm rfl),(sm rfl),(kPtr rfl),(sm rfl),(sm rfl),(WkV.nilsO _),(kSl rfl),trivial⟩ ⟨⟨_,rfl,rfl,(.same rfl)⟩,⟨_,rfl,rfl,(.same rfl)⟩,trivial⟩ rfl) ?_
   obtain ⟨x3,h4,h⟩:=bnd h
   refine Rn.app (e:=(eI .i64)) trivial rfl rfl rfl (Qcc rfl rfl rfl) h4 rfl (Rn.movTO trivial rfl (Rn.nil ?_))
   replace h:=si h; subst h
   exact Qi [11] ⟨(kPtr rfl),(sm rfl),trivial⟩ ⟨⟨_,rfl,rfl,(.same rfl)⟩,trivial⟩ rfl
  ·replace h:=ifF hb2 h
   refine Tr.skip ?_
   replace h:=si h; subst h
   exact Qi [] ⟨(kPtr rfl),(WkV.nilsO _),trivial⟩ ⟨⟨_,rfl,rfl,(.same rfl)⟩,trivial⟩ rfl
 ·obtain ⟨out5,rfl⟩ : ∃ x,x = z:=⟨_,rfl⟩
  refine Tr.cutB (fun (out29 : List Int)=>⟨look [(3,.own 1 (List.map (eI .i64) out29))],Qo Γ.n0 (bxs [(1,.cells ((Qd a1)))]) M,Γ.n0 + 50⟩) h (fun z h=>?_) (fun z h=>?_)
  ·refine sr ((md rfl (nt ((Tr.block ?_)))))
   refine Tr.loop (mk:=fun ((out6,i7) : (List Int) × Int)=>⟨look [(1,.ptr (Γ.n0 + 1) 0),(3,.own 1 (List.map (eI .i64) out6)),(4,(i_ i7))],Qo Γ.n0 (bxs [(1,.cells ((Qd a1)))]) M,Γ.n0 + 50⟩) h (by exact Qj ⟨(kPtr rfl),(sm rfl),(sm rfl),trivial⟩ ⟨⟨_,rfl,rfl,(.same rfl)⟩,trivial⟩ rfl) (fun k8 z h=>?_)
   ·obtain ⟨out6,i7⟩:=z
    replace h : _ = some _:=h
    refine Tr.seq (sr ((md rfl (Rn.mov (v:=(l_ out6)) trivial rfl (Rn.lenD trivial rfl (Rn.bin trivial rfl rfl rfl (Rn.nil (toN ?_))))))))
    refine Tr.cond rfl (fun hb9=>?_) (fun hb9=>?_)
    ·replace h:=ifT hb9 h
     refine Tr.skip (toN ?_)
     refine Tr.cutB (fun (out28 : List Int)=>⟨look [(1,.ptr (Γ.n0 + 1) 0),(3,.own 1 (List.map (eI .i64) out28)),(4,(i_ i7))],Qo Γ.n0 (bxs [(1,.cells ((Qd a1)))]) M,Γ.n0 + 50⟩) h (fun z h=>?_) (fun z h=>?_)
     ·refine Tr.block (sr ((md rfl (nt ((Tr.block ?_))))))
      refine Tr.loop (mk:=fun ((out10,k11) : (List Int) × Int)=>⟨look [(1,.ptr (Γ.n0 + 1) 0),(3,.own 1 (List.map (eI .i64) out10)),(4,(i_ i7)),(5,(i_ k11))],Qo Γ.n0 (bxs [(1,.cells ((Qd a1)))]) M,Γ.n0 + 50⟩) h (by exact Qj ⟨(kPtr rfl),(sm rfl),(sm rfl),(sm rfl),trivial⟩ ⟨⟨_,rfl,rfl,(.same rfl)⟩,trivial⟩ rfl) (fun k12 z h=>?_)
      ·obtain ⟨out10,k11⟩:=z
       replace h : _ = some _:=h
       refine Tr.seq (sr ((md rfl (Rn.fldP (o':=0) trivial rfl rfl (Rn.load (v:=(l_ a1.Alphabet)) trivial rfl (Qm rfl) rfl rfl (Rn.lenD trivial rfl (Rn.bin trivial rfl rfl rfl (Rn.nil (toN ?_)))))))))
       refine Tr.cond rfl (fun hb13=>?_) (fun hb13=>?_)
       ·replace h:=ifT hb13 h
        refine Tr.skip (toN ?_)
        refine Tr.cutB (fun (out27 : List Int)=>⟨look [(1,.ptr (Γ.n0 + 1) 0),(3,.own 1 (List.map (eI .i64) out27)),(4,(i_ i7)),(5,(i_ k11))],Qo Γ.n0 (bxs [(1,.cells ((Qd a1)))]) M,Γ.n0 + 50⟩) h (fun z h=>?_) (fun z h=>?_)
        ·refine Tr.block (Tr.seq ?_)
         refine Tr.rgnD (by decide) ?_
         refine Rn.load (v:=(Qa a1)) trivial rfl (Qm rfl) rfl rfl (Rn.mov (v:=(l_ out10)) trivial rfl (md rfl ?_))
         obtain ⟨x14,h15,h⟩:=bnd h
         refine Rn.idxD (e:=(eI .i64)) trivial rfl rfl h15 (Rn.loadC (x:=.int .i64 x14) trivial rfl (Rn.fldP (o':=0) trivial rfl rfl (Rn.load (v:=(l_ a1.Alphabet)) trivial rfl (Qm rfl) rfl rfl (md rfl ?_))))
         obtain ⟨x16,h17,h⟩:=bnd h
         refine Rn.idxD (e:=(eI .i64)) trivial rfl rfl h17 (Rn.loadC (x:=.int .i64 x16) trivial rfl ?_)
         obtain ⟨x19,h18,h⟩:=bnd h
         refine Rn.call (args:=[(Qa a1),(i_ x14),(i_ x16)]) trivial rfl (H_overseerref03_Step _ _ _ _ h18) pc0 (md rfl ?_)
         refine Rn.nil ⟨rfl,?_⟩
         refine toN ?_
         refine Tr.cutB (fun (x23 : Bool)=>⟨look [(1,.ptr (Γ.n0 + 1) 0),(3,.own 1 (List.map (eI .i64) out10)),(4,(i_ i7)),(5,(i_ k11)),(6,(i_ x19)),(44,(b_ x23))],Qo Γ.n0 (bxs [(1,.cells ((Qd a1)))]) M,Γ.n0 + 50⟩) h (fun z h=>?_) (fun z h=>?_)
         ·refine Tr.rgn (md rfl (Rn.bin trivial rfl rfl rfl (md rfl ?_)))
          refine Qdo (decide (x19 ≥ 0)) (fun hb20=>?_) (fun hb20=>?_)
          ·replace h:=ifT hb20 h
           refine Rn.mov (v:=(l_ out10)) (gw rfl hb20) rfl (Rn.movD (gw rfl hb20) rfl ?_)
           obtain ⟨x22,h21,h⟩:=bnd h
           refine Rn.call (args:=[(l_ out10),(i_ x19)]) (gw rfl hb20) rfl (H_overseerref03_has _ _ _ h21) pc9 (Rn.un (gw rfl hb20) rfl rfl (Rn.pickT (v:=(b_ (!x22))) trivial rfl hb20 rfl (Rn.nil ?_)))
           replace h:=si h; subst h
           exact Qi [] ⟨(kPtr rfl),(sm rfl),(sm rfl),(sm rfl),(sm rfl),(sm rfl),trivial⟩ ⟨⟨_,rfl,rfl,(.same rfl)⟩,trivial⟩ rfl
          ·replace h:=ifF hb20 h
           refine Rn.sk (nw rfl hb20) (Rn.sk (nw rfl hb20) (Rn.sk (nw rfl hb20) (Rn.sk (nw rfl hb20) (Rn.pickF (v:=(b_ false)) trivial rfl hb20 rfl (Rn.nil ?_)))))
           replace h:=si h; subst h
           exact Qi [] ⟨(kPtr rfl),(sm rfl),(sm rfl),(sm rfl),(sm rfl),(sm rfl),trivial⟩ ⟨⟨_,rfl,rfl,(.same rfl)⟩,trivial⟩ rfl
         ·obtain ⟨x23,rfl⟩ : ∃ x,x = z:=⟨_,rfl⟩
          refine Tr.cond rfl (fun hb24=>?_) (fun hb24=>?_)
          ·replace h:=bT hb24 h
           refine Tr.rgn (Rn.movTO trivial rfl (md rfl (Rn.bslice (xs:=[(i_ x19)]) (cs:=[(i_ x19)]) trivial rfl rfl rfl rfl ?_)))
           obtain ⟨x25,h26,h⟩:=bnd h
           refine Rn.app (e:=(eI .i64)) trivial rfl rfl rfl (Qcc rfl rfl rfl) h26 rfl (Rn.movTO trivial rfl (Rn.nil ?_))
           replace h:=si h; subst h
           exact Qi [47] ⟨(kPtr rfl),(sm rfl),(sm rfl),(sm rfl),trivial⟩ ⟨⟨_,rfl,rfl,(.same rfl)⟩,trivial⟩ rfl
          ·replace h:=bF hb24 h
           refine Tr.skip ?_
           replace h:=si h; subst h
           exact Qi [] ⟨(kPtr rfl),(sm rfl),(sm rfl),(sm rfl),trivial⟩ ⟨⟨_,rfl,rfl,(.same rfl)⟩,trivial⟩ rfl
        ·obtain ⟨out27,rfl⟩ : ∃ x,x = z:=⟨_,rfl⟩
         refine Tr.rgn (md rfl (Rn.bin trivial rfl rfl rfl (md rfl (Rn.nil ?_))))
         exact ⟨_,h,(by exact Qj ⟨(kPtr rfl),(sm rfl),(sm rfl),(sm rfl),trivial⟩ ⟨⟨_,rfl,rfl,(.same rfl)⟩,trivial⟩ rfl)⟩
       ·replace h:=ifF hb13 h
        refine Tr.exit ?_
        replace h:=si h; subst h
        exact Qi [] ⟨(kPtr rfl),(sm rfl),(sm rfl),trivial⟩ ⟨⟨_,rfl,rfl,(.same rfl)⟩,trivial⟩ rfl
     ·obtain ⟨out28,rfl⟩ : ∃ x,x = z:=⟨_,rfl⟩
      refine Tr.rgn (md rfl (Rn.bin trivial rfl rfl rfl (md rfl (Rn.nil ?_))))
      exact ⟨_,h,(by exact Qj ⟨(kPtr rfl),(sm rfl),(sm rfl),trivial⟩ ⟨⟨_,rfl,rfl,(.same rfl)⟩,trivial⟩ rfl)⟩
    ·replace h:=ifF hb9 h
     refine Tr.exit ?_
     replace h:=si h; subst h
     exact Qi [] ⟨(sm rfl),trivial⟩ ⟨⟨_,rfl,rfl,(.same rfl)⟩,trivial⟩ rfl
  ·obtain ⟨out29,rfl⟩ : ∃ x,x = z:=⟨_,rfl⟩
   refine sr ((Rn.movTO trivial rfl (Rn.movTO trivial rfl (nt ((Tr.ret ?_))))))
   replace h:=si h; subst h
   exact ⟨.inr rfl,(.own 1 (List.map (eI .i64) out29)),rfl,fun _ _ _ _ h=>h,trivial,fun k hk=>Qf hk⟩
theorem Qtc {P : Program} {c : Nat} (hcf : Qw P c = some Qhl) (fuel : Nat) : Qhk P c (Qb4 fuel):=by
 intro l1 n2 r h
 refine Qce hcf rfl fun Γ M hP hnt hM=>?_
 subst hP
 refine Tr.init [(0,(l_ l1)),(1,(i_ n2))] rfl ?_
 unfold Qb4 at h
 unfold Qhl
 refine sr ((md rfl (nt ((Tr.seq (sr ((md rfl (nt ((Tr.block ?_)))))))))))
 refine Tr.loop (mk:=fun (i3 : Int)=>⟨look [(0,(l_ l1)),(1,(i_ n2)),(5,(i_ i3))],Qo Γ.n0 (bxs []) M,Γ.n0 + 19⟩) h (by exact Qj ⟨(sm rfl),(sm rfl),(sm rfl),trivial⟩ trivial rfl) (fun k4 z h=>?_)
 ·obtain ⟨i3,rfl⟩ : ∃ x,x = z:=⟨_,rfl⟩
  replace h : _ = some _:=h
  refine Tr.seq (sr ((md rfl (md rfl (Rn.lenD trivial rfl (Rn.bin trivial rfl rfl rfl (Rn.nil (toN ?_))))))))
  refine Tr.cond rfl (fun hb5=>?_) (fun hb5=>?_)
  ·replace h:=ifT hb5 h
   refine Tr.skip (toN (Tr.seq (Tr.block (sr ((md rfl (md rfl ?_)))))))
   obtain ⟨x6,h7,h⟩:=bnd h
   refine Rn.idxD (e:=(eI .i64)) trivial rfl rfl h7 (Rn.loadC (x:=.int .i64 x6) trivial rfl (md rfl (Rn.bin trivial rfl rfl rfl (Rn.nil (toN ?_)))))
   refine Tr.cond rfl (fun hb8=>?_) (fun hb8=>?_)
   ·replace h:=bT hb8 h
    refine sr ((md rfl (md rfl (nt ((Tr.ret ?_))))))
    replace h:=si h; subst h
    exact ⟨.inr rfl,(i_ i3),rfl,fun _ _ _ _ h=>h,trivial,fun k hk=>Qf hk⟩
   ·replace h:=bF hb8 h
    refine Tr.skip (toN (Tr.rgn (md rfl (Rn.bin trivial rfl rfl rfl (md rfl (Rn.nil ?_))))))
    exact ⟨_,h,(by exact Qj ⟨(sm rfl),(sm rfl),(sm rfl),trivial⟩ trivial rfl)⟩
  ·replace h:=ifF hb5 h
   refine Tr.exit (toN (sr ((md rfl (nt ((Tr.ret ?_)))))))
   replace h:=si h; subst h
   exact ⟨.inr rfl,(i_ (-1)),rfl,fun _ _ _ _ h=>h,trivial,fun k hk=>Qf hk⟩
theorem Qnw {P : Program} {c : Nat} {Q2 : (List Int) → Option Qb} {Qb3 : Qb → Option ((List Int))} {Qbh : (List Int) → Int → Option Bool} {Qbd : Qb → Int → Int → Option Int} {Qb4 : (List Int) → Int → Option Int}
    (H_overseerref03_Empty : Qff P 36 Q2)
    (H_overseerref03_Found : Qhi P 72 Qb3)
    (H_overseerref03_has : Qgi P 73 Qbh)
    (H_overseerref03_Step : Qfy P 74 Qbd)
    (H_overseerref03_index : Qhk P 75 Qb4) (hcf : Qw P c = some Qft) (fuel : Nat) : Qfs P c (Qbl Q2 Qb3 Qbh Qbd Qb4 fuel):=by
 intro a1 r h
 refine Qce hcf rfl fun Γ M hP hnt hM=>?_
 subst hP
 refine Tr.init [(0,(Qa a1))] rfl ?_
 unfold Qbl at h
 unfold Qft
 refine sr ((Rn.box (v:=(Qa a1)) (cs:=(Qd a1)) trivial rfl rfl rfl rfl rfl (Rn.alloc trivial rfl (nt ((sr ((Rn.load (v:=(Qa a1)) trivial rfl (Qm rfl) rfl rfl ?_))))))))
 obtain ⟨x3,h2,h⟩:=bnd h
 refine Rn.call (args:=[(Qa a1)]) trivial rfl (H_overseerref03_Found _ _ h2) pc9 (Rn.movTO trivial rfl (nt ((sr ((Rn.fldP (o':=0) trivial rfl rfl (Rn.load (v:=(l_ a1.Alphabet)) trivial rfl (Qm rfl) rfl rfl ?_)))))))
 obtain ⟨x5,h4,h⟩:=bnd h
 refine Rn.call (args:=[(l_ a1.Alphabet)]) trivial rfl (H_overseerref03_Empty _ _ h4) pc9 (Rn.alloc trivial rfl (Rn.storeT (v:=.agg [(l_ x5.Alphabet),(i_ x5.States),.nils 1,.nils 3]) (ds:=[(l_ x5.Alphabet),(i_ x5.States),.nils 1,.nils 3]) (cs':=[(l_ x5.Alphabet),(i_ x5.States),.nils 1,.nils 3]) trivial rfl rfl rfl rfl rfl rfl rfl (nt ((sr ((Rn.mov (v:=(l_ x3)) trivial rfl (Rn.lenD trivial rfl (Rn.fldP (o':=1) trivial rfl rfl (Rn.store (v:=(i_ (x3.length : Int))) (cs':=[(l_ x5.Alphabet),(i_ (x3.length : Int)),.nils 1,.nils 3]) trivial rfl rfl rfl rfl rfl rfl (Rn.nil (toN ?_))))))))))))
 refine Tr.cutB (fun ((c42,c43,c44,out45,out46) : (List Int) × (List Int) × (List Qe) × (List Int) × (List Qe))=>⟨look [(2,.ptr (Γ.n0 + 2) 0),(4,.ptr (Γ.n0 + 4) 0)],Qo Γ.n0 (bxs [(1,.cells ((Qd a1))),(2,.cells ([.own 1 (List.map (eI .i64) c42),(i_ 0),.own 1 (List.map (eI .i64) c43),.own 3 (List.map Qc c44)])),(4,.cells ([(l_ x5.Alphabet),(i_ (x3.length : Int)),.own 1 (List.map (eI .i64) out45),.own 3 (List.map Qc out46)]))]) M,Γ.n0 + 71⟩) h (fun z h=>?_) (fun z h=>?_)
 ·refine sr ((md rfl (nt ((Tr.block ?_)))))
  refine Tr.loop (mk:=fun ((i6,c7,c8,c9,out10,out11) : Int × (List Int) × (List Int) × (List Qe) × (List Int) × (List Qe))=>⟨look [(1,.ptr (Γ.n0 + 1) 0),(2,.ptr (Γ.n0 + 2) 0),(3,.own 1 (List.map (eI .i64) x3)),(4,.ptr (Γ.n0 + 4) 0),(5,(i_ i6))],Qo Γ.n0 (bxs [(1,.cells ((Qd a1))),(2,.cells ([.own 1 (List.map (eI .i64) c7),(i_ 0),.own 1 (List.map (eI .i64) c8),.own 3 (List.map Qc c9)])),(4,.cells ([(l_ x5.Alphabet),(i_ (x3.length : Int)),.own 1 (List.map (eI .i64) out10),.own 3 (List.map Qc out11)]))]) M,Γ.n0 + 71⟩) h (by exact Qj ⟨(kPtr rfl),(kPtr rfl),(sm rfl),(kPtr rfl),(sm rfl),trivial⟩ ⟨⟨_,rfl,rfl,(.same rfl)⟩,⟨_,rfl,rfl,(.cons (WkV.nilsO _) (.cons (sm rfl) (.cons (WkV.nilsO _) (.cons (WkV.nilsO _) .nil))))⟩,⟨_,rfl,rfl,(.cons (sm rfl) (.cons (sm rfl) (.cons (WkV.nilsO _) (.cons (WkV.nilsO _) .nil))))⟩,trivial⟩ rfl) (fun k12 z h=>?_)
  ·obtain ⟨i6,c7,c8,c9,out10,out11⟩:=z
   replace h : _ = some _:=h
   refine Tr.seq (sr ((md rfl (Rn.mov (v:=(l_ x3)) trivial rfl (Rn.lenD trivial rfl (Rn.bin trivial rfl rfl rfl (Rn.nil (toN ?_))))))))
   refine Tr.cond rfl (fun hb13=>?_) (fun hb13=>?_)
   ·replace h:=ifT hb13 h
    refine Tr.skip (toN ?_)
    refine Tr.cutB (fun ((out40,out41) : (List Int) × (List Qe))=>⟨look [(1,.ptr (Γ.n0 + 1) 0),(2,.ptr (Γ.n0 + 2) 0),(3,.own 1 (List.map (eI .i64) x3)),(4,.ptr (Γ.n0 + 4) 0),(5,(i_ i6))],Qo Γ.n0 (bxs [(1,.cells ((Qd a1))),(2,.cells ([.own 1 (List.map (eI .i64) c7),(i_ 0),.own 1 (List.map (eI .i64) c8),.own 3 (List.map Qc c9)])),(4,.cells ([(l_ x5.Alphabet),(i_ (x3.length : Int)),.own 1 (List.map (eI .i64) out40),.own 3 (List.map Qc out41)]))]) M,Γ.n0 + 71⟩) h (fun z h=>?_) (fun z h=>?_)
    ·refine Tr.block ?_
     refine Tr.cutB (fun (out21 : List Int)=>⟨look [(1,.ptr (Γ.n0 + 1) 0),(2,.ptr (Γ.n0 + 2) 0),(3,.own 1 (List.map (eI .i64) x3)),(4,.ptr (Γ.n0 + 4) 0),(5,(i_ i6))],Qo Γ.n0 (bxs [(1,.cells ((Qd a1))),(2,.cells ([.own 1 (List.map (eI .i64) c7),(i_ 0),.own 1 (List.map (eI .i64) c8),.own 3 (List.map Qc c9)])),(4,.cells ([(l_ x5.Alphabet),(i_ (x3.length : Int)),.own 1 (List.map (eI .i64) out21),.own 3 (List.map Qc out11)]))]) M,Γ.n0 + 71⟩) h (fun z h=>?_) (fun z h=>?_)
     ·refine Tr.seq ?_
      refine Tr.rgnD (by decide) ?_
      refine Rn.fldP (o':=2) trivial rfl rfl (Rn.load (v:=(l_ a1.Marked)) trivial rfl (Qm rfl) rfl rfl (Rn.mov (v:=(l_ x3)) trivial rfl (md rfl ?_)))
      obtain ⟨x14,h15,h⟩:=bnd h
      refine Rn.idxD (e:=(eI .i64)) trivial rfl rfl h15 (Rn.loadC (x:=.int .i64 x14) trivial rfl ?_)
      obtain ⟨x17,h16,h⟩:=bnd h
      refine Rn.call (args:=[(l_ a1.Marked),(i_ x14)]) trivial rfl (H_overseerref03_has _ _ _ h16) pc0 ?_
      refine Rn.nil ⟨rfl,?_⟩
      refine toN ?_
      refine Tr.cond rfl (fun hb18=>?_) (fun hb18=>?_)
      ·replace h:=bT hb18 h
       refine Tr.rgn (Rn.fldP (o':=2) trivial rfl rfl (Rn.loadT (cs':=[(l_ x5.Alphabet),(i_ (x3.length : Int)),(l_ out10),.own 3 (List.map Qc out11)]) trivial rfl rfl rfl rfl (md rfl (Rn.bslice (xs:=[(i_ i6)]) (cs:=[(i_ i6)]) trivial rfl rfl rfl rfl ?_))))
       obtain ⟨x19,h20,h⟩:=bnd h
       refine Rn.app (e:=(eI .i64)) trivial rfl rfl rfl (Qcc rfl rfl rfl) h20 rfl (Rn.fldP (o':=2) trivial rfl rfl (Rn.storeO (cs':=[(l_ x5.Alphabet),(i_ (x3.length : Int)),.own 1 (List.map (eI .i64) x19),.own 3 (List.map Qc out11)]) trivial rfl rfl rfl rfl rfl (Rn.nil ?_)))
       replace h:=si h; subst h
       exact Qi [32] ⟨(kPtr rfl),(kPtr rfl),(sm rfl),(kPtr rfl),(sm rfl),trivial⟩ ⟨⟨_,rfl,rfl,(.same rfl)⟩,⟨_,rfl,rfl,(.same rfl)⟩,⟨_,rfl,rfl,(.same rfl)⟩,trivial⟩ rfl
      ·replace h:=bF hb18 h
       refine Tr.skip ?_
       replace h:=si h; subst h
       exact Qi [] ⟨(kPtr rfl),(kPtr rfl),(sm rfl),(kPtr rfl),(sm rfl),trivial⟩ ⟨⟨_,rfl,rfl,(.same rfl)⟩,⟨_,rfl,rfl,(.same rfl)⟩,⟨_,rfl,rfl,(.same rfl)⟩,trivial⟩ rfl
     ·obtain ⟨out21,rfl⟩ : ∃ x,x = z:=⟨_,rfl⟩
      refine sr ((md rfl (nt ((Tr.block ?_)))))
      refine Tr.loop (mk:=fun ((k22,out23) : Int × (List Qe))=>⟨look [(1,.ptr (Γ.n0 + 1) 0),(2,.ptr (Γ.n0 + 2) 0),(3,.own 1 (List.map (eI .i64) x3)),(4,.ptr (Γ.n0 + 4) 0),(5,(i_ i6)),(6,(i_ k22))],Qo Γ.n0 (bxs [(1,.cells ((Qd a1))),(2,.cells ([.own 1 (List.map (eI .i64) c7),(i_ 0),.own 1 (List.map (eI .i64) c8),.own 3 (List.map Qc c9)])),(4,.cells ([(l_ x5.Alphabet),(i_ (x3.length : Int)),.own 1 (List.map (eI .i64) out21),.own 3 (List.map Qc out23)]))]) M,Γ.n0 + 71⟩) h (by exact Qj ⟨(kPtr rfl),(kPtr rfl),(sm rfl),(kPtr rfl),(sm rfl),(sm rfl),trivial⟩ ⟨⟨_,rfl,rfl,(.same rfl)⟩,⟨_,rfl,rfl,(.same rfl)⟩,⟨_,rfl,rfl,(.same rfl)⟩,trivial⟩ rfl) (fun k24 z h=>?_)
      ·obtain ⟨k22,out23⟩:=z
       replace h : _ = some _:=h
       refine Tr.seq (sr ((md rfl (Rn.fldP (o':=0) trivial rfl rfl (Rn.load (v:=(l_ a1.Alphabet)) trivial rfl (Qm rfl) rfl rfl (Rn.lenD trivial rfl (Rn.bin trivial rfl rfl rfl (Rn.nil (toN ?_)))))))))
       refine Tr.cond rfl (fun hb25=>?_) (fun hb25=>?_)
       ·replace h:=ifT hb25 h
        refine Tr.skip (toN ?_)
        refine Tr.cutB (fun (out39 : List Qe)=>⟨look [(1,.ptr (Γ.n0 + 1) 0),(2,.ptr (Γ.n0 + 2) 0),(3,.own 1 (List.map (eI .i64) x3)),(4,.ptr (Γ.n0 + 4) 0),(5,(i_ i6)),(6,(i_ k22))],Qo Γ.n0 (bxs [(1,.cells ((Qd a1))),(2,.cells ([.own 1 (List.map (eI .i64) c7),(i_ 0),.own 1 (List.map (eI .i64) c8),.own 3 (List.map Qc c9)])),(4,.cells ([(l_ x5.Alphabet),(i_ (x3.length : Int)),.own 1 (List.map (eI .i64) out21),.own 3 (List.map Qc out39)]))]) M,Γ.n0 + 71⟩) h (fun z h=>?_) (fun z h=>?_)
        ·refine Tr.block (Tr.seq ?_)
         refine Tr.rgnD (by decide) ?_
         refine Rn.load (v:=(Qa a1)) trivial rfl (Qm rfl) rfl rfl (Rn.mov (v:=(l_ x3)) trivial rfl (md rfl ?_))
         obtain ⟨x26,h27,h⟩:=bnd h
         refine Rn.idxD (e:=(eI .i64)) trivial rfl rfl h27 (Rn.loadC (x:=.int .i64 x26) trivial rfl (Rn.fldP (o':=0) trivial rfl rfl (Rn.load (v:=(l_ a1.Alphabet)) trivial rfl (Qm rfl) rfl rfl (md rfl ?_))))
         obtain ⟨x28,h29,h⟩:=bnd h
         refine Rn.idxD (e:=(eI .i64)) trivial rfl rfl h29 (Rn.loadC (x:=.int .i64 x28) trivial rfl ?_)
         obtain ⟨x31,h30,h⟩:=bnd h
         refine Rn.call (args:=[(Qa a1),(i_ x26),(i_ x28)]) trivial rfl (H_overseerref03_Step _ _ _ _ h30) pc0 (md rfl ?_)
         refine Rn.nil ⟨rfl,?_⟩
         refine toN (sr ((md rfl (Rn.bin trivial rfl rfl rfl (Rn.nil (toN ?_))))))
         refine Tr.cond rfl (fun hb32=>?_) (fun hb32=>?_)
         ·replace h:=ifT hb32 h
          refine Tr.rgnD (by decide) ?_
          refine Rn.fldP (o':=3) trivial rfl rfl (Rn.loadT (cs':=[(l_ x5.Alphabet),(i_ (x3.length : Int)),.own 1 (List.map (eI .i64) out21),.d (.lst 3 (List.map Qc out23))]) trivial rfl rfl rfl rfl (md rfl (Rn.fldP (o':=0) trivial rfl rfl (Rn.load (v:=(l_ a1.Alphabet)) trivial rfl (Qm rfl) rfl rfl (md rfl ?_)))))
          obtain ⟨x33,h34,h⟩:=bnd h
          refine Rn.idxD (e:=(eI .i64)) trivial rfl rfl h34 (Rn.loadC (x:=.int .i64 x33) trivial rfl (Rn.mov (v:=(l_ x3)) trivial rfl (md rfl ?_)))
          obtain ⟨x36,h35,h⟩:=bnd h
          refine Rn.call (args:=[(l_ x3),(i_ x31)]) trivial rfl (H_overseerref03_index _ _ _ h35) pc2 (Rn.build (v:=.agg [(i_ i6),(i_ x33),(i_ x36)]) trivial rfl (Rn.bslice (xs:=[.agg [(i_ i6),(i_ x33),(i_ x36)]]) (cs:=[(i_ i6),(i_ x33),(i_ x36)]) trivial rfl rfl rfl rfl ?_))
          obtain ⟨x37,h38,h⟩:=bnd h
          refine Rn.app (e:=Qc) trivial rfl rfl rfl (Qcc rfl rfl rfl) h38 rfl (Rn.fldP (o':=3) trivial rfl rfl (Rn.storeO (cs':=[(l_ x5.Alphabet),(i_ (x3.length : Int)),.own 1 (List.map (eI .i64) out21),.own 3 (List.map Qc x37)]) trivial rfl rfl rfl rfl rfl ?_))
          refine Rn.nil ⟨rfl,?_⟩
          replace h:=si h; subst h
          exact Qi [67] ⟨(kPtr rfl),(kPtr rfl),(sm rfl),(kPtr rfl),(sm rfl),(sm rfl),trivial⟩ ⟨⟨_,rfl,rfl,(.same rfl)⟩,⟨_,rfl,rfl,(.same rfl)⟩,⟨_,rfl,rfl,(.same rfl)⟩,trivial⟩ rfl
         ·replace h:=ifF hb32 h
          refine Tr.skip ?_
          replace h:=si h; subst h
          exact Qi [] ⟨(kPtr rfl),(kPtr rfl),(sm rfl),(kPtr rfl),(sm rfl),(sm rfl),trivial⟩ ⟨⟨_,rfl,rfl,(.same rfl)⟩,⟨_,rfl,rfl,(.same rfl)⟩,⟨_,rfl,rfl,(.same rfl)⟩,trivial⟩ rfl
        ·obtain ⟨out39,rfl⟩ : ∃ x,x = z:=⟨_,rfl⟩
         refine Tr.rgn (md rfl (Rn.bin trivial rfl rfl rfl (md rfl (Rn.nil ?_))))
         exact ⟨_,h,(by exact Qj ⟨(kPtr rfl),(kPtr rfl),(sm rfl),(kPtr rfl),(sm rfl),(sm rfl),trivial⟩ ⟨⟨_,rfl,rfl,(.same rfl)⟩,⟨_,rfl,rfl,(.same rfl)⟩,⟨_,rfl,rfl,(.same rfl)⟩,trivial⟩ rfl)⟩
       ·replace h:=ifF hb25 h
        refine Tr.exit ?_
        replace h:=si h; subst h
        exact Qi [] ⟨(kPtr rfl),(kPtr rfl),(sm rfl),(kPtr rfl),(sm rfl),trivial⟩ ⟨⟨_,rfl,rfl,(.same rfl)⟩,⟨_,rfl,rfl,(.same rfl)⟩,⟨_,rfl,rfl,(.same rfl)⟩,trivial⟩ rfl
    ·obtain ⟨out40,out41⟩:=z
     refine Tr.rgn (md rfl (Rn.bin trivial rfl rfl rfl (md rfl (Rn.nil ?_))))
     exact ⟨_,h,(by exact Qj ⟨(kPtr rfl),(kPtr rfl),(sm rfl),(kPtr rfl),(sm rfl),trivial⟩ ⟨⟨_,rfl,rfl,(.same rfl)⟩,⟨_,rfl,rfl,(.same rfl)⟩,⟨_,rfl,rfl,(.same rfl)⟩,trivial⟩ rfl)⟩
   ·replace h:=ifF hb13 h
    refine Tr.exit ?_
    replace h:=si h; subst h
    exact Qi [] ⟨(kPtr rfl),(kPtr rfl),trivial⟩ ⟨⟨_,rfl,rfl,(.same rfl)⟩,⟨_,rfl,rfl,(.same rfl)⟩,⟨_,rfl,rfl,(.same rfl)⟩,trivial⟩ rfl
 ·obtain ⟨c42,c43,c44,out45,out46⟩:=z
  refine sr ((Rn.load (v:=.agg [(l_ x5.Alphabet),(i_ (x3.length : Int)),(l_ out45),.d (.lst 3 (List.map Qc out46))]) trivial rfl (Qm rfl) rfl rfl (Rn.storeT (v:=.agg [(l_ x5.Alphabet),(i_ (x3.length : Int)),(l_ out45),.d (.lst 3 (List.map Qc out46))]) (ds:=[(l_ x5.Alphabet),(i_ (x3.length : Int)),(l_ out45),.d (.lst 3 (List.map Qc out46))]) (cs':=[(l_ x5.Alphabet),(i_ (x3.length : Int)),(l_ out45),.d (.lst 3 (List.map Qc out46))]) trivial rfl rfl rfl rfl rfl rfl rfl (nt ((Tr.ret ?_))))))
  replace h:=si h; subst h
  exact ⟨.inr rfl,(.agg [(l_ x5.Alphabet),(i_ (x3.length : Int)),(l_ out45),.d (.lst 3 (List.map Qc out46))]),Qib rfl rfl rfl rfl,fun _ _ _ _ h=>h,⟨trivial,trivial,trivial,trivial,trivial⟩,fun k hk=>Qf hk⟩
theorem Qxj {P : Program} {c : Nat} {Q2 : (List Int) → Option Qb} {Qbl : Qb → Option Qb}
    (H_overseerref03_Empty : Qff P 36 Q2)
    (H_overseerref03_Canonical : Qfs P 37 Qbl) (hcf : Qw P c = some Qin) (fuel : Nat) : Qim P c (Qb6 Q2 Qbl fuel):=by
 intro alphabet1 g2 r h
 refine Qce hcf rfl fun Γ M hP hnt hM=>?_
 subst hP
 refine Tr.init [(0,(l_ alphabet1)),(1,.agg [.d (.int .u8 g2.States),.d (.int .u8 g2.Marks),.d (.int .u8 g2.To.1.1),.d (.int .u8 g2.To.1.2.1),.d (.int .u8 g2.To.1.2.2.1),.d (.int .u8 g2.To.1.2.2.2.1),.d (.int .u8 g2.To.1.2.2.2.2),.d (.int .u8 g2.To.2.1.1),.d (.int .u8 g2.To.2.1.2.1),.d (.int .u8 g2.To.2.1.2.2.1),.d (.int .u8 g2.To.2.1.2.2.2.1),.d (.int .u8 g2.To.2.1.2.2.2.2),.d (.int .u8 g2.To.2.2.1.1),.d (.int .u8 g2.To.2.2.1.2.1),.d (.int .u8 g2.To.2.2.1.2.2.1),.d (.int .u8 g2.To.2.2.1.2.2.2.1),.d (.int .u8 g2.To.2.2.1.2.2.2.2),.d (.int .u8 g2.To.2.2.2.1.1),.d (.int .u8 g2.To.2.2.2.1.2.1),.d (.int .u8 g2.To.2.2.2.1.2.2.1),.d (.int .u8 g2.To.2.2.2.1.2.2.2.1),.d (.int .u8 g2.To.2.2.2.1.2.2.2.2),.d (.int .u8 g2.To.2.2.2.2.1),.d (.int .u8 g2.To.2.2.2.2.2.1),.d (.int .u8 g2.To.2.2.2.2.2.2.1),.d (.int .u8 g2.To.2.2.2.2.2.2.2.1),.d (.int .u8 g2.To.2.2.2.2.2.2.2.2)])] rfl ?_
 unfold Qb6 at h
 unfold Qin
 refine sr ((Rn.box (v:=.agg [.d (.int .u8 g2.States),.d (.int .u8 g2.Marks),.d (.int .u8 g2.To.1.1),.d (.int .u8 g2.To.1.2.1),.d (.int .u8 g2.To.1.2.2.1),.d (.int .u8 g2.To.1.2.2.2.1),.d (.int .u8 g2.To.1.2.2.2.2),.d (.int .u8 g2.To.2.1.1),.d (.int .u8 g2.To.2.1.2.1),.d (.int .u8 g2.To.2.1.2.2.1),.d (.int .u8 g2.To.2.1.2.2.2.1),.d (.int .u8 g2.To.2.1.2.2.2.2),.d (.int .u8 g2.To.2.2.1.1),.d (.int .u8 g2.To.2.2.1.2.1),.d (.int .u8 g2.To.2.2.1.2.2.1),.d (.int .u8 g2.To.2.2.1.2.2.2.1),.d (.int .u8 g2.To.2.2.1.2.2.2.2),.d (.int .u8 g2.To.2.2.2.1.1),.d (.int .u8 g2.To.2.2.2.1.2.1),.d (.int .u8 g2.To.2.2.2.1.2.2.1),.d (.int .u8 g2.To.2.2.2.1.2.2.2.1),.d (.int .u8 g2.To.2.2.2.1.2.2.2.2),.d (.int .u8 g2.To.2.2.2.2.1),.d (.int .u8 g2.To.2.2.2.2.2.1),.d (.int .u8 g2.To.2.2.2.2.2.2.1),.d (.int .u8 g2.To.2.2.2.2.2.2.2.1),.d (.int .u8 g2.To.2.2.2.2.2.2.2.2)]) (cs:=[.d (.int .u8 g2.States),.d (.int .u8 g2.Marks),.d (.int .u8 g2.To.1.1),.d (.int .u8 g2.To.1.2.1),.d (.int .u8 g2.To.1.2.2.1),.d (.int .u8 g2.To.1.2.2.2.1),.d (.int .u8 g2.To.1.2.2.2.2),.d (.int .u8 g2.To.2.1.1),.d (.int .u8 g2.To.2.1.2.1),.d (.int .u8 g2.To.2.1.2.2.1),.d (.int .u8 g2.To.2.1.2.2.2.1),.d (.int .u8 g2.To.2.1.2.2.2.2),.d (.int .u8 g2.To.2.2.1.1),.d (.int .u8 g2.To.2.2.1.2.1),.d (.int .u8 g2.To.2.2.1.2.2.1),.d (.int .u8 g2.To.2.2.1.2.2.2.1),.d (.int .u8 g2.To.2.2.1.2.2.2.2),.d (.int .u8 g2.To.2.2.2.1.1),.d (.int .u8 g2.To.2.2.2.1.2.1),.d (.int .u8 g2.To.2.2.2.1.2.2.1),.d (.int .u8 g2.To.2.2.2.1.2.2.2.1),.d (.int .u8 g2.To.2.2.2.1.2.2.2.2),.d (.int .u8 g2.To.2.2.2.2.1),.d (.int .u8 g2.To.2.2.2.2.2.1),.d (.int .u8 g2.To.2.2.2.2.2.2.1),.d (.int .u8 g2.To.2.2.2.2.2.2.2.1),.d (.int .u8 g2.To.2.2.2.2.2.2.2.2)]) trivial rfl rfl rfl rfl rfl (Rn.alloc trivial rfl (nt ((Tr.seq (sr ((Rn.fldP (o':=0) trivial rfl rfl (Rn.load (v:=.d (.int .u8 g2.States)) trivial rfl (Qm rfl) rfl rfl (Rn.bin trivial rfl rfl rfl (Rn.nil (toN ?_)))))))))))))
 refine Tr.cond rfl (fun hb3=>?_) (fun hb3=>?_)
 ·replace h:=ifT hb3 h
  refine sr ((md rfl ?_))
  obtain ⟨x5,h4,h⟩:=bnd h
  refine Rn.call (args:=[(l_ alphabet1)]) trivial rfl (H_overseerref03_Empty _ _ h4) pc9 (Rn.storeT (v:=.agg [(l_ x5.Alphabet),(i_ x5.States),.nils 1,.nils 3]) (ds:=[(l_ x5.Alphabet),(i_ x5.States),.nils 1,.nils 3]) (cs':=[(l_ x5.Alphabet),(i_ x5.States),.nils 1,.nils 3]) trivial rfl rfl rfl rfl rfl rfl rfl (nt ((Tr.ret ?_))))
  replace h:=si h; subst h
  exact ⟨.inr rfl,(.agg [(l_ x5.Alphabet),(i_ x5.States),.nils 1,.nils 3]),Qib rfl rfl rfl rfl,(WkV.agg (.cons (.same rfl) (.cons (.same rfl) (.cons (WkV.nilsD _) (.cons (WkV.nilsD _) .nil))))).rd,⟨trivial,trivial,trivial,trivial,trivial⟩,fun k hk=>Qf hk⟩
 ·replace h:=ifF hb3 h
  refine Tr.skip (toN (sr ((md rfl ?_))))
  obtain ⟨x7,h6,h⟩:=bnd h
  refine Rn.call (args:=[(l_ alphabet1)]) trivial rfl (H_overseerref03_Empty _ _ h6) pc9 (Rn.alloc trivial rfl (Rn.storeT (v:=.agg [(l_ x7.Alphabet),(i_ x7.States),.nils 1,.nils 3]) (ds:=[(l_ x7.Alphabet),(i_ x7.States),.nils 1,.nils 3]) (cs':=[(l_ x7.Alphabet),(i_ x7.States),.nils 1,.nils 3]) trivial rfl rfl rfl rfl rfl rfl rfl (nt ((sr ((Rn.fldP (o':=0) trivial rfl rfl (Rn.load (v:=.d (.int .u8 g2.States)) trivial rfl (Qm rfl) rfl rfl (Rn.bin trivial rfl rfl rfl (Rn.conv trivial rfl (Rn.bin trivial rfl rfl rfl (Rn.fldP (o':=1) trivial rfl rfl (Rn.store (v:=(i_ (IntKind.wrap .i64 (1 + (IntKind.wrap .i64 (Int.tmod g2.States 5)))))) (cs':=[(l_ x7.Alphabet),(i_ (IntKind.wrap .i64 (1 + (IntKind.wrap .i64 (Int.tmod g2.States 5))))),.nils 1,.nils 3]) trivial rfl rfl rfl rfl rfl rfl (Rn.nil (toN ?_)))))))))))))))
  refine Tr.cutB (fun ((c43,c44,c45,a46,a47,a48) : (List Int) × (List Int) × (List Qe) × Int × (List Int) × (List Qe))=>⟨look [(4,.ptr (Γ.n0 + 4) 0),(5,.ptr (Γ.n0 + 5) 0)],Qo Γ.n0 (bxs [(3,.cells ([.d (.int .u8 g2.States),.d (.int .u8 g2.Marks),.d (.int .u8 g2.To.1.1),.d (.int .u8 g2.To.1.2.1),.d (.int .u8 g2.To.1.2.2.1),.d (.int .u8 g2.To.1.2.2.2.1),.d (.int .u8 g2.To.1.2.2.2.2),.d (.int .u8 g2.To.2.1.1),.d (.int .u8 g2.To.2.1.2.1),.d (.int .u8 g2.To.2.1.2.2.1),.d (.int .u8 g2.To.2.1.2.2.2.1),.d (.int .u8 g2.To.2.1.2.2.2.2),.d (.int .u8 g2.To.2.2.1.1),.d (.int .u8 g2.To.2.2.1.2.1),.d (.int .u8 g2.To.2.2.1.2.2.1),.d (.int .u8 g2.To.2.2.1.2.2.2.1),.d (.int .u8 g2.To.2.2.1.2.2.2.2),.d (.int .u8 g2.To.2.2.2.1.1),.d (.int .u8 g2.To.2.2.2.1.2.1),.d (.int .u8 g2.To.2.2.2.1.2.2.1),.d (.int .u8 g2.To.2.2.2.1.2.2.2.1),.d (.int .u8 g2.To.2.2.2.1.2.2.2.2),.d (.int .u8 g2.To.2.2.2.2.1),.d (.int .u8 g2.To.2.2.2.2.2.1),.d (.int .u8 g2.To.2.2.2.2.2.2.1),.d (.int .u8 g2.To.2.2.2.2.2.2.2.1),.d (.int .u8 g2.To.2.2.2.2.2.2.2.2)])),(4,.cells ([.own 1 (List.map (eI .i64) c43),(i_ 0),.own 1 (List.map (eI .i64) c44),.own 3 (List.map Qc c45)])),(5,.cells ([(l_ x7.Alphabet),(i_ a46),.own 1 (List.map (eI .i64) a47),.own 3 (List.map Qc a48)]))]) M,Γ.n0 + 79⟩) h (fun z h=>?_) (fun z h=>?_)
  ·refine sr ((md rfl (nt ((Tr.block ?_)))))
   refine Tr.loop (mk:=fun ((i8,c9,c10,c11,a12,a13,a14) : Int × (List Int) × (List Int) × (List Qe) × Int × (List Int) × (List Qe))=>⟨look [(0,(l_ alphabet1)),(3,.ptr (Γ.n0 + 3) 0),(4,.ptr (Γ.n0 + 4) 0),(5,.ptr (Γ.n0 + 5) 0),(6,(i_ i8))],Qo Γ.n0 (bxs [(3,.cells ([.d (.int .u8 g2.States),.d (.int .u8 g2.Marks),.d (.int .u8 g2.To.1.1),.d (.int .u8 g2.To.1.2.1),.d (.int .u8 g2.To.1.2.2.1),.d (.int .u8 g2.To.1.2.2.2.1),.d (.int .u8 g2.To.1.2.2.2.2),.d (.int .u8 g2.To.2.1.1),.d (.int .u8 g2.To.2.1.2.1),.d (.int .u8 g2.To.2.1.2.2.1),.d (.int .u8 g2.To.2.1.2.2.2.1),.d (.int .u8 g2.To.2.1.2.2.2.2),.d (.int .u8 g2.To.2.2.1.1),.d (.int .u8 g2.To.2.2.1.2.1),.d (.int .u8 g2.To.2.2.1.2.2.1),.d (.int .u8 g2.To.2.2.1.2.2.2.1),.d (.int .u8 g2.To.2.2.1.2.2.2.2),.d (.int .u8 g2.To.2.2.2.1.1),.d (.int .u8 g2.To.2.2.2.1.2.1),.d (.int .u8 g2.To.2.2.2.1.2.2.1),.d (.int .u8 g2.To.2.2.2.1.2.2.2.1),.d (.int .u8 g2.To.2.2.2.1.2.2.2.2),.d (.int .u8 g2.To.2.2.2.2.1),.d (.int .u8 g2.To.2.2.2.2.2.1),.d (.int .u8 g2.To.2.2.2.2.2.2.1),.d (.int .u8 g2.To.2.2.2.2.2.2.2.1),.d (.int .u8 g2.To.2.2.2.2.2.2.2.2)])),(4,.cells ([.own 1 (List.map (eI .i64) c9),(i_ 0),.own 1 (List.map (eI .i64) c10),.own 3 (List.map Qc c11)])),(5,.cells ([(l_ x7.Alphabet),(i_ a12),.own 1 (List.map (eI .i64) a13),.own 3 (List.map Qc a14)]))]) M,Γ.n0 + 79⟩) h (by exact Qj ⟨(sm rfl),(kPtr rfl),(kPtr rfl),(kPtr rfl),(sm rfl),trivial⟩ ⟨⟨_,rfl,rfl,(.same rfl)⟩,⟨_,rfl,rfl,(.cons (WkV.nilsO _) (.cons (sm rfl) (.cons (WkV.nilsO _) (.cons (WkV.nilsO _) .nil))))⟩,⟨_,rfl,rfl,(.cons (sm rfl) (.cons (sm rfl) (.cons (WkV.nilsO _) (.cons (WkV.nilsO _) .nil))))⟩,trivial⟩ rfl) (fun k15 z h=>?_)
   ·obtain ⟨i8,c9,c10,c11,a12,a13,a14⟩:=z
    replace h : _ = some _:=h
    refine Tr.seq (sr ((md rfl (Rn.fldP (o':=1) trivial rfl rfl (Rn.load (v:=(i_ a12)) trivial rfl (Qm rfl) rfl rfl (Rn.bin trivial rfl rfl rfl (Rn.nil (toN ?_))))))))
    refine Tr.cond rfl (fun hb16=>?_) (fun hb16=>?_)
    ·replace h:=ifT hb16 h
     refine Tr.skip (toN ?_)
     refine Tr.cutB (fun ((a41,a42) : (List Int) × (List Qe))=>⟨look [(0,(l_ alphabet1)),(3,.ptr (Γ.n0 + 3) 0),(4,.ptr (Γ.n0 + 4) 0),(5,.ptr (Γ.n0 + 5) 0),(6,(i_ i8))],Qo Γ.n0 (bxs [(3,.cells ([.d (.int .u8 g2.States),.d (.int .u8 g2.Marks),.d (.int .u8 g2.To.1.1),.d (.int .u8 g2.To.1.2.1),.d (.int .u8 g2.To.1.2.2.1),.d (.int .u8 g2.To.1.2.2.2.1),.d (.int .u8 g2.To.1.2.2.2.2),.d (.int .u8 g2.To.2.1.1),.d (.int .u8 g2.To.2.1.2.1),.d (.int .u8 g2.To.2.1.2.2.1),.d (.int .u8 g2.To.2.1.2.2.2.1),.d (.int .u8 g2.To.2.1.2.2.2.2),.d (.int .u8 g2.To.2.2.1.1),.d (.int .u8 g2.To.2.2.1.2.1),.d (.int .u8 g2.To.2.2.1.2.2.1),.d (.int .u8 g2.To.2.2.1.2.2.2.1),.d (.int .u8 g2.To.2.2.1.2.2.2.2),.d (.int .u8 g2.To.2.2.2.1.1),.d (.int .u8 g2.To.2.2.2.1.2.1),.d (.int .u8 g2.To.2.2.2.1.2.2.1),.d (.int .u8 g2.To.2.2.2.1.2.2.2.1),.d (.int .u8 g2.To.2.2.2.1.2.2.2.2),.d (.int .u8 g2.To.2.2.2.2.1),.d (.int .u8 g2.To.2.2.2.2.2.1),.d (.int .u8 g2.To.2.2.2.2.2.2.1),.d (.int .u8 g2.To.2.2.2.2.2.2.2.1),.d (.int .u8 g2.To.2.2.2.2.2.2.2.2)])),(4,.cells ([.own 1 (List.map (eI .i64) c9),(i_ 0),.own 1 (List.map (eI .i64) c10),.own 3 (List.map Qc c11)])),(5,.cells ([(l_ x7.Alphabet),(i_ a12),.own 1 (List.map (eI .i64) a41),.own 3 (List.map Qc a42)]))]) M,Γ.n0 + 79⟩) h (fun z h=>?_) (fun z h=>?_)
     ·refine Tr.block ?_
      refine Tr.cutB (fun (a22 : List Int)=>⟨look [(0,(l_ alphabet1)),(3,.ptr (Γ.n0 + 3) 0),(4,.ptr (Γ.n0 + 4) 0),(5,.ptr (Γ.n0 + 5) 0),(6,(i_ i8))],Qo Γ.n0 (bxs [(3,.cells ([.d (.int .u8 g2.States),.d (.int .u8 g2.Marks),.d (.int .u8 g2.To.1.1),.d (.int .u8 g2.To.1.2.1),.d (.int .u8 g2.To.1.2.2.1),.d (.int .u8 g2.To.1.2.2.2.1),.d (.int .u8 g2.To.1.2.2.2.2),.d (.int .u8 g2.To.2.1.1),.d (.int .u8 g2.To.2.1.2.1),.d (.int .u8 g2.To.2.1.2.2.1),.d (.int .u8 g2.To.2.1.2.2.2.1),.d (.int .u8 g2.To.2.1.2.2.2.2),.d (.int .u8 g2.To.2.2.1.1),.d (.int .u8 g2.To.2.2.1.2.1),.d (.int .u8 g2.To.2.2.1.2.2.1),.d (.int .u8 g2.To.2.2.1.2.2.2.1),.d (.int .u8 g2.To.2.2.1.2.2.2.2),.d (.int .u8 g2.To.2.2.2.1.1),.d (.int .u8 g2.To.2.2.2.1.2.1),.d (.int .u8 g2.To.2.2.2.1.2.2.1),.d (.int .u8 g2.To.2.2.2.1.2.2.2.1),.d (.int .u8 g2.To.2.2.2.1.2.2.2.2),.d (.int .u8 g2.To.2.2.2.2.1),.d (.int .u8 g2.To.2.2.2.2.2.1),.d (.int .u8 g2.To.2.2.2.2.2.2.1),.d (.int .u8 g2.To.2.2.2.2.2.2.2.1),.d (.int .u8 g2.To.2.2.2.2.2.2.2.2)])),(4,.cells ([.own 1 (List.map (eI .i64) c9),(i_ 0),.own 1 (List.map (eI .i64) c10),.own 3 (List.map Qc c11)])),(5,.cells ([(l_ x7.Alphabet),(i_ a12),.own 1 (List.map (eI .i64) a22),.own 3 (List.map Qc a14)]))]) M,Γ.n0 + 79⟩) h (fun z h=>?_) (fun z h=>?_)
      ·refine sr ((Rn.fldP (o':=1) trivial rfl rfl (Rn.load (v:=.d (.int .u8 g2.Marks)) trivial rfl (Qm rfl) rfl rfl (md rfl ?_))))
       obtain ⟨s17,h18,h⟩:=bnd h
       refine Rn.bin trivial rfl rfl (Qbfx h18) (Rn.bin trivial rfl rfl rfl (Rn.bin trivial rfl rfl rfl (Rn.nil (toN ?_))))
       refine Tr.cond rfl (fun hb19=>?_) (fun hb19=>?_)
       ·replace h:=bT hb19 h
        refine Tr.rgn (Rn.fldP (o':=2) trivial rfl rfl (Rn.loadT (cs':=[(l_ x7.Alphabet),(i_ a12),(l_ a13),.own 3 (List.map Qc a14)]) trivial rfl rfl rfl rfl (md rfl (Rn.bslice (xs:=[(i_ i8)]) (cs:=[(i_ i8)]) trivial rfl rfl rfl rfl ?_))))
        obtain ⟨x20,h21,h⟩:=bnd h
        refine Rn.app (e:=(eI .i64)) trivial rfl rfl rfl (Qcc rfl rfl rfl) h21 rfl (Rn.fldP (o':=2) trivial rfl rfl (Rn.storeO (cs':=[(l_ x7.Alphabet),(i_ a12),.own 1 (List.map (eI .i64) x20),.own 3 (List.map Qc a14)]) trivial rfl rfl rfl rfl rfl (Rn.nil ?_)))
        replace h:=si h; subst h
        exact Qi [37] ⟨(sm rfl),(kPtr rfl),(kPtr rfl),(kPtr rfl),(sm rfl),trivial⟩ ⟨⟨_,rfl,rfl,(.same rfl)⟩,⟨_,rfl,rfl,(.same rfl)⟩,⟨_,rfl,rfl,(.same rfl)⟩,trivial⟩ rfl
       ·replace h:=bF hb19 h
        refine Tr.skip ?_
        replace h:=si h; subst h
        exact Qi [] ⟨(sm rfl),(kPtr rfl),(kPtr rfl),(kPtr rfl),(sm rfl),trivial⟩ ⟨⟨_,rfl,rfl,(.same rfl)⟩,⟨_,rfl,rfl,(.same rfl)⟩,⟨_,rfl,rfl,(.same rfl)⟩,trivial⟩ rfl
      ·obtain ⟨a22,rfl⟩ : ∃ x,x = z:=⟨_,rfl⟩
       refine sr ((md rfl (nt ((Tr.block ?_)))))
       refine Tr.loop (mk:=fun ((k23,a24) : Int × (List Qe))=>⟨look [(0,(l_ alphabet1)),(3,.ptr (Γ.n0 + 3) 0),(4,.ptr (Γ.n0 + 4) 0),(5,.ptr (Γ.n0 + 5) 0),(6,(i_ i8)),(7,(i_ k23))],Qo Γ.n0 (bxs [(3,.cells ([.d (.int .u8 g2.States),.d (.int .u8 g2.Marks),.d (.int .u8 g2.To.1.1),.d (.int .u8 g2.To.1.2.1),.d (.int .u8 g2.To.1.2.2.1),.d (.int .u8 g2.To.1.2.2.2.1),.d (.int .u8 g2.To.1.2.2.2.2),.d (.int .u8 g2.To.2.1.1),.d (.int .u8 g2.To.2.1.2.1),.d (.int .u8 g2.To.2.1.2.2.1),.d (.int .u8 g2.To.2.1.2.2.2.1),.d (.int .u8 g2.To.2.1.2.2.2.2),.d (.int .u8 g2.To.2.2.1.1),.d (.int .u8 g2.To.2.2.1.2.1),.d (.int .u8 g2.To.2.2.1.2.2.1),.d (.int .u8 g2.To.2.2.1.2.2.2.1),.d (.int .u8 g2.To.2.2.1.2.2.2.2),.d (.int .u8 g2.To.2.2.2.1.1),.d (.int .u8 g2.To.2.2.2.1.2.1),.d (.int .u8 g2.To.2.2.2.1.2.2.1),.d (.int .u8 g2.To.2.2.2.1.2.2.2.1),.d (.int .u8 g2.To.2.2.2.1.2.2.2.2),.d (.int .u8 g2.To.2.2.2.2.1),.d (.int .u8 g2.To.2.2.2.2.2.1),.d (.int .u8 g2.To.2.2.2.2.2.2.1),.d (.int .u8 g2.To.2.2.2.2.2.2.2.1),.d (.int .u8 g2.To.2.2.2.2.2.2.2.2)])),(4,.cells ([.own 1 (List.map (eI .i64) c9),(i_ 0),.own 1 (List.map (eI .i64) c10),.own 3 (List.map Qc c11)])),(5,.cells ([(l_ x7.Alphabet),(i_ a12),.own 1 (List.map (eI .i64) a22),.own 3 (List.map Qc a24)]))]) M,Γ.n0 + 79⟩) h (by exact Qj ⟨(sm rfl),(kPtr rfl),(kPtr rfl),(kPtr rfl),(sm rfl),(sm rfl),trivial⟩ ⟨⟨_,rfl,rfl,(.same rfl)⟩,⟨_,rfl,rfl,(.same rfl)⟩,⟨_,rfl,rfl,(.same rfl)⟩,trivial⟩ rfl) (fun k25 z h=>?_)
       ·obtain ⟨k23,a24⟩:=z
        replace h : _ = some _:=h
        refine Tr.seq ?_
        refine Tr.cutB (fun (x27 : Bool)=>⟨look [(0,(l_ alphabet1)),(3,.ptr (Γ.n0 + 3) 0),(4,.ptr (Γ.n0 + 4) 0),(5,.ptr (Γ.n0 + 5) 0),(6,(i_ i8)),(7,(i_ k23)),(47,(b_ x27))],Qo Γ.n0 (bxs [(3,.cells ([.d (.int .u8 g2.States),.d (.int .u8 g2.Marks),.d (.int .u8 g2.To.1.1),.d (.int .u8 g2.To.1.2.1),.d (.int .u8 g2.To.1.2.2.1),.d (.int .u8 g2.To.1.2.2.2.1),.d (.int .u8 g2.To.1.2.2.2.2),.d (.int .u8 g2.To.2.1.1),.d (.int .u8 g2.To.2.1.2.1),.d (.int .u8 g2.To.2.1.2.2.1),.d (.int .u8 g2.To.2.1.2.2.2.1),.d (.int .u8 g2.To.2.1.2.2.2.2),.d (.int .u8 g2.To.2.2.1.1),.d (.int .u8 g2.To.2.2.1.2.1),.d (.int .u8 g2.To.2.2.1.2.2.1),.d (.int .u8 g2.To.2.2.1.2.2.2.1),.d (.int .u8 g2.To.2.2.1.2.2.2.2),.d (.int .u8 g2.To.2.2.2.1.1),.d (.int .u8 g2.To.2.2.2.1.2.1),.d (.int .u8 g2.To.2.2.2.1.2.2.1),.d (.int .u8 g2.To.2.2.2.1.2.2.2.1),.d (.int .u8 g2.To.2.2.2.1.2.2.2.2),.d (.int .u8 g2.To.2.2.2.2.1),.d (.int .u8 g2.To.2.2.2.2.2.1),.d (.int .u8 g2.To.2.2.2.2.2.2.1),.d (.int .u8 g2.To.2.2.2.2.2.2.2.1),.d (.int .u8 g2.To.2.2.2.2.2.2.2.2)])),(4,.cells ([.own 1 (List.map (eI .i64) c9),(i_ 0),.own 1 (List.map (eI .i64) c10),.own 3 (List.map Qc c11)])),(5,.cells ([(l_ x7.Alphabet),(i_ a12),.own 1 (List.map (eI .i64) a22),.own 3 (List.map Qc a24)]))]) M,Γ.n0 + 79⟩) h (fun z h=>?_) (fun z h=>?_)
        ·refine Tr.rgn (md rfl (md rfl (Rn.lenD trivial rfl (Rn.bin trivial rfl rfl rfl (md rfl ?_)))))
         refine Qdo (decide (k23 < (alphabet1.length : Int))) (fun hb26=>?_) (fun hb26=>?_)
         ·replace h:=ifT hb26 h
          refine Rn.movD (gw rfl hb26) rfl (Rn.bin (gw rfl hb26) rfl rfl rfl (Rn.pickT (v:=(b_ (decide (k23 < 5)))) trivial rfl hb26 rfl (Rn.nil ?_)))
          replace h:=si h; subst h
          exact Qi [] ⟨(sm rfl),(kPtr rfl),(kPtr rfl),(kPtr rfl),(sm rfl),(sm rfl),(sm rfl),trivial⟩ ⟨⟨_,rfl,rfl,(.same rfl)⟩,⟨_,rfl,rfl,(.same rfl)⟩,⟨_,rfl,rfl,(.same rfl)⟩,trivial⟩ rfl
         ·replace h:=ifF hb26 h
          refine Rn.sk (nw rfl hb26) (Rn.sk (nw rfl hb26) (Rn.pickF (v:=(b_ false)) trivial rfl hb26 rfl (Rn.nil ?_)))
          replace h:=si h; subst h
          exact Qi [] ⟨(sm rfl),(kPtr rfl),(kPtr rfl),(kPtr rfl),(sm rfl),(sm rfl),(sm rfl),trivial⟩ ⟨⟨_,rfl,rfl,(.same rfl)⟩,⟨_,rfl,rfl,(.same rfl)⟩,⟨_,rfl,rfl,(.same rfl)⟩,trivial⟩ rfl
        ·obtain ⟨x27,rfl⟩ : ∃ x,x = z:=⟨_,rfl⟩
         refine Tr.cond rfl (fun hb28=>?_) (fun hb28=>?_)
         ·replace h:=bT hb28 h
          refine Tr.skip (toN ?_)
          refine Tr.cutB (fun (a40 : List Qe)=>⟨look [(0,(l_ alphabet1)),(3,.ptr (Γ.n0 + 3) 0),(4,.ptr (Γ.n0 + 4) 0),(5,.ptr (Γ.n0 + 5) 0),(6,(i_ i8)),(7,(i_ k23))],Qo Γ.n0 (bxs [(3,.cells ([.d (.int .u8 g2.States),.d (.int .u8 g2.Marks),.d (.int .u8 g2.To.1.1),.d (.int .u8 g2.To.1.2.1),.d (.int .u8 g2.To.1.2.2.1),.d (.int .u8 g2.To.1.2.2.2.1),.d (.int .u8 g2.To.1.2.2.2.2),.d (.int .u8 g2.To.2.1.1),.d (.int .u8 g2.To.2.1.2.1),.d (.int .u8 g2.To.2.1.2.2.1),.d (.int .u8 g2.To.2.1.2.2.2.1),.d (.int .u8 g2.To.2.1.2.2.2.2),.d (.int .u8 g2.To.2.2.1.1),.d (.int .u8 g2.To.2.2.1.2.1),.d (.int .u8 g2.To.2.2.1.2.2.1),.d (.int .u8 g2.To.2.2.1.2.2.2.1),.d (.int .u8 g2.To.2.2.1.2.2.2.2),.d (.int .u8 g2.To.2.2.2.1.1),.d (.int .u8 g2.To.2.2.2.1.2.1),.d (.int .u8 g2.To.2.2.2.1.2.2.1),.d (.int .u8 g2.To.2.2.2.1.2.2.2.1),.d (.int .u8 g2.To.2.2.2.1.2.2.2.2),.d (.int .u8 g2.To.2.2.2.2.1),.d (.int .u8 g2.To.2.2.2.2.2.1),.d (.int .u8 g2.To.2.2.2.2.2.2.1),.d (.int .u8 g2.To.2.2.2.2.2.2.2.1),.d (.int .u8 g2.To.2.2.2.2.2.2.2.2)])),(4,.cells ([.own 1 (List.map (eI .i64) c9),(i_ 0),.own 1 (List.map (eI .i64) c10),.own 3 (List.map Qc c11)])),(5,.cells ([(l_ x7.Alphabet),(i_ a12),.own 1 (List.map (eI .i64) a22),.own 3 (List.map Qc a40)]))]) M,Γ.n0 + 79⟩) h (fun z h=>?_) (fun z h=>?_)
          ·refine Tr.block (Tr.seq ?_)
           refine Tr.rgnD (by decide) ?_
           refine md rfl (md rfl (Rn.fldP (o':=2) trivial rfl rfl ?_))
           obtain ⟨⟨⟩,h29,h⟩:=bnd h
           refine Rn.idxArr (o':=2 + (Int.toNat i8 * 5)) trivial rfl rfl rfl h29 ?_
           obtain ⟨⟨⟩,h30,h⟩:=bnd h
           refine Rn.idxArr (o':=2 + (Int.toNat i8 * 5 + Int.toNat k23 * 1)) trivial rfl rfl (Nat.add_assoc ..).symm h30 ?_
           obtain ⟨x31,h32,h⟩:=bnd h
           refine Rn.loadArr (e:=(fun (z : Int)=>.int .u8 z)) (pre:=[.d (.int .u8 g2.States),.d (.int .u8 g2.Marks)]) (post:=[]) trivial rfl rfl (Qm rfl) rfl rfl h32 (Rn.conv trivial rfl (Rn.fldP (o':=1) trivial rfl rfl (Rn.load (v:=(i_ a12)) trivial rfl (Qm rfl) rfl rfl (Rn.bin trivial rfl rfl rfl ?_))))
           obtain ⟨s33,h34,h⟩:=bnd h
           refine Rn.bin trivial rfl rfl (Qbl8 h34) (md rfl ?_)
           refine Rn.nil ⟨rfl,?_⟩
           refine toN (sr ((md rfl (Rn.fldP (o':=1) trivial rfl rfl (Rn.load (v:=(i_ a12)) trivial rfl (Qm rfl) rfl rfl (Rn.bin trivial rfl rfl rfl (Rn.nil (toN ?_))))))))
           refine Tr.cond rfl (fun hb35=>?_) (fun hb35=>?_)
           ·replace h:=ifT hb35 h
            refine Tr.rgnD (by decide) ?_
            refine Rn.fldP (o':=3) trivial rfl rfl (Rn.loadT (cs':=[(l_ x7.Alphabet),(i_ a12),.own 1 (List.map (eI .i64) a22),.d (.lst 3 (List.map Qc a24))]) trivial rfl rfl rfl rfl (md rfl (md rfl (md rfl ?_))))
            obtain ⟨x36,h37,h⟩:=bnd h
            refine Rn.idxD (e:=(eI .i64)) trivial rfl rfl h37 (Rn.loadC (x:=.int .i64 x36) trivial rfl (md rfl (Rn.build (v:=.agg [(i_ i8),(i_ x36),(i_ s33)]) trivial rfl (Rn.bslice (xs:=[.agg [(i_ i8),(i_ x36),(i_ s33)]]) (cs:=[(i_ i8),(i_ x36),(i_ s33)]) trivial rfl rfl rfl rfl ?_))))
            obtain ⟨x38,h39,h⟩:=bnd h
            refine Rn.app (e:=Qc) trivial rfl rfl rfl (Qcc rfl rfl rfl) h39 rfl (Rn.fldP (o':=3) trivial rfl rfl (Rn.storeO (cs':=[(l_ x7.Alphabet),(i_ a12),.own 1 (List.map (eI .i64) a22),.own 3 (List.map Qc x38)]) trivial rfl rfl rfl rfl rfl ?_))
            refine Rn.nil ⟨rfl,?_⟩
            replace h:=si h; subst h
            exact Qi [74] ⟨(sm rfl),(kPtr rfl),(kPtr rfl),(kPtr rfl),(sm rfl),(sm rfl),trivial⟩ ⟨⟨_,rfl,rfl,(.same rfl)⟩,⟨_,rfl,rfl,(.same rfl)⟩,⟨_,rfl,rfl,(.same rfl)⟩,trivial⟩ rfl
           ·replace h:=ifF hb35 h
            refine Tr.skip ?_
            replace h:=si h; subst h
            exact Qi [] ⟨(sm rfl),(kPtr rfl),(kPtr rfl),(kPtr rfl),(sm rfl),(sm rfl),trivial⟩ ⟨⟨_,rfl,rfl,(.same rfl)⟩,⟨_,rfl,rfl,(.same rfl)⟩,⟨_,rfl,rfl,(.same rfl)⟩,trivial⟩ rfl
          ·obtain ⟨a40,rfl⟩ : ∃ x,x = z:=⟨_,rfl⟩
           refine Tr.rgn (md rfl (Rn.bin trivial rfl rfl rfl (md rfl (Rn.nil ?_))))
           exact ⟨_,h,(by exact Qj ⟨(sm rfl),(kPtr rfl),(kPtr rfl),(kPtr rfl),(sm rfl),(sm rfl),trivial⟩ ⟨⟨_,rfl,rfl,(.same rfl)⟩,⟨_,rfl,rfl,(.same rfl)⟩,⟨_,rfl,rfl,(.same rfl)⟩,trivial⟩ rfl)⟩
         ·replace h:=bF hb28 h
          refine Tr.exit ?_
          replace h:=si h; subst h
          exact Qi [] ⟨(sm rfl),(kPtr rfl),(kPtr rfl),(kPtr rfl),(sm rfl),trivial⟩ ⟨⟨_,rfl,rfl,(.same rfl)⟩,⟨_,rfl,rfl,(.same rfl)⟩,⟨_,rfl,rfl,(.same rfl)⟩,trivial⟩ rfl
     ·obtain ⟨a41,a42⟩:=z
      refine Tr.rgn (md rfl (Rn.bin trivial rfl rfl rfl (md rfl (Rn.nil ?_))))
      exact ⟨_,h,(by exact Qj ⟨(sm rfl),(kPtr rfl),(kPtr rfl),(kPtr rfl),(sm rfl),trivial⟩ ⟨⟨_,rfl,rfl,(.same rfl)⟩,⟨_,rfl,rfl,(.same rfl)⟩,⟨_,rfl,rfl,(.same rfl)⟩,trivial⟩ rfl)⟩
    ·replace h:=ifF hb16 h
     refine Tr.exit ?_
     replace h:=si h; subst h
     exact Qi [] ⟨(kPtr rfl),(kPtr rfl),trivial⟩ ⟨⟨_,rfl,rfl,(.same rfl)⟩,⟨_,rfl,rfl,(.same rfl)⟩,⟨_,rfl,rfl,(.same rfl)⟩,trivial⟩ rfl
  ·obtain ⟨c43,c44,c45,a46,a47,a48⟩:=z
   refine sr ((Rn.load (v:=.agg [(l_ x7.Alphabet),(i_ a46),(l_ a47),.d (.lst 3 (List.map Qc a48))]) trivial rfl (Qm rfl) rfl rfl ?_))
   obtain ⟨x50,h49,h⟩:=bnd h
   refine Rn.call (args:=[.agg [(l_ x7.Alphabet),(i_ a46),(l_ a47),.d (.lst 3 (List.map Qc a48))]]) trivial rfl (H_overseerref03_Canonical _ _ h49) pc9 (Rn.storeT (v:=(Qa x50)) (ds:=(Qd x50)) (cs':=(Qd x50)) trivial rfl rfl rfl rfl rfl rfl rfl (nt ((Tr.ret ?_))))
   replace h:=si h; subst h
   exact ⟨.inr rfl,(Qa x50),Qib rfl rfl rfl rfl,fun _ _ _ _ h=>h,⟨trivial,trivial,trivial,trivial,trivial⟩,fun k hk=>Qf hk⟩
theorem Qtd {P : Program} {c : Nat} {Qu : Qb → (List Int) → Option Int} {Qv : Qb → (List Int) → Option Qg} {Qy : Qg → Option ((List Int))} {Qt : Qg → (List Int) → Int → Option ((List Int))} {Qr : Qg → (List Int) → Option Bool}
    (H_projection_check : Qdp P 38 Qu)
    (H_projection_observe : Qdv P 39 Qv)
    (H_projection_observer_start : Qdr P 40 Qy)
    (H_projection_observer_next : Qc9 P 43 Qt)
    (H_projection_observer_known : Qcz P 52 Qr) (hcf : Qw P c = some Qhn) (fuel : Nat) : Qhm P c (Qbt Qu Qv Qy Qt Qr fuel):=by
 intro a1 onto2 observation3 r h
 refine Qce hcf rfl fun Γ M hP hnt hM=>?_
 subst hP
 refine Tr.init [(0,(Qa a1)),(1,(l_ onto2)),(2,(l_ observation3))] rfl ?_
 unfold Qbt at h
 unfold Qhn
 refine sr ((Rn.box (v:=(Qa a1)) (cs:=(Qd a1)) trivial rfl rfl rfl rfl rfl (Rn.movTC (v:=.nils 1) trivial (md rfl (nt ((Tr.seq (sr ((Rn.load (v:=(Qa a1)) trivial rfl (Qm rfl) rfl rfl (md rfl ?_)))))))))))
 obtain ⟨x5,h4,h⟩:=bnd h
 refine Rn.call (args:=[(Qa a1),(l_ onto2)]) trivial rfl (H_projection_check _ _ _ h4) pc9 (md rfl (nt ((sr ((md rfl (Rn.bin trivial rfl rfl rfl (Rn.nil (toN ?_)))))))))
 refine Tr.cond rfl (fun hb6=>?_) (fun hb6=>?_)
 ·replace h:=bT hb6 h
  refine sr ((md rfl (Rn.movTC (v:=.nils 1) trivial (md rfl (nt ((Tr.ret ?_)))))))
  replace h:=si h; subst h
  exact ⟨.inr rfl,.tup [.nils 1,(i_ x5)],res2 rfl rfl,(WkV.tup (.cons (WkV.nilsD _) (.cons (.same rfl) .nil))).rd,⟨trivial,trivial,trivial⟩,fun k hk=>Qf hk⟩
 ·replace h:=bF hb6 h
  refine Tr.skip (toN (sr ((Rn.load (v:=(Qa a1)) trivial rfl (Qm rfl) rfl rfl (md rfl ?_)))))
  obtain ⟨x8,h7,h⟩:=bnd h
  refine Rn.call (args:=[(Qa a1),(l_ onto2)]) trivial rfl (H_projection_observe _ _ _ h7) pc9 (Rn.alloc trivial rfl (Rn.storeT (v:=(Qh x8)) (ds:=(Ql x8)) (cs':=(Ql x8)) trivial rfl rfl rfl rfl rfl rfl rfl (nt ((Tr.seq (sr ((Rn.load (v:=(Qh x8)) trivial rfl (Qm rfl) rfl rfl (md rfl ?_)))))))))
  obtain ⟨x10,h9,h⟩:=bnd h
  refine Rn.call (args:=[(Qh x8),(l_ observation3)]) trivial rfl (H_projection_observer_known _ _ _ h9) pc9 (Rn.un trivial rfl rfl (Rn.nil (toN ?_)))
  refine Tr.cond rfl (fun hb11=>?_) (fun hb11=>?_)
  ·have hb11:=nT' hb11
   replace h:=bF hb11 h
   refine sr ((Rn.movTC (v:=.nils 1) trivial (md rfl (nt ((Tr.ret ?_))))))
   replace h:=si h; subst h
   exact ⟨.inr rfl,.tup [.nils 1,(i_ 9)],res2 rfl rfl,(WkV.tup (.cons (WkV.nilsD _) (.cons (.same rfl) .nil))).rd,⟨trivial,trivial,trivial⟩,fun k hk=>Qf hk⟩
  ·have hb11:=nF' hb11
   replace h:=bT hb11 h
   refine Tr.skip (toN (sr ((Rn.load (v:=(Qh x8)) trivial rfl (Qm rfl) rfl rfl ?_))))
   obtain ⟨x13,h12,h⟩:=bnd h
   refine Rn.call (args:=[(Qh x8)]) trivial rfl (H_projection_observer_start _ _ h12) pc9 (Rn.movTD trivial rfl (Rn.nil (toN ?_)))
   refine Tr.cutB (fun (l22 : List Int)=>⟨look [(10,(l_ l22))],Qo Γ.n0 (bxs [(3,.cells ((Qd a1))),(9,.cells ((Ql x8)))]) M,Γ.n0 + 40⟩) h (fun z h=>?_) (fun z h=>?_)
   ·refine sr ((md rfl (Rn.lenD trivial rfl (md rfl (nt ((Tr.block ?_)))))))
    refine Tr.loop (mk:=fun ((l14,x15) : (List Int) × Int)=>⟨look [(9,.ptr (Γ.n0 + 9) 0),(10,(l_ l14)),(28,(l_ observation3)),(29,(i_ (observation3.length : Int))),(30,(i_ x15))],Qo Γ.n0 (bxs [(3,.cells ((Qd a1))),(9,.cells ((Ql x8)))]) M,Γ.n0 + 40⟩) h (by exact Qj ⟨(kPtr rfl),(sm rfl),(sm rfl),(sm rfl),(sm rfl),trivial⟩ ⟨⟨_,rfl,rfl,(.same rfl)⟩,⟨_,rfl,rfl,(.same rfl)⟩,trivial⟩ rfl) (fun k16 z h=>?_)
    ·obtain ⟨l14,x15⟩:=z
     replace h : _ = some _:=h
     refine sr ((Rn.bin trivial rfl rfl rfl (nt ((Tr.seq ?_)))))
     refine Tr.cond rfl (fun hb17=>?_) (fun hb17=>?_)
     ·replace h:=ifT hb17 h
      refine Tr.skip (toN (Tr.seq (Tr.block (Tr.seq (Tr.rgn ?_)))))
      obtain ⟨x18,h19,h⟩:=bnd h
      refine Rn.idxD (e:=(eI .i64)) trivial rfl rfl h19 (Rn.loadC (x:=.int .i64 x18) trivial rfl (md rfl (nt ((Tr.rgn (Rn.load (v:=(Qh x8)) trivial rfl (Qm rfl) rfl rfl (md rfl (md rfl ?_))))))))
      obtain ⟨x21,h20,h⟩:=bnd h
      refine Rn.call (args:=[(Qh x8),(l_ l14),(i_ x18)]) trivial rfl (H_projection_observer_next _ _ _ _ h20) pc9 (Rn.movTD trivial rfl (nt ((Tr.rgn (Rn.bin trivial rfl rfl rfl (md rfl (Rn.nil ?_)))))))
      exact ⟨_,h,(by exact Qj ⟨(kPtr rfl),(sm rfl),(sm rfl),(sm rfl),(sm rfl),trivial⟩ ⟨⟨_,rfl,rfl,(.same rfl)⟩,⟨_,rfl,rfl,(.same rfl)⟩,trivial⟩ rfl)⟩
     ·replace h:=ifF hb17 h
      refine Tr.exit ?_
      replace h:=si h; subst h
      exact Qi [] ⟨(sm rfl),trivial⟩ ⟨⟨_,rfl,rfl,(.same rfl)⟩,⟨_,rfl,rfl,(.same rfl)⟩,trivial⟩ rfl
   ·obtain ⟨l22,rfl⟩ : ∃ x,x = z:=⟨_,rfl⟩
    refine sr ((Rn.movTD trivial rfl (Rn.movTD trivial rfl (md rfl (nt ((Tr.ret ?_)))))))
    replace h:=si h; subst h
    exact ⟨.inr rfl,.tup [(l_ l22),(i_ 0)],res2 rfl rfl,(WkV.tup (.cons (.same rfl) (.cons (.same rfl) .nil))).rd,⟨trivial,trivial,trivial⟩,fun k hk=>Qf hk⟩
theorem Q0o {P : Program} {c : Nat} (hcf : Qw P c = some Qjh) (fuel : Nat) : Qdf P c (Qs fuel):=by
 intro l1 n2 r h
 refine Qce hcf rfl fun Γ M hP hnt hM=>?_
 subst hP
 refine Tr.init [(0,(l_ l1)),(1,(i_ n2))] rfl ?_
 unfold Qs at h
 unfold Qjh
 refine sr ((md rfl (nt ((Tr.seq (sr ((md rfl (nt ((Tr.block ?_)))))))))))
 refine Tr.loop (mk:=fun (i3 : Int)=>⟨look [(0,(l_ l1)),(1,(i_ n2)),(5,(i_ i3))],Qo Γ.n0 (bxs []) M,Γ.n0 + 18⟩) h (by exact Qj ⟨(sm rfl),(sm rfl),(sm rfl),trivial⟩ trivial rfl) (fun k4 z h=>?_)
 ·obtain ⟨i3,rfl⟩ : ∃ x,x = z:=⟨_,rfl⟩
  replace h : _ = some _:=h
  refine Tr.seq (sr ((md rfl (md rfl (Rn.lenD trivial rfl (Rn.bin trivial rfl rfl rfl (Rn.nil (toN ?_))))))))
  refine Tr.cond rfl (fun hb5=>?_) (fun hb5=>?_)
  ·replace h:=ifT hb5 h
   refine Tr.skip (toN (Tr.seq (Tr.block (sr ((md rfl (md rfl ?_)))))))
   obtain ⟨x6,h7,h⟩:=bnd h
   refine Rn.idxD (e:=(eI .i64)) trivial rfl rfl h7 (Rn.loadC (x:=.int .i64 x6) trivial rfl (md rfl (Rn.bin trivial rfl rfl rfl (Rn.nil (toN ?_)))))
   refine Tr.cond rfl (fun hb8=>?_) (fun hb8=>?_)
   ·replace h:=bT hb8 h
    refine sr ((md rfl (nt ((Tr.ret ?_)))))
    replace h:=si h; subst h
    exact ⟨.inr rfl,(b_ true),rfl,fun _ _ _ _ h=>h,trivial,fun k hk=>Qf hk⟩
   ·replace h:=bF hb8 h
    refine Tr.skip (toN (Tr.rgn (md rfl (Rn.bin trivial rfl rfl rfl (md rfl (Rn.nil ?_))))))
    exact ⟨_,h,(by exact Qj ⟨(sm rfl),(sm rfl),(sm rfl),trivial⟩ trivial rfl)⟩
  ·replace h:=ifF hb5 h
   refine Tr.exit (toN (sr ((md rfl (nt ((Tr.ret ?_)))))))
   replace h:=si h; subst h
   exact ⟨.inr rfl,(b_ false),rfl,fun _ _ _ _ h=>h,trivial,fun k hk=>Qf hk⟩
theorem Qxk {P : Program} {c : Nat} {Qs : (List Int) → Int → Option Bool}
    (H_overseerref07_has : Qdf P 45 Qs) (hcf : Qw P c = some Qip) (fuel : Nat) : Qio P c (Qb7 Qs fuel):=by
 intro a1 onto2 r h
 refine Qce hcf rfl fun Γ M hP hnt hM=>?_
 subst hP
 refine Tr.init [(0,(Qa a1)),(1,(l_ onto2))] rfl ?_
 unfold Qb7 at h
 unfold Qip
 refine sr ((Rn.box (v:=(Qa a1)) (cs:=(Qd a1)) trivial rfl rfl rfl rfl rfl (Rn.movTC (v:=.nils 1) trivial (nt ((sr ((Rn.movTC (v:=.nils 1) trivial (Rn.nil (toN ?_))))))))))
 refine Tr.cutB (fun (out17 : List Int)=>⟨look [(5,.own 1 (List.map (eI .i64) out17))],Qo Γ.n0 (bxs [(2,.cells ((Qd a1)))]) M,Γ.n0 + 30⟩) h (fun z h=>?_) (fun z h=>?_)
 ·refine sr ((md rfl (nt ((Tr.block ?_)))))
  refine Tr.loop (mk:=fun ((out3,i4) : (List Int) × Int)=>⟨look [(1,(l_ onto2)),(2,.ptr (Γ.n0 + 2) 0),(5,.own 1 (List.map (eI .i64) out3)),(6,(i_ i4))],Qo Γ.n0 (bxs [(2,.cells ((Qd a1)))]) M,Γ.n0 + 30⟩) h (by exact Qj ⟨(sm rfl),(kPtr rfl),(WkV.nilsO _),(sm rfl),trivial⟩ ⟨⟨_,rfl,rfl,(.same rfl)⟩,trivial⟩ rfl) (fun k5 z h=>?_)
  ·obtain ⟨out3,i4⟩:=z
   replace h : _ = some _:=h
   refine Tr.seq (sr ((md rfl (Rn.fldP (o':=0) trivial rfl rfl (Rn.load (v:=(l_ a1.Alphabet)) trivial rfl (Qm rfl) rfl rfl (Rn.lenD trivial rfl (Rn.bin trivial rfl rfl rfl (Rn.nil (toN ?_)))))))))
   refine Tr.cond rfl (fun hb6=>?_) (fun hb6=>?_)
   ·replace h:=ifT hb6 h
    refine Tr.skip (toN ?_)
    refine Tr.cutB (fun (out16 : List Int)=>⟨look [(1,(l_ onto2)),(2,.ptr (Γ.n0 + 2) 0),(5,.own 1 (List.map (eI .i64) out16)),(6,(i_ i4))],Qo Γ.n0 (bxs [(2,.cells ((Qd a1)))]) M,Γ.n0 + 30⟩) h (fun z h=>?_) (fun z h=>?_)
    ·refine Tr.block (sr ((md rfl (Rn.fldP (o':=0) trivial rfl rfl (Rn.load (v:=(l_ a1.Alphabet)) trivial rfl (Qm rfl) rfl rfl (md rfl ?_))))))
     obtain ⟨x7,h8,h⟩:=bnd h
     refine Rn.idxD (e:=(eI .i64)) trivial rfl rfl h8 (Rn.loadC (x:=.int .i64 x7) trivial rfl ?_)
     obtain ⟨x10,h9,h⟩:=bnd h
     refine Rn.call (args:=[(l_ onto2),(i_ x7)]) trivial rfl (H_overseerref07_has _ _ _ h9) pc9 (Rn.nil (toN ?_))
     refine Tr.cond rfl (fun hb11=>?_) (fun hb11=>?_)
     ·replace h:=bT hb11 h
      refine Tr.rgn (Rn.movTO trivial rfl (Rn.fldP (o':=0) trivial rfl rfl (Rn.load (v:=(l_ a1.Alphabet)) trivial rfl (Qm rfl) rfl rfl (md rfl ?_))))
      obtain ⟨x12,h13,h⟩:=bnd h
      refine Rn.idxD (e:=(eI .i64)) trivial rfl rfl h13 (Rn.loadC (x:=.int .i64 x12) trivial rfl (Rn.bslice (xs:=[(i_ x12)]) (cs:=[(i_ x12)]) trivial rfl rfl rfl rfl ?_))
      obtain ⟨x14,h15,h⟩:=bnd h
      refine Rn.app (e:=(eI .i64)) trivial rfl rfl rfl (Qcc rfl rfl rfl) h15 rfl (Rn.movTO trivial rfl (Rn.nil ?_))
      replace h:=si h; subst h
      exact Qi [27] ⟨(sm rfl),(kPtr rfl),(sm rfl),(sm rfl),trivial⟩ ⟨⟨_,rfl,rfl,(.same rfl)⟩,trivial⟩ rfl
     ·replace h:=bF hb11 h
      refine Tr.skip ?_
      replace h:=si h; subst h
      exact Qi [] ⟨(sm rfl),(kPtr rfl),(sm rfl),(sm rfl),trivial⟩ ⟨⟨_,rfl,rfl,(.same rfl)⟩,trivial⟩ rfl
    ·obtain ⟨out16,rfl⟩ : ∃ x,x = z:=⟨_,rfl⟩
     refine Tr.rgn (md rfl (Rn.bin trivial rfl rfl rfl (md rfl (Rn.nil ?_))))
     exact ⟨_,h,(by exact Qj ⟨(sm rfl),(kPtr rfl),(sm rfl),(sm rfl),trivial⟩ ⟨⟨_,rfl,rfl,(.same rfl)⟩,trivial⟩ rfl)⟩
   ·replace h:=ifF hb6 h
    refine Tr.exit ?_
    replace h:=si h; subst h
    exact Qi [] ⟨(sm rfl),trivial⟩ ⟨⟨_,rfl,rfl,(.same rfl)⟩,trivial⟩ rfl
 ·obtain ⟨out17,rfl⟩ : ∃ x,x = z:=⟨_,rfl⟩
  refine sr ((Rn.movTO trivial rfl (Rn.movTO trivial rfl (nt ((Tr.ret ?_))))))
  replace h:=si h; subst h
  exact ⟨.inr rfl,(.own 1 (List.map (eI .i64) out17)),rfl,fun _ _ _ _ h=>h,trivial,fun k hk=>Qf hk⟩
theorem Q0p {P : Program} {c : Nat} (hcf : Qw P c = some Qjj) (fuel : Nat) : Qji P c (Qc2 fuel):=by
 intro l1 n2 r h
 refine Qce hcf rfl fun Γ M hP hnt hM=>?_
 subst hP
 refine Tr.init [(0,(l_ l1)),(1,(i_ n2))] rfl ?_
 unfold Qc2 at h
 unfold Qjj
 refine sr ((md rfl (nt ((Tr.seq (sr ((md rfl (nt ((Tr.block ?_)))))))))))
 refine Tr.loop (mk:=fun (i3 : Int)=>⟨look [(0,(l_ l1)),(1,(i_ n2)),(5,(i_ i3))],Qo Γ.n0 (bxs []) M,Γ.n0 + 18⟩) h (by exact Qj ⟨(sm rfl),(sm rfl),(sm rfl),trivial⟩ trivial rfl) (fun k4 z h=>?_)
 ·obtain ⟨i3,rfl⟩ : ∃ x,x = z:=⟨_,rfl⟩
  replace h : _ = some _:=h
  refine Tr.seq (sr ((md rfl (md rfl (Rn.lenD trivial rfl (Rn.bin trivial rfl rfl rfl (Rn.nil (toN ?_))))))))
  refine Tr.cond rfl (fun hb5=>?_) (fun hb5=>?_)
  ·replace h:=ifT hb5 h
   refine Tr.skip (toN (Tr.seq (Tr.block (sr ((md rfl (md rfl ?_)))))))
   obtain ⟨x6,h7,h⟩:=bnd h
   refine Rn.idxD (e:=(eI .i64)) trivial rfl rfl h7 (Rn.loadC (x:=.int .i64 x6) trivial rfl (md rfl (Rn.bin trivial rfl rfl rfl (Rn.nil (toN ?_)))))
   refine Tr.cond rfl (fun hb8=>?_) (fun hb8=>?_)
   ·replace h:=bT hb8 h
    refine sr ((md rfl (nt ((Tr.ret ?_)))))
    replace h:=si h; subst h
    exact ⟨.inr rfl,(b_ true),rfl,fun _ _ _ _ h=>h,trivial,fun k hk=>Qf hk⟩
   ·replace h:=bF hb8 h
    refine Tr.skip (toN (Tr.rgn (md rfl (Rn.bin trivial rfl rfl rfl (md rfl (Rn.nil ?_))))))
    exact ⟨_,h,(by exact Qj ⟨(sm rfl),(sm rfl),(sm rfl),trivial⟩ trivial rfl)⟩
  ·replace h:=ifF hb5 h
   refine Tr.exit (toN (sr ((md rfl (nt ((Tr.ret ?_)))))))
   replace h:=si h; subst h
   exact ⟨.inr rfl,(b_ false),rfl,fun _ _ _ _ h=>h,trivial,fun k hk=>Qf hk⟩
theorem Qq1 {P : Program} {c : Nat} {Qs : (List Int) → Int → Option Bool}
    (H_overseerref07_has : Qdf P 45 Qs) (hcf : Qw P c = some Qgx) (fuel : Nat) : Qe4 P c (Q5 Qs fuel):=by
 intro a1 onto2 r h
 refine Qce hcf rfl fun Γ M hP hnt hM=>?_
 subst hP
 refine Tr.init [(0,(Qa a1)),(1,(l_ onto2))] rfl ?_
 unfold Q5 at h
 unfold Qgx
 refine sr ((Rn.box (v:=(Qa a1)) (cs:=(Qd a1)) trivial rfl rfl rfl rfl rfl (Rn.movTC (v:=.nils 1) trivial (nt ((sr ((Rn.movTC (v:=.nils 1) trivial (Rn.nil (toN ?_))))))))))
 refine Tr.cutB (fun (out17 : List Int)=>⟨look [(5,.own 1 (List.map (eI .i64) out17))],Qo Γ.n0 (bxs [(2,.cells ((Qd a1)))]) M,Γ.n0 + 31⟩) h (fun z h=>?_) (fun z h=>?_)
 ·refine sr ((md rfl (nt ((Tr.block ?_)))))
  refine Tr.loop (mk:=fun ((out3,i4) : (List Int) × Int)=>⟨look [(1,(l_ onto2)),(2,.ptr (Γ.n0 + 2) 0),(5,.own 1 (List.map (eI .i64) out3)),(6,(i_ i4))],Qo Γ.n0 (bxs [(2,.cells ((Qd a1)))]) M,Γ.n0 + 31⟩) h (by exact Qj ⟨(sm rfl),(kPtr rfl),(WkV.nilsO _),(sm rfl),trivial⟩ ⟨⟨_,rfl,rfl,(.same rfl)⟩,trivial⟩ rfl) (fun k5 z h=>?_)
  ·obtain ⟨out3,i4⟩:=z
   replace h : _ = some _:=h
   refine Tr.seq (sr ((md rfl (Rn.fldP (o':=0) trivial rfl rfl (Rn.load (v:=(l_ a1.Alphabet)) trivial rfl (Qm rfl) rfl rfl (Rn.lenD trivial rfl (Rn.bin trivial rfl rfl rfl (Rn.nil (toN ?_)))))))))
   refine Tr.cond rfl (fun hb6=>?_) (fun hb6=>?_)
   ·replace h:=ifT hb6 h
    refine Tr.skip (toN ?_)
    refine Tr.cutB (fun (out16 : List Int)=>⟨look [(1,(l_ onto2)),(2,.ptr (Γ.n0 + 2) 0),(5,.own 1 (List.map (eI .i64) out16)),(6,(i_ i4))],Qo Γ.n0 (bxs [(2,.cells ((Qd a1)))]) M,Γ.n0 + 31⟩) h (fun z h=>?_) (fun z h=>?_)
    ·refine Tr.block (sr ((md rfl (Rn.fldP (o':=0) trivial rfl rfl (Rn.load (v:=(l_ a1.Alphabet)) trivial rfl (Qm rfl) rfl rfl (md rfl ?_))))))
     obtain ⟨x7,h8,h⟩:=bnd h
     refine Rn.idxD (e:=(eI .i64)) trivial rfl rfl h8 (Rn.loadC (x:=.int .i64 x7) trivial rfl ?_)
     obtain ⟨x10,h9,h⟩:=bnd h
     refine Rn.call (args:=[(l_ onto2),(i_ x7)]) trivial rfl (H_overseerref07_has _ _ _ h9) pc9 (Rn.un trivial rfl rfl (Rn.nil (toN ?_)))
     refine Tr.cond rfl (fun hb11=>?_) (fun hb11=>?_)
     ·have hb11:=nT' hb11
      replace h:=bF hb11 h
      refine Tr.rgn (Rn.movTO trivial rfl (Rn.fldP (o':=0) trivial rfl rfl (Rn.load (v:=(l_ a1.Alphabet)) trivial rfl (Qm rfl) rfl rfl (md rfl ?_))))
      obtain ⟨x12,h13,h⟩:=bnd h
      refine Rn.idxD (e:=(eI .i64)) trivial rfl rfl h13 (Rn.loadC (x:=.int .i64 x12) trivial rfl (Rn.bslice (xs:=[(i_ x12)]) (cs:=[(i_ x12)]) trivial rfl rfl rfl rfl ?_))
      obtain ⟨x14,h15,h⟩:=bnd h
      refine Rn.app (e:=(eI .i64)) trivial rfl rfl rfl (Qcc rfl rfl rfl) h15 rfl (Rn.movTO trivial rfl (Rn.nil ?_))
      replace h:=si h; subst h
      exact Qi [28] ⟨(sm rfl),(kPtr rfl),(sm rfl),(sm rfl),trivial⟩ ⟨⟨_,rfl,rfl,(.same rfl)⟩,trivial⟩ rfl
     ·have hb11:=nF' hb11
      replace h:=bT hb11 h
      refine Tr.skip ?_
      replace h:=si h; subst h
      exact Qi [] ⟨(sm rfl),(kPtr rfl),(sm rfl),(sm rfl),trivial⟩ ⟨⟨_,rfl,rfl,(.same rfl)⟩,trivial⟩ rfl
    ·obtain ⟨out16,rfl⟩ : ∃ x,x = z:=⟨_,rfl⟩
     refine Tr.rgn (md rfl (Rn.bin trivial rfl rfl rfl (md rfl (Rn.nil ?_))))
     exact ⟨_,h,(by exact Qj ⟨(sm rfl),(kPtr rfl),(sm rfl),(sm rfl),trivial⟩ ⟨⟨_,rfl,rfl,(.same rfl)⟩,trivial⟩ rfl)⟩
   ·replace h:=ifF hb6 h
    refine Tr.exit ?_
    replace h:=si h; subst h
    exact Qi [] ⟨(sm rfl),trivial⟩ ⟨⟨_,rfl,rfl,(.same rfl)⟩,trivial⟩ rfl
 ·obtain ⟨out17,rfl⟩ : ∃ x,x = z:=⟨_,rfl⟩
  refine sr ((Rn.movTO trivial rfl (Rn.movTO trivial rfl (nt ((Tr.ret ?_))))))
  replace h:=si h; subst h
  exact ⟨.inr rfl,(.own 1 (List.map (eI .i64) out17)),rfl,fun _ _ _ _ h=>h,trivial,fun k hk=>Qf hk⟩
theorem Qq2 {P : Program} {c : Nat} {Qs : (List Int) → Int → Option Bool}
    (H_overseerref07_has : Qdf P 45 Qs) (hcf : Qw P c = some Qgz) (fuel : Nat) : Qgy P c (Qbx Qs fuel):=by
 intro l1 states2 r h
 refine Qce hcf rfl fun Γ M hP hnt hM=>?_
 subst hP
 refine Tr.init [(0,(l_ l1)),(1,(i_ states2))] rfl ?_
 unfold Qbx at h
 unfold Qgz
 refine sr ((Rn.movTC (v:=.nils 1) trivial (nt ((sr ((Rn.movTC (v:=.nils 1) trivial (Rn.nil (toN ?_)))))))))
 refine Tr.cutB (fun (out13 : List Int)=>⟨look [(5,.own 1 (List.map (eI .i64) out13))],Qo Γ.n0 (bxs []) M,Γ.n0 + 20⟩) h (fun z h=>?_) (fun z h=>?_)
 ·refine sr ((md rfl (nt ((Tr.block ?_)))))
  refine Tr.loop (mk:=fun ((out3,i4) : (List Int) × Int)=>⟨look [(0,(l_ l1)),(1,(i_ states2)),(5,.own 1 (List.map (eI .i64) out3)),(6,(i_ i4))],Qo Γ.n0 (bxs []) M,Γ.n0 + 20⟩) h (by exact Qj ⟨(sm rfl),(sm rfl),(WkV.nilsO _),(sm rfl),trivial⟩ trivial rfl) (fun k5 z h=>?_)
  ·obtain ⟨out3,i4⟩:=z
   replace h : _ = some _:=h
   refine Tr.seq (sr ((md rfl (md rfl (Rn.bin trivial rfl rfl rfl (Rn.nil (toN ?_)))))))
   refine Tr.cond rfl (fun hb6=>?_) (fun hb6=>?_)
   ·replace h:=ifT hb6 h
    refine Tr.skip (toN ?_)
    refine Tr.cutB (fun (out12 : List Int)=>⟨look [(0,(l_ l1)),(1,(i_ states2)),(5,.own 1 (List.map (eI .i64) out12)),(6,(i_ i4))],Qo Γ.n0 (bxs []) M,Γ.n0 + 20⟩) h (fun z h=>?_) (fun z h=>?_)
    ·refine Tr.block (sr ((md rfl (md rfl ?_))))
     obtain ⟨x8,h7,h⟩:=bnd h
     refine Rn.call (args:=[(l_ l1),(i_ i4)]) trivial rfl (H_overseerref07_has _ _ _ h7) pc9 (Rn.nil (toN ?_))
     refine Tr.cond rfl (fun hb9=>?_) (fun hb9=>?_)
     ·replace h:=bT hb9 h
      refine Tr.rgn (Rn.movTO trivial rfl (md rfl (Rn.bslice (xs:=[(i_ i4)]) (cs:=[(i_ i4)]) trivial rfl rfl rfl rfl ?_)))
      obtain ⟨x10,h11,h⟩:=bnd h
      refine Rn.app (e:=(eI .i64)) trivial rfl rfl rfl (Qcc rfl rfl rfl) h11 rfl (Rn.movTO trivial rfl (Rn.nil ?_))
      replace h:=si h; subst h
      exact Qi [17] ⟨(sm rfl),(sm rfl),(sm rfl),(sm rfl),trivial⟩ trivial rfl
     ·replace h:=bF hb9 h
      refine Tr.skip ?_
      replace h:=si h; subst h
      exact Qi [] ⟨(sm rfl),(sm rfl),(sm rfl),(sm rfl),trivial⟩ trivial rfl
    ·obtain ⟨out12,rfl⟩ : ∃ x,x = z:=⟨_,rfl⟩
     refine Tr.rgn (md rfl (Rn.bin trivial rfl rfl rfl (md rfl (Rn.nil ?_))))
     exact ⟨_,h,(by exact Qj ⟨(sm rfl),(sm rfl),(sm rfl),(sm rfl),trivial⟩ trivial rfl)⟩
   ·replace h:=ifF hb6 h
    refine Tr.exit ?_
    replace h:=si h; subst h
    exact Qi [] ⟨(sm rfl),trivial⟩ trivial rfl
 ·obtain ⟨out13,rfl⟩ : ∃ x,x = z:=⟨_,rfl⟩
  refine sr ((Rn.movTO trivial rfl (Rn.movTO trivial rfl (nt ((Tr.ret ?_))))))
  replace h:=si h; subst h
  exact ⟨.inr rfl,(.own 1 (List.map (eI .i64) out13)),rfl,fun _ _ _ _ h=>h,trivial,fun k hk=>Qf hk⟩
theorem Qte {P : Program} {c : Nat} {Qs : (List Int) → Int → Option Bool} {Qbx : (List Int) → Int → Option ((List Int))}
    (H_overseerref07_has : Qdf P 45 Qs)
    (H_overseerref07_sorted : Qgy P 51 Qbx) (hcf : Qw P c = some Qho) (fuel : Nat) : Qfg P c (Q8 Qs Qbx fuel):=by
 intro a1 xfrom2 events3 r h
 refine Qce hcf rfl fun Γ M hP hnt hM=>?_
 subst hP
 refine Tr.init [(0,(Qa a1)),(1,(l_ xfrom2)),(2,(l_ events3))] rfl ?_
 unfold Q8 at h
 unfold Qho
 refine sr ((Rn.box (v:=(Qa a1)) (cs:=(Qd a1)) trivial rfl rfl rfl rfl rfl (Rn.movTC (v:=.nils 1) trivial (nt ((sr ((Rn.bslice (xs:=[]) (cs:=[]) trivial rfl rfl rfl rfl (md rfl ?_)))))))))
 obtain ⟨x4,h5,h⟩:=bnd h
 refine Rn.app0 (e:=(eI .i64)) trivial rfl rfl rfl rfl Q1c h5 rfl (Rn.movTO trivial rfl (Rn.nil (toN ?_)))
 refine Tr.cutB (fun (out33 : List Int)=>⟨look [(3,.ptr (Γ.n0 + 3) 0),(7,.own 1 (List.map (eI .i64) out33))],Qo Γ.n0 (bxs [(3,.cells ((Qd a1))),(11,.cells ([]))]) M,Γ.n0 + 61⟩) h (fun z h=>?_) (fun z h=>?_)
 ·refine sr ((md rfl (nt ((Tr.block ?_)))))
  refine Tr.loop (mk:=fun ((out6,i7) : (List Int) × Int)=>⟨look [(2,(l_ events3)),(3,.ptr (Γ.n0 + 3) 0),(7,.own 1 (List.map (eI .i64) out6)),(8,(i_ i7))],Qo Γ.n0 (bxs [(3,.cells ((Qd a1))),(11,.cells ([]))]) M,Γ.n0 + 61⟩) h (by exact Qj ⟨(sm rfl),(kPtr rfl),(sm rfl),(sm rfl),trivial⟩ ⟨⟨_,rfl,rfl,(.same rfl)⟩,⟨_,rfl,rfl,(.same rfl)⟩,trivial⟩ rfl) (fun k8 z h=>?_)
  ·obtain ⟨out6,i7⟩:=z
   replace h : _ = some _:=h
   refine Tr.seq (sr ((md rfl (Rn.mov (v:=(l_ out6)) trivial rfl (Rn.lenD trivial rfl (Rn.bin trivial rfl rfl rfl (Rn.nil (toN ?_))))))))
   refine Tr.cond rfl (fun hb9=>?_) (fun hb9=>?_)
   ·replace h:=ifT hb9 h
    refine Tr.skip (toN ?_)
    refine Tr.cutB (fun (out32 : List Int)=>⟨look [(2,(l_ events3)),(3,.ptr (Γ.n0 + 3) 0),(7,.own 1 (List.map (eI .i64) out32)),(8,(i_ i7))],Qo Γ.n0 (bxs [(3,.cells ((Qd a1))),(11,.cells ([]))]) M,Γ.n0 + 61⟩) h (fun z h=>?_) (fun z h=>?_)
    ·refine Tr.block (sr ((md rfl (nt ((Tr.block ?_))))))
     refine Tr.loop (mk:=fun ((out10,k11) : (List Int) × Int)=>⟨look [(2,(l_ events3)),(3,.ptr (Γ.n0 + 3) 0),(7,.own 1 (List.map (eI .i64) out10)),(8,(i_ i7)),(9,(i_ k11))],Qo Γ.n0 (bxs [(3,.cells ((Qd a1))),(11,.cells ([]))]) M,Γ.n0 + 61⟩) h (by exact Qj ⟨(sm rfl),(kPtr rfl),(sm rfl),(sm rfl),(sm rfl),trivial⟩ ⟨⟨_,rfl,rfl,(.same rfl)⟩,⟨_,rfl,rfl,(.same rfl)⟩,trivial⟩ rfl) (fun k12 z h=>?_)
     ·obtain ⟨out10,k11⟩:=z
      replace h : _ = some _:=h
      refine Tr.seq (sr ((md rfl (Rn.fldP (o':=3) trivial rfl rfl (Rn.load (v:=.d (.lst 3 (List.map Qc a1.Edges))) trivial rfl (Qm rfl) rfl rfl (Rn.lenD trivial rfl (Rn.bin trivial rfl rfl rfl (Rn.nil (toN ?_)))))))))
      refine Tr.cond rfl (fun hb13=>?_) (fun hb13=>?_)
      ·replace h:=ifT hb13 h
       refine Tr.skip (toN ?_)
       refine Tr.cutB (fun ((out28,c29,c30,c31) : (List Int) × Int × Int × Int)=>⟨look [(2,(l_ events3)),(3,.ptr (Γ.n0 + 3) 0),(7,.own 1 (List.map (eI .i64) out28)),(8,(i_ i7)),(9,(i_ k11))],Qo Γ.n0 (bxs [(3,.cells ((Qd a1))),(10,.cells ([(i_ c29),(i_ c30),(i_ c31)])),(11,.cells ([]))]) M,Γ.n0 + 61⟩) h (fun z h=>?_) (fun z h=>?_)
       ·refine Tr.block (sr ((Rn.fldP (o':=3) trivial rfl rfl (Rn.load (v:=.d (.lst 3 (List.map Qc a1.Edges))) trivial rfl (Qm rfl) rfl rfl (md rfl ?_)))))
        obtain ⟨x14,h15,h⟩:=bnd h
        refine Rn.idxD (e:=Qc) trivial rfl rfl h15 (Rn.loadCA (vs:=(Qbi x14)) trivial rfl rfl rfl (Rn.alloc trivial rfl (Rn.store (v:=(Qbz x14)) (cs':=(Qbi x14)) trivial rfl rfl rfl rfl rfl rfl (Rn.nil (toN ?_)))))
        refine Tr.cutB (fun (x24 : Bool)=>⟨look [(2,(l_ events3)),(3,.ptr (Γ.n0 + 3) 0),(7,.own 1 (List.map (eI .i64) out10)),(8,(i_ i7)),(9,(i_ k11)),(10,.ptr (Γ.n0 + 10) 0),(51,(b_ x24))],Qo Γ.n0 (bxs [(3,.cells ((Qd a1))),(10,.cells ((Qbi x14))),(11,.cells ([]))]) M,Γ.n0 + 61⟩) h (fun z h=>?_) (fun z h=>?_)
        ·refine Tr.rgnD (by decide) ?_
         refine Rn.fldP (o':=0) trivial rfl rfl (Rn.load (v:=(i_ x14.From)) trivial rfl (Qm rfl) rfl rfl (Rn.mov (v:=(l_ out10)) trivial rfl (md rfl ?_)))
         obtain ⟨x16,h17,h⟩:=bnd h
         refine Rn.idxD (e:=(eI .i64)) trivial rfl rfl h17 (Rn.loadC (x:=.int .i64 x16) trivial rfl (Rn.bin trivial rfl rfl rfl (md rfl ?_)))
         refine Qdo (x14.From == x16) (fun hb18=>?_) (fun hb18=>?_)
         ·replace h:=bT hb18 h
          refine Rn.movD (gw rfl hb18) rfl (Rn.fldP (o':=1) (gw rfl hb18) rfl rfl (Rn.load (v:=(i_ x14.Event)) (gw rfl hb18) rfl (Qm rfl) rfl rfl ?_))
          obtain ⟨x20,h19,h⟩:=bnd h
          refine Rn.call (args:=[(l_ events3),(i_ x14.Event)]) (gw rfl hb18) rfl (H_overseerref07_has _ _ _ h19) pc0 (Rn.pickT (v:=(b_ x20)) trivial rfl hb18 rfl (md rfl ?_))
          refine Qdo x20 (fun hb21=>?_) (fun hb21=>?_)
          ·replace h:=bT hb21 h
           refine Rn.mov (v:=(l_ out10)) (gw rfl hb21) rfl (Rn.fldP (o':=2) (gw rfl hb21) rfl rfl (Rn.load (v:=(i_ x14.To)) (gw rfl hb21) rfl (Qm rfl) rfl rfl ?_))
           obtain ⟨x23,h22,h⟩:=bnd h
           refine Rn.call (args:=[(l_ out10),(i_ x14.To)]) (gw rfl hb21) rfl (H_overseerref07_has _ _ _ h22) pc0 (Rn.un (gw rfl hb21) rfl rfl (Rn.pickT (v:=(b_ (!x23))) trivial rfl hb21 rfl ?_))
           refine Rn.nil ⟨rfl,?_⟩
           replace h:=si h; subst h
           exact Qi [] ⟨(sm rfl),(kPtr rfl),(sm rfl),(sm rfl),(sm rfl),(kPtr rfl),(sm rfl),trivial⟩ ⟨⟨_,rfl,rfl,(.same rfl)⟩,⟨_,rfl,rfl,(.same rfl)⟩,⟨_,rfl,rfl,(.same rfl)⟩,trivial⟩ rfl
          ·replace h:=bF hb21 h
           refine Rn.sk (nw rfl hb21) (Rn.sk (nw rfl hb21) (Rn.sk (nw rfl hb21) (Rn.sk (nw rfl hb21) (Rn.sk (nw rfl hb21) (Rn.pickF (v:=(b_ false)) trivial rfl hb21 rfl ?_)))))
           refine Rn.nil ⟨rfl,?_⟩
           replace h:=si h; subst h
           exact Qi [] ⟨(sm rfl),(kPtr rfl),(sm rfl),(sm rfl),(sm rfl),(kPtr rfl),(sm rfl),trivial⟩ ⟨⟨_,rfl,rfl,(.same rfl)⟩,⟨_,rfl,rfl,(.same rfl)⟩,⟨_,rfl,rfl,(.same rfl)⟩,trivial⟩ rfl
         ·replace h:=bF hb18 h
          refine Rn.sk (nw rfl hb18) (Rn.sk (nw rfl hb18) (Rn.sk (nw rfl hb18) (Rn.sk (nw rfl hb18) (Rn.pickF (v:=(b_ false)) trivial rfl hb18 rfl (md rfl (Rn.sk (nw (b:=false) rfl rfl) (Rn.sk (nw (b:=false) rfl rfl) (Rn.sk (nw (b:=false) rfl rfl) (Rn.sk (nw (b:=false) rfl rfl) (Rn.sk (nw (b:=false) rfl rfl) (Rn.pickF (v:=(b_ false)) trivial rfl rfl rfl ?_)))))))))))
          refine Rn.nil ⟨rfl,?_⟩
          replace h:=si h; subst h
          exact Qi [] ⟨(sm rfl),(kPtr rfl),(sm rfl),(sm rfl),(sm rfl),(kPtr rfl),(sm rfl),trivial⟩ ⟨⟨_,rfl,rfl,(.same rfl)⟩,⟨_,rfl,rfl,(.same rfl)⟩,⟨_,rfl,rfl,(.same rfl)⟩,trivial⟩ rfl
        ·obtain ⟨x24,rfl⟩ : ∃ x,x = z:=⟨_,rfl⟩
         refine Tr.cond rfl (fun hb25=>?_) (fun hb25=>?_)
         ·replace h:=bT hb25 h
          refine Tr.rgn (Rn.movTO trivial rfl (Rn.fldP (o':=2) trivial rfl rfl (Rn.load (v:=(i_ x14.To)) trivial rfl (Qm rfl) rfl rfl (Rn.bslice (xs:=[(i_ x14.To)]) (cs:=[(i_ x14.To)]) trivial rfl rfl rfl rfl ?_))))
          obtain ⟨x26,h27,h⟩:=bnd h
          refine Rn.app (e:=(eI .i64)) trivial rfl rfl rfl (Qcc rfl rfl rfl) h27 rfl (Rn.movTO trivial rfl (Rn.nil ?_))
          replace h:=si h; subst h
          exact Qi [55] ⟨(sm rfl),(kPtr rfl),(sm rfl),(sm rfl),(sm rfl),trivial⟩ ⟨⟨_,rfl,rfl,(.same rfl)⟩,⟨_,rfl,rfl,(.same rfl)⟩,⟨_,rfl,rfl,(.same rfl)⟩,trivial⟩ rfl
         ·replace h:=bF hb25 h
          refine Tr.skip ?_
          replace h:=si h; subst h
          exact Qi [] ⟨(sm rfl),(kPtr rfl),(sm rfl),(sm rfl),(sm rfl),trivial⟩ ⟨⟨_,rfl,rfl,(.same rfl)⟩,⟨_,rfl,rfl,(.same rfl)⟩,⟨_,rfl,rfl,(.same rfl)⟩,trivial⟩ rfl
       ·obtain ⟨out28,c29,c30,c31⟩:=z
        refine Tr.rgn (md rfl (Rn.bin trivial rfl rfl rfl (md rfl (Rn.nil ?_))))
        exact ⟨_,h,(by exact Qj ⟨(sm rfl),(kPtr rfl),(sm rfl),(sm rfl),(sm rfl),trivial⟩ ⟨⟨_,rfl,rfl,(.same rfl)⟩,⟨_,rfl,rfl,(.same rfl)⟩,trivial⟩ rfl)⟩
      ·replace h:=ifF hb13 h
       refine Tr.exit ?_
       replace h:=si h; subst h
       exact Qi [] ⟨(sm rfl),(kPtr rfl),(sm rfl),(sm rfl),trivial⟩ ⟨⟨_,rfl,rfl,(.same rfl)⟩,⟨_,rfl,rfl,(.same rfl)⟩,trivial⟩ rfl
    ·obtain ⟨out32,rfl⟩ : ∃ x,x = z:=⟨_,rfl⟩
     refine Tr.rgn (md rfl (Rn.bin trivial rfl rfl rfl (md rfl (Rn.nil ?_))))
     exact ⟨_,h,(by exact Qj ⟨(sm rfl),(kPtr rfl),(sm rfl),(sm rfl),trivial⟩ ⟨⟨_,rfl,rfl,(.same rfl)⟩,⟨_,rfl,rfl,(.same rfl)⟩,trivial⟩ rfl)⟩
   ·replace h:=ifF hb9 h
    refine Tr.exit ?_
    replace h:=si h; subst h
    exact Qi [] ⟨(kPtr rfl),(sm rfl),trivial⟩ ⟨⟨_,rfl,rfl,(.same rfl)⟩,⟨_,rfl,rfl,(.same rfl)⟩,trivial⟩ rfl
 ·obtain ⟨out33,rfl⟩ : ∃ x,x = z:=⟨_,rfl⟩
  refine sr ((Rn.mov (v:=(l_ out33)) trivial rfl (Rn.fldP (o':=1) trivial rfl rfl (Rn.load (v:=(i_ a1.States)) trivial rfl (Qm rfl) rfl rfl ?_))))
  obtain ⟨x35,h34,h⟩:=bnd h
  refine Rn.call (args:=[(l_ out33),(i_ a1.States)]) trivial rfl (H_overseerref07_sorted _ _ _ h34) pc9 (Rn.movTO trivial rfl (nt ((Tr.ret ?_))))
  replace h:=si h; subst h
  exact ⟨.inr rfl,(.own 1 (List.map (eI .i64) x35)),rfl,fun _ _ _ _ h=>h,trivial,fun k hk=>Qf hk⟩
theorem Qtf {P : Program} {c : Nat} {Q8 : Qb → (List Int) → (List Int) → Option ((List Int))} {Q5 : Qb → (List Int) → Option ((List Int))}
    (H_overseerref07_Reach : Qfg P 20 Q8)
    (H_overseerref07_Erased : Qe4 P 53 Q5) (hcf : Qw P c = some Qhq) : Qhp P c (Qb5 Q8 Q5):=by
 intro a1 onto2 r h
 refine Qce hcf rfl fun Γ M hP hnt hM=>?_
 subst hP
 refine Tr.init [(0,(Qa a1)),(1,(l_ onto2))] rfl ?_
 unfold Qb5 at h
 unfold Qhq
 refine sr ((Rn.box (v:=(Qa a1)) (cs:=(Qd a1)) trivial rfl rfl rfl rfl rfl (Rn.movTC (v:=.nils 1) trivial (nt ((Tr.seq (sr ((Rn.fldP (o':=1) trivial rfl rfl (Rn.load (v:=(i_ a1.States)) trivial rfl (Qm rfl) rfl rfl (Rn.bin trivial rfl rfl rfl (Rn.nil (toN ?_)))))))))))))
 refine Tr.cond rfl (fun hb3=>?_) (fun hb3=>?_)
 ·replace h:=bT hb3 h
  refine sr ((Rn.movTC (v:=.nils 1) trivial (nt ((Tr.ret ?_)))))
  replace h:=si h; subst h
  exact ⟨.inr rfl,(.nils 1),rfl,(WkV.nilsO _).rd,trivial,fun k hk=>Qf hk⟩
 ·replace h:=bF hb3 h
  refine Tr.skip (toN (Tr.seq ?_))
  refine Tr.rgnD (by decide) ?_
  refine Rn.load (v:=(Qa a1)) trivial rfl (Qm rfl) rfl rfl (Rn.lit (e:=(eI .i64)) (xs:=[0]) trivial rfl rfl (Rn.load (v:=(Qa a1)) trivial rfl (Qm rfl) rfl rfl (md rfl ?_)))
  obtain ⟨x5,h4,h⟩:=bnd h
  refine Rn.call (args:=[(Qa a1),(l_ onto2)]) trivial rfl (H_overseerref07_Erased _ _ _ h4) (fun _=>Q7u hM rfl) ?_
  obtain ⟨x7,h6,h⟩:=bnd h
  refine Rn.call (args:=[(Qa a1),(l_ [0]),(l_ x5)]) trivial rfl (H_overseerref07_Reach _ _ _ _ h6) (fun _=>Q7u hM rfl) (Rn.movTO trivial rfl ?_)
  refine Rn.nil ⟨rfl,?_⟩
  refine toN (Tr.ret ?_)
  replace h:=si h; subst h
  exact ⟨.inr rfl,(.own 1 (List.map (eI .i64) x7)),rfl,fun _ _ _ _ h=>h,trivial,fun k hk=>Qf hk⟩
theorem Qxl {P : Program} {c : Nat} {Q8 : Qb → (List Int) → (List Int) → Option ((List Int))} {Qs : (List Int) → Int → Option Bool} {Q5 : Qb → (List Int) → Option ((List Int))}
    (H_overseerref07_Reach : Qfg P 20 Q8)
    (H_overseerref07_has : Qdf P 45 Qs)
    (H_overseerref07_Erased : Qe4 P 53 Q5) (hcf : Qw P c = some Qir) (fuel : Nat) : Qiq P c (Qb8 Q8 Qs Q5 fuel):=by
 intro a1 onto2 estimate3 event4 r h
 refine Qce hcf rfl fun Γ M hP hnt hM=>?_
 subst hP
 refine Tr.init [(0,(Qa a1)),(1,(l_ onto2)),(2,(l_ estimate3)),(3,(i_ event4))] rfl ?_
 unfold Qb8 at h
 unfold Qir
 refine sr ((Rn.box (v:=(Qa a1)) (cs:=(Qd a1)) trivial rfl rfl rfl rfl rfl (Rn.movTC (v:=.nils 1) trivial (nt ((sr ((Rn.movTC (v:=.nils 1) trivial (Rn.nil (toN ?_))))))))))
 refine Tr.cutB (fun (moved23 : List Int)=>⟨look [(1,(l_ onto2)),(4,.ptr (Γ.n0 + 4) 0),(9,.own 1 (List.map (eI .i64) moved23))],Qo Γ.n0 (bxs [(4,.cells ((Qd a1)))]) M,Γ.n0 + 51⟩) h (fun z h=>?_) (fun z h=>?_)
 ·refine sr ((md rfl (nt ((Tr.block ?_)))))
  refine Tr.loop (mk:=fun ((moved5,i6) : (List Int) × Int)=>⟨look [(1,(l_ onto2)),(2,(l_ estimate3)),(3,(i_ event4)),(4,.ptr (Γ.n0 + 4) 0),(9,.own 1 (List.map (eI .i64) moved5)),(10,(i_ i6))],Qo Γ.n0 (bxs [(4,.cells ((Qd a1)))]) M,Γ.n0 + 51⟩) h (by exact Qj ⟨(sm rfl),(sm rfl),(sm rfl),(kPtr rfl),(WkV.nilsO _),(sm rfl),trivial⟩ ⟨⟨_,rfl,rfl,(.same rfl)⟩,trivial⟩ rfl) (fun k7 z h=>?_)
  ·obtain ⟨moved5,i6⟩:=z
   replace h : _ = some _:=h
   refine Tr.seq (sr ((md rfl (Rn.fldP (o':=3) trivial rfl rfl (Rn.load (v:=.d (.lst 3 (List.map Qc a1.Edges))) trivial rfl (Qm rfl) rfl rfl (Rn.lenD trivial rfl (Rn.bin trivial rfl rfl rfl (Rn.nil (toN ?_)))))))))
   refine Tr.cond rfl (fun hb8=>?_) (fun hb8=>?_)
   ·replace h:=ifT hb8 h
    refine Tr.skip (toN ?_)
    refine Tr.cutB (fun (moved22 : List Int)=>⟨look [(1,(l_ onto2)),(2,(l_ estimate3)),(3,(i_ event4)),(4,.ptr (Γ.n0 + 4) 0),(9,.own 1 (List.map (eI .i64) moved22)),(10,(i_ i6))],Qo Γ.n0 (bxs [(4,.cells ((Qd a1)))]) M,Γ.n0 + 51⟩) h (fun z h=>?_) (fun z h=>?_)
    ·refine Tr.block ?_
     refine Tr.cutB (fun (x16 : Bool)=>⟨look [(1,(l_ onto2)),(2,(l_ estimate3)),(3,(i_ event4)),(4,.ptr (Γ.n0 + 4) 0),(9,.own 1 (List.map (eI .i64) moved5)),(10,(i_ i6)),(35,(b_ x16))],Qo Γ.n0 (bxs [(4,.cells ((Qd a1)))]) M,Γ.n0 + 51⟩) h (fun z h=>?_) (fun z h=>?_)
     ·refine Tr.rgn (Rn.fldP (o':=3) trivial rfl rfl (Rn.load (v:=.d (.lst 3 (List.map Qc a1.Edges))) trivial rfl (Qm rfl) rfl rfl (md rfl ?_)))
      obtain ⟨x9,h10,h⟩:=bnd h
      refine Rn.idxD (e:=Qc) trivial rfl rfl h10 (Rn.fldC trivial rfl (Rn.loadC (x:=.int .i64 x9.Event) trivial rfl (md rfl (Rn.bin trivial rfl rfl rfl (md rfl ?_)))))
      refine Qdo (x9.Event == event4) (fun hb11=>?_) (fun hb11=>?_)
      ·replace h:=bT hb11 h
       refine Rn.movD (gw rfl hb11) rfl (Rn.fldP (o':=3) (gw rfl hb11) rfl rfl (Rn.load (v:=.d (.lst 3 (List.map Qc a1.Edges))) (gw rfl hb11) rfl (Qm rfl) rfl rfl (Rn.movD (gw rfl hb11) rfl ?_)))
       obtain ⟨x12,h13,h⟩:=bnd h
       refine Rn.idxD (e:=Qc) (gw rfl hb11) rfl rfl h13 (Rn.fldC (gw rfl hb11) rfl (Rn.loadC (x:=.int .i64 x12.From) (gw rfl hb11) rfl ?_))
       obtain ⟨x15,h14,h⟩:=bnd h
       refine Rn.call (args:=[(l_ estimate3),(i_ x12.From)]) (gw rfl hb11) rfl (H_overseerref07_has _ _ _ h14) pc9 (Rn.pickT (v:=(b_ x15)) trivial rfl hb11 rfl (Rn.nil ?_))
       replace h:=si h; subst h
       exact Qi [] ⟨(sm rfl),(sm rfl),(sm rfl),(kPtr rfl),(sm rfl),(sm rfl),(sm rfl),trivial⟩ ⟨⟨_,rfl,rfl,(.same rfl)⟩,trivial⟩ rfl
      ·replace h:=bF hb11 h
       refine Rn.sk (nw rfl hb11) (Rn.sk (nw rfl hb11) (Rn.sk (nw rfl hb11) (Rn.sk (nw rfl hb11) (Rn.sk (nw rfl hb11) (Rn.sk (nw rfl hb11) (Rn.sk (nw rfl hb11) (Rn.sk (nw rfl hb11) (Rn.pickF (v:=(b_ false)) trivial rfl hb11 rfl (Rn.nil ?_)))))))))
       replace h:=si h; subst h
       exact Qi [] ⟨(sm rfl),(sm rfl),(sm rfl),(kPtr rfl),(sm rfl),(sm rfl),(sm rfl),trivial⟩ ⟨⟨_,rfl,rfl,(.same rfl)⟩,trivial⟩ rfl
     ·obtain ⟨x16,rfl⟩ : ∃ x,x = z:=⟨_,rfl⟩
      refine Tr.cond rfl (fun hb17=>?_) (fun hb17=>?_)
      ·replace h:=bT hb17 h
       refine Tr.rgn (Rn.movTO trivial rfl (Rn.fldP (o':=3) trivial rfl rfl (Rn.load (v:=.d (.lst 3 (List.map Qc a1.Edges))) trivial rfl (Qm rfl) rfl rfl (md rfl ?_))))
       obtain ⟨x18,h19,h⟩:=bnd h
       refine Rn.idxD (e:=Qc) trivial rfl rfl h19 (Rn.fldC trivial rfl (Rn.loadC (x:=.int .i64 x18.To) trivial rfl (Rn.bslice (xs:=[(i_ x18.To)]) (cs:=[(i_ x18.To)]) trivial rfl rfl rfl rfl ?_)))
       obtain ⟨x20,h21,h⟩:=bnd h
       refine Rn.app (e:=(eI .i64)) trivial rfl rfl rfl (Qcc rfl rfl rfl) h21 rfl (Rn.movTO trivial rfl (Rn.nil ?_))
       replace h:=si h; subst h
       exact Qi [43] ⟨(sm rfl),(sm rfl),(sm rfl),(kPtr rfl),(sm rfl),(sm rfl),trivial⟩ ⟨⟨_,rfl,rfl,(.same rfl)⟩,trivial⟩ rfl
      ·replace h:=bF hb17 h
       refine Tr.skip ?_
       replace h:=si h; subst h
       exact Qi [] ⟨(sm rfl),(sm rfl),(sm rfl),(kPtr rfl),(sm rfl),(sm rfl),trivial⟩ ⟨⟨_,rfl,rfl,(.same rfl)⟩,trivial⟩ rfl
    ·obtain ⟨moved22,rfl⟩ : ∃ x,x = z:=⟨_,rfl⟩
     refine Tr.rgn (md rfl (Rn.bin trivial rfl rfl rfl (md rfl (Rn.nil ?_))))
     exact ⟨_,h,(by exact Qj ⟨(sm rfl),(sm rfl),(sm rfl),(kPtr rfl),(sm rfl),(sm rfl),trivial⟩ ⟨⟨_,rfl,rfl,(.same rfl)⟩,trivial⟩ rfl)⟩
   ·replace h:=ifF hb8 h
    refine Tr.exit ?_
    replace h:=si h; subst h
    exact Qi [] ⟨(sm rfl),(kPtr rfl),(sm rfl),trivial⟩ ⟨⟨_,rfl,rfl,(.same rfl)⟩,trivial⟩ rfl
 ·obtain ⟨moved23,rfl⟩ : ∃ x,x = z:=⟨_,rfl⟩
  refine Tr.seq ?_
  refine Tr.rgnD (by decide) ?_
  refine Rn.load (v:=(Qa a1)) trivial rfl (Qm rfl) rfl rfl (Rn.mov (v:=(l_ moved23)) trivial rfl (Rn.load (v:=(Qa a1)) trivial rfl (Qm rfl) rfl rfl (md rfl ?_)))
  obtain ⟨x25,h24,h⟩:=bnd h
  refine Rn.call (args:=[(Qa a1),(l_ onto2)]) trivial rfl (H_overseerref07_Erased _ _ _ h24) (fun _=>Q7u hM rfl) ?_
  obtain ⟨x27,h26,h⟩:=bnd h
  refine Rn.call (args:=[(Qa a1),(l_ moved23),(l_ x25)]) trivial rfl (H_overseerref07_Reach _ _ _ _ h26) (fun _=>Q7u hM rfl) (Rn.movTO trivial rfl ?_)
  refine Rn.nil ⟨rfl,?_⟩
  refine toN (Tr.ret ?_)
  replace h:=si h; subst h
  exact ⟨.inr rfl,(.own 1 (List.map (eI .i64) x27)),rfl,fun _ _ _ _ h=>h,trivial,fun k hk=>Qf hk⟩
theorem Qpd {P : Program} {c : Nat} {Qb8 : Qb → (List Int) → (List Int) → Int → Option ((List Int))} {Qb5 : Qb → (List Int) → Option ((List Int))}
    (H_overseerref07_Next : Qiq P 24 Qb8)
    (H_overseerref07_Begin : Qhp P 44 Qb5) (hcf : Qw P c = some Qga) (fuel : Nat) : Qf9 P c (Qbp Qb8 Qb5 fuel):=by
 intro a1 onto2 observation3 r h
 refine Qce hcf rfl fun Γ M hP hnt hM=>?_
 subst hP
 refine Tr.init [(0,(Qa a1)),(1,(l_ onto2)),(2,(l_ observation3))] rfl ?_
 unfold Qbp at h
 unfold Qga
 refine sr ((Rn.box (v:=(Qa a1)) (cs:=(Qd a1)) trivial rfl rfl rfl rfl rfl (Rn.movTC (v:=.nils 1) trivial (nt ((sr ((Rn.load (v:=(Qa a1)) trivial rfl (Qm rfl) rfl rfl (md rfl ?_)))))))))
 obtain ⟨x5,h4,h⟩:=bnd h
 refine Rn.call (args:=[(Qa a1),(l_ onto2)]) trivial rfl (H_overseerref07_Begin _ _ _ h4) pc9 (Rn.movTO trivial rfl (Rn.nil (toN ?_)))
 refine Tr.cutB (fun (out14 : List Int)=>⟨look [(7,.own 1 (List.map (eI .i64) out14))],Qo Γ.n0 (bxs [(3,.cells ((Qd a1)))]) M,Γ.n0 + 27⟩) h (fun z h=>?_) (fun z h=>?_)
 ·refine sr ((md rfl (nt ((Tr.block ?_)))))
  refine Tr.loop (mk:=fun ((out6,i7) : (List Int) × Int)=>⟨look [(1,(l_ onto2)),(2,(l_ observation3)),(3,.ptr (Γ.n0 + 3) 0),(7,.own 1 (List.map (eI .i64) out6)),(8,(i_ i7))],Qo Γ.n0 (bxs [(3,.cells ((Qd a1)))]) M,Γ.n0 + 27⟩) h (by exact Qj ⟨(sm rfl),(sm rfl),(kPtr rfl),(sm rfl),(sm rfl),trivial⟩ ⟨⟨_,rfl,rfl,(.same rfl)⟩,trivial⟩ rfl) (fun k8 z h=>?_)
  ·obtain ⟨out6,i7⟩:=z
   replace h : _ = some _:=h
   refine Tr.seq (sr ((md rfl (md rfl (Rn.lenD trivial rfl (Rn.bin trivial rfl rfl rfl (Rn.nil (toN ?_))))))))
   refine Tr.cond rfl (fun hb9=>?_) (fun hb9=>?_)
   ·replace h:=ifT hb9 h
    refine Tr.skip (toN (Tr.seq (Tr.block ?_)))
    refine Tr.rgnD (by decide) ?_
    refine Rn.load (v:=(Qa a1)) trivial rfl (Qm rfl) rfl rfl (md rfl (Rn.mov (v:=(l_ out6)) trivial rfl (md rfl (md rfl ?_))))
    obtain ⟨x10,h11,h⟩:=bnd h
    refine Rn.idxD (e:=(eI .i64)) trivial rfl rfl h11 (Rn.loadC (x:=.int .i64 x10) trivial rfl ?_)
    obtain ⟨x13,h12,h⟩:=bnd h
    refine Rn.call (args:=[(Qa a1),(l_ onto2),(l_ out6),(i_ x10)]) trivial rfl (H_overseerref07_Next _ _ _ _ _ h12) pc0 (Rn.movTO trivial rfl ?_)
    refine Rn.nil ⟨rfl,?_⟩
    refine toN (Tr.rgn (md rfl (Rn.bin trivial rfl rfl rfl (md rfl (Rn.nil ?_)))))
    exact ⟨_,h,(by exact Qj ⟨(sm rfl),(sm rfl),(kPtr rfl),(sm rfl),(sm rfl),trivial⟩ ⟨⟨_,rfl,rfl,(.same rfl)⟩,trivial⟩ rfl)⟩
   ·replace h:=ifF hb9 h
    refine Tr.exit ?_
    replace h:=si h; subst h
    exact Qi [] ⟨(sm rfl),trivial⟩ ⟨⟨_,rfl,rfl,(.same rfl)⟩,trivial⟩ rfl
 ·obtain ⟨out14,rfl⟩ : ∃ x,x = z:=⟨_,rfl⟩
  refine sr ((Rn.movTO trivial rfl (Rn.movTO trivial rfl (nt ((Tr.ret ?_))))))
  replace h:=si h; subst h
  exact ⟨.inr rfl,(.own 1 (List.map (eI .i64) out14)),rfl,fun _ _ _ _ h=>h,trivial,fun k hk=>Qf hk⟩
theorem Q48 {P : Program} {c : Nat} {Qu : Qb → (List Int) → Option Int} {Qv : Qb → (List Int) → Option Qg} {Qt : Qg → (List Int) → Int → Option ((List Int))} {Qbf : (List Int) → Int → Option Int} {Qr : Qg → (List Int) → Option Bool}
    (H_projection_check : Qdp P 38 Qu)
    (H_projection_observe : Qdv P 39 Qv)
    (H_projection_observer_next : Qc9 P 43 Qt)
    (H_projection_checkSet : Qfe P 49 Qbf)
    (H_projection_observer_known : Qcz P 52 Qr) (hcf : Qw P c = some Qld) : Qlc P c (Qc7 Qu Qv Qt Qbf Qr):=by
 intro a1 onto2 estimate3 event4 r h
 refine Qce hcf rfl fun Γ M hP hnt hM=>?_
 subst hP
 refine Tr.init [(0,(Qa a1)),(1,(l_ onto2)),(2,(l_ estimate3)),(3,(i_ event4))] rfl ?_
 unfold Qc7 at h
 unfold Qld
 refine sr ((Rn.box (v:=(Qa a1)) (cs:=(Qd a1)) trivial rfl rfl rfl rfl rfl (Rn.movTC (v:=.nils 1) trivial (md rfl (nt ((Tr.seq (sr ((Rn.load (v:=(Qa a1)) trivial rfl (Qm rfl) rfl rfl (md rfl ?_)))))))))))
 obtain ⟨x6,h5,h⟩:=bnd h
 refine Rn.call (args:=[(Qa a1),(l_ onto2)]) trivial rfl (H_projection_check _ _ _ h5) pc9 (md rfl (nt ((sr ((md rfl (Rn.bin trivial rfl rfl rfl (Rn.nil (toN ?_)))))))))
 refine Tr.cond rfl (fun hb7=>?_) (fun hb7=>?_)
 ·replace h:=bT hb7 h
  refine sr ((md rfl (Rn.movTC (v:=.nils 1) trivial (md rfl (nt ((Tr.ret ?_)))))))
  replace h:=si h; subst h
  exact ⟨.inr rfl,.tup [.nils 1,(i_ x6)],res2 rfl rfl,(WkV.tup (.cons (WkV.nilsD _) (.cons (.same rfl) .nil))).rd,⟨trivial,trivial,trivial⟩,fun k hk=>Qf hk⟩
 ·replace h:=bF hb7 h
  refine Tr.skip (toN (Tr.seq (sr ((md rfl (Rn.fldP (o':=1) trivial rfl rfl (Rn.load (v:=(i_ a1.States)) trivial rfl (Qm rfl) rfl rfl ?_)))))))
  obtain ⟨x9,h8,h⟩:=bnd h
  refine Rn.call (args:=[(l_ estimate3),(i_ a1.States)]) trivial rfl (H_projection_checkSet _ _ _ h8) pc9 (md rfl (nt ((sr ((md rfl (Rn.bin trivial rfl rfl rfl (Rn.nil (toN ?_)))))))))
  refine Tr.cond rfl (fun hb10=>?_) (fun hb10=>?_)
  ·replace h:=bT hb10 h
   refine sr ((md rfl (Rn.movTC (v:=.nils 1) trivial (md rfl (nt ((Tr.ret ?_)))))))
   replace h:=si h; subst h
   exact ⟨.inr rfl,.tup [.nils 1,(i_ x9)],res2 rfl rfl,(WkV.tup (.cons (WkV.nilsD _) (.cons (.same rfl) .nil))).rd,⟨trivial,trivial,trivial⟩,fun k hk=>Qf hk⟩
  ·replace h:=bF hb10 h
   refine Tr.skip (toN (sr ((Rn.load (v:=(Qa a1)) trivial rfl (Qm rfl) rfl rfl (md rfl ?_)))))
   obtain ⟨x12,h11,h⟩:=bnd h
   refine Rn.call (args:=[(Qa a1),(l_ onto2)]) trivial rfl (H_projection_observe _ _ _ h11) pc9 (Rn.alloc trivial rfl (Rn.storeT (v:=(Qh x12)) (ds:=(Ql x12)) (cs':=(Ql x12)) trivial rfl rfl rfl rfl rfl rfl rfl (nt ((Tr.seq (sr ((Rn.load (v:=(Qh x12)) trivial rfl (Qm rfl) rfl rfl (md rfl (Rn.bslice (xs:=[(i_ event4)]) (cs:=[(i_ event4)]) trivial rfl rfl rfl rfl ?_))))))))))
   refine Rn.weak (by show WeakSt Γ _ ⟨look [(0,(Qa a1)),(1,(l_ onto2)),(2,(l_ estimate3)),(3,(i_ event4)),(4,.ptr (Γ.n0 + 4) 0),(8,.nils 1),(9,(i_ 0)),(10,(i_ x6)),(11,(i_ x9)),(12,.ptr (Γ.n0 + 12) 0),(13,(Qa a1)),(14,(l_ onto2)),(15,(i_ x6)),(16,(i_ x6)),(17,(b_ (x6 != 0))),(19,(l_ estimate3)),(20,.ptr (Γ.n0 + 4) 1),(21,(i_ a1.States)),(22,(i_ x9)),(23,(i_ x9)),(24,(b_ (x9 != 0))),(26,(Qa a1)),(27,(l_ onto2)),(28,(Qh x12)),(29,(Qh x12)),(30,(i_ event4)),(31,(l_ [event4]))],Qo Γ.n0 (bxs [(4,.cells ((Qd a1))),(12,.cells ((Ql x12)))]) M,Γ.n0 + 38⟩; exact Qck 31 [.int .i64 event4] rfl rfl ⟨(.same rfl),(.same rfl),(.same rfl),(.same rfl),(fPtr rfl),(.same rfl),(.same rfl),(.same rfl),(.same rfl),(fPtr rfl),(.same rfl),(.same rfl),(.same rfl),(.same rfl),(.same rfl),(.same rfl),(fPtr rfl),(.same rfl),(.same rfl),(.same rfl),(.same rfl),(.same rfl),(.same rfl),(.same rfl),(.same rfl),(.same rfl),(fSl rfl rfl),trivial⟩ ⟨⟨_,rfl,rfl,(.same rfl)⟩,⟨_,rfl,rfl,(.same rfl)⟩,trivial⟩ rfl) ?_
   obtain ⟨x14,h13,h⟩:=bnd h
   refine Rn.call (args:=[(Qh x12),(l_ [event4])]) trivial rfl (H_projection_observer_known _ _ _ h13) pc9 (Rn.un trivial rfl rfl (Rn.nil (toN ?_)))
   refine Tr.cond rfl (fun hb15=>?_) (fun hb15=>?_)
   ·have hb15:=nT' hb15
    replace h:=bF hb15 h
    refine sr ((Rn.movTC (v:=.nils 1) trivial (md rfl (nt ((Tr.ret ?_))))))
    replace h:=si h; subst h
    exact ⟨.inr rfl,.tup [.nils 1,(i_ 9)],res2 rfl rfl,(WkV.tup (.cons (WkV.nilsD _) (.cons (.same rfl) .nil))).rd,⟨trivial,trivial,trivial⟩,fun k hk=>Qf hk⟩
   ·have hb15:=nF' hb15
    replace h:=bT hb15 h
    refine Tr.skip (toN (sr ((Rn.load (v:=(Qh x12)) trivial rfl (Qm rfl) rfl rfl (md rfl (md rfl ?_))))))
    obtain ⟨x17,h16,h⟩:=bnd h
    refine Rn.call (args:=[(Qh x12),(l_ estimate3),(i_ event4)]) trivial rfl (H_projection_observer_next _ _ _ _ h16) pc9 (Rn.movTD trivial rfl (md rfl (nt ((Tr.ret ?_)))))
    replace h:=si h; subst h
    exact ⟨.inr rfl,.tup [(l_ x17),(i_ 0)],res2 rfl rfl,(WkV.tup (.cons (.same rfl) (.cons (.same rfl) .nil))).rd,⟨trivial,trivial,trivial⟩,fun k hk=>Qf hk⟩
theorem Qh5 {P : Program} {c : Nat} {Qb2 : Option Bool} {Qb6 : (List Int) → Q7 → Option Qb} {Qbk : Int → Option ((List Int))} {Qq : (List Int) → (List Int) → Option Bool} {Qc7 : Qb → (List Int) → (List Int) → Int → Option ((List Int) × Int)} {Qc2 : (List Int) → Int → Option Bool} {Qb7 : Qb → (List Int) → Option ((List Int))} {Qbt : Qb → (List Int) → (List Int) → Option ((List Int) × Int)} {Qbp : Qb → (List Int) → (List Int) → Option ((List Int))}
    (H_overseerlaw07_known : Qhf P 8 Qb2)
    (H_overseerlaw03_Make : Qim P 10 Qb6)
    (H_overseerlaw03_Set_Events : Qfa P 11 Qbk)
    (H_overseerref03_SameInts : Qcx P 19 Qq)
    (H_projection_Next : Qlc P 21 Qc7)
    (H_overseerlaw03_Has : Qji P 22 Qc2)
    (H_overseerref07_Kept : Qio P 23 Qb7)
    (H_projection_Estimate : Qhm P 25 Qbt)
    (H_overseerref07_Estimate : Qf9 P 26 Qbp) (hcf : Qw P c = some Qdg) (fuel : Nat) : Qez P c (Qcl Qb2 Qb6 Qbk Qq Qc7 Qc2 Qb7 Qbt Qbp fuel):=by
 intro s1 g2 observation3 r h
 refine Qce hcf rfl fun Γ M hP hnt hM=>?_
 subst hP
 refine Tr.init [(0,.agg [.d (.int .u8 s1.1),.d (.int .u8 s1.2)]),(1,.agg [.d (.int .u8 g2.States),.d (.int .u8 g2.Marks),.d (.int .u8 g2.To.1.1),.d (.int .u8 g2.To.1.2.1),.d (.int .u8 g2.To.1.2.2.1),.d (.int .u8 g2.To.1.2.2.2.1),.d (.int .u8 g2.To.1.2.2.2.2),.d (.int .u8 g2.To.2.1.1),.d (.int .u8 g2.To.2.1.2.1),.d (.int .u8 g2.To.2.1.2.2.1),.d (.int .u8 g2.To.2.1.2.2.2.1),.d (.int .u8 g2.To.2.1.2.2.2.2),.d (.int .u8 g2.To.2.2.1.1),.d (.int .u8 g2.To.2.2.1.2.1),.d (.int .u8 g2.To.2.2.1.2.2.1),.d (.int .u8 g2.To.2.2.1.2.2.2.1),.d (.int .u8 g2.To.2.2.1.2.2.2.2),.d (.int .u8 g2.To.2.2.2.1.1),.d (.int .u8 g2.To.2.2.2.1.2.1),.d (.int .u8 g2.To.2.2.2.1.2.2.1),.d (.int .u8 g2.To.2.2.2.1.2.2.2.1),.d (.int .u8 g2.To.2.2.2.1.2.2.2.2),.d (.int .u8 g2.To.2.2.2.2.1),.d (.int .u8 g2.To.2.2.2.2.2.1),.d (.int .u8 g2.To.2.2.2.2.2.2.1),.d (.int .u8 g2.To.2.2.2.2.2.2.2.1),.d (.int .u8 g2.To.2.2.2.2.2.2.2.2)]),(2,(l_ observation3))] rfl ?_
 unfold Qcl at h
 unfold Qdg
 refine sr ((Rn.box (v:=.agg [.d (.int .u8 s1.1),.d (.int .u8 s1.2)]) (cs:=[.d (.int .u8 s1.1),.d (.int .u8 s1.2)]) trivial rfl rfl rfl rfl rfl (Rn.box (v:=.agg [.d (.int .u8 g2.States),.d (.int .u8 g2.Marks),.d (.int .u8 g2.To.1.1),.d (.int .u8 g2.To.1.2.1),.d (.int .u8 g2.To.1.2.2.1),.d (.int .u8 g2.To.1.2.2.2.1),.d (.int .u8 g2.To.1.2.2.2.2),.d (.int .u8 g2.To.2.1.1),.d (.int .u8 g2.To.2.1.2.1),.d (.int .u8 g2.To.2.1.2.2.1),.d (.int .u8 g2.To.2.1.2.2.2.1),.d (.int .u8 g2.To.2.1.2.2.2.2),.d (.int .u8 g2.To.2.2.1.1),.d (.int .u8 g2.To.2.2.1.2.1),.d (.int .u8 g2.To.2.2.1.2.2.1),.d (.int .u8 g2.To.2.2.1.2.2.2.1),.d (.int .u8 g2.To.2.2.1.2.2.2.2),.d (.int .u8 g2.To.2.2.2.1.1),.d (.int .u8 g2.To.2.2.2.1.2.1),.d (.int .u8 g2.To.2.2.2.1.2.2.1),.d (.int .u8 g2.To.2.2.2.1.2.2.2.1),.d (.int .u8 g2.To.2.2.2.1.2.2.2.2),.d (.int .u8 g2.To.2.2.2.2.1),.d (.int .u8 g2.To.2.2.2.2.2.1),.d (.int .u8 g2.To.2.2.2.2.2.2.1),.d (.int .u8 g2.To.2.2.2.2.2.2.2.1),.d (.int .u8 g2.To.2.2.2.2.2.2.2.2)]) (cs:=[.d (.int .u8 g2.States),.d (.int .u8 g2.Marks),.d (.int .u8 g2.To.1.1),.d (.int .u8 g2.To.1.2.1),.d (.int .u8 g2.To.1.2.2.1),.d (.int .u8 g2.To.1.2.2.2.1),.d (.int .u8 g2.To.1.2.2.2.2),.d (.int .u8 g2.To.2.1.1),.d (.int .u8 g2.To.2.1.2.1),.d (.int .u8 g2.To.2.1.2.2.1),.d (.int .u8 g2.To.2.1.2.2.2.1),.d (.int .u8 g2.To.2.1.2.2.2.2),.d (.int .u8 g2.To.2.2.1.1),.d (.int .u8 g2.To.2.2.1.2.1),.d (.int .u8 g2.To.2.2.1.2.2.1),.d (.int .u8 g2.To.2.2.1.2.2.2.1),.d (.int .u8 g2.To.2.2.1.2.2.2.2),.d (.int .u8 g2.To.2.2.2.1.1),.d (.int .u8 g2.To.2.2.2.1.2.1),.d (.int .u8 g2.To.2.2.2.1.2.2.1),.d (.int .u8 g2.To.2.2.2.1.2.2.2.1),.d (.int .u8 g2.To.2.2.2.1.2.2.2.2),.d (.int .u8 g2.To.2.2.2.2.1),.d (.int .u8 g2.To.2.2.2.2.2.1),.d (.int .u8 g2.To.2.2.2.2.2.2.1),.d (.int .u8 g2.To.2.2.2.2.2.2.2.1),.d (.int .u8 g2.To.2.2.2.2.2.2.2.2)]) trivial rfl rfl rfl rfl rfl (md rfl (nt ((Tr.seq ?_)))))))
 refine Tr.cutB (fun (x7 : Bool)=>⟨look [(2,(l_ observation3)),(3,.ptr (Γ.n0 + 3) 0),(4,.ptr (Γ.n0 + 4) 0),(22,(b_ x7))],Qo Γ.n0 (bxs [(3,.cells ([.d (.int .u8 s1.1),.d (.int .u8 s1.2)])),(4,.cells ([.d (.int .u8 g2.States),.d (.int .u8 g2.Marks),.d (.int .u8 g2.To.1.1),.d (.int .u8 g2.To.1.2.1),.d (.int .u8 g2.To.1.2.2.1),.d (.int .u8 g2.To.1.2.2.2.1),.d (.int .u8 g2.To.1.2.2.2.2),.d (.int .u8 g2.To.2.1.1),.d (.int .u8 g2.To.2.1.2.1),.d (.int .u8 g2.To.2.1.2.2.1),.d (.int .u8 g2.To.2.1.2.2.2.1),.d (.int .u8 g2.To.2.1.2.2.2.2),.d (.int .u8 g2.To.2.2.1.1),.d (.int .u8 g2.To.2.2.1.2.1),.d (.int .u8 g2.To.2.2.1.2.2.1),.d (.int .u8 g2.To.2.2.1.2.2.2.1),.d (.int .u8 g2.To.2.2.1.2.2.2.2),.d (.int .u8 g2.To.2.2.2.1.1),.d (.int .u8 g2.To.2.2.2.1.2.1),.d (.int .u8 g2.To.2.2.2.1.2.2.1),.d (.int .u8 g2.To.2.2.2.1.2.2.2.1),.d (.int .u8 g2.To.2.2.2.1.2.2.2.2),.d (.int .u8 g2.To.2.2.2.2.1),.d (.int .u8 g2.To.2.2.2.2.2.1),.d (.int .u8 g2.To.2.2.2.2.2.2.1),.d (.int .u8 g2.To.2.2.2.2.2.2.2.1),.d (.int .u8 g2.To.2.2.2.2.2.2.2.2)]))]) M,Γ.n0 + 107⟩) h (fun z h=>?_) (fun z h=>?_)
 ·refine Tr.rgn ?_
  obtain ⟨x5,h4,h⟩:=bnd h
  refine Rn.call (args:=[]) trivial rfl (H_overseerlaw07_known _ h4) pc9 (Rn.un trivial rfl rfl (md rfl ?_))
  refine Qdo x5 (fun hb6=>?_) (fun hb6=>?_)
  ·replace h:=bT hb6 h
   refine Rn.movD (gw rfl (nT hb6)) rfl (Rn.lenD (gw rfl (nT hb6)) rfl (Rn.bin (gw rfl (nT hb6)) rfl rfl rfl (Rn.pickF (v:=(b_ (decide ((observation3.length : Int) > 6)))) trivial rfl (nT hb6) rfl (Rn.nil ?_))))
   replace h:=si h; subst h
   exact Qi [] ⟨(sm rfl),(kPtr rfl),(kPtr rfl),(sm rfl),trivial⟩ ⟨⟨_,rfl,rfl,(.same rfl)⟩,⟨_,rfl,rfl,(.same rfl)⟩,trivial⟩ rfl
  ·replace h:=bF hb6 h
   refine Rn.sk (nw rfl (nF hb6)) (Rn.sk (nw rfl (nF hb6)) (Rn.sk (nw rfl (nF hb6)) (Rn.pickT (v:=(b_ true)) trivial rfl (nF hb6) rfl (Rn.nil ?_))))
   replace h:=si h; subst h
   exact Qi [] ⟨(sm rfl),(kPtr rfl),(kPtr rfl),(sm rfl),trivial⟩ ⟨⟨_,rfl,rfl,(.same rfl)⟩,⟨_,rfl,rfl,(.same rfl)⟩,trivial⟩ rfl
 ·obtain ⟨x7,rfl⟩ : ∃ x,x = z:=⟨_,rfl⟩
  refine Tr.cond rfl (fun hb8=>?_) (fun hb8=>?_)
  ·replace h:=bT hb8 h
   refine Tr.seq (Tr.rgn ?_)
   obtain ⟨x10,h9,h⟩:=bnd h
   refine Rn.call (args:=[]) trivial rfl (H_overseerlaw07_known _ h9) pc9 (md rfl (nt ((Tr.ret ?_))))
   replace h:=si h; subst h
   exact ⟨.inr rfl,(b_ x10),rfl,fun _ _ _ _ h=>h,trivial,fun k hk=>Qf hk⟩
  ·replace h:=bF hb8 h
   refine Tr.skip (toN (Tr.seq ?_))
   refine Tr.rgnD (by decide) ?_
   refine Rn.k (v:=.ptr (Γ.n0 + 3) 0) trivial rfl rfl rfl (Rn.load (v:=.d (.int .u8 s1.1)) trivial rfl (Qm rfl) rfl rfl ?_)
   obtain ⟨x12,h11,h⟩:=bnd h
   refine Rn.call (args:=[.d (.int .u8 s1.1)]) trivial rfl (H_overseerlaw03_Set_Events _ _ h11) (fun _=>Q7u hM rfl) (Rn.load (v:=.agg [.d (.int .u8 g2.States),.d (.int .u8 g2.Marks),.d (.int .u8 g2.To.1.1),.d (.int .u8 g2.To.1.2.1),.d (.int .u8 g2.To.1.2.2.1),.d (.int .u8 g2.To.1.2.2.2.1),.d (.int .u8 g2.To.1.2.2.2.2),.d (.int .u8 g2.To.2.1.1),.d (.int .u8 g2.To.2.1.2.1),.d (.int .u8 g2.To.2.1.2.2.1),.d (.int .u8 g2.To.2.1.2.2.2.1),.d (.int .u8 g2.To.2.1.2.2.2.2),.d (.int .u8 g2.To.2.2.1.1),.d (.int .u8 g2.To.2.2.1.2.1),.d (.int .u8 g2.To.2.2.1.2.2.1),.d (.int .u8 g2.To.2.2.1.2.2.2.1),.d (.int .u8 g2.To.2.2.1.2.2.2.2),.d (.int .u8 g2.To.2.2.2.1.1),.d (.int .u8 g2.To.2.2.2.1.2.1),.d (.int .u8 g2.To.2.2.2.1.2.2.1),.d (.int .u8 g2.To.2.2.2.1.2.2.2.1),.d (.int .u8 g2.To.2.2.2.1.2.2.2.2),.d (.int .u8 g2.To.2.2.2.2.1),.d (.int .u8 g2.To.2.2.2.2.2.1),.d (.int .u8 g2.To.2.2.2.2.2.2.1),.d (.int .u8 g2.To.2.2.2.2.2.2.2.1),.d (.int .u8 g2.To.2.2.2.2.2.2.2.2)]) trivial rfl (Qm rfl) rfl rfl ?_)
   obtain ⟨x14,h13,h⟩:=bnd h
   refine Rn.call (args:=[(l_ x12),.agg [.d (.int .u8 g2.States),.d (.int .u8 g2.Marks),.d (.int .u8 g2.To.1.1),.d (.int .u8 g2.To.1.2.1),.d (.int .u8 g2.To.1.2.2.1),.d (.int .u8 g2.To.1.2.2.2.1),.d (.int .u8 g2.To.1.2.2.2.2),.d (.int .u8 g2.To.2.1.1),.d (.int .u8 g2.To.2.1.2.1),.d (.int .u8 g2.To.2.1.2.2.1),.d (.int .u8 g2.To.2.1.2.2.2.1),.d (.int .u8 g2.To.2.1.2.2.2.2),.d (.int .u8 g2.To.2.2.1.1),.d (.int .u8 g2.To.2.2.1.2.1),.d (.int .u8 g2.To.2.2.1.2.2.1),.d (.int .u8 g2.To.2.2.1.2.2.2.1),.d (.int .u8 g2.To.2.2.1.2.2.2.2),.d (.int .u8 g2.To.2.2.2.1.1),.d (.int .u8 g2.To.2.2.2.1.2.1),.d (.int .u8 g2.To.2.2.2.1.2.2.1),.d (.int .u8 g2.To.2.2.2.1.2.2.2.1),.d (.int .u8 g2.To.2.2.2.1.2.2.2.2),.d (.int .u8 g2.To.2.2.2.2.1),.d (.int .u8 g2.To.2.2.2.2.2.1),.d (.int .u8 g2.To.2.2.2.2.2.2.1),.d (.int .u8 g2.To.2.2.2.2.2.2.2.1),.d (.int .u8 g2.To.2.2.2.2.2.2.2.2)]]) trivial rfl (H_overseerlaw03_Make _ _ _ h13) (fun _=>Q7u hM rfl) (Rn.k (v:=.ptr (Γ.n0 + 3) 1) trivial rfl rfl rfl (Rn.load (v:=.d (.int .u8 s1.2)) trivial rfl (Qm rfl) rfl rfl ?_))
   obtain ⟨x16,h15,h⟩:=bnd h
   refine Rn.call (args:=[.d (.int .u8 s1.2)]) trivial rfl (H_overseerlaw03_Set_Events _ _ h15) (fun _=>Q7u hM rfl) (Rn.alloc trivial rfl (Rn.storeT (v:=(Qa x14)) (ds:=(Qd x14)) (cs':=(Qd x14)) trivial rfl rfl rfl rfl rfl rfl rfl (Rn.movTO trivial rfl ?_)))
   refine Rn.nil ⟨rfl,?_⟩
   refine toN (sr ((Rn.load (v:=(Qa x14)) trivial rfl (Qm rfl) rfl rfl (Rn.mov (v:=(l_ x16)) trivial rfl (md rfl ?_)))))
   obtain ⟨⟨r18,r19⟩,h17,h⟩:=bnd h
   refine Rn.call (args:=[(Qa x14),(l_ x16),(l_ observation3)]) trivial rfl (H_projection_Estimate _ _ _ _ h17) pc9 (Rn.mov (v:=.tup [(l_ r18),(i_ r19)]) trivial rfl (Rn.extTD (vs:=[(l_ r18),(i_ r19)]) trivial rfl rfl rfl (Rn.ext (v:=(i_ r19)) (vs:=[(l_ r18),(i_ r19)]) trivial rfl rfl rfl (Rn.movTD trivial rfl (md rfl (nt ((sr ((Rn.load (v:=(Qa x14)) trivial rfl (Qm rfl) rfl rfl (Rn.mov (v:=(l_ x16)) trivial rfl ?_)))))))))))
   obtain ⟨x21,h20,h⟩:=bnd h
   refine Rn.call (args:=[(Qa x14),(l_ x16)]) trivial rfl (H_overseerref07_Kept _ _ _ h20) pc9 (Rn.movTO trivial rfl (nt ((Tr.seq (sr ((md rfl (nt ((Tr.block ?_))))))))))
   refine Tr.loop (mk:=fun (i22 : Int)=>⟨look [(2,(l_ observation3)),(7,.ptr (Γ.n0 + 7) 0),(8,.own 1 (List.map (eI .i64) x16)),(9,(l_ r18)),(10,(i_ r19)),(11,.own 1 (List.map (eI .i64) x21)),(12,(i_ i22))],Qo Γ.n0 (bxs [(3,.cells ([.d (.int .u8 s1.1),.d (.int .u8 s1.2)])),(4,.cells ([.d (.int .u8 g2.States),.d (.int .u8 g2.Marks),.d (.int .u8 g2.To.1.1),.d (.int .u8 g2.To.1.2.1),.d (.int .u8 g2.To.1.2.2.1),.d (.int .u8 g2.To.1.2.2.2.1),.d (.int .u8 g2.To.1.2.2.2.2),.d (.int .u8 g2.To.2.1.1),.d (.int .u8 g2.To.2.1.2.1),.d (.int .u8 g2.To.2.1.2.2.1),.d (.int .u8 g2.To.2.1.2.2.2.1),.d (.int .u8 g2.To.2.1.2.2.2.2),.d (.int .u8 g2.To.2.2.1.1),.d (.int .u8 g2.To.2.2.1.2.1),.d (.int .u8 g2.To.2.2.1.2.2.1),.d (.int .u8 g2.To.2.2.1.2.2.2.1),.d (.int .u8 g2.To.2.2.1.2.2.2.2),.d (.int .u8 g2.To.2.2.2.1.1),.d (.int .u8 g2.To.2.2.2.1.2.1),.d (.int .u8 g2.To.2.2.2.1.2.2.1),.d (.int .u8 g2.To.2.2.2.1.2.2.2.1),.d (.int .u8 g2.To.2.2.2.1.2.2.2.2),.d (.int .u8 g2.To.2.2.2.2.1),.d (.int .u8 g2.To.2.2.2.2.2.1),.d (.int .u8 g2.To.2.2.2.2.2.2.1),.d (.int .u8 g2.To.2.2.2.2.2.2.2.1),.d (.int .u8 g2.To.2.2.2.2.2.2.2.2)])),(7,.cells ((Qd x14)))]) M,Γ.n0 + 107⟩) h (by exact Qj ⟨(sm rfl),(kPtr rfl),(sm rfl),(sm rfl),(sm rfl),(sm rfl),(sm rfl),trivial⟩ ⟨⟨_,rfl,rfl,(.same rfl)⟩,⟨_,rfl,rfl,(.same rfl)⟩,⟨_,rfl,rfl,(.same rfl)⟩,trivial⟩ rfl) (fun k23 z h=>?_)
   ·obtain ⟨i22,rfl⟩ : ∃ x,x = z:=⟨_,rfl⟩
    replace h : _ = some _:=h
    refine Tr.seq (sr ((md rfl (md rfl (Rn.lenD trivial rfl (Rn.bin trivial rfl rfl rfl (Rn.nil (toN ?_))))))))
    refine Tr.cond rfl (fun hb24=>?_) (fun hb24=>?_)
    ·replace h:=ifT hb24 h
     refine Tr.skip (toN (Tr.seq (Tr.block (sr ((Rn.mov (v:=(l_ x21)) trivial rfl (md rfl (md rfl ?_))))))))
     obtain ⟨x25,h26,h⟩:=bnd h
     refine Rn.idxD (e:=(eI .i64)) trivial rfl rfl h26 (Rn.loadC (x:=.int .i64 x25) trivial rfl ?_)
     obtain ⟨x28,h27,h⟩:=bnd h
     refine Rn.call (args:=[(l_ x21),(i_ x25)]) trivial rfl (H_overseerlaw03_Has _ _ _ h27) pc9 (Rn.un trivial rfl rfl (Rn.nil (toN ?_)))
     refine Tr.cond rfl (fun hb29=>?_) (fun hb29=>?_)
     ·have hb29:=nT' hb29
      replace h:=bF hb29 h
      refine sr ((md rfl (Rn.lenD trivial rfl (Rn.bin trivial rfl rfl rfl (md rfl ?_)))))
      refine Qdo ((r18.length : Int) == 0) (fun hb30=>?_) (fun hb30=>?_)
      ·replace h:=bT hb30 h
       refine Rn.movD (gw rfl hb30) rfl (Rn.bin (gw rfl hb30) rfl rfl rfl (Rn.pickT (v:=(b_ (r19 == 9))) trivial rfl hb30 rfl (md rfl (nt ((Tr.ret ?_))))))
       replace h:=si h; subst h
       exact ⟨.inr rfl,(b_ (r19 == 9)),rfl,fun _ _ _ _ h=>h,trivial,fun k hk=>Qf hk⟩
      ·replace h:=bF hb30 h
       refine Rn.sk (nw rfl hb30) (Rn.sk (nw rfl hb30) (Rn.pickF (v:=(b_ false)) trivial rfl hb30 rfl (md rfl (nt ((Tr.ret ?_))))))
       replace h:=si h; subst h
       exact ⟨.inr rfl,(b_ false),rfl,fun _ _ _ _ h=>h,trivial,fun k hk=>Qf hk⟩
     ·have hb29:=nF' hb29
      replace h:=bT hb29 h
      refine Tr.skip (toN (Tr.rgn (md rfl (Rn.bin trivial rfl rfl rfl (md rfl (Rn.nil ?_))))))
      exact ⟨_,h,(by exact Qj ⟨(sm rfl),(kPtr rfl),(sm rfl),(sm rfl),(sm rfl),(sm rfl),(sm rfl),trivial⟩ ⟨⟨_,rfl,rfl,(.same rfl)⟩,⟨_,rfl,rfl,(.same rfl)⟩,⟨_,rfl,rfl,(.same rfl)⟩,trivial⟩ rfl)⟩
    ·replace h:=ifF hb24 h
     refine Tr.exit (toN (Tr.seq ?_))
     refine Tr.cutB (fun (x36 : Bool)=>⟨look [(2,(l_ observation3)),(7,.ptr (Γ.n0 + 7) 0),(8,.own 1 (List.map (eI .i64) x16)),(9,(l_ r18)),(72,(b_ x36))],Qo Γ.n0 (bxs [(3,.cells ([.d (.int .u8 s1.1),.d (.int .u8 s1.2)])),(4,.cells ([.d (.int .u8 g2.States),.d (.int .u8 g2.Marks),.d (.int .u8 g2.To.1.1),.d (.int .u8 g2.To.1.2.1),.d (.int .u8 g2.To.1.2.2.1),.d (.int .u8 g2.To.1.2.2.2.1),.d (.int .u8 g2.To.1.2.2.2.2),.d (.int .u8 g2.To.2.1.1),.d (.int .u8 g2.To.2.1.2.1),.d (.int .u8 g2.To.2.1.2.2.1),.d (.int .u8 g2.To.2.1.2.2.2.1),.d (.int .u8 g2.To.2.1.2.2.2.2),.d (.int .u8 g2.To.2.2.1.1),.d (.int .u8 g2.To.2.2.1.2.1),.d (.int .u8 g2.To.2.2.1.2.2.1),.d (.int .u8 g2.To.2.2.1.2.2.2.1),.d (.int .u8 g2.To.2.2.1.2.2.2.2),.d (.int .u8 g2.To.2.2.2.1.1),.d (.int .u8 g2.To.2.2.2.1.2.1),.d (.int .u8 g2.To.2.2.2.1.2.2.1),.d (.int .u8 g2.To.2.2.2.1.2.2.2.1),.d (.int .u8 g2.To.2.2.2.1.2.2.2.2),.d (.int .u8 g2.To.2.2.2.2.1),.d (.int .u8 g2.To.2.2.2.2.2.1),.d (.int .u8 g2.To.2.2.2.2.2.2.1),.d (.int .u8 g2.To.2.2.2.2.2.2.2.1),.d (.int .u8 g2.To.2.2.2.2.2.2.2.2)])),(7,.cells ((Qd x14)))]) M,Γ.n0 + 107⟩) h (fun z h=>?_) (fun z h=>?_)
     ·refine Tr.rgn (md rfl (Rn.load (v:=(Qa x14)) trivial rfl (Qm rfl) rfl rfl (Rn.mov (v:=(l_ x16)) trivial rfl (md rfl ?_))))
      obtain ⟨x32,h31,h⟩:=bnd h
      refine Rn.call (args:=[(Qa x14),(l_ x16),(l_ observation3)]) trivial rfl (H_overseerref07_Estimate _ _ _ _ h31) pc9 ?_
      obtain ⟨x34,h33,h⟩:=bnd h
      refine Rn.call (args:=[(l_ r18),(l_ x32)]) trivial rfl (H_overseerref03_SameInts _ _ _ h33) pc9 (Rn.un trivial rfl rfl (md rfl ?_))
      refine Qdo x34 (fun hb35=>?_) (fun hb35=>?_)
      ·replace h:=bT hb35 h
       refine Rn.movD (gw rfl (nT hb35)) rfl (Rn.bin (gw rfl (nT hb35)) rfl rfl rfl (Rn.pickF (v:=(b_ (r19 != 0))) trivial rfl (nT hb35) rfl (Rn.nil ?_)))
       replace h:=si h; subst h
       exact Qi [] ⟨(sm rfl),(kPtr rfl),(sm rfl),(sm rfl),(sm rfl),trivial⟩ ⟨⟨_,rfl,rfl,(.same rfl)⟩,⟨_,rfl,rfl,(.same rfl)⟩,⟨_,rfl,rfl,(.same rfl)⟩,trivial⟩ rfl
      ·replace h:=bF hb35 h
       refine Rn.sk (nw rfl (nF hb35)) (Rn.sk (nw rfl (nF hb35)) (Rn.pickT (v:=(b_ true)) trivial rfl (nF hb35) rfl (Rn.nil ?_)))
       replace h:=si h; subst h
       exact Qi [] ⟨(sm rfl),(kPtr rfl),(sm rfl),(sm rfl),(sm rfl),trivial⟩ ⟨⟨_,rfl,rfl,(.same rfl)⟩,⟨_,rfl,rfl,(.same rfl)⟩,⟨_,rfl,rfl,(.same rfl)⟩,trivial⟩ rfl
     ·obtain ⟨x36,rfl⟩ : ∃ x,x = z:=⟨_,rfl⟩
      refine Tr.cond rfl (fun hb37=>?_) (fun hb37=>?_)
      ·replace h:=bT hb37 h
       refine sr ((md rfl (nt ((Tr.ret ?_)))))
       replace h:=si h; subst h
       exact ⟨.inr rfl,(b_ false),rfl,fun _ _ _ _ h=>h,trivial,fun k hk=>Qf hk⟩
      ·replace h:=bF hb37 h
       refine Tr.skip (toN (sr ((Rn.load (v:=(Qa x14)) trivial rfl (Qm rfl) rfl rfl (Rn.mov (v:=(l_ x16)) trivial rfl ?_)))))
       obtain ⟨⟨r39,r40⟩,h38,h⟩:=bnd h
       refine Rn.call (args:=[(Qa x14),(l_ x16),.nils 1]) trivial rfl (fun M2 nb2=>ACalls.weak (args':=[(Qa x14),(l_ x16),(l_ [])]) (H_projection_Estimate _ _ _ _ h38 M2 nb2) (.cons (sm rfl) (.cons (sm rfl) (.cons (WkV.nilsD _) .nil))) rfl) pc9 ?_
       refine Rn.mov (v:=.tup [(l_ r39),(i_ r40)]) trivial rfl (Rn.extTD (vs:=[(l_ r39),(i_ r40)]) trivial rfl rfl rfl (Rn.ext (v:=(i_ r40)) (vs:=[(l_ r39),(i_ r40)]) trivial rfl rfl rfl (Rn.movTD trivial rfl (md rfl (Rn.nil (toN ?_))))))
       refine Tr.cutB (fun ((xat53,f54) : (List Int) × Int)=>⟨look [(9,(l_ r18)),(13,(l_ xat53)),(14,(i_ f54))],Qo Γ.n0 (bxs [(3,.cells ([.d (.int .u8 s1.1),.d (.int .u8 s1.2)])),(4,.cells ([.d (.int .u8 g2.States),.d (.int .u8 g2.Marks),.d (.int .u8 g2.To.1.1),.d (.int .u8 g2.To.1.2.1),.d (.int .u8 g2.To.1.2.2.1),.d (.int .u8 g2.To.1.2.2.2.1),.d (.int .u8 g2.To.1.2.2.2.2),.d (.int .u8 g2.To.2.1.1),.d (.int .u8 g2.To.2.1.2.1),.d (.int .u8 g2.To.2.1.2.2.1),.d (.int .u8 g2.To.2.1.2.2.2.1),.d (.int .u8 g2.To.2.1.2.2.2.2),.d (.int .u8 g2.To.2.2.1.1),.d (.int .u8 g2.To.2.2.1.2.1),.d (.int .u8 g2.To.2.2.1.2.2.1),.d (.int .u8 g2.To.2.2.1.2.2.2.1),.d (.int .u8 g2.To.2.2.1.2.2.2.2),.d (.int .u8 g2.To.2.2.2.1.1),.d (.int .u8 g2.To.2.2.2.1.2.1),.d (.int .u8 g2.To.2.2.2.1.2.2.1),.d (.int .u8 g2.To.2.2.2.1.2.2.2.1),.d (.int .u8 g2.To.2.2.2.1.2.2.2.2),.d (.int .u8 g2.To.2.2.2.2.1),.d (.int .u8 g2.To.2.2.2.2.2.1),.d (.int .u8 g2.To.2.2.2.2.2.2.1),.d (.int .u8 g2.To.2.2.2.2.2.2.2.1),.d (.int .u8 g2.To.2.2.2.2.2.2.2.2)])),(7,.cells ((Qd x14)))]) M,Γ.n0 + 107⟩) h (fun z h=>?_) (fun z h=>?_)
       ·refine sr ((md rfl (nt ((Tr.block ?_)))))
        refine Tr.loop (mk:=fun ((xat41,f42,i43) : (List Int) × Int × Int)=>⟨look [(2,(l_ observation3)),(7,.ptr (Γ.n0 + 7) 0),(8,.own 1 (List.map (eI .i64) x16)),(9,(l_ r18)),(13,(l_ xat41)),(14,(i_ f42)),(15,(i_ i43))],Qo Γ.n0 (bxs [(3,.cells ([.d (.int .u8 s1.1),.d (.int .u8 s1.2)])),(4,.cells ([.d (.int .u8 g2.States),.d (.int .u8 g2.Marks),.d (.int .u8 g2.To.1.1),.d (.int .u8 g2.To.1.2.1),.d (.int .u8 g2.To.1.2.2.1),.d (.int .u8 g2.To.1.2.2.2.1),.d (.int .u8 g2.To.1.2.2.2.2),.d (.int .u8 g2.To.2.1.1),.d (.int .u8 g2.To.2.1.2.1),.d (.int .u8 g2.To.2.1.2.2.1),.d (.int .u8 g2.To.2.1.2.2.2.1),.d (.int .u8 g2.To.2.1.2.2.2.2),.d (.int .u8 g2.To.2.2.1.1),.d (.int .u8 g2.To.2.2.1.2.1),.d (.int .u8 g2.To.2.2.1.2.2.1),.d (.int .u8 g2.To.2.2.1.2.2.2.1),.d (.int .u8 g2.To.2.2.1.2.2.2.2),.d (.int .u8 g2.To.2.2.2.1.1),.d (.int .u8 g2.To.2.2.2.1.2.1),.d (.int .u8 g2.To.2.2.2.1.2.2.1),.d (.int .u8 g2.To.2.2.2.1.2.2.2.1),.d (.int .u8 g2.To.2.2.2.1.2.2.2.2),.d (.int .u8 g2.To.2.2.2.2.1),.d (.int .u8 g2.To.2.2.2.2.2.1),.d (.int .u8 g2.To.2.2.2.2.2.2.1),.d (.int .u8 g2.To.2.2.2.2.2.2.2.1),.d (.int .u8 g2.To.2.2.2.2.2.2.2.2)])),(7,.cells ((Qd x14)))]) M,Γ.n0 + 107⟩) h (by exact Qj ⟨(sm rfl),(kPtr rfl),(sm rfl),(sm rfl),(sm rfl),(sm rfl),(sm rfl),trivial⟩ ⟨⟨_,rfl,rfl,(.same rfl)⟩,⟨_,rfl,rfl,(.same rfl)⟩,⟨_,rfl,rfl,(.same rfl)⟩,trivial⟩ rfl) (fun k44 z h=>?_)
        ·obtain ⟨xat41,f42,i43⟩:=z
         replace h : _ = some _:=h
         refine Tr.seq ?_
         refine Tr.cutB (fun (x46 : Bool)=>⟨look [(2,(l_ observation3)),(7,.ptr (Γ.n0 + 7) 0),(8,.own 1 (List.map (eI .i64) x16)),(9,(l_ r18)),(13,(l_ xat41)),(14,(i_ f42)),(15,(i_ i43)),(86,(b_ x46))],Qo Γ.n0 (bxs [(3,.cells ([.d (.int .u8 s1.1),.d (.int .u8 s1.2)])),(4,.cells ([.d (.int .u8 g2.States),.d (.int .u8 g2.Marks),.d (.int .u8 g2.To.1.1),.d (.int .u8 g2.To.1.2.1),.d (.int .u8 g2.To.1.2.2.1),.d (.int .u8 g2.To.1.2.2.2.1),.d (.int .u8 g2.To.1.2.2.2.2),.d (.int .u8 g2.To.2.1.1),.d (.int .u8 g2.To.2.1.2.1),.d (.int .u8 g2.To.2.1.2.2.1),.d (.int .u8 g2.To.2.1.2.2.2.1),.d (.int .u8 g2.To.2.1.2.2.2.2),.d (.int .u8 g2.To.2.2.1.1),.d (.int .u8 g2.To.2.2.1.2.1),.d (.int .u8 g2.To.2.2.1.2.2.1),.d (.int .u8 g2.To.2.2.1.2.2.2.1),.d (.int .u8 g2.To.2.2.1.2.2.2.2),.d (.int .u8 g2.To.2.2.2.1.1),.d (.int .u8 g2.To.2.2.2.1.2.1),.d (.int .u8 g2.To.2.2.2.1.2.2.1),.d (.int .u8 g2.To.2.2.2.1.2.2.2.1),.d (.int .u8 g2.To.2.2.2.1.2.2.2.2),.d (.int .u8 g2.To.2.2.2.2.1),.d (.int .u8 g2.To.2.2.2.2.2.1),.d (.int .u8 g2.To.2.2.2.2.2.2.1),.d (.int .u8 g2.To.2.2.2.2.2.2.2.1),.d (.int .u8 g2.To.2.2.2.2.2.2.2.2)])),(7,.cells ((Qd x14)))]) M,Γ.n0 + 107⟩) h (fun z h=>?_) (fun z h=>?_)
         ·refine Tr.rgn (md rfl (md rfl (Rn.lenD trivial rfl (Rn.bin trivial rfl rfl rfl (md rfl ?_)))))
          refine Qdo (decide (i43 < (observation3.length : Int))) (fun hb45=>?_) (fun hb45=>?_)
          ·replace h:=ifT hb45 h
           refine Rn.movD (gw rfl hb45) rfl (Rn.bin (gw rfl hb45) rfl rfl rfl (Rn.pickT (v:=(b_ (f42 == 0))) trivial rfl hb45 rfl (Rn.nil ?_)))
           replace h:=si h; subst h
           exact Qi [] ⟨(sm rfl),(kPtr rfl),(sm rfl),(sm rfl),(sm rfl),(sm rfl),(sm rfl),(sm rfl),trivial⟩ ⟨⟨_,rfl,rfl,(.same rfl)⟩,⟨_,rfl,rfl,(.same rfl)⟩,⟨_,rfl,rfl,(.same rfl)⟩,trivial⟩ rfl
          ·replace h:=ifF hb45 h
           refine Rn.sk (nw rfl hb45) (Rn.sk (nw rfl hb45) (Rn.pickF (v:=(b_ false)) trivial rfl hb45 rfl (Rn.nil ?_)))
           replace h:=si h; subst h
           exact Qi [] ⟨(sm rfl),(kPtr rfl),(sm rfl),(sm rfl),(sm rfl),(sm rfl),(sm rfl),(sm rfl),trivial⟩ ⟨⟨_,rfl,rfl,(.same rfl)⟩,⟨_,rfl,rfl,(.same rfl)⟩,⟨_,rfl,rfl,(.same rfl)⟩,trivial⟩ rfl
         ·obtain ⟨x46,rfl⟩ : ∃ x,x = z:=⟨_,rfl⟩
          refine Tr.cond rfl (fun hb47=>?_) (fun hb47=>?_)
          ·replace h:=bT hb47 h
           refine Tr.skip (toN (Tr.seq (Tr.block ?_)))
           refine Tr.rgnD (by decide) ?_
           refine Rn.load (v:=(Qa x14)) trivial rfl (Qm rfl) rfl rfl (Rn.mov (v:=(l_ x16)) trivial rfl (md rfl (md rfl (md rfl ?_))))
           obtain ⟨x48,h49,h⟩:=bnd h
           refine Rn.idxD (e:=(eI .i64)) trivial rfl rfl h49 (Rn.loadC (x:=.int .i64 x48) trivial rfl ?_)
           obtain ⟨⟨r51,r52⟩,h50,h⟩:=bnd h
           refine Rn.call (args:=[(Qa x14),(l_ x16),(l_ xat41),(i_ x48)]) trivial rfl (H_projection_Next _ _ _ _ _ h50) pc0 (Rn.mov (v:=.tup [(l_ r51),(i_ r52)]) trivial rfl (Rn.extTD (vs:=[(l_ r51),(i_ r52)]) trivial rfl rfl rfl (Rn.ext (v:=(i_ r52)) (vs:=[(l_ r51),(i_ r52)]) trivial rfl rfl rfl (Rn.movTD trivial rfl (md rfl ?_)))))
           refine Rn.nil ⟨rfl,?_⟩
           refine toN (Tr.rgn (md rfl (Rn.bin trivial rfl rfl rfl (md rfl (Rn.nil ?_)))))
           exact ⟨_,h,(by exact Qj ⟨(sm rfl),(kPtr rfl),(sm rfl),(sm rfl),(sm rfl),(sm rfl),(sm rfl),trivial⟩ ⟨⟨_,rfl,rfl,(.same rfl)⟩,⟨_,rfl,rfl,(.same rfl)⟩,⟨_,rfl,rfl,(.same rfl)⟩,trivial⟩ rfl)⟩
          ·replace h:=bF hb47 h
           refine Tr.exit ?_
           replace h:=si h; subst h
           exact Qi [] ⟨(sm rfl),(sm rfl),(sm rfl),trivial⟩ ⟨⟨_,rfl,rfl,(.same rfl)⟩,⟨_,rfl,rfl,(.same rfl)⟩,⟨_,rfl,rfl,(.same rfl)⟩,trivial⟩ rfl
       ·obtain ⟨xat53,f54⟩:=z
        refine sr ((md rfl (Rn.bin trivial rfl rfl rfl (md rfl ?_))))
        refine Qdo (f54 == 0) (fun hb55=>?_) (fun hb55=>?_)
        ·replace h:=bT hb55 h
         refine Rn.movD (gw rfl hb55) rfl (Rn.movD (gw rfl hb55) rfl ?_)
         obtain ⟨x57,h56,h⟩:=bnd h
         refine Rn.call (args:=[(l_ xat53),(l_ r18)]) (gw rfl hb55) rfl (H_overseerref03_SameInts _ _ _ h56) pc9 (Rn.pickT (v:=(b_ x57)) trivial rfl hb55 rfl (md rfl (nt ((Tr.ret ?_)))))
         replace h:=si h; subst h
         exact ⟨.inr rfl,(b_ x57),rfl,fun _ _ _ _ h=>h,trivial,fun k hk=>Qf hk⟩
        ·replace h:=bF hb55 h
         refine Rn.sk (nw rfl hb55) (Rn.sk (nw rfl hb55) (Rn.sk (nw rfl hb55) (Rn.pickF (v:=(b_ false)) trivial rfl hb55 rfl (md rfl (nt ((Tr.ret ?_)))))))
         replace h:=si h; subst h
         exact ⟨.inr rfl,(b_ false),rfl,fun _ _ _ _ h=>h,trivial,fun k hk=>Qf hk⟩
theorem Qxm {P : Program} {c : Nat} (hcf : Qw P c = some Qi2) (fuel : Nat) : Qmv P c (Qfz fuel):=by
 intro a1 bits2 r h
 refine Qce hcf rfl fun Γ M hP hnt hM=>?_
 subst hP
 refine Tr.init [(0,(Qa a1)),(1,.d (.int .u8 bits2))] rfl ?_
 unfold Qfz at h
 unfold Qi2
 refine sr ((Rn.box (v:=(Qa a1)) (cs:=(Qd a1)) trivial rfl rfl rfl rfl rfl (Rn.movTC (v:=.nils 1) trivial (nt ((sr ((Rn.movTC (v:=.nils 1) trivial (Rn.nil (toN ?_))))))))))
 refine Tr.cutB (fun (out15 : List Int)=>⟨look [(5,.own 1 (List.map (eI .i64) out15))],Qo Γ.n0 (bxs [(2,.cells ((Qd a1)))]) M,Γ.n0 + 27⟩) h (fun z h=>?_) (fun z h=>?_)
 ·refine sr ((md rfl (nt ((Tr.block ?_)))))
  refine Tr.loop (mk:=fun ((out3,i4) : (List Int) × Int)=>⟨look [(1,.d (.int .u8 bits2)),(2,.ptr (Γ.n0 + 2) 0),(5,.own 1 (List.map (eI .i64) out3)),(6,(i_ i4))],Qo Γ.n0 (bxs [(2,.cells ((Qd a1)))]) M,Γ.n0 + 27⟩) h (by exact Qj ⟨(sm rfl),(kPtr rfl),(WkV.nilsO _),(sm rfl),trivial⟩ ⟨⟨_,rfl,rfl,(.same rfl)⟩,trivial⟩ rfl) (fun k5 z h=>?_)
  ·obtain ⟨out3,i4⟩:=z
   replace h : _ = some _:=h
   refine Tr.seq ?_
   refine Tr.cutB (fun (x7 : Bool)=>⟨look [(1,.d (.int .u8 bits2)),(2,.ptr (Γ.n0 + 2) 0),(5,.own 1 (List.map (eI .i64) out3)),(6,(i_ i4)),(14,(b_ x7))],Qo Γ.n0 (bxs [(2,.cells ((Qd a1)))]) M,Γ.n0 + 27⟩) h (fun z h=>?_) (fun z h=>?_)
   ·refine Tr.rgn (md rfl (Rn.fldP (o':=1) trivial rfl rfl (Rn.load (v:=(i_ a1.States)) trivial rfl (Qm rfl) rfl rfl (Rn.bin trivial rfl rfl rfl (md rfl ?_)))))
    refine Qdo (decide (i4 < a1.States)) (fun hb6=>?_) (fun hb6=>?_)
    ·replace h:=ifT hb6 h
     refine Rn.movD (gw rfl hb6) rfl (Rn.bin (gw rfl hb6) rfl rfl rfl (Rn.pickT (v:=(b_ (decide (i4 < 8)))) trivial rfl hb6 rfl (Rn.nil ?_)))
     replace h:=si h; subst h
     exact Qi [] ⟨(sm rfl),(kPtr rfl),(sm rfl),(sm rfl),(sm rfl),trivial⟩ ⟨⟨_,rfl,rfl,(.same rfl)⟩,trivial⟩ rfl
    ·replace h:=ifF hb6 h
     refine Rn.sk (nw rfl hb6) (Rn.sk (nw rfl hb6) (Rn.pickF (v:=(b_ false)) trivial rfl hb6 rfl (Rn.nil ?_)))
     replace h:=si h; subst h
     exact Qi [] ⟨(sm rfl),(kPtr rfl),(sm rfl),(sm rfl),(sm rfl),trivial⟩ ⟨⟨_,rfl,rfl,(.same rfl)⟩,trivial⟩ rfl
   ·obtain ⟨x7,rfl⟩ : ∃ x,x = z:=⟨_,rfl⟩
    refine Tr.cond rfl (fun hb8=>?_) (fun hb8=>?_)
    ·replace h:=bT hb8 h
     refine Tr.skip (toN ?_)
     refine Tr.cutB (fun (out14 : List Int)=>⟨look [(1,.d (.int .u8 bits2)),(2,.ptr (Γ.n0 + 2) 0),(5,.own 1 (List.map (eI .i64) out14)),(6,(i_ i4))],Qo Γ.n0 (bxs [(2,.cells ((Qd a1)))]) M,Γ.n0 + 27⟩) h (fun z h=>?_) (fun z h=>?_)
     ·refine Tr.block (sr ((md rfl (md rfl ?_))))
      obtain ⟨s9,h10,h⟩:=bnd h
      refine Rn.bin trivial rfl rfl (Qbfx h10) (Rn.bin trivial rfl rfl rfl (Rn.bin trivial rfl rfl rfl (Rn.nil (toN ?_))))
      refine Tr.cond rfl (fun hb11=>?_) (fun hb11=>?_)
      ·replace h:=bT hb11 h
       refine Tr.rgn (Rn.movTO trivial rfl (md rfl (Rn.bslice (xs:=[(i_ i4)]) (cs:=[(i_ i4)]) trivial rfl rfl rfl rfl ?_)))
       obtain ⟨x12,h13,h⟩:=bnd h
       refine Rn.app (e:=(eI .i64)) trivial rfl rfl rfl (Qcc rfl rfl rfl) h13 rfl (Rn.movTO trivial rfl (Rn.nil ?_))
       replace h:=si h; subst h
       exact Qi [24] ⟨(sm rfl),(kPtr rfl),(sm rfl),(sm rfl),trivial⟩ ⟨⟨_,rfl,rfl,(.same rfl)⟩,trivial⟩ rfl
      ·replace h:=bF hb11 h
       refine Tr.skip ?_
       replace h:=si h; subst h
       exact Qi [] ⟨(sm rfl),(kPtr rfl),(sm rfl),(sm rfl),trivial⟩ ⟨⟨_,rfl,rfl,(.same rfl)⟩,trivial⟩ rfl
     ·obtain ⟨out14,rfl⟩ : ∃ x,x = z:=⟨_,rfl⟩
      refine Tr.rgn (md rfl (Rn.bin trivial rfl rfl rfl (md rfl (Rn.nil ?_))))
      exact ⟨_,h,(by exact Qj ⟨(sm rfl),(kPtr rfl),(sm rfl),(sm rfl),trivial⟩ ⟨⟨_,rfl,rfl,(.same rfl)⟩,trivial⟩ rfl)⟩
    ·replace h:=bF hb8 h
     refine Tr.exit ?_
     replace h:=si h; subst h
     exact Qi [] ⟨(sm rfl),trivial⟩ ⟨⟨_,rfl,rfl,(.same rfl)⟩,trivial⟩ rfl
 ·obtain ⟨out15,rfl⟩ : ∃ x,x = z:=⟨_,rfl⟩
  refine sr ((Rn.movTO trivial rfl (Rn.movTO trivial rfl (nt ((Tr.ret ?_))))))
  replace h:=si h; subst h
  exact ⟨.inr rfl,(.own 1 (List.map (eI .i64) out15)),rfl,fun _ _ _ _ h=>h,trivial,fun k hk=>Qf hk⟩
theorem Q2l {P : Program} {c : Nat} (hcf : Qw P c = some Qj3) (fuel : Nat) : Qqi P c (Qg3 fuel):=by
 intro s1 s2 r h
 refine Qce hcf rfl fun Γ M hP hnt hM=>?_
 subst hP
 refine Tr.init [(0,(l_ s1)),(1,(l_ s2))] rfl ?_
 unfold Qg3 at h
 unfold Qj3
 refine sr ((md rfl (nt ((Tr.seq (sr ((md rfl (Rn.lenD trivial rfl (md rfl (Rn.lenD trivial rfl (Rn.bin trivial rfl rfl rfl (Rn.nil (toN ?_))))))))))))))
 refine Tr.cond rfl (fun hb3=>?_) (fun hb3=>?_)
 ·replace h:=bT hb3 h
  refine sr ((md rfl (nt ((Tr.ret ?_)))))
  replace h:=si h; subst h
  exact ⟨.inr rfl,(b_ false),rfl,fun _ _ _ _ h=>h,trivial,fun k hk=>Qf hk⟩
 ·replace h:=bF hb3 h
  refine Tr.skip (toN (Tr.seq (sr ((md rfl (Rn.lenD trivial rfl (md rfl (nt ((Tr.block ?_))))))))))
  refine Tr.loop (mk:=fun (x4 : Int)=>⟨look [(0,(l_ s1)),(1,(l_ s2)),(12,(i_ (s1.length : Int))),(13,(i_ x4))],Qo Γ.n0 (bxs []) M,Γ.n0 + 26⟩) h (by exact Qj ⟨(sm rfl),(sm rfl),(sm rfl),(sm rfl),trivial⟩ trivial rfl) (fun k5 z h=>?_)
  ·obtain ⟨x4,rfl⟩ : ∃ x,x = z:=⟨_,rfl⟩
   replace h : _ = some _:=h
   refine sr ((Rn.bin trivial rfl rfl rfl (nt ((Tr.seq ?_)))))
   refine Tr.cond rfl (fun hb6=>?_) (fun hb6=>?_)
   ·replace h:=ifT hb6 h
    refine Tr.skip (toN (Tr.seq (Tr.block (sr ((md rfl (md rfl (nt ((Tr.seq ?_))))))))))
    refine Tr.rgnD (by decide) ?_
    refine md rfl (md rfl ?_)
    obtain ⟨x7,h8,h⟩:=bnd h
    refine Rn.idxD (e:=(eI .i64)) trivial rfl rfl h8 (Rn.loadC (x:=.int .i64 x7) trivial rfl (md rfl (md rfl ?_)))
    obtain ⟨x9,h10,h⟩:=bnd h
    refine Rn.idxD (e:=(eI .i64)) trivial rfl rfl h10 (Rn.loadC (x:=.int .i64 x9) trivial rfl (Rn.bin trivial rfl rfl rfl ?_))
    refine Rn.nil ⟨rfl,?_⟩
    refine toN ?_
    refine Tr.cond rfl (fun hb11=>?_) (fun hb11=>?_)
    ·replace h:=bT hb11 h
     refine sr ((md rfl (nt ((Tr.ret ?_)))))
     replace h:=si h; subst h
     exact ⟨.inr rfl,(b_ false),rfl,fun _ _ _ _ h=>h,trivial,fun k hk=>Qf hk⟩
    ·replace h:=bF hb11 h
     refine Tr.skip (toN (Tr.rgn (Rn.bin trivial rfl rfl rfl (md rfl (Rn.nil ?_)))))
     exact ⟨_,h,(by exact Qj ⟨(sm rfl),(sm rfl),(sm rfl),(sm rfl),trivial⟩ trivial rfl)⟩
   ·replace h:=ifF hb6 h
    refine Tr.exit (toN (sr ((md rfl (nt ((Tr.ret ?_)))))))
    replace h:=si h; subst h
    exact ⟨.inr rfl,(b_ true),rfl,fun _ _ _ _ h=>h,trivial,fun k hk=>Qf hk⟩
end Go.Abs
end
section
namespace Go.Proofs
open Go.Abs
set_option maxRecDepth 100000
theorem Qjl : Qw Tryz.prog 5 = some Qdg:=by kernel_rfl
theorem Q2m : Qw Tryz.prog 8 = some Qhg:=by kernel_rfl
theorem Q49 : Qw Tryz.prog 10 = some Qin:=by kernel_rfl
theorem Qp8 : Qw Tryz.prog 11 = some Qfb:=by kernel_rfl
theorem Q5a : Qw Tryz.prog 12 = some Qig:=by kernel_rfl
theorem Q5b : Qw Tryz.prog 14 = some Qik:=by kernel_rfl
theorem Qq3 : Qw Tryz.prog 15 = some Qfr:=by kernel_rfl
theorem Q5c : Qw Tryz.prog 17 = some Qi2:=by kernel_rfl
theorem Qtg : Qw Tryz.prog 19 = some Qf8:=by kernel_rfl
theorem Q2n : Qw Tryz.prog 20 = some Qho:=by kernel_rfl
theorem Q83 : Qw Tryz.prog 21 = some Qld:=by kernel_rfl
theorem Q62 : Qw Tryz.prog 22 = some Qjj:=by kernel_rfl
theorem Q5d : Qw Tryz.prog 23 = some Qip:=by kernel_rfl
theorem Q5e : Qw Tryz.prog 24 = some Qir:=by kernel_rfl
theorem Q2o : Qw Tryz.prog 25 = some Qhn:=by kernel_rfl
theorem Qth : Qw Tryz.prog 26 = some Qga:=by kernel_rfl
theorem Q84 : Qw Tryz.prog 31 = some Qky:=by kernel_rfl
theorem Qxn : Qw Tryz.prog 34 = some Qgh:=by kernel_rfl
theorem Q5f : Qw Tryz.prog 35 = some Qii:=by kernel_rfl
theorem Q2p : Qw Tryz.prog 36 = some Qhh:=by kernel_rfl
theorem Qq4 : Qw Tryz.prog 37 = some Qft:=by kernel_rfl
theorem Q70 : Qw Tryz.prog 38 = some Qjz:=by kernel_rfl
theorem Q5g : Qw Tryz.prog 39 = some Qie:=by kernel_rfl
theorem Qpe : Qw Tryz.prog 40 = some Qex:=by kernel_rfl
theorem Qly : Qw Tryz.prog 42 = some Qd9:=by kernel_rfl
theorem Qp9 : Qw Tryz.prog 43 = some Qe9:=by kernel_rfl
theorem Q2q : Qw Tryz.prog 44 = some Qhq:=by kernel_rfl
theorem Q63 : Qw Tryz.prog 45 = some Qjh:=by kernel_rfl
theorem Q85 : Qw Tryz.prog 46 = some Qkr:=by kernel_rfl
theorem Q2r : Qw Tryz.prog 48 = some Qhc:=by kernel_rfl
theorem Q2s : Qw Tryz.prog 49 = some Qha:=by kernel_rfl
theorem Qpf : Qw Tryz.prog 50 = some Qew:=by kernel_rfl
theorem Q0q : Qw Tryz.prog 51 = some Qgz:=by kernel_rfl
theorem Qpg : Qw Tryz.prog 52 = some Qey:=by kernel_rfl
theorem Q0r : Qw Tryz.prog 53 = some Qgx:=by kernel_rfl
theorem Qba0 : Qw Tryz.prog 54 = some Qos:=by kernel_rfl
theorem Q71 : Qw Tryz.prog 55 = some Qj0:=by kernel_rfl
theorem Q2t : Qw Tryz.prog 56 = some Qg9:=by kernel_rfl
theorem Qq5 : Qw Tryz.prog 58 = some Qfn:=by kernel_rfl
theorem Q72 : Qw Tryz.prog 63 = some Qj3:=by kernel_rfl
theorem Q64 : Qw Tryz.prog 65 = some Qjd:=by kernel_rfl
theorem Q65 : Qw Tryz.prog 66 = some Qjf:=by kernel_rfl
theorem Q0s : Qw Tryz.prog 70 = some Qgv:=by kernel_rfl
theorem Q2u : Qw Tryz.prog 71 = some Qhe:=by kernel_rfl
theorem Q2v : Qw Tryz.prog 72 = some Qhj:=by kernel_rfl
theorem Q66 : Qw Tryz.prog 73 = some Qjg:=by kernel_rfl
theorem Q5h : Qw Tryz.prog 74 = some Qil:=by kernel_rfl
theorem Q2w : Qw Tryz.prog 75 = some Qhl:=by kernel_rfl
theorem Qki : Qw Tryz.prog 78 = some Qdx:=by kernel_rfl
theorem Q5i : Qw Tryz.prog 79 = some Qid:=by kernel_rfl
theorem Q0t : Qw Tryz.prog 80 = some Qgs:=by kernel_rfl
theorem Qq6 : Qw Tryz.prog 82 = some Qfp:=by kernel_rfl
theorem Qms : Qw Tryz.prog 83 = some Qei:=by kernel_rfl
theorem Qmt : Qw Tryz.prog 84 = some Qek:=by kernel_rfl
theorem Qmu : Qw Tryz.prog 85 = some Qem:=by kernel_rfl
theorem Q86 : Qw Tryz.prog 86 = some Qk9:=by kernel_rfl
theorem Q87 : Qw Tryz.prog 87 = some Qlb:=by kernel_rfl
theorem Q73 : Qw Tryz.prog 88 = some Qjy:=by kernel_rfl
theorem Q0u : Qw Tryz.prog 89 = some Qgu:=by kernel_rfl
theorem Qbbn : Qw Tryz.prog 97 = some Qqx:=by kernel_rfl
theorem Q74 : Qw Tryz.prog 98 = some Qj2:=by kernel_rfl
theorem Qba1 : Qw Tryz.prog 121 = some Qoh:=by kernel_rfl
end Go.Proofs
end
section
namespace Go.Abs
open Go Go.Sort
set_option linter.unusedVariables false
section plain
variable {β : Type}
def insB (lt : β → β → Bool) (x : β) : List β → List β
 | []=>[x]
 | y :: ys=>if lt y x then y :: insB lt x ys else x :: y :: ys
def Qh8 (lt : β → β → Bool) : List β → List β
 | []=>[]
 | x :: xs=>insB lt x (Qh8 lt xs)
def Qbbo (lt : β → β → Bool) : List β → Bool
 | []=>true
 | x :: xs=>xs.all (fun y=>lt x y || lt y x) && Qbbo lt xs
def Qbmb (ok : β → Bool) (lt : β → β → Bool) (l : List β) : Option (List β):=if l.all ok && Qbbo lt l then some (Qh8 lt l) else none
theorem Qba2 (lt : β → β → Bool) (x : β) : ∀ l,(insB lt x l).Perm (x :: l)
 | []=>.refl _
 | y :: ys=>by
  unfold insB; split
  ·exact ((Qba2 lt x ys).cons y).trans (.swap x y ys)
  ·exact .refl _
theorem Qjm (lt : β → β → Bool) : ∀ l,(Qh8 lt l).Perm l
 | []=>.refl _
 | x :: xs=>(Qba2 lt x _).trans ((Qjm lt xs).cons x)
theorem Qnx (lt : β → β → Bool) (l : List β) : (Qh8 lt l).length = l.length:=(Qjm lt l).length_eq
theorem Qba3 {lt : β → β → Bool} (h : SWO lt) (x : β) : ∀ l,l.Pairwise (fun a b=>lt b a = false) → (insB lt x l).Pairwise fun a b=>lt b a = false
 | [],_=>by simp [insB]
 | y :: ys,hl=>by
  obtain ⟨h1,h2⟩:=List.pairwise_cons.1 hl
  unfold insB; split
  ·rename_i hc
   refine List.pairwise_cons.2 ⟨fun z hz=>?_,Qba3 h x ys h2⟩
   rcases List.mem_cons.1 ((Qba2 lt x ys).mem_iff.1 hz) with rfl | hz
   ·cases hb : lt z y with
    | false=>rfl
    | true=>have:=h.trans _ _ _ hc hb; rw [h.irrefl] at this; cases this
   ·exact h1 z hz
  ·rename_i hc
   have hc : lt y x = false:=by cases h : lt y x <;> simp_all
   refine List.pairwise_cons.2 ⟨fun z hz=>?_,hl⟩
   rcases List.mem_cons.1 hz with rfl | hz
   ·exact hc
   ·exact h.ntrans _ _ _ (h1 z hz) hc
theorem Qj5 {lt : β → β → Bool} (h : SWO lt) : ∀ l,(Qh8 lt l).Pairwise fun a b=>lt b a = false
 | []=>.nil
 | x :: xs=>Qba3 h x _ (Qj5 h xs)
theorem Qbci {lt : β → β → Bool} : ∀ {l : List β},Qbbo lt l = true → ∀ a b,a ∈ l → b ∈ l → lt a b = false → lt b a = false → a = b
 | [],_,a,_,ha,_,_,_=>by cases ha
 | x :: xs,h,a,b,ha,hb,h1,h2=>by
  simp only [Qbbo,Bool.and_eq_true,List.all_eq_true] at h
  obtain ⟨k1,k2⟩:=h
  rcases List.mem_cons.1 ha with e1 | ha' <;> rcases List.mem_cons.1 hb with e2 | hb'
  ·rw [e1,e2]
  ·subst e1; have:=k1 b hb'; simp [h1,h2] at this
  ·subst e2; have:=k1 a ha'; simp [h1,h2] at this
  ·exact Qbci k2 a b ha' hb' h1 h2
theorem Qbdj {lt : β → β → Bool} (h : SWO lt) {l m : List β} (hd : Qbbo lt l = true) (hp : m.Perm l) (hs : m.Pairwise fun a b=>lt b a = false) : m = Qh8 lt l:=by
 refine List.Perm.eq_of_pairwise (le:=fun a b=>lt b a = false) (fun a b ha hb h1 h2=>?_) hs (Qj5 h l) (hp.trans (Qjm lt l).symm)
 exact Qbci hd a b (hp.mem_iff.1 ha) ((Qjm lt l).mem_iff.1 hb) h2 h1
theorem Qbgy {α : Type} (f : α → β) (lt : β → β → Bool) (x : α) : ∀ l : List α,insB lt (f x) (l.map f) = (insB (fun a b=>lt (f a) (f b)) x l).map f
 | []=>rfl
 | y :: ys=>by
  simp only [List.map_cons,insB]; split
  ·simp only [List.map_cons,Qbgy f lt x ys]
  ·rfl
theorem Qbcj {α : Type} (f : α → β) (lt : β → β → Bool) : ∀ l : List α,Qh8 lt (l.map f) = (Qh8 (fun a b=>lt (f a) (f b)) l).map f
 | []=>rfl
 | x :: xs=>by simp only [List.map_cons,Qh8,Qbcj f lt xs,Qbgy]
theorem Qbet {α : Type} (f : α → β) (lt : β → β → Bool) : ∀ l : List α,Qbbo lt (l.map f) = Qbbo (fun a b=>lt (f a) (f b)) l
 | []=>rfl
 | x :: xs=>by simp only [List.map_cons,Qbbo,Qbet f lt xs,List.all_map]; rfl
end plain
def Qe7 (a b : Int) : Bool:=decide (a < b)
end Go.Abs
end
section
namespace Go.Abs
open Go Go.Sort Go.RowKit
set_option linter.unusedVariables false
theorem Qba4 {P : Program} {f : FuncId} {ex : Array Value} {exV : List V} {sz nb : Nat} {M : Mem} (hb : Qgq P f = true) (hex : ∀ g w us,RFs g w exV us → us = ex.toList)
  (h : ∀ (p : Option Addr) (cap : Nat) (w : World),Calls P f (#[.slice p 0 cap] ++ ex) w fun e' w'=>e' = .returned (.tuple #[]) ∧ w' = w) :
  ACalls P f (.d (.lst sz []) :: exV) M nb (.tup []) M nb:=by
 refine ⟨hb,Nat.le_refl _,fun w g us hm hMon hfresh hus hfl hons=>?_⟩
 obtain ⟨u0,us',rfl,hu0,hus'⟩:=hus
 have h1:=hex _ _ _ hus'
 subst h1
 have h2 : ∃ p cap,u0 = .slice p 0 cap:=by
  have:=RF_d.1 hu0
  obtain ⟨a,cap,rfl,_,_⟩:=this
  exact ⟨a,cap,rfl⟩
 obtain ⟨p,cap,rfl⟩:=h2
 have e1 : (Value.slice p 0 cap :: ex.toList).toArray = #[.slice p 0 cap] ++ ex:=by apply Array.ext'; simp
 rw [e1]
 refine (h p cap w).mono ?_
 rintro e' w' ⟨rfl,rfl⟩
 exact ⟨_,g,rfl,hm,⟨[],rfl,rfl⟩,trivial,hMon,Fr.refl _ _ _⟩
theorem Qbf0 (l : List Int) : (l.mergeSort fun x y=>decide (x ≤ y)) = Qh8 Qe7 l:=by
 have hO : Go.Sort.SWO Qe7:=⟨fun x=>by simp [Qe7],fun x y z h1 h2=>by simp [Qe7] at *; omega,fun x y z h1 h2=>by simp [Qe7] at *; omega⟩
 refine List.Perm.eq_of_pairwise (le:=fun a b=>Qe7 b a = false) (fun a b _ _ h1 h2=>by simp [Qe7] at *; omega) ?_ (Qj5 hO l) ((List.mergeSort_perm _ _).trans (Qjm _ l).symm)
 have:=List.pairwise_mergeSort (le:=fun x y : Int=>decide (x ≤ y)) (fun a b c h1 h2=>by simp at *; omega) (fun a b=>by simp; omega) l
 exact this.imp fun h=>by simp [Qe7] at *; omega
end Go.Abs
end
section
namespace Go.Abs
def sortI (l : List Int) : Option (List Int):=if l.length ≤ lim then some (Qh8 Qe7 l) else none
def Qbgz (l : List Int) : Option (List Int):=if l.length ≤ lim then some (Lib.compact l) else none
def okE (x : Qe) : Bool:=decide (0 ≤ x.From ∧ x.From < 4611686018427387904 ∧ 0 ≤ x.Event ∧ x.Event < 4611686018427387904)
def ltE (x y : Qe) : Bool:=decide (x.From < y.From ∨ (x.From = y.From ∧ x.Event < y.Event))
def Qbll (l : List Qe) : Option (List Qe):=if l.length ≤ 65536 then Qbmb okE ltE l else none
def Qbmc (n : Int) : Option (List Int):=if 0 ≤ n ∧ n ≤ lim then some [] else none
def keyB (l : List Int) : ByteArray:=⟨(l.flatMap fun x=>Lib.encodeRune (x + 1)).toArray⟩
def keyS (l : List Int) : Option ByteArray:=if l.length ≤ lim ∧ ∀ x ∈ l,0 ≤ x ∧ x < 50000 then some (keyB l) else none
end Go.Abs
end
section
namespace Go.Abs
open Go Go.Abs
set_option linter.unusedVariables false
set_option maxRecDepth 10000
set_option maxHeartbeats 4000000
def Qbj : Nat:=1099511627776
def Qj6:=Qb0
def Qf0:=Qby Qbj
def Qg4:=Qct Qbj
def Q9:=Qk Qg4
def Qe5:=Qbv Q9 Qbj
def Qgb:=Qbn Qf0 Qe5
def Qfh:=Qbf Qbj
def Qcv:=Qu Qgb Qfh
def Qda:=Qv Q9 Qbj
def Q4:=Q3
def Qc3:=Qx Q9 sortI Q4 Qbj
def Qc4:=Qy Qc3
def Qfu:=Qba Q9
def Qg0:=Qbw Qbj
def Qdb:=Q0 Qg0
def Qgd:=Qbg Qdb Qfu
def Qci:=Qt Qc3 Qbj
def Qmw:=Qcn Qcv Qda Qc4 keyS Qgd Qci Qbj
def Qen:=Qbb Q9
def Qcd:=Qr Qdb Qen
def Qj7:=Qbo
def Qti:=Qdj Qcv Qda Qcd Qj7 Q9 Qbj
def Qph:=Qc0
def Qpi:=Qc1 Qbmc Qbj
def Q0v:=Qgw
def Q2x:=Qds
def Q5r:=Qes Q2x
def Qqj:=Qcu
def Qi7:=Qbr Q5r Qqj Qbj
def Qgl:=Qbc Qbj
def Qtj:=Qdk
def Qtk:=Qdl
def Q2y:=Qea Qgl Qtj Qtk
def Qlz:=Qcg Q2y Qj7 Qi7 Qbj
def Ql0:=Qch Qgb Qlz
def Qmx:=Qco Qcv Q9 Qph Qpi sortI Qbgz Qbll Ql0 Qbj
def Qcy:=Qq Qbj
def Qmy:=Qcp Qcy Qbj
def Qi8:=Qbs Qcy Qbj
def Qhr:=Qb2 Qmw Qmy Qi8 Qcy Qti Qj6 Qmx
def Qdy:=Qbk Qbj
def Qeb:=Q2
def Qb9:=Qbd Qbj
def Qc5:=Qbh Qbj
def Qfi:=Qb3 Qc5 Qb9 Qbj
def Qec:=Qb4 Qbj
def Qd4:=Qbl Qeb Qfi Qc5 Qb9 Qec Qbj
def Qf1:=Qb6 Qeb Qd4 Qbj
def Qfj:=Qbt Qcv Qda Qc4 Qci Qcd Qbj
def Qdh:=Qs Qbj
def Qf2:=Qb7 Qdh Qbj
def Qjn:=Qc2 Qbj
def Qd0:=Q5 Qdh Qbj
def Qe6:=Qbx Qdh Qbj
def Qed:=Q8 Qdh Qe6 Qbj
def Qfk:=Qb5 Qed Qd0
def Qf3:=Qb8 Qed Qdh Qd0 Qbj
def Qef:=Qbp Qf3 Qfk Qbj
def Qh6:=Qc7 Qcv Qda Qci Qfh Qcd
def Qdi:=Qcl Qhr Qf1 Qdy Qcy Qh6 Qjn Qf2 Qfj Qef Qbj
def Qi3:=Qfz Qbj
def Qj8:=Qg3 Qbj
end Go.Abs
end
section
namespace Go.Abs
open Go Go.Sort Go.Shelf Go.RowKit Go.Lib Go.Proofs
set_option linter.unusedVariables false
set_option linter.unusedSectionVars false
theorem Qbeu {α : Type} [Inhabited α] {enc : α → List Value} {k : Nat} (hk : ∀ x, (enc x).length = k) (h0 : 0 < k) : ∀ (l : List α) (t : Nat), t < l.length * k → (l.map enc).flatten[t]? = some (enc l[t / k]!)[t % k]!
  | [], t, h => by simp at h
  | x :: xs, t, h => by
    rw [List.map_cons, List.flatten_cons]
    by_cases hl : t < k
    · rw [List.getElem?_append_left (by rw [hk]; exact hl), Nat.div_eq_of_lt hl, Nat.mod_eq_of_lt hl]
      have : t < (enc x).length := by rw [hk]; exact hl
      simp [this]
    · have hge : k ≤ t := by omega
      have h2 : t - k < xs.length * k := by simp only [List.length_cons, Nat.add_mul, Nat.one_mul] at h; omega
      rw [List.getElem?_append_right (by rw [hk]; exact hge), hk, Qbeu hk h0 xs (t - k) h2]
      have e1 : t / k = (t - k) / k + 1 := by rw [← Nat.add_div_right _ h0, Nat.sub_add_cancel hge]
      have e2 : t % k = (t - k) % k := by rw [Nat.mod_eq_sub_mod hge]
      rw [e1, e2]; simp
theorem Qbev {α : Type} [Inhabited α] {enc : α → List Value} {k : Nat} (hk : ∀ x, (enc x).length = k) (h0 : 0 < k) (l : List α) : flatK enc k l.toArray = (l.map enc).flatten.toArray := by
  have hs : (l.map enc).flatten.length = l.length * k := by
    induction l with
    | nil => simp
    | cons x xs ih => rw [List.map_cons, List.flatten_cons, List.length_append, ih, hk]; simp [Nat.add_mul]; omega
  refine ext_get! (by simp [hs]) fun t ht => ?_
  have ht' : t < l.length * k := by simpa using ht
  rw [get_flatK _ _ _ _ (by simpa using ht')]
  have := Qbeu hk h0 l t ht'
  obtain ⟨h1, h2⟩ := List.getElem?_eq_some_iff.1 this
  rw [getElem!_pos _ t (by simpa using h1)]
  simp only [List.getElem_toArray, h2]
  simp
theorem Qbew {α : Type} (e : α → List D) (xs : List α) : rowV e xs = (xs.map fun x => (e x).map D.val).flatten := by
  unfold rowV; rw [List.map_flatten, List.map_map]; rfl
theorem Qbbp {P : Program} {ρ : Ren} {α : Type} [Inhabited α] (L : SlLaysF0.n6 P ρ) {k : Nat} (aE : ∀ w, (isAgg (ρ.t 24)).run P w = .ok true w) (zE : ∀ w, (Go.sizeOf (ρ.t 24)).run P w = .ok k w) (e : α → List D) (hk : ∀ x, (e x).length = k) (h0 : 0 < k) (hsc : ∀ x, (e x).all D.scalar = true)
    (cf : α → α → Int) (hO : SWO (ltOf cf)) (g : Nat) (cb : Array Value) (eg : ∀ args w, (callFunc g args).run P w = .ok (.enter g args) w)
    (hcmp : ∀ (x y : α) (W : World), Calls P g (#[.agg ((e x).map D.val).toArray, .agg ((e y).map D.val).toArray] ++ cb) W fun r w' => r = .returned (.int .i64 (cf x y)) ∧ ∃ q os', w' = grow (W.drewN q) os') :
    Qbjg P (ρ.f 6) e #[.func (.func g) #[] cb] (fun xs => (pdq (ltOf cf) xs.toArray 0 xs.length (Lib.bitLen xs.length) true true).toList) := by
  intro blk cap xs w hc hblk hsz
  have henc : ∀ x, ((fun x => (e x).map D.val) x).length = k := fun x => by simp [hk]
  have h1 : ∀ x : α, ∀ v ∈ (e x).map D.val, v.oneCell' = true := by
    intro x v hv
    obtain ⟨d, hd, rfl⟩ := List.mem_map.1 hv
    exact Qbfz (List.all_eq_true.1 (hsc x) d hd)
  have hH : HoldsK (fun x => (e x).map D.val) k w blk 0 xs.toArray := by
    unfold HoldsK
    rw [Qbev henc h0, ← Qbew]
    intro j hj
    have hj' : j < (rowV e xs).length := by simpa using hj
    obtain ⟨k1, k2⟩ := hc j hj'
    rw [Nat.zero_add]
    refine ⟨k1.trans ?_, k2⟩
    rw [List.getElem?_eq_getElem hj', getElem!_pos _ j hj]; rfl
  have hcl : CmpLays P g cb (fun x => (e x).map D.val) k cf blk 0 xs.toArray.size w := fun _ _ _ _ x y => hcmp x y _
  have := AnyQ.slices_SortFunc_eq L k aE zE (fun x => (e x).map D.val) henc h1 cf hO g cb blk 0 cap xs.toArray w eg hcl hH hblk (by simpa using hsz)
  refine this.mono ?_
  rintro r w' ⟨rfl, n, os, rfl⟩
  refine ⟨rfl, n, os, ?_⟩
  unfold sortWorldK putRowK
  have hrow : flatK (fun x => (e x).map D.val) k (pdq (ltOf cf) xs.toArray 0 xs.toArray.size (Lib.bitLen xs.toArray.size) true true) = (rowV e (pdq (ltOf cf) xs.toArray 0 xs.length (Lib.bitLen xs.length) true true).toList).toArray := by
    rw [Qbew, ← Qbev henc h0]; simp
  rw [hrow]
section
variable {α : Type} [Inhabited α]
theorem Qbdk {lt : α → α → Bool} (hO : SWO lt) (xs : List α) (k : Nat) : (pdq lt xs.toArray 0 xs.length k true true).toList.Perm xs ∧ (pdq lt xs.toArray 0 xs.length k true true).toList.Pairwise fun a b => lt b a = false := by
  obtain ⟨⟨h1, _, h2⟩, h3⟩ := pdq_sorts lt hO xs.toArray 0 xs.length k true true (Nat.zero_le _) (by simp) (Or.inl rfl)
  generalize pdq lt xs.toArray 0 xs.length k true true = d at *
  have hs : d.size = xs.length := by simpa using h1
  refine ⟨?_, ?_⟩
  · have e1 : d.extract 0 xs.length = d := by rw [← hs]; exact Array.extract_size
    have e2 : xs.toArray.extract 0 xs.length = xs.toArray := by have : xs.length = xs.toArray.size := by simp
                                                                rw [this]; exact Array.extract_size
    rw [e1, e2] at h2
    simpa using h2
  · rw [List.pairwise_iff_getElem]
    intro i j hi hj hij
    have hi' : i < d.size := by simpa using hi
    have hj' : j < d.size := by simpa using hj
    have := h3 i j (Nat.zero_le _) hij (by omega)
    rw [getElem!_pos d i hi', getElem!_pos d j hj'] at this
    simpa using this
theorem Qbjp {lt : α → α → Bool} (hO : SWO lt) (xs : List α) (k : Nat) (hd : Qbbo lt xs = true) : (pdq lt xs.toArray 0 xs.length k true true).toList = Qh8 lt xs :=
  Qbdj hO hd (Qbdk hO xs k).1 (Qbdk hO xs k).2
end
theorem Qbjq {β : Type} {P : Program} {c : Nat} {e : β → List D} {sz N : Nat} {ok : β → Bool} {lt : β → β → Bool} [Inhabited {x : β // ok x = true}] {lt' : {x : β // ok x = true} → {x : β // ok x = true} → Bool}
    (hN : N < 4611686018427387904) (hk : ∀ x, (e x).length = sz) (hsc : ∀ x, (e x).all D.scalar = true) (hO : SWO lt') (hlt : ∀ x y, lt' x y = lt x.1 y.1) (hb : Qgq P c = true) {ex : Array Value} {exV : List V} (hex : ∀ g w us, RFs g w exV us → us = ex.toList)
    (hrow : Qbjg P c (fun x : {x : β // ok x = true} => e x.1) ex (fun xs => (pdq lt' xs.toArray 0 xs.length (Lib.bitLen xs.length) true true).toList))
    (hnone : ∀ (p : Option Addr) (cap : Nat) (w : World), Calls P c (#[.slice p 0 cap] ++ ex) w fun e' w' => e' = .returned (.tuple #[]) ∧ w' = w) :
    RowK P c e sz exV (fun l => if l.length ≤ N then Qbmb ok lt l else none) := by
  intro xs ys h
  dsimp only at h
  split at h <;> try (cases h; done)
  rename_i hlN
  unfold Qbmb at h
  split at h <;> cases h
  rename_i hok
  simp only [Bool.and_eq_true, List.all_eq_true] at hok
  obtain ⟨ho, hd⟩ := hok
  obtain ⟨zs, rfl⟩ : ∃ zs : List {x : β // ok x = true}, xs = zs.map Subtype.val := ⟨xs.pmap Subtype.mk ho, by rw [List.map_pmap]; simp⟩
  have hd' : Qbbo lt' zs = true := by
    rw [Qbet] at hd
    rw [show lt' = fun a b => lt a.1 b.1 from funext fun a => funext fun b => hlt a b]; exact hd
  have e1 : Qh8 lt (zs.map Subtype.val) = (Qh8 lt' zs).map Subtype.val := by
    rw [Qbcj, show lt' = fun a b => lt a.1 b.1 from funext fun a => funext fun b => hlt a b]
  refine ⟨Qnx _ _, fun h0 => ?_, fun hl cap k0 M nb hM => ?_⟩
  · simp only [List.map_eq_nil_iff] at h0
    subst h0
    exact ⟨rfl, fun M nb => Qba4 hb hex hnone⟩
  · have hM' : M k0 = some (.cells (Qbm (zs.map fun x => e x.1) ((cap - zs.length) * sz))) := by
      rw [hM, List.map_map, List.length_map]; rfl
    have := Qbcg (fun x => hk x.1) (fun x => hsc x.1) (fun xs => (Qbdk hO xs _).1.length_eq) hex hb hrow zs cap k0 M nb hM' (by rw [List.length_map] at hlN; omega)
    rw [Qbjp hO zs _ hd'] at this
    rw [e1, List.map_map, List.length_map]
    exact this
end Go.Abs
end
section
namespace Go.Abs
open Go Go.RowKit
set_option linter.unusedVariables false
end Go.Abs
end
section
namespace Go.Abs
open Go Go.Sort Go.RowKit
set_option linter.unusedVariables false
theorem Qba5 (xs : List Int) : rowV (eI .i64) xs = xs.map (Value.int .i64):=by
 unfold rowV
 induction xs with
 | nil=>rfl
 | cons x xs ih=>simp only [List.map_cons,List.flatten_cons,List.map_append,ih]; rfl
theorem Qbjr {P : Program} {c : Nat} (hb : Qgq P c = true)
  (hs : ∀ (blk off cap : Nat) (zs : List Int) (w : World),Holds (Value.int .i64) w blk off zs.toArray → blk < w.heap.size → zs.length < 4611686018427387904 →
   Calls P c #[.slice (some ⟨blk,off,none⟩) zs.length cap] w fun e w'=>e = .returned (.tuple #[]) ∧ ∃ n os,w' = grow (putRow (Value.int .i64) (Sort.ahead w n) blk off (zs.mergeSort fun x y=>decide (x ≤ y)).toArray) os)
  (hnone : ∀ (p : Option Addr) (cap : Nat) (w : World),Calls P c (#[.slice p 0 cap] ++ #[]) w fun e' w'=>e' = .returned (.tuple #[]) ∧ w' = w) :
  RowK P c (eI .i64) 1 [] (fun l=>if l.length ≤ lim then some (Qh8 Qe7 l) else none):=by
 have hrow : Qbjg P c (eI .i64) #[] (fun xs=>Qh8 Qe7 xs):=by
  intro blk cap xs w hcell hblk hsz
  refine Calls.mono (hs blk 0 cap xs w ?_ hblk hsz) ?_
  ·intro j hj
   have hj' : j < xs.length:=by simpa using hj
   have:=hcell j (by rw [Qba5]; simpa using hj')
   rw [Qba5] at this
   rw [Nat.zero_add]
   refine ⟨?_,this.2⟩
   rw [this.1,getElem!_pos xs.toArray j hj]
   simp [hj']
  ·rintro e w' ⟨rfl,n,os,rfl⟩
   refine ⟨rfl,n,os,?_⟩
   rw [Qbf0,Qba5]
   congr 1
   unfold putRow
   congr 1
   funext c
   unfold putCells
   congr 1
   funext k x
   simp only [List.size_toArray,List.length_map]
   split
   ·rename_i h
    simp only [id]
    rw [getElem!_pos _ _ (by simp; omega),getElem!_pos _ _ (by simp; omega)]
    simp
   ·rfl
 intro xs ys h
 dsimp only at h
 split at h <;> cases h
 rename_i hl
 refine ⟨Qnx _ _,fun h0=>?_,fun hl2 cap k0 M nb hM=>?_⟩
 ·subst h0
  exact ⟨rfl,fun M nb=>Qba4 (ex:=#[]) (exV:=[]) hb (fun _ _ _ h=>h) hnone⟩
 ·exact Qbcg (e:=eI .i64) (fun _=>rfl) (fun _=>rfl) (fun xs=>Qnx _ _) (ex:=#[]) (exV:=[]) (fun _ _ _ h=>h) hb hrow xs cap k0 M nb hM (by unfold lim at hl; omega)
end Go.Abs
end
section
namespace Go.Abs
open Go Go.Sort Go.RowKit Go.Lib
set_option linter.unusedVariables false
theorem Qba6 (zs : List Int) : (Lib.compact zs).length ≤ zs.length:=by
 unfold Lib.compact Lib.compactUpTo
 rw [List.length_map]
 exact Nat.le_trans (List.length_filter_le _ _) (by simp)
theorem Qbmd (l : List Int) : (l.map (eI .i64)).flatten = l.map (D.int .i64):=by
 induction l with
 | nil=>rfl
 | cons x l ih=>simp only [List.map_cons,List.flatten_cons,ih]; rfl
theorem Qbhs {P : Program} {c : Nat} (hb : Qgq P c = true)
  (hs : ∀ (blk off cap : Nat) (zs : List Int) (w : World),Holds (Value.int .i64) w blk off zs.toArray → zs.length ≤ 9223372036854775807 → zs.length ≤ cap →
   Calls P c #[.slice (some ⟨blk,off,none⟩) zs.length cap] w fun e w'=>e = .returned (.slice (some ⟨blk,off,none⟩) (Lib.compact zs).length cap) ∧ ∃ n,w' = putRow (Value.int .i64) (Sort.ahead w n) blk off (Lib.compact zs ++ List.replicate (zs.length - (Lib.compact zs).length) 0).toArray)
  (hnone : ∀ (p : Option Addr) (cap : Nat) (w : World),Calls P c #[.slice p 0 cap] w fun e' w'=>e' = .returned (.slice p 0 cap) ∧ w' = w) :
  CompK P c (fun l=>if l.length ≤ lim then some (Lib.compact l) else none):=by
 intro xs ys hf
 dsimp only at hf
 split at hf <;> cases hf
 rename_i hl
 refine ⟨Qba6 xs,fun h0=>?_,fun cap k0 M nb hcap hM=>?_⟩
 ·subst h0
  refine ⟨rfl,fun M nb=>⟨hb,Nat.le_refl _,fun w g us hm hMon hfresh hus hfl hons=>?_⟩⟩
  obtain ⟨u0,us',rfl,hu0,rfl⟩:=hus
  have h2:=RF_d.1 hu0
  obtain ⟨a,cp,rfl,_,_⟩:=id h2
  refine (hnone a cp w).mono ?_
  rintro e' w' ⟨rfl,rfl⟩
  exact ⟨_,g,rfl,hm,hu0 _,trivial,hMon,Fr.refl _ _ _⟩
 refine ⟨hb,Nat.le_refl _,fun w g us hm hMon hfresh hus hfl hons=>?_⟩
 obtain ⟨u0,us',rfl,hu0,rfl⟩:=hus
 have h0:=Qbbk.1 hu0
 subst h0
 obtain ⟨hk0,hown,vals,et,hh,hrv,hone⟩:=hm.box k0 _ hM
 have hlt : g.box k0 < w.heap.size:=(Array.getElem?_eq_some_iff.1 hh).1
 obtain ⟨hvl,hvr⟩:=(Qcj _ _ _ _).1 hrv
 simp only [Qbm,Qbmd,List.map_map,List.length_append,List.length_map,List.length_replicate,Nat.mul_one] at hvl hvr
 have hcell : ∀ (j : Nat) (x : Int),xs[j]? = some x → vals[j]? = some (.int .i64 x):=by
  intro j x hx
  have hj:=(List.getElem?_eq_some_iff.1 hx).1
  have hjv : j < vals.length:=by omega
  have hc : (List.map (V.d ∘ D.int .i64) xs ++ List.replicate (cap - xs.length) V.und)[j]? = some (.d (.int .i64 x)):=by
   rw [List.getElem?_append_left (by rw [List.length_map]; exact hj),List.getElem?_map,hx]; rfl
  have:=hvr j _ _ hc (List.getElem?_eq_getElem hjv)
  have h2 : vals[j] = .int .i64 x:=this
  rw [List.getElem?_eq_getElem hjv,h2]
 have hH : Holds (Value.int .i64) w (g.box k0) 0 xs.toArray:=by
  intro j hj
  have hj' : j < xs.length:=by simpa using hj
  have:=hcell j xs[j] (List.getElem?_eq_getElem hj')
  rw [Nat.zero_add]
  refine ⟨?_,by simp [World.frozen?,hh]⟩
  rw [getElem!_pos xs.toArray j hj]
  simp [World.cell?,hh,this]
 refine (hs (g.box k0) 0 cap xs w hH (by unfold lim at hl; omega) hcap).mono ?_
 rintro e' w' ⟨rfl,n,rfl⟩
 have hyl:=Qba6 xs
 generalize Lib.compact xs = ys at hyl ⊢
 generalize hF : (ys ++ List.replicate (xs.length - ys.length) 0).toArray = F
 have hFs : F.size = xs.length:=by rw [← hF]; simp; omega
 have hput : putRow (Value.int .i64) (Sort.ahead w n) (g.box k0) 0 F = grow (putRow id (Sort.ahead w n) (g.box k0) 0 (F.map (Value.int .i64))) #[]:=by
  have e1 : ∀ W : World,grow W #[] = W:=fun W=>by unfold grow; simp
  rw [e1]
  unfold putRow
  congr 1
  funext c
  unfold putCells
  congr 1
  funext k x
  simp only [Array.size_map]
  split
  ·rename_i h
   simp only [id]
   rw [getElem!_pos _ _ (by omega),getElem!_pos _ _ (by simp; omega)]
   simp
  ·rfl
 rw [hput]
 generalize hF' : F.map (Value.int .i64) = F'
 have hFs' : F'.size = xs.length:=by rw [← hF',Array.size_map,hFs]
 have hFv : ∀ j (h : j < ys.length),F'[j]'(by omega) = Value.int .i64 ys[j]:=by
  intro j h
  subst hF'
  subst hF
  simp only [List.getElem_toArray,Array.getElem_map]
  rw [List.getElem_append_left h]
 have hFi : ∀ j (h : j < F'.size),∃ z : Int,F'[j] = Value.int .i64 z:=by
  intro j h
  subst hF'
  exact ⟨_,Array.getElem_map ..⟩
 have hblk:=Qbax w n (g.box k0) F' #[] hh
 have hoth : ∀ b,b ≠ g.box k0 → b < w.heap.size → (grow (putRow id (Sort.ahead w n) (g.box k0) 0 F') #[]).heap[b]? = w.heap[b]?:=fun b hb hlt=>Qra w n _ F' #[] hb hlt
 have hsize : w.heap.size ≤ (grow (putRow id (Sort.ahead w n) (g.box k0) 0 F') #[]).heap.size:=by
  simp [putRow,mapBlock,Sort.ahead]
 generalize hw' : grow (putRow id (Sort.ahead w n) (g.box k0) 0 F') #[] = w' at hblk hoth hsize
 have himm : Imm g.imm g.imm w w':=by
  refine ⟨fun _ _ h=>h,fun b o h=>?_⟩
  obtain ⟨k1,k2⟩:=hm.imm b o h
  have hne : b ≠ g.box k0:=by rintro rfl; exact k2 k0 hown
  simp only [World.cell?,hoth b hne k1]
 have hkept : Kept g w g w' (There M) (fun o=>o ≠ .box k0):=⟨himm,fun _ _=>rfl,fun b hb hl=>⟨rfl,hoth b (by rintro rfl; exact hb hown) hl,fun _=>Iff.rfl⟩⟩
 have hsub : ∀ (o : Owner) i,o ≠ .box k0 → o.sub i ≠ .box k0:=by intro o i _; cases o <;> simp [Owner.sub]
 have hnew : ∀ p : Nat → Prop,V.ons p (Qbm (ys.map (eI .i64)) ((cap - ys.length) * 1)):=by
  intro p
  rw [Qgf]
  intro v hv
  simp only [Qbm,List.mem_append,List.mem_map,List.mem_replicate] at hv
  rcases hv with ⟨x,_,rfl⟩ | ⟨_,rfl⟩ <;> trivial
 have hth : There (M.put k0 (.cells (Qbm (ys.map (eI .i64)) ((cap - ys.length) * 1)))) k0:=by simp [There,Mem.put]
 refine ⟨_,g,rfl,⟨fun k b hk=>?_,fun b o h=>⟨Nat.lt_of_lt_of_le (hm.imm b o h).1 hsize,(hm.imm b o h).2⟩⟩,by simp [RV],hth,fun k cs hk=>?_,?_⟩
 ·by_cases hkk : k = k0
  ·subst hkk
   rw [Qfx] at hk; cases hk
   refine ⟨hk0,hown,(putCells id 0 F' vals.toArray).toList,et,by simpa using hblk,(Qcj _ _ _ _).2 ⟨?_,fun j cc x hc hx=>?_⟩,fun x hx=>?_⟩
   ·simp only [Qbm,Qbmd,List.map_map,List.length_append,List.length_map,List.length_replicate,Nat.mul_one]
    simp [putCells]
    omega
   ·have hx' : (putCells id 0 F' vals.toArray)[j]? = some x:=by simpa using hx
    simp only [putCells,Array.getElem?_mapIdx,List.getElem?_toArray,Option.map_eq_some_iff] at hx'
    obtain ⟨y,hy,rfl⟩:=hx'
    simp only [Qbm,Qbmd,List.map_map,Nat.mul_one] at hc
    by_cases hj : j < ys.length
    ·rw [List.getElem?_append_left (by rw [List.length_map]; exact hj),List.getElem?_map,List.getElem?_eq_getElem hj,Option.map_some,Option.some.injEq] at hc
     subst hc
     rw [if_pos ⟨Nat.zero_le _,by omega⟩]
     simp only [Nat.sub_zero,id]
     rw [getElem!_pos F' j (by omega),hFv j hj]
     simp [RV,RD]
    ·rw [List.getElem?_append_right (by rw [List.length_map]; omega)] at hc
     have : cc = .und:=(List.mem_replicate.1 (List.mem_of_getElem? hc)).2
     subst this; simp [RV]
   ·obtain ⟨j,hj⟩:=List.getElem?_of_mem hx
    have hx' : (putCells id 0 F' vals.toArray)[j]? = some x:=by simpa using hj
    simp only [putCells,Array.getElem?_mapIdx,List.getElem?_toArray,Option.map_eq_some_iff] at hx'
    obtain ⟨y,hy,rfl⟩:=hx'
    split
    ·rename_i hr
     simp only [id]
     rw [getElem!_pos F' _ (by omega)]
     obtain ⟨z,hz⟩:=hFi (j - 0) (by omega)
     rw [hz]
     exact Qbfz (x:=.int .i64 z) rfl
    ·exact hone y (List.mem_of_getElem? hy)
  ·rw [Qcr _ _ hkk] at hk
   obtain ⟨k1,k2,k3⟩:=hm.box k b hk
   cases b with
   | mp es c =>
    obtain ⟨ents,q1,q2⟩:=k3
    have hne : g.box k ≠ g.box k0:=by
     intro h; rw [h,hown] at k2; cases k2; exact hkk rfl
    exact ⟨k1,k2,ents,(hoth _ hne (Array.getElem?_eq_some_iff.1 q1).1).trans q1,Qn7 (g:=g) (g':=g) hkept.imm q2⟩
   | cells cs =>
    obtain ⟨vals2,e2,q1,q2,q3⟩:=k3
    have hne : g.box k ≠ g.box k0:=by
     intro h; rw [h,hown] at k2; cases k2; exact hkk rfl
    refine ⟨k1,k2,vals2,e2,(hoth _ hne (Array.getElem?_eq_some_iff.1 q1).1).trans q1,?_,q3⟩
    exact RVs_mono hkept hsub (by simp) cs (.box k) 0 vals2 (by simpa using hkk) (hMon k cs hk) q2
 ·by_cases hkk : k = k0
  ·subst hkk
   rw [Qfx] at hk; cases hk
   exact hnew _
  ·rw [Qcr _ _ hkk] at hk
   exact ons_mono (fun j hj=>There.put hj) _ (hMon k cs hk)
 ·refine ⟨by rw [← hw']; rfl,by rw [← hw']; rfl,by rw [← hw']; rfl,hsize,himm,fun _ _=>rfl,fun b hb ho=>⟨rfl,hoth b ?_ hb,fun _=>Iff.rfl⟩⟩
  rintro rfl
  rw [hown] at ho
  exact ho
end Go.Abs
end
section
namespace Go.Proofs
open Go.Shelf
def Tryz.sortI_ren : Go.Shelf.Ren:=⟨fun | 5=>67 | 8=>93 | 7=>92 | 19=>109 | 20=>110 | 10=>101 | 11=>102 | 12=>103 | 13=>104 | 14=>105 | 15=>106 | 16=>97 | 17=>107 | 18=>108 | 30=>122 | 31=>123 | 32=>124 | 33=>125 | 34=>126 | 35=>121 | 40=>130 | n=>n,fun | 23=>27 | 25=>3 | 3=>3 | 32=>134 | 22=>27 | 0=>0 | 44=>149 | 46=>151 | 4=>4 | 36=>143 | 35=>142 | 41=>88 | 5=>5 | 9=>9 | 53=>159 | 57=>163 | 63=>167 | 64=>98 | n=>n,fun | n=>n⟩
theorem Tryz.sortI : Go.Proofs.SlLaysM.n5 Tryz.prog Tryz.sortI_ren:={
 mixed:=by kernel_rfl
 f5:=⟨Tryz.f67.name,by decide,Tryz.func67.trans (congrArg some (by kernel_rfl))⟩
 f7:=⟨Tryz.f92.name,by decide,Tryz.func92.trans (congrArg some (by kernel_rfl))⟩
 f8:=Tryz.func93.trans (congrArg some (by kernel_rfl))
 f10:=⟨Tryz.f101.name,by decide,Tryz.func101.trans (congrArg some (by kernel_rfl))⟩
 f11:=⟨Tryz.f102.name,by decide,Tryz.func102.trans (congrArg some (by kernel_rfl))⟩
 f12:=⟨Tryz.f103.name,by decide,Tryz.func103.trans (congrArg some (by kernel_rfl))⟩
 f13:=⟨Tryz.f104.name,by decide,Tryz.func104.trans (congrArg some (by kernel_rfl))⟩
 f14:=⟨Tryz.f105.name,by decide,Tryz.func105.trans (congrArg some (by kernel_rfl))⟩
 f15:=⟨Tryz.f106.name,by decide,Tryz.func106.trans (congrArg some (by kernel_rfl))⟩
 f16:=⟨Tryz.f97.name,by decide,Tryz.func97.trans (congrArg some (by kernel_rfl))⟩
 f17:=⟨Tryz.f107.name,by decide,Tryz.func107.trans (congrArg some (by kernel_rfl))⟩
 f18:=⟨Tryz.f108.name,by decide,Tryz.func108.trans (congrArg some (by kernel_rfl))⟩
 f19:=Tryz.func109.trans (congrArg some (by kernel_rfl))
 f20:=Tryz.func110.trans (congrArg some (by kernel_rfl))
 f30:=⟨Tryz.f122.name,by decide,Tryz.func122.trans (congrArg some (by kernel_rfl))⟩
 f31:=Tryz.func123.trans (congrArg some (by kernel_rfl))
 f32:=Tryz.func124.trans (congrArg some (by kernel_rfl))
 f33:=⟨Tryz.f125.name,by decide,Tryz.func125.trans (congrArg some (by kernel_rfl))⟩
 f34:=⟨Tryz.f126.name,by decide,Tryz.func126.trans (congrArg some (by kernel_rfl))⟩
 f35:=⟨Tryz.f121.name,by decide,Tryz.func121.trans (congrArg some (by kernel_rfl))⟩
 f40:=⟨Tryz.f130.name,by decide,Tryz.func130.trans (congrArg some (by kernel_rfl))⟩
 t0:=Tryz.underlying0
 a0:=Tryz.isAgg0
 z0:=Tryz.sizeOf0
 v0:=Tryz.zeroValue0
 t3:=Tryz.underlying3
 a3:=Tryz.isAgg3
 z3:=Tryz.sizeOf3
 v3:=Tryz.zeroValue3
 t4:=Tryz.underlying4
 a4:=Tryz.isAgg4
 z4:=Tryz.sizeOf4
 v4:=Tryz.zeroValue4
 t5:=Tryz.underlying5
 a5:=Tryz.isAgg5
 z5:=Tryz.sizeOf5
 v5:=Tryz.zeroValue5
 t9:=Tryz.underlying9
 a9:=Tryz.isAgg9
 z9:=Tryz.sizeOf9
 v9:=Tryz.zeroValue9
 t22:=Tryz.underlying27
 a22:=Tryz.isAgg27
 z22:=Tryz.sizeOf27
 v22:=Tryz.zeroValue27
 t23:=Tryz.underlying27
 a23:=Tryz.isAgg27
 z23:=Tryz.sizeOf27
 v23:=Tryz.zeroValue27
 t25:=Tryz.underlying3
 a25:=Tryz.isAgg3
 z25:=Tryz.sizeOf3
 v25:=Tryz.zeroValue3
 t32:=Tryz.underlying134
 a32:=Tryz.isAgg134
 z32:=Tryz.sizeOf134
 v32:=Tryz.zeroValue134
 t35:=Tryz.underlying142
 a35:=Tryz.isAgg142
 z35:=Tryz.sizeOf142
 v35:=Tryz.zeroValue142
 t36:=Tryz.underlying143
 a36:=Tryz.isAgg143
 z36:=Tryz.sizeOf143
 v36:=Tryz.zeroValue143
 t41:=Tryz.underlying88
 a41:=Tryz.isAgg88
 z41:=Tryz.sizeOf88
 v41:=Tryz.zeroValue88
 t44:=Tryz.underlying149
 a44:=Tryz.isAgg149
 z44:=Tryz.sizeOf149
 v44:=Tryz.zeroValue149
 t46:=Tryz.underlying151
 a46:=Tryz.isAgg151
 z46:=Tryz.sizeOf151
 v46:=Tryz.zeroValue151
 t53:=Tryz.underlying159
 a53:=Tryz.isAgg159
 z53:=Tryz.sizeOf159
 v53:=Tryz.zeroValue159
 t57:=Tryz.underlying163
 a57:=Tryz.isAgg163
 z57:=Tryz.sizeOf163
 v57:=Tryz.zeroValue163
 t63:=Tryz.underlying167
 a63:=Tryz.isAgg167
 z63:=Tryz.sizeOf167
 v63:=Tryz.zeroValue167
 t64:=Tryz.underlying98
 a64:=Tryz.isAgg98
 z64:=Tryz.sizeOf98
 v64:=Tryz.zeroValue98 }
def Tryz.sortE_ren : Go.Shelf.Ren:=⟨fun | 6=>69 | 15=>93 | 14=>94 | 28=>109 | 29=>110 | 20=>111 | 21=>112 | 22=>113 | 23=>114 | 24=>115 | 25=>116 | 26=>117 | 27=>118 | 46=>127 | 47=>123 | 48=>124 | 49=>128 | 50=>129 | 57=>131 | n=>n,fun | 22=>31 | 24=>76 | 25=>111 | 3=>3 | 39=>134 | 0=>0 | 53=>149 | 55=>151 | 4=>4 | 46=>143 | 45=>142 | 50=>88 | 5=>5 | 9=>9 | 66=>159 | 70=>163 | 76=>167 | 77=>98 | n=>n,fun | n=>n⟩
theorem Tryz.sortE : Go.Proofs.SlLaysF0.n6 Tryz.prog Tryz.sortE_ren:={
 mixed:=by kernel_rfl
 f6:=⟨Tryz.f69.name,by decide,Tryz.func69.trans (congrArg some (by kernel_rfl))⟩
 f14:=⟨Tryz.f94.name,by decide,Tryz.func94.trans (congrArg some (by kernel_rfl))⟩
 f15:=Tryz.func93.trans (congrArg some (by kernel_rfl))
 f20:=⟨Tryz.f111.name,by decide,Tryz.func111.trans (congrArg some (by kernel_rfl))⟩
 f21:=⟨Tryz.f112.name,by decide,Tryz.func112.trans (congrArg some (by kernel_rfl))⟩
 f22:=⟨Tryz.f113.name,by decide,Tryz.func113.trans (congrArg some (by kernel_rfl))⟩
 f23:=⟨Tryz.f114.name,by decide,Tryz.func114.trans (congrArg some (by kernel_rfl))⟩
 f24:=⟨Tryz.f115.name,by decide,Tryz.func115.trans (congrArg some (by kernel_rfl))⟩
 f25:=⟨Tryz.f116.name,by decide,Tryz.func116.trans (congrArg some (by kernel_rfl))⟩
 f26:=⟨Tryz.f117.name,by decide,Tryz.func117.trans (congrArg some (by kernel_rfl))⟩
 f27:=⟨Tryz.f118.name,by decide,Tryz.func118.trans (congrArg some (by kernel_rfl))⟩
 f28:=Tryz.func109.trans (congrArg some (by kernel_rfl))
 f29:=Tryz.func110.trans (congrArg some (by kernel_rfl))
 f46:=⟨Tryz.f127.name,by decide,Tryz.func127.trans (congrArg some (by kernel_rfl))⟩
 f47:=Tryz.func123.trans (congrArg some (by kernel_rfl))
 f48:=Tryz.func124.trans (congrArg some (by kernel_rfl))
 f49:=⟨Tryz.f128.name,by decide,Tryz.func128.trans (congrArg some (by kernel_rfl))⟩
 f50:=⟨Tryz.f129.name,by decide,Tryz.func129.trans (congrArg some (by kernel_rfl))⟩
 f57:=⟨Tryz.f131.name,by decide,Tryz.func131.trans (congrArg some (by kernel_rfl))⟩
 t0:=Tryz.underlying0
 a0:=Tryz.isAgg0
 z0:=Tryz.sizeOf0
 v0:=Tryz.zeroValue0
 t3:=Tryz.underlying3
 a3:=Tryz.isAgg3
 z3:=Tryz.sizeOf3
 v3:=Tryz.zeroValue3
 t4:=Tryz.underlying4
 a4:=Tryz.isAgg4
 z4:=Tryz.sizeOf4
 v4:=Tryz.zeroValue4
 t5:=Tryz.underlying5
 a5:=Tryz.isAgg5
 z5:=Tryz.sizeOf5
 v5:=Tryz.zeroValue5
 t9:=Tryz.underlying9
 a9:=Tryz.isAgg9
 z9:=Tryz.sizeOf9
 v9:=Tryz.zeroValue9
 t22:=Tryz.underlying31
 a22:=Tryz.isAgg31
 z22:=Tryz.sizeOf31
 v22:=Tryz.zeroValue31
 t25:=Tryz.underlying111
 a25:=Tryz.isAgg111
 z25:=Tryz.sizeOf111
 v25:=Tryz.zeroValue111
 t39:=Tryz.underlying134
 a39:=Tryz.isAgg134
 z39:=Tryz.sizeOf134
 v39:=Tryz.zeroValue134
 t45:=Tryz.underlying142
 a45:=Tryz.isAgg142
 z45:=Tryz.sizeOf142
 v45:=Tryz.zeroValue142
 t46:=Tryz.underlying143
 a46:=Tryz.isAgg143
 z46:=Tryz.sizeOf143
 v46:=Tryz.zeroValue143
 t50:=Tryz.underlying88
 a50:=Tryz.isAgg88
 z50:=Tryz.sizeOf88
 v50:=Tryz.zeroValue88
 t53:=Tryz.underlying149
 a53:=Tryz.isAgg149
 z53:=Tryz.sizeOf149
 v53:=Tryz.zeroValue149
 t55:=Tryz.underlying151
 a55:=Tryz.isAgg151
 z55:=Tryz.sizeOf151
 v55:=Tryz.zeroValue151
 t66:=Tryz.underlying159
 a66:=Tryz.isAgg159
 z66:=Tryz.sizeOf159
 v66:=Tryz.zeroValue159
 t70:=Tryz.underlying163
 a70:=Tryz.isAgg163
 z70:=Tryz.sizeOf163
 v70:=Tryz.zeroValue163
 t76:=Tryz.underlying167
 a76:=Tryz.isAgg167
 z76:=Tryz.sizeOf167
 v76:=Tryz.zeroValue167
 t77:=Tryz.underlying98
 a77:=Tryz.isAgg98
 z77:=Tryz.sizeOf98
 v77:=Tryz.zeroValue98 }
def Tryz.laysC_ren : Go.Shelf.Ren:=⟨fun | 20=>68 | n=>n,fun | 22=>27 | 3=>3 | 4=>4 | 0=>0 | n=>n,fun | n=>n⟩
theorem Tryz.laysC : Go.Proofs.Lays2.n20 Tryz.prog Tryz.laysC_ren:={
 mixed:=by kernel_rfl
 f20:=Tryz.func68.trans (congrArg some (by kernel_rfl))
 t0:=Tryz.underlying0
 a0:=Tryz.isAgg0
 z0:=Tryz.sizeOf0
 v0:=Tryz.zeroValue0
 t3:=Tryz.underlying3
 a3:=Tryz.isAgg3
 z3:=Tryz.sizeOf3
 v3:=Tryz.zeroValue3
 t4:=Tryz.underlying4
 a4:=Tryz.isAgg4
 z4:=Tryz.sizeOf4
 v4:=Tryz.zeroValue4
 t22:=Tryz.underlying27
 a22:=Tryz.isAgg27
 z22:=Tryz.sizeOf27
 v22:=Tryz.zeroValue27
 i3:=by kernel_rfl }
open Go.RowKit Go.Sort in
theorem Tryz.slices_Sort_int (blk off cap : Nat) (zs : List Int) (w : World) (hH : Holds (Value.int .i64) w blk off zs.toArray) (hblk : blk < w.heap.size) (hsz : zs.length < 4611686018427387904) :
  Calls Tryz.prog 67 #[.slice (some ⟨blk,off,none⟩) zs.length cap] w fun e w' =>
   e = .returned (.tuple #[]) ∧ ∃ n os,w' = grow (putRow (Value.int .i64) (Sort.ahead w n) blk off (zs.mergeSort fun x y=>decide (x ≤ y)).toArray) os:=AnyM.slices_Sort_int Tryz.sortI blk off cap zs w hH hblk hsz
open Go.RowKit Go.Sort in
theorem Tryz.slices_Sort_int_none (p : Option Addr) (cap : Nat) (w : World) :
  Calls Tryz.prog 67 #[.slice p 0 cap] w fun e w'=>e = .returned (.tuple #[]) ∧ w' = w:=AnyM.slices_Sort_int_none Tryz.sortI p cap w
open Go.RowKit Go.Lib Go.Sort in
theorem Tryz.slices_Compact_int (blk off cap : Nat) (zs : List Int) (w : World) (hH : Holds (Value.int .i64) w blk off zs.toArray) (hsz : zs.length ≤ 9223372036854775807) (hcap : zs.length ≤ cap) :
  Calls Tryz.prog 68 #[.slice (some ⟨blk,off,none⟩) zs.length cap] w fun e w'=>e = .returned (.slice (some ⟨blk,off,none⟩) (Lib.compact zs).length cap) ∧ ∃ q,w' = putRow (Value.int .i64) (Sort.ahead w q) blk off (Lib.compact zs ++ List.replicate (zs.length - (Lib.compact zs).length) 0).toArray:=Any.slices_Compact_int Tryz.laysC blk off cap zs w hH hsz hcap
open Go.RowKit Go.Lib Go.Sort in
theorem Tryz.slices_Compact_int_empty (a : Option Addr) (cap : Nat) (w : World) :
  Calls Tryz.prog 68 #[.slice a 0 cap] w fun e w'=>e = .returned (.slice a 0 cap) ∧ w' = w:=Any.slices_Compact_int_empty Tryz.laysC a cap w
end Go.Proofs
end
section
namespace Go.Proofs
open Go.Shelf Go.RowKit Go.Lib Go.Sort Go.Abs
abbrev Qbck := {x : Qe // okE x = true}
instance : Inhabited Qbck := ⟨⟨⟨0, 0, 0⟩, rfl⟩⟩
def cfE (x y : Qbck) : Int := if x.1.From = y.1.From then x.1.Event - y.1.Event else x.1.From - y.1.From
theorem Q90 (x y : Qbck) : ltOf cfE x y = ltE x.1 y.1 := by
 unfold ltOf cfE ltE
 apply decide_eq_decide.2
 split <;> omega
theorem swoE : SWO (ltOf cfE) := {
 irrefl x := by rw [Q90]; simp [ltE]
 trans x y z h1 h2 := by rw [Q90] at *; simp only [ltE, decide_eq_true_eq] at *; omega
 ntrans x y z h1 h2 := by rw [Q90] at *; simp only [ltE, decide_eq_false_iff_not] at *; omega }
set_option maxHeartbeats 1000000 in
theorem Tryz.edges37 (x y : Qbck) (W : World) : Calls Tryz.prog 70 #[.agg ((Qc x.1).map D.val).toArray, .agg ((Qc y.1).map D.val).toArray] W fun e w' => e = .returned (.int .i64 (cfE x y)) ∧ ∃ q os', w' = grow (W.drewN q) os' := by
 obtain ⟨⟨a, b, c⟩, hx0⟩ := x
 obtain ⟨⟨a', b', c'⟩, hy0⟩ := y
 have hx := hx0
 have hy := hy0
 simp only [okE, decide_eq_true_eq] at hx hy
 have w1 : IntKind.i64.wrap (a - a') = a - a' := by simp [IntKind.wrap, IntKind.bits, IntKind.signed]; omega
 have w2 : IntKind.i64.wrap (b - b') = b - b' := by simp [IntKind.wrap, IntKind.bits, IntKind.signed]; omega
 have hr : cfE ⟨⟨a, b, c⟩, hx0⟩ ⟨⟨a', b', c'⟩, hy0⟩ = if a = a' then b - b' else a - a' := rfl
 generalize cfE ⟨⟨a, b, c⟩, hx0⟩ ⟨⟨a', b', c'⟩, hy0⟩ = r at hr ⊢
 simp only [Qc, List.map_cons, List.map_nil, D.val]
 go_enter Tryz.func70, Tryz.ntmps70
 go_wp2
 ·rename_i h
  have h : a ≠ a' := by simpa using h
  go_ret
  exact ⟨by rw [hr, if_neg h]; rfl, 0, _, by rw [alloc_eq_grow, alloc_eq_grow, grow_grow]; rfl⟩
 ·rename_i h
  have h : a = a' := by simpa using h
  go_ret
  exact ⟨by rw [hr, if_pos h]; rfl, 0, _, by rw [alloc_eq_grow, alloc_eq_grow, grow_grow]; rfl⟩
set_option maxHeartbeats 1000000 in
theorem Tryz.row36 : Qbjg Tryz.prog 69 (fun x : Qbck => Qc x.1) #[.func (.func 70) #[] #[]] (fun xs => (pdq (ltOf cfE) xs.toArray 0 xs.length (Lib.bitLen xs.length) true true).toList) :=
 Qbbp Tryz.sortE Tryz.isAgg76 Tryz.sizeOf76 (fun x : Qbck => Qc x.1) (fun _ => rfl) (by decide) (fun _ => rfl) cfE swoE 70 #[] (enters_of Tryz.func70 (by kernel_rfl) rfl) (fun x y W => Tryz.edges37 x y W)
set_option maxHeartbeats 1000000 in
theorem Tryz.none36 (p : Option Addr) (cap : Nat) (w : World) : Calls Tryz.prog 69 (#[.slice p 0 cap] ++ #[.func (.func 70) #[] #[]]) w fun e' w' => e' = .returned (.tuple #[]) ∧ w' = w :=
 AnyF.slices_SortFunc_none Tryz.sortE p cap (.func (.func 70) #[] #[]) w
theorem Tryz.rowK36 : Go.Abs.RowK Tryz.prog 69 Qc 3 [.clo 70 []] Qbll :=
 Qbjq (e := Qc) (sz := 3) (N := 65536) (by decide) (fun _ => rfl) (fun _ => rfl) swoE Q90 (by kernel_rfl) (ex := #[.func (.func 70) #[] #[]]) (exV := [.clo 70 []]) (fun g w us h => by
  obtain ⟨u, us', rfl, hu, hus⟩ := h
  simp only [RFs] at hus
  subst hus
  have := hu .free
  simp only [RV] at this
  obtain ⟨vs, rfl, hv⟩ := this
  simp only [RVs] at hv
  subst hv
  rfl) Tryz.row36 Tryz.none36
theorem Tryz.rowK33 : Go.Abs.RowK Tryz.prog 67 (eI .i64) 1 [] Go.Abs.sortI :=
 Qbjr (by kernel_rfl) Tryz.slices_Sort_int Tryz.slices_Sort_int_none
theorem Tryz.compK34 : Go.Abs.CompK Tryz.prog 68 Qbgz :=
 Qbhs (by kernel_rfl) Tryz.slices_Compact_int Tryz.slices_Compact_int_empty
end Go.Proofs
end
section
namespace Go.Proofs
open Go.Shelf
def Tryz.lays169_ren : Go.Shelf.Ren:=⟨fun | 169=>77 | n=>n,fun | 70=>116 | 9=>9 | 0=>0 | 72=>119 | 37=>117 | 127=>137 | 3=>3 | 5=>5 | n=>n,fun | n=>n⟩
theorem Tryz.lays169 : Go.Proofs.Lays.n169 Tryz.prog Tryz.lays169_ren:={
 mixed:=by kernel_rfl
 f169:=Tryz.func77.trans (congrArg some (by kernel_rfl))
 t0:=Tryz.underlying0
 a0:=Tryz.isAgg0
 z0:=Tryz.sizeOf0
 v0:=Tryz.zeroValue0
 t3:=Tryz.underlying3
 a3:=Tryz.isAgg3
 z3:=Tryz.sizeOf3
 v3:=Tryz.zeroValue3
 t9:=Tryz.underlying9
 a9:=Tryz.isAgg9
 z9:=Tryz.sizeOf9
 v9:=Tryz.zeroValue9
 t37:=Tryz.underlying117
 a37:=Tryz.isAgg117
 z37:=Tryz.sizeOf117
 v37:=Tryz.zeroValue117
 t70:=Tryz.underlying116
 a70:=Tryz.isAgg116
 z70:=Tryz.sizeOf116
 v70:=Tryz.zeroValue116
 t72:=Tryz.underlying119
 a72:=Tryz.isAgg119
 z72:=Tryz.sizeOf119
 v72:=Tryz.zeroValue119
 t127:=Tryz.underlying137
 a127:=Tryz.isAgg137
 z127:=Tryz.sizeOf137
 v127:=Tryz.zeroValue137 }
theorem Tryz.Builder_Extra_169 : Builder.Extra Tryz.prog Tryz.lays169_ren:={
 sizeBuilder:=by kernel_rfl
 liesBuilder:=by kernel_rfl
 t5:=Tryz.underlying5
 a5:=Tryz.isAgg5
 z5:=Tryz.sizeOf5
 v5:=Tryz.zeroValue5
 infoByte:=by kernel_rfl
 cellsByte:=by kernel_rfl
 sizeByte:=by kernel_rfl
 neB5:=by decide }
open Go.RowKit in
theorem Tryz.Builder_String_any_k (B b : Nat) (l : List UInt8) (w : World) (h : Lib.IsBuilderF 119 5 B b (Lib.byteCells l) w) (hBw : B ≤ w.heap.size) :
  Calls Tryz.prog 77 #[.pointer (some ⟨b,0,none⟩)] w fun e w'=>e = .returned (.string ⟨l.toArray⟩) ∧ (Lib.IsBuilderF 119 5 B b (Lib.byteCells l) w' ∧ Below B w w' ∧ Lib.OthersKept 5 (some b) w w'):=Any.Builder_String_any_k Tryz.lays169 Tryz.Builder_Extra_169 B b l w h hBw
def Tryz.lays168_ren : Go.Shelf.Ren:=⟨fun | 168=>76 | 240=>95 | 242=>96 | 276=>119 | 278=>120 | n=>n,fun | 0=>0 | 3=>3 | 4=>4 | 5=>5 | 9=>9 | 20=>20 | 21=>21 | 37=>117 | 46=>134 | 51=>149 | 70=>116 | 72=>119 | 75=>121 | 80=>124 | 164=>157 | n=>n,fun | n=>n⟩
theorem Tryz.lays168 : Go.Proofs.Lays.n168 Tryz.prog Tryz.lays168_ren:={
 mixed:=by kernel_rfl
 f168:=Tryz.func76.trans (congrArg some (by kernel_rfl))
 f240:=Tryz.func95.trans (congrArg some (by kernel_rfl))
 f242:=Tryz.func96.trans (congrArg some (by kernel_rfl))
 f276:=Tryz.func119.trans (congrArg some (by kernel_rfl))
 f278:=Tryz.func120.trans (congrArg some (by kernel_rfl))
 t0:=Tryz.underlying0
 a0:=Tryz.isAgg0
 z0:=Tryz.sizeOf0
 v0:=Tryz.zeroValue0
 t3:=Tryz.underlying3
 a3:=Tryz.isAgg3
 z3:=Tryz.sizeOf3
 v3:=Tryz.zeroValue3
 t4:=Tryz.underlying4
 a4:=Tryz.isAgg4
 z4:=Tryz.sizeOf4
 v4:=Tryz.zeroValue4
 t5:=Tryz.underlying5
 a5:=Tryz.isAgg5
 z5:=Tryz.sizeOf5
 v5:=Tryz.zeroValue5
 t9:=Tryz.underlying9
 a9:=Tryz.isAgg9
 z9:=Tryz.sizeOf9
 v9:=Tryz.zeroValue9
 t20:=Tryz.underlying20
 a20:=Tryz.isAgg20
 z20:=Tryz.sizeOf20
 v20:=Tryz.zeroValue20
 t21:=Tryz.underlying21
 a21:=Tryz.isAgg21
 z21:=Tryz.sizeOf21
 v21:=Tryz.zeroValue21
 t37:=Tryz.underlying117
 a37:=Tryz.isAgg117
 z37:=Tryz.sizeOf117
 v37:=Tryz.zeroValue117
 t46:=Tryz.underlying134
 a46:=Tryz.isAgg134
 z46:=Tryz.sizeOf134
 v46:=Tryz.zeroValue134
 t51:=Tryz.underlying149
 a51:=Tryz.isAgg149
 z51:=Tryz.sizeOf149
 v51:=Tryz.zeroValue149
 t70:=Tryz.underlying116
 a70:=Tryz.isAgg116
 z70:=Tryz.sizeOf116
 v70:=Tryz.zeroValue116
 t72:=Tryz.underlying119
 a72:=Tryz.isAgg119
 z72:=Tryz.sizeOf119
 v72:=Tryz.zeroValue119
 t75:=Tryz.underlying121
 a75:=Tryz.isAgg121
 z75:=Tryz.sizeOf121
 v75:=Tryz.zeroValue121
 t164:=Tryz.underlying157
 a164:=Tryz.isAgg157
 z164:=Tryz.sizeOf157
 v164:=Tryz.zeroValue157 }
theorem Tryz.Builder_Extra_168 : Builder.Extra Tryz.prog Tryz.lays168_ren:={
 sizeBuilder:=by kernel_rfl
 liesBuilder:=by kernel_rfl
 t5:=Tryz.underlying5
 a5:=Tryz.isAgg5
 z5:=Tryz.sizeOf5
 v5:=Tryz.zeroValue5
 infoByte:=by kernel_rfl
 cellsByte:=by kernel_rfl
 sizeByte:=by kernel_rfl
 neB5:=by decide }
open Go.RowKit in
theorem Tryz.Builder_WriteRune_k (B b : Nat) (bs : List Value) (r : Int) (hr0 : -2147483648 ≤ r) (hr1 : r ≤ 2147483647) (w : World) (h : Lib.IsBuilderF 119 5 B b bs w) (hlen : bs.length + 4 ≤ 140737488355328) (hBw : B ≤ w.heap.size) :
  Calls Tryz.prog 76 #[.pointer (some ⟨b,0,none⟩),.int .i32 r] w fun e w'=>e = .returned (.tuple #[.int .i64 (Lib.runeCells r).length,.nilIface]) ∧ (Lib.BuilderAtF 119 5 B b (.pointer (some ⟨b,0,none⟩)) (bs ++ Lib.runeCells r) w' ∧ Below B w w' ∧ Lib.OthersKept 5 (some b) w w'):=Any.Builder_WriteRune_k Tryz.lays168 Tryz.Builder_Extra_168 B b bs r hr0 hr1 w h hlen hBw
def Tryz.laysGrow_ren : Go.Shelf.Ren:=⟨fun | 4=>91 | n=>n,fun | 22=>27 | 25=>3 | 3=>3 | 4=>4 | 9=>9 | 20=>20 | 0=>0 | n=>n,fun | n=>n⟩
theorem Tryz.laysGrow : Go.Proofs.Lays8.n4 Tryz.prog Tryz.laysGrow_ren:={
 mixed:=by kernel_rfl
 f4:=⟨Tryz.f91.name,by decide,Tryz.func91.trans (congrArg some (by kernel_rfl))⟩
 t0:=Tryz.underlying0
 a0:=Tryz.isAgg0
 z0:=Tryz.sizeOf0
 v0:=Tryz.zeroValue0
 t3:=Tryz.underlying3
 a3:=Tryz.isAgg3
 z3:=Tryz.sizeOf3
 v3:=Tryz.zeroValue3
 t4:=Tryz.underlying4
 a4:=Tryz.isAgg4
 z4:=Tryz.sizeOf4
 v4:=Tryz.zeroValue4
 t9:=Tryz.underlying9
 a9:=Tryz.isAgg9
 z9:=Tryz.sizeOf9
 v9:=Tryz.zeroValue9
 t20:=Tryz.underlying20
 a20:=Tryz.isAgg20
 z20:=Tryz.sizeOf20
 v20:=Tryz.zeroValue20
 t22:=Tryz.underlying27
 a22:=Tryz.isAgg27
 z22:=Tryz.sizeOf27
 v22:=Tryz.zeroValue27 }
end Go.Proofs
end
section
namespace Go.Abs
open Go Go.RowKit
set_option linter.unusedVariables false
set_option linter.unusedSimpArgs false
theorem MR.cellOld {g : G} {w w' : World} {M : Mem} {nb : Nat} (hm : MR g w M nb) (hbw : Below w.heap.size w w') : ∀ b o,g.imm b o → w'.cell? ⟨b,o,none⟩ = w.cell? ⟨b,o,none⟩:=by
 intro b o hi
 have hlt:=(hm.imm b o hi).1
 simp only [World.cell?]
 rw [hbw.block b hlt]
theorem Qbdl {P : Program} {f : FuncId} {args : List V} {x : D} (hx : x.scalar = true) (hb : Qgq P f = true)
  (h : ∀ (w : World) (g : G) (us : List Value),(∀ b o,g.imm b o → b < w.heap.size) → RFs g w args us → Calls P f us.toArray w fun e w'=>e = .returned x.val ∧ Below w.heap.size w w') (M : Mem) (nb : Nat) : ACalls P f args M nb (.d x) M nb:=by
 refine ⟨hb,Nat.le_refl _,fun w g us hm hMon hfresh hus hfl hons=>?_⟩
 refine Calls.mono (h w g us (fun b o hi=>(hm.imm b o hi).1) hus) ?_
 rintro e w' ⟨rfl,hbw⟩
 have hI : Imm g.imm g.imm w w':=⟨fun _ _ h=>h,fun b o hi=>hm.cellOld hbw b o hi⟩
 have hk : Kept g w g w' (There M) (fun _=>True):=⟨hI,fun _ _=>rfl,fun b _ hlt=>⟨rfl,hbw.block b hlt,fun _=>Iff.rfl⟩⟩
 refine ⟨_,g,rfl,hm.kept hk hMon (fun _ _ _=>trivial) trivial (fun _ _=>trivial) (fun b o hi=>?_),?_,trivial,hMon,?_⟩
 ·obtain ⟨h1,h2⟩:=hm.imm b o hi
  exact ⟨Nat.lt_of_lt_of_le h1 hbw.size,h2⟩
 ·simp only [RV]; exact (Qbjf hx).2 rfl
 ·exact ⟨hbw.os,hbw.tape,hbw.output,hbw.size,hI,fun _ _=>rfl,fun b hb _=>⟨rfl,hbw.block b hb,fun _=>Iff.rfl⟩⟩
theorem Qbf1 {P : Program} {f : FuncId} {args : List V} {sz : Nat} (hb : Qgq P f = true)
  (h : ∀ (w : World) (g : G) (us : List Value),RFs g w args us → Calls P f us.toArray w fun e w'=>(∃ a,e = .returned (.slice a 0 0) ∧ w' = w) ∨
   ∃ cap row t,e = .returned (.slice (some ⟨w.heap.size,0,none⟩) 0 cap) ∧ w' = w.drew.alloc (.cells row t) ∧ row.size = cap * sz ∧ cap ≤ maxLen ∧ ∀ u ∈ row.toList,u.oneCell' = true) (M : Mem) (nb : Nat) : ACalls P f args M nb (.own sz []) M nb:=by
 refine ⟨hb,Nat.le_refl _,fun w g us hm hMon hfresh hus hfl hons=>?_⟩
 refine Calls.mono (h w g us hus) ?_
 rintro e w' (⟨a,rfl,rfl⟩ | ⟨cap,row,t,rfl,rfl,hrow,hcap,hone⟩)
 ·exact ⟨_,g,rfl,hm,by simp only [RV]; exact .inl ⟨⟨a,rfl⟩,trivial⟩,trivial,hMon,Fr.refl _ _ _⟩
 ·let g' : G:={ box:=g.box,imm:=g.imm,own:=fun b=>if b = w.heap.size then .res [] else g.own b }
  have hold : ∀ b,b < w.heap.size → (w.drew.alloc (.cells row t)).heap[b]? = w.heap[b]?:=fun b hlt=>RowKit.Below.heap_alloc w.drew _ b (by simpa using hlt)
  have hown : ∀ b,b < w.heap.size → g'.own b = g.own b:=fun b hlt=>by simp only [g']; rw [if_neg (by omega)]
  have hI : Imm g.imm g'.imm w (w.drew.alloc (.cells row t)):=⟨fun _ _ h=>h,fun b o hi=>by
   have hlt:=(hm.imm b o hi).1
   simp only [World.cell?]
   rw [hold b hlt]⟩
  have hk : Kept g w g' (w.drew.alloc (.cells row t)) (There M) (fun _=>True):=⟨hI,fun _ _=>rfl,fun b _ hlt=>⟨hown b hlt,hold b hlt,fun _=>Iff.rfl⟩⟩
  refine ⟨_,g',rfl,hm.kept hk hMon (fun _ _ _=>trivial) trivial (fun _ _=>trivial) (fun b o hi=>?_),?_,trivial,hMon,?_⟩
  ·obtain ⟨h1,h2⟩:=hm.imm b o hi
   refine ⟨by simp; omega,fun k=>?_⟩
   rw [hown b h1]; exact h2 k
  ·simp only [RV]
   refine .inr ⟨w.heap.size,cap,row,t,rfl,by simp [g'],heap_alloc_new w.drew _,Nat.zero_le _,hcap,⟨hrow,hone⟩,fun o=>?_,by simp [RDL]⟩
   constructor
   ·intro hi; have:=(hm.imm _ _ hi).1; omega
   ·intro hi; simp at hi
  ·exact ⟨rfl,rfl,rfl,by simp,hI,fun _ _=>rfl,fun b hb _=>⟨hown b hb,hold b hb,fun _=>Iff.rfl⟩⟩
theorem Qbme {g : G} {w : World} {l : List Int} {k : IntKind} {u : Value} (h : RF g w (.d (.lst 1 (l.map (fun n=>[.int k n])))) u) :
  ∃ a cap,u = .slice a l.length cap ∧ l.length ≤ cap ∧ (l = [] ∨ ∃ b o,a = some ⟨b,o,none⟩ ∧ ∀ (i : Nat) n,l[i]? = some n → g.imm b (o + i) ∧ w.cell? ⟨b,o + i,none⟩ = some (.int k n)):=by
 have h:=RF_d.1 h
 simp only [RD,List.length_map] at h
 obtain ⟨a,cap,rfl,hc,hl⟩:=h
 refine ⟨a,cap,rfl,hc,?_⟩
 rcases hl with hl | ⟨b,o,rfl,hl⟩
 ·exact .inl (by simpa using hl)
 ·refine .inr ⟨b,o,rfl,fun i n hi=>?_⟩
  have:=(Q96 hl i [.int k n] (by simp [hi])).2
  simp only [RDc,Nat.mul_one,RD] at this
  obtain ⟨h1,⟨u,h2,rfl⟩,_⟩:=this
  exact ⟨h1,h2⟩
end Go.Abs
end
section
namespace Go.Proofs
open Go.RowKit Go.Abs
def keyL (l : List Int) : List UInt8 := l.flatMap fun x => Lib.encodeRune (x + 1)
theorem Qbjs : ∀ l : List Int, (keyL l).length ≤ 4 * l.length
 | [] => by simp [keyL]
 | x :: l => by
  have h := Lib.runeCells_le (x + 1)
  rw [Lib.runeCells_length] at h
  have ih := Qbjs l
  simp only [keyL, List.flatMap_cons, List.length_append, List.length_cons] at *
  omega
set_option maxHeartbeats 4000000 in
set_option maxRecDepth 1000000 in
theorem Tryz.key_walk (l : List Int) (hl : l.length ≤ lim) (hx : ∀ x ∈ l, 0 ≤ x ∧ x < 50000) (a : Option Addr) (cap : Nat) (w : World)
  (hc : ∀ (i : Nat) n, l[i]? = some n → ∃ b o, a = some ⟨b, o, none⟩ ∧ b < w.heap.size ∧ w.cell? ⟨b, o + i, none⟩ = some (.int .i64 n)) :
  Calls Tryz.prog 41 #[.slice a l.length cap] w fun e w' => e = .returned (.string (keyB l)) ∧ Below w.heap.size w w' := by
 have hlim : l.length ≤ 1099511627776 := hl
 go_enter Tryz.func41, Tryz.ntmps41
 go_wp2
 go_loopw [8] (fun vi wr => ∃ (k : Nat), vi = .int .i64 k ∧ k ≤ l.length ∧ Lib.IsBuilderF 119 5 w.heap.size w.heap.size (Lib.byteCells (keyL (l.take k))) wr ∧ Below w.heap.size w wr) (fun vi _ => l.length - (intOf vi).toNat)
 case atStart =>
  refine ⟨0, rfl, by omega, ?_, ((Below.refl _ w).alloc (Nat.le_refl _) _)⟩
  exact Lib.IsBuilderF.of (Lib.fresh_isBuilder 119 5 w)
 case round =>
  obtain ⟨k, rfl, hk, hI, hbw⟩ := hrel
  by_cases hlt : k < l.length
  ·obtain ⟨b, o, rfl, hb, hcell⟩ := hc k l[k] (List.getElem?_eq_getElem hlt)
   have hcr : wr.cell? ⟨b, o + k, none⟩ = some (.int .i64 l[k]) := by
    rw [← hcell]; simp only [World.cell?]; rw [hbw.block b hb]
   have hxk := hx l[k] (List.getElem_mem hlt)
   have w1 : IntKind.i64.wrap (l[k] + 1) = l[k] + 1 := by simp [IntKind.wrap, IntKind.bits, IntKind.signed]; omega
   have w2 : IntKind.i32.wrap (l[k] + 1) = l[k] + 1 := by simp [IntKind.wrap, IntKind.bits, IntKind.signed]; omega
   have hsz : w.heap.size ≤ wr.heap.size := hbw.size
   have hkl := Qbjs (l.take k)
   rw [List.length_take] at hkl
   go_wp2_with (go_at_call 76; refine (Tryz.Builder_WriteRune_k w.heap.size w.heap.size _ (l[k] + 1) (by omega) (by omega) _ hI (by rw [Lib.byteCells_length]; omega) hsz).mono ?_)
   rintro e W1 ⟨rfl, h1, b1, k1⟩
   go_wp2
   go_roundw
   case rel =>
    refine ⟨k + 1, by simp, by omega, ?_, hbw.trans b1⟩
    have e1 : keyL (l.take (k + 1)) = keyL (l.take k) ++ Lib.encodeRune (l[k] + 1) := by
     rw [List.take_succ_eq_append_getElem hlt]; simp only [keyL, List.flatMap_append, List.flatMap_cons, List.flatMap_nil, List.append_nil]
    rw [e1, Lib.byteCells_append, Lib.byteCells_encodeRune]; exact Or.inr h1
   case measure =>
    simp [intOf]; omega
  ·have hk2 : k = l.length := by omega
   subst hk2
   go_wp2_with (go_at_call 77; refine (Tryz.Builder_String_any_k w.heap.size w.heap.size _ _ hI hbw.size).mono ?_)
   rintro e W1 ⟨rfl, _, b1, _⟩
   go_wp2
   go_ret
   exact ⟨rfl, hbw.trans b1⟩
theorem Tryz.keyK : Go.Abs.K_projection_key Tryz.prog 41 keyS := by
 intro l r h
 unfold keyS at h
 split at h <;> cases h
 rename_i hc
 intro M nb
 refine Qbdl rfl (by kernel_rfl) (fun w g us himm hus => ?_) M nb
 obtain ⟨u, us', rfl, hu, hus'⟩ := hus
 simp only [RFs] at hus'
 subst hus'
 obtain ⟨a, cap, rfl, hcap, hl⟩ := Qbme hu
 refine Tryz.key_walk l hc.1 hc.2 a cap w fun i n hi => ?_
 rcases hl with rfl | ⟨b, o, rfl, hl⟩
 ·simp at hi
 ·exact ⟨b, o, rfl, himm _ _ (hl i n hi).1, (hl i n hi).2⟩
theorem Tryz.growK : Go.Abs.K_slices_Grow_int Tryz.prog 91 Qbmc := by
 intro n r h
 unfold Qbmc at h
 split at h <;> cases h
 rename_i hc
 have hlim : n ≤ 1099511627776 := hc.2
 intro M nb
 refine Qbf1 (by kernel_rfl) (fun w g us hus => ?_) M nb
 obtain ⟨u, us', rfl, hu, u2, us2, rfl, hu2, hus'⟩ := hus
 simp only [RFs] at hus'
 subst hus'
 have hu := hu .free
 simp only [RV] at hu
 obtain ⟨a, rfl⟩ := hu
 have h2 := Qm3 hu2
 subst h2
 by_cases h0 : n = 0
 ·subst h0
  refine (Any8.slices_Grow_room Tryz.laysGrow a 0 0 0 w (by omega) (by omega) (by omega) (by omega)).mono ?_
  rintro e w' ⟨rfl, rfl⟩
  exact .inl ⟨a, rfl, rfl⟩
 ·obtain ⟨m, rfl⟩ : ∃ m : Nat, n = m := ⟨n.toNat, by omega⟩
  obtain ⟨i, zv, hi, hzv, hcz, _⟩ := Qjw Tryz.prog (t := 3) (z := [.d (.int .i64 0)]) (by kernel_rfl)
  have hsz : i.size = 1 := (Qd1 Tryz.prog hi).symm.trans (by kernel_rfl)
  have hby : i.bytes = 8 := by
   have : Tryz.prog.bytesOf 3 = 8 := by kernel_rfl
   simpa [Program.bytesOf, hi] using this
  have hzs : zv.cells.size = 1 := by have := (hcz g w).len; simpa using this
  have hz1 : ∀ q, ∀ u ∈ (Builtin.zeroCells zv.cells q).toList, u.oneCell' = true := by
   intro q u hu
   refine (hcz g w).one u ?_
   simp only [Builtin.zeroCells] at hu
   have hu' : ∃ a, a < q * zv.cells.size ∧ zv.cells[a % zv.cells.size]! = u := by simpa using hu
   obtain ⟨j, hj, rfl⟩ := hu'
   have hlt : j % zv.cells.size < zv.cells.size := Nat.mod_lt _ (by omega)
   rw [getElem!_pos zv.cells _ hlt]
   simp
  have hge := grownCap_ge w (0 + m) 0 3
  have hle := grownCap_le_maxLen w (0 + m) 0 3 (by simp only [maxLen]; omega)
  refine (Any8.slices_Grow_grow Tryz.laysGrow i zv hi hzv (by omega) a 0 0 m [] w (by omega) (by omega) (by rw [hby]; omega) (by omega) (by simp) (fun _ => rfl) (fun _ _ j v hj => by simp at hj)).mono ?_
  rintro e w' ⟨rfl, rfl⟩
  refine .inr ⟨_, _, _, rfl, rfl, ?_, hle, fun u hu => ?_⟩
  ·simp only [Array.size_append, size_zeroCells, hzs, List.size_toArray, List.length_nil]
   show _ = grownCap w (0 + m) 0 3 * 1
   simp only [show (Tryz.laysGrow_ren.t 25) = 3 from rfl]
   omega
  ·simp only [Array.toList_append, List.mem_append, List.nil_append] at hu
   rcases hu with hu | hu
   ·exact hz1 _ u hu
   ·exact hz1 _ u hu
end Go.Proofs
end
section
namespace Go.Proofs
open Go Go.Abs
set_option linter.unusedVariables false
set_option maxRecDepth 10000
set_option maxHeartbeats 4000000
theorem Qtl : Qgg Tryz.prog 34 Qj6:=Qp7 Qxn
theorem Q2z : Qic Tryz.prog 79 Qf0:=Qxd Q5i Qbj
theorem Q67 : Qjx Tryz.prog 88 Qg4:=Q2h Q73 Qbj
theorem Qcq : Qb1 Tryz.prog 56 Q9:=Qs5 Q67 Q2t
theorem Qxo : Qgr Tryz.prog 80 Qe5:=Qqy Qcq Q0t Qbj
theorem Qqk : Qhv Tryz.prog 46 Qgb:=Q44 Q2z Qxo Q85
theorem Qkl : Qfe Tryz.prog 49 Qfh:=Qs6 Q2s Qbj
theorem Qe0 : Qdp Tryz.prog 38 Qcv:=Q2i Qqk Qkl Q70
theorem Qfl : Qdv Tryz.prog 39 Qda:=Qxe Qcq Q5g Qbj
theorem Ql1 : Qeh Tryz.prog 83 Q4:=Qkf Qms
theorem Qg5 : Qdq Tryz.prog 50 Qc3:=Qlv Qcq Tryz.rowK33 Ql1 Qpf Qbj
theorem Qg6 : Qdr Tryz.prog 40 Qc4:=Qlw Qg5 Qpe
theorem Qj9 : Qdw Tryz.prog 78 Qfu:=Qjk Qcq Qki
theorem Qxp : Qgt Tryz.prog 89 Qg0:=Qqz Q0u Qbj
theorem Qh9 : Qd3 Tryz.prog 58 Qdb:=Qnt Qxp Qq5
theorem Qle : Qd8 Tryz.prog 42 Qgd:=Qj4 Qh9 Qj9 Qly
theorem Qe1 : Qc9 Tryz.prog 43 Qci:=Qmq Qg5 Qp9 Qbj
theorem Q20 : Qif Tryz.prog 12 Qmw:=Qxf Qe0 Qfl Qg6 Tryz.keyK Qle Qe1 Q5a Qbj
theorem Ql2 : Qej Tryz.prog 84 Qen:=Qkg Qcq Qmt
theorem Qer : Qcz Tryz.prog 52 Qcd:=Qlx Qh9 Ql2 Qpg
theorem Qpj : Qg2 Tryz.prog 55 Qj7:=Q2j Q71
theorem Q75 : Qkx Tryz.prog 31 Qti:=Q45 Qe0 Qfl Qer Qpj Qcq Q84 Qbj
theorem Q5j : Qjc Tryz.prog 65 Qph:=Q0l Q64
theorem Q5k : Qje Tryz.prog 66 Qpi:=Q0m Tryz.growK Q65 Qbj
theorem Qbdm : Qkk Tryz.prog 70 Q0v:=Qq0 Q0s
theorem Q9r : Qog Tryz.prog 121 Q2x:=Q7y Qba1
theorem Qba7 : Qqw Tryz.prog 97 Q5r:=Q82 Q9r Qbbn
theorem Q68 : Qj1 Tryz.prog 98 Qqj:=Q2k Q74
theorem Qqa : Qfo Tryz.prog 82 Qi7:=Qnu Qba7 Q68 Qq6 Qbj
theorem Ql3 : Qel Tryz.prog 85 Qgl:=Qkh Qmu Qbj
theorem Q76 : Qk8 Tryz.prog 86 Qtj:=Q46 Q86
theorem Q77 : Qla Tryz.prog 87 Qtk:=Q47 Q87
theorem Q9s : Qor Tryz.prog 54 Q2y:=Q7z Ql3 Q76 Q77 Qba0
theorem Q0w : Qhb Tryz.prog 48 Qlz:=Qs7 Q9s Qpj Qqa Q2r Qbj
theorem Q0x : Qhd Tryz.prog 71 Ql0:=Qs8 Qqk Q0w Q2u
theorem Q21 : Qih Tryz.prog 35 Qmx:=Qxg Qe0 Qcq Q5j Q5k Tryz.rowK33 Tryz.compK34 Tryz.rowK36 Q0x Q5f Qbj
theorem Qd5 : Qcx Tryz.prog 19 Qcy:=Qpc Qtg Qbj
theorem Q22 : Qij Tryz.prog 14 Qmy:=Qxh Qd5 Q5b Qbj
theorem Qqb : Qfq Tryz.prog 15 Qi8:=Qnv Qd5 Qq3 Qbj
theorem Q0y : Qhf Tryz.prog 8 Qhr:=Qs9 Q20 Q22 Qqb Qd5 Q75 Qtl Q21 Q2m
theorem Qpk : Qfa Tryz.prog 11 Qdy:=Qmr Qp8 Qbj
theorem Qkm : Qff Tryz.prog 36 Qeb:=Qta Q2p
theorem Ql4 : Qfy Tryz.prog 74 Qb9:=Qxi Q5h Qbj
theorem Qmz : Qgi Tryz.prog 73 Qc5:=Q0n Q66 Qbj
theorem Q0z : Qhi Tryz.prog 72 Qfi:=Qtb Qmz Ql4 Q2v Qbj
theorem Q00 : Qhk Tryz.prog 75 Qec:=Qtc Q2w Qbj
theorem Qqc : Qfs Tryz.prog 37 Qd4:=Qnw Qkm Q0z Qmz Ql4 Q00 Qq4 Qbj
theorem Q23 : Qim Tryz.prog 10 Qf1:=Qxj Qkm Qqc Q49 Qbj
theorem Q01 : Qhm Tryz.prog 25 Qfj:=Qtd Qe0 Qfl Qg6 Qe1 Qer Q2o Qbj
theorem Qep : Qdf Tryz.prog 45 Qdh:=Q0o Q63 Qbj
theorem Q24 : Qio Tryz.prog 23 Qf2:=Qxk Qep Q5d Qbj
theorem Q5l : Qji Tryz.prog 22 Qjn:=Q0p Q62 Qbj
theorem Qka : Qe4 Tryz.prog 53 Qd0:=Qq1 Qep Q0r Qbj
theorem Qxq : Qgy Tryz.prog 51 Qe6:=Qq2 Qep Q0q Qbj
theorem Qkn : Qfg Tryz.prog 20 Qed:=Qte Qep Qxq Q2n Qbj
theorem Q02 : Qhp Tryz.prog 44 Qfk:=Qtf Qkn Qka Q2q
theorem Q25 : Qiq Tryz.prog 24 Qf3:=Qxl Qkn Qep Qka Q5e Qbj
theorem Qq7 : Qf9 Tryz.prog 26 Qef:=Qpd Q25 Q02 Qth Qbj
theorem Q78 : Qlc Tryz.prog 21 Qh6:=Q48 Qe0 Qfl Qe1 Qkl Qer Q83
theorem Q5s : Qez Tryz.prog 5 Qdi:=Qh5 Q0y Q23 Qpk Qd5 Q78 Q5l Q24 Q01 Qq7 Qjl Qbj
theorem Qbex : Qmv Tryz.prog 17 Qi3:=Qxm Q5c Qbj
theorem Qbf2 : Qqi Tryz.prog 63 Qj8:=Q2l Q72 Qbj
end Go.Proofs
end
