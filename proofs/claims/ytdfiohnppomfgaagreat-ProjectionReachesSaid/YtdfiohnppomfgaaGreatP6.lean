/-
  Part 6 of the proof: see the last text.
-/
import Derived.Test.YtdfiohnppomfgaaGreatP5
import Derived.Test.YtdfiohnppomfgaaGreatProg
import Derived.KernelRfl
import Derived.Sort.Statements
import Derived.Lib.SlicesCompact
import Derived.Lib.RuneBytes
import Derived.Shelf.SlSortCmp.NoneTotal
import Derived.Shelf.SlGeneric
import Derived.Ground.SlgmProg
import Derived.Shelf.SortM.Plain
import Derived.Shelf.SortM.SortNone
import Derived.Shelf.Small.Bits
import Derived.Ground.Names2Prog
import Derived.Shelf.Slices.CompactI
import Derived.WalkKit
import Derived.Shelf.Strings.BuilderK
import Derived.Shelf.Strings.BuilderRune
import Derived.Shelf.Strconv.Itoa0
import Derived.Shelf.Spec.SlicesGrow
import Derived.Ground.Names8Prog
import Derived.BigCall
import Derived.Lib.OthersKept
set_option linter.unusedVariables false
set_option linter.unusedSimpArgs false
set_option linter.unusedSectionVars false
section
namespace Go.Abs
open Go
set_option linter.unusedVariables false
set_option maxRecDepth 10000
set_option maxHeartbeats 4000000
theorem Qwo {P : Program} {c : Nat} {Qt : Qb → (List Int) → Option Int} {Qj : (List Int) → Int → Option Bool} {Qc2 : (List Qe) → Option ((List Qe))} {Qc3 : (List (List Int)) → Option ((List Int))} {f_slices_Sort_int : List Int → Option (List Int)} {f_slices_Compact_int : List Int → Option (List Int)} {f_slices_SortFunc_Edge : List Qe → Option (List Qe)} {Qci : Qb → Option (Qb × Int)}
    (H_projection_check : Qdo P 38 Qt)
    (H_slices_Contains_int : Qbz P 56 Qj)
    (H_slices_Clone_Edge : Qi0 P 65 Qc2)
    (H_slices_Concat_int : Qi2 P 66 Qc3)
    (H_slices_Sort_int : RowK P 67 (eI .i64) 1 [] f_slices_Sort_int)
    (H_slices_Compact_int : CompK P 68 f_slices_Compact_int)
    (H_slices_SortFunc_Edge : RowK P 69 Qc 3 [.clo 70 []] f_slices_SortFunc_Edge)
    (H_automaton_Canonical : Qhc P 71 Qci) (hcf : Qv P c = some Qh3) (fuel : Nat) : Qh2 P c (Qcp Qt Qj Qc2 Qc3 f_slices_Sort_int f_slices_Compact_int f_slices_SortFunc_Edge Qci fuel):=by
 intro a1 alphabet2 r h
 refine Qbk5 hcf (args':=[.agg [.f (.lst 1 (List.map (eI .i64) a1.Alphabet)),(i_ a1.States),.f (.lst 1 (List.map (eI .i64) a1.Marked)),.f (.lst 3 (List.map Qc a1.Edges))],.f (.lst 1 (List.map (eI .i64) alphabet2))]) rfl rfl rfl rfl rfl rfl fun Γ M hP hnt hG hM0 hM=>?_
 subst hP
 refine Tr.init [(0,.agg [.f (.lst 1 (List.map (eI .i64) a1.Alphabet)),(i_ a1.States),.f (.lst 1 (List.map (eI .i64) a1.Marked)),.f (.lst 3 (List.map Qc a1.Edges))]),(1,.f (.lst 1 (List.map (eI .i64) alphabet2)))] rfl ?_
 unfold Qcp at h
 unfold Qh3
 refine sr ((Rn.box (v:=.agg [.f (.lst 1 (List.map (eI .i64) a1.Alphabet)),(i_ a1.States),.f (.lst 1 (List.map (eI .i64) a1.Marked)),.f (.lst 3 (List.map Qc a1.Edges))]) (cs:=[.f (.lst 1 (List.map (eI .i64) a1.Alphabet)),(i_ a1.States),.f (.lst 1 (List.map (eI .i64) a1.Marked)),.f (.lst 3 (List.map Qc a1.Edges))]) trivial rfl rfl rfl rfl rfl (Rn.alloc trivial rfl (md rfl (nt ((Tr.seq (sr ((Rn.load (v:=.agg [.f (.lst 1 (List.map (eI .i64) a1.Alphabet)),(i_ a1.States),.f (.lst 1 (List.map (eI .i64) a1.Marked)),.f (.lst 3 (List.map Qc a1.Edges))]) trivial rfl (Qk rfl) rfl rfl (Rn.mov (v:=.f (.lst 1 (List.map (eI .i64) alphabet2))) trivial rfl ?_)))))))))))
 obtain ⟨x4,h3,h⟩:=bnd h
 refine Rn.call (args:=[.agg [.f (.lst 1 (List.map (eI .i64) a1.Alphabet)),(i_ a1.States),.f (.lst 1 (List.map (eI .i64) a1.Marked)),.f (.lst 3 (List.map Qc a1.Edges))],.f (.lst 1 (List.map (eI .i64) alphabet2))]) trivial rfl (fun M2 nb2=>ACalls.weak (args':=[(Qa a1),(l_ alphabet2)]) (H_projection_check _ _ _ h3 M2 nb2) (.cons (WkV.agg (.cons fToD (.cons (sm rfl) (.cons fToD (.cons fToD .nil))))) (.cons fToD .nil)) rfl) pc9 ?_
 refine md rfl (nt ((sr ((md rfl (Rn.bin trivial rfl rfl rfl (Rn.nil (toN ?_))))))))
 refine Tr.cond rfl (fun hb5=>?_) (fun hb5=>?_)
 ·replace h:=bT hb5 h
  refine sr ((Rn.build (v:=.agg [.nils 1,(i_ 0),.nils 1,.nils 3]) trivial rfl (md rfl (Rn.storeT (v:=.agg [.nils 1,(i_ 0),.nils 1,.nils 3]) (ds:=[.nils 1,(i_ 0),.nils 1,.nils 3]) (cs':=[.nils 1,(i_ 0),.nils 1,.nils 3]) trivial rfl rfl rfl rfl rfl rfl rfl (md rfl (nt ((Tr.ret ?_))))))))
  replace h:=si h; subst h
  exact ⟨.inr rfl,.tup [.agg [.nils 1,(i_ 0),.nils 1,.nils 3],(i_ x4)],res2 (Qhw rfl rfl rfl rfl) rfl,(WkV.tup (.cons (WkV.agg (.cons (WkV.nilsD _) (.cons (.same rfl) (.cons (WkV.nilsD _) (.cons (WkV.nilsD _) .nil))))) (.cons (.same rfl) .nil))).rd,⟨⟨trivial,trivial,trivial,trivial,trivial⟩,trivial,trivial⟩,fun k hk=>Qf hk⟩
 ·replace h:=bF hb5 h
  refine Tr.skip (toN (Tr.seq ?_))
  refine Tr.rgnD (by decide) ?_
  refine Rn.fldP (o':=1) trivial rfl rfl (Rn.load (v:=(i_ a1.States)) trivial rfl (Qk rfl) rfl rfl (Rn.fldP (o':=2) trivial rfl rfl (Rn.load (v:=.f (.lst 1 (List.map (eI .i64) a1.Marked))) trivial rfl (Qk rfl) rfl rfl (Rn.fldP (o':=3) trivial rfl rfl (Rn.load (v:=.f (.lst 3 (List.map Qc a1.Edges))) trivial rfl (Qk rfl) rfl rfl ?_)))))
  obtain ⟨x7,h6,h⟩:=bnd h
  refine Rn.call (args:=[.f (.lst 3 (List.map Qc a1.Edges))]) trivial rfl (fun M2 nb2=>ACalls.weak (args':=[.d (.lst 3 (List.map Qc a1.Edges))]) (H_slices_Clone_Edge _ _ h6 M2 nb2) (.cons fToD .nil) rfl) (fun _=>Q7j hM rfl) ?_
  refine Rn.buildT (v:=.agg [.nils 1,(i_ a1.States),.f (.lst 1 (List.map (eI .i64) a1.Marked)),.own 3 (List.map Qc x7)]) trivial rfl (Rn.alloc trivial rfl (Rn.storeT (v:=.agg [.nils 1,(i_ a1.States),.f (.lst 1 (List.map (eI .i64) a1.Marked)),.own 3 (List.map Qc x7)]) (ds:=[.nils 1,(i_ a1.States),.f (.lst 1 (List.map (eI .i64) a1.Marked)),.own 3 (List.map Qc x7)]) (cs':=[.nils 1,(i_ a1.States),.f (.lst 1 (List.map (eI .i64) a1.Marked)),.own 3 (List.map Qc x7)]) trivial rfl rfl rfl rfl rfl rfl rfl ?_))
  refine Rn.nil ⟨rfl,?_⟩
  refine toN (sr ((Rn.fldP (o':=0) trivial rfl rfl (Rn.load (v:=.f (.lst 1 (List.map (eI .i64) a1.Alphabet))) trivial rfl (Qk rfl) rfl rfl (Rn.mov (v:=.f (.lst 1 (List.map (eI .i64) alphabet2))) trivial rfl ?_)))))
  refine Rn.weak (by show WeakSt Γ _ ⟨look [(0,.agg [.f (.lst 1 (List.map (eI .i64) a1.Alphabet)),(i_ a1.States),.f (.lst 1 (List.map (eI .i64) a1.Marked)),.f (.lst 3 (List.map Qc a1.Edges))]),(1,.f (.lst 1 (List.map (eI .i64) alphabet2))),(2,.ptr (Γ.n0 + 2) 0),(4,.ptr (Γ.n0 + 4) 0),(5,(i_ 0)),(6,(i_ x4)),(7,.ptr (Γ.n0 + 7) 0),(11,.agg [.f (.lst 1 (List.map (eI .i64) a1.Alphabet)),(i_ a1.States),.f (.lst 1 (List.map (eI .i64) a1.Marked)),.f (.lst 3 (List.map Qc a1.Edges))]),(12,.f (.lst 1 (List.map (eI .i64) alphabet2))),(13,(i_ x4)),(14,(i_ x4)),(15,(b_ (x4 != 0))),(18,.ptr (Γ.n0 + 2) 1),(19,(i_ a1.States)),(20,.ptr (Γ.n0 + 2) 2),(21,.f (.lst 1 (List.map (eI .i64) a1.Marked))),(22,.ptr (Γ.n0 + 2) 3),(23,.f (.lst 3 (List.map Qc a1.Edges))),(24,.d (.lst 3 (List.map Qc x7))),(25,.agg [.nils 1,(i_ a1.States),.f (.lst 1 (List.map (eI .i64) a1.Marked)),.d (.lst 3 (List.map Qc x7))]),(26,.ptr (Γ.n0 + 2) 0),(27,(l_ a1.Alphabet)),(28,(l_ alphabet2))],Qn Γ.n0 (bxs [(2,.cells ([.f (.lst 1 (List.map (eI .i64) a1.Alphabet)),(i_ a1.States),.f (.lst 1 (List.map (eI .i64) a1.Marked)),.f (.lst 3 (List.map Qc a1.Edges))])),(4,.cells ([.nils 1,(i_ 0),.nils 1,.nils 3])),(7,.cells ([.nils 1,(i_ a1.States),.f (.lst 1 (List.map (eI .i64) a1.Marked)),.own 3 (List.map Qc x7)]))]) M,Γ.n0 + 74⟩; exact Qh [] ⟨(sm rfl),(sm rfl),(kPtr rfl),(kPtr rfl),(sm rfl),(sm rfl),(kPtr rfl),(sm rfl),(sm rfl),(sm rfl),(sm rfl),(sm rfl),(kPtr rfl),(sm rfl),(kPtr rfl),(sm rfl),(kPtr rfl),(sm rfl),(sm rfl),(sm rfl),(kPtr rfl),fToD,fToD,trivial⟩ ⟨⟨_,rfl,rfl,(.same rfl)⟩,⟨_,rfl,rfl,(.same rfl)⟩,⟨_,rfl,rfl,(.same rfl)⟩,trivial⟩ rfl) ?_
  refine Rn.bslice (xs:=[(l_ a1.Alphabet),(l_ alphabet2)]) (cs:=[(l_ a1.Alphabet),(l_ alphabet2)]) trivial rfl rfl rfl rfl ?_
  refine Rn.weak (by show WeakSt Γ _ ⟨look [(0,.agg [.f (.lst 1 (List.map (eI .i64) a1.Alphabet)),(i_ a1.States),.f (.lst 1 (List.map (eI .i64) a1.Marked)),.f (.lst 3 (List.map Qc a1.Edges))]),(1,.f (.lst 1 (List.map (eI .i64) alphabet2))),(2,.ptr (Γ.n0 + 2) 0),(4,.ptr (Γ.n0 + 4) 0),(5,(i_ 0)),(6,(i_ x4)),(7,.ptr (Γ.n0 + 7) 0),(11,.agg [.f (.lst 1 (List.map (eI .i64) a1.Alphabet)),(i_ a1.States),.f (.lst 1 (List.map (eI .i64) a1.Marked)),.f (.lst 3 (List.map Qc a1.Edges))]),(12,.f (.lst 1 (List.map (eI .i64) alphabet2))),(13,(i_ x4)),(14,(i_ x4)),(15,(b_ (x4 != 0))),(18,.ptr (Γ.n0 + 2) 1),(19,(i_ a1.States)),(20,.ptr (Γ.n0 + 2) 2),(21,.f (.lst 1 (List.map (eI .i64) a1.Marked))),(22,.ptr (Γ.n0 + 2) 3),(23,.f (.lst 3 (List.map Qc a1.Edges))),(24,.d (.lst 3 (List.map Qc x7))),(25,.agg [.nils 1,(i_ a1.States),.f (.lst 1 (List.map (eI .i64) a1.Marked)),.d (.lst 3 (List.map Qc x7))]),(26,.ptr (Γ.n0 + 2) 0),(27,(l_ a1.Alphabet)),(28,(l_ alphabet2)),(29,.d (.lst 1 (List.map (eL 1 (eI .i64)) [a1.Alphabet,alphabet2])))],Qn Γ.n0 (bxs [(2,.cells ([.f (.lst 1 (List.map (eI .i64) a1.Alphabet)),(i_ a1.States),.f (.lst 1 (List.map (eI .i64) a1.Marked)),.f (.lst 3 (List.map Qc a1.Edges))])),(4,.cells ([.nils 1,(i_ 0),.nils 1,.nils 3])),(7,.cells ([.nils 1,(i_ a1.States),.f (.lst 1 (List.map (eI .i64) a1.Marked)),.own 3 (List.map Qc x7)]))]) M,Γ.n0 + 74⟩; exact Qck 29 [.lst 1 (List.map (eI .i64) a1.Alphabet),.lst 1 (List.map (eI .i64) alphabet2)] rfl rfl ⟨(.same rfl),(.same rfl),(fPtr rfl),(fPtr rfl),(.same rfl),(.same rfl),(fPtr rfl),(.same rfl),(.same rfl),(.same rfl),(.same rfl),(.same rfl),(fPtr rfl),(.same rfl),(fPtr rfl),(.same rfl),(fPtr rfl),(.same rfl),(.same rfl),(.same rfl),(fPtr rfl),(.same rfl),(.same rfl),(fSl rfl rfl),trivial⟩ ⟨⟨_,rfl,rfl,(.same rfl)⟩,⟨_,rfl,rfl,(.same rfl)⟩,⟨_,rfl,rfl,(.same rfl)⟩,trivial⟩ rfl) ?_
  obtain ⟨x9,h8,h⟩:=bnd h
  refine Rn.call (args:=[.d (.lst 1 (List.map (eL 1 (eI .i64)) [a1.Alphabet,alphabet2]))]) trivial rfl (H_slices_Concat_int _ _ h8) pc9 (Rn.fldP (o':=0) trivial rfl rfl (Rn.storeO (cs':=[.own 1 (List.map (eI .i64) x9),(i_ a1.States),.f (.lst 1 (List.map (eI .i64) a1.Marked)),.own 3 (List.map Qc x7)]) trivial rfl rfl rfl rfl rfl (Rn.nil (toN ?_))))
  obtain ⟨row10,hs11,h⟩:=bnd h
  obtain ⟨hl12,hn13,hr14⟩:=H_slices_Sort_int _ _ hs11
  obtain ⟨row16,hs17,h⟩:=bnd h
  obtain ⟨hl18,hn19,hr20⟩:=H_slices_Compact_int _ _ hs17
  refine Tr.seqW2 ⟨look [(2,.ptr (Γ.n0 + 2) 0),(4,.ptr (Γ.n0 + 4) 0),(7,.ptr (Γ.n0 + 7) 0)],Qn Γ.n0 (bxs [(2,.cells ([.f (.lst 1 (List.map (eI .i64) a1.Alphabet)),(i_ a1.States),.f (.lst 1 (List.map (eI .i64) a1.Marked)),.f (.lst 3 (List.map Qc a1.Edges))])),(4,.cells ([.nils 1,(i_ 0),.nils 1,.nils 3])),(7,.cells ([.f (.lst 1 (List.map (eI .i64) row16)),(i_ a1.States),.f (.lst 1 (List.map (eI .i64) a1.Marked)),.own 3 (List.map Qc x7)]))]) M,Γ.n0 + 74⟩ ?_ ?_
  ·by_cases hx15 : x9 = []
   ·obtain ⟨hyx,hn13b⟩:=hn13 hx15
    replace hyx:=hyx.symm
    subst hyx
    replace hn13:=And.intro trivial hn13b
    obtain ⟨hyx2,hn19b⟩:=hn19 hx15
    replace hyx2:=hyx2.symm
    subst hyx2
    replace hn19:=And.intro trivial hn19b
    refine Tr.rgn (Rn.fldP (o':=0) trivial rfl rfl (Rn.load (v:=(l_ x9)) trivial rfl (Qk rfl) rfl rfl (Rn.call (args:=[.d (.lst 1 (List.map (eI .i64) x9))]) trivial rfl (hn13.2) pc9 (nt ((Tr.rgn (Rn.fldP (o':=0) trivial rfl rfl (Rn.load (v:=(l_ x9)) trivial rfl (Qk rfl) rfl rfl (Rn.call (args:=[.d (.lst 1 (List.map (eI .i64) x9))]) (r:=.d (.lst 1 (List.map (eI .i64) x9))) trivial rfl (hn19.2) pc9 (Rn.fldP (o':=0) trivial rfl rfl (Rn.storeD (cs':=[(l_ x9),(i_ a1.States),.f (.lst 1 (List.map (eI .i64) a1.Marked)),.own 3 (List.map Qc x7)]) trivial rfl rfl rfl rfl rfl ?_)))))))))))
    refine Rn.nil ⟨rfl,(by exact Qh [] ⟨(kPtr rfl),(kPtr rfl),(kPtr rfl),trivial⟩ ⟨⟨_,rfl,rfl,(.same rfl)⟩,⟨_,rfl,rfl,(.same rfl)⟩,⟨_,rfl,rfl,(.cons (Qbmu hx15) (.cons (sm rfl) (.cons (sm rfl) (.cons (sm rfl) .nil))))⟩,trivial⟩ rfl)⟩
   ·refine Tr.weak (by show WeakSt Γ _ ⟨look [(2,.ptr (Γ.n0 + 2) 0),(4,.ptr (Γ.n0 + 4) 0),(7,.ptr (Γ.n0 + 7) 0)],Qn Γ.n0 (bxs [(2,.cells ([.f (.lst 1 (List.map (eI .i64) a1.Alphabet)),(i_ a1.States),.f (.lst 1 (List.map (eI .i64) a1.Marked)),.f (.lst 3 (List.map Qc a1.Edges))])),(4,.cells ([.nils 1,(i_ 0),.nils 1,.nils 3])),(7,.cells ([.own 1 (List.map (eI .i64) x9),(i_ a1.States),.f (.lst 1 (List.map (eI .i64) a1.Marked)),.own 3 (List.map Qc x7)]))]) M,Γ.n0 + 74⟩; exact Qh [] ⟨(kPtr rfl),(kPtr rfl),(kPtr rfl),trivial⟩ ⟨⟨_,rfl,rfl,(.same rfl)⟩,⟨_,rfl,rfl,(.same rfl)⟩,⟨_,rfl,rfl,(.same rfl)⟩,trivial⟩ rfl) ?_
    refine Qbi2 hG hM0 7 0 34 hx15 (fun _=>rfl) rfl rfl rfl rfl ⟨rfl,rfl,rfl,trivial⟩ ⟨⟨rfl,rfl,rfl,rfl,trivial⟩,⟨rfl,rfl,rfl,rfl,trivial⟩,⟨rfl,rfl,rfl,(Qbkd (fun _=>rfl)),trivial⟩,trivial⟩ (fun c21 hc22 hc23=>?_)
    refine Tr.rgn (Rn.fldP (o':=0) trivial rfl rfl (Rn.load (v:=.sl 1 (Γ.n0 + 34) 0 x9.length c21) trivial rfl (Qk rfl) rfl rfl ?_))
    refine Rn.callRow (t:=34) (cs:=Qbl (List.map (eI .i64) x9) ((c21 - x9.length) * 1)) (cs':=Qbl (List.map (eI .i64) row10) ((c21 - x9.length) * 1)) trivial rfl rfl (fun M2 hM2=>hr14 hc23 _ _ _ _ hM2) rfl ?_
    refine nt ((Tr.rgn (Rn.fldP (o':=0) trivial rfl rfl (Rn.load (v:=.sl 1 (Γ.n0 + 34) 0 x9.length c21) trivial rfl (Qk rfl) rfl rfl ?_))))
    refine Rn.callRow (t:=34) (cs:=Qbl (List.map (eI .i64) row10) ((c21 - x9.length) * 1)) (cs':=Qbl (List.map (eI .i64) row16) ((c21 - row16.length) * 1)) trivial rfl rfl (fun M2 hM2=>Qbkg hr20 hl12 hc22 hM2) rfl ?_
    refine Rn.fldP (o':=0) trivial rfl rfl (Rn.storeV (v:=.sl 1 (Γ.n0 + 34) 0 row16.length c21) (cs':=[.sl 1 (Γ.n0 + 34) 0 row16.length c21,(i_ a1.States),.f (.lst 1 (List.map (eI .i64) a1.Marked)),.own 3 (List.map Qc x7)]) trivial rfl rfl rfl rfl rfl rfl rfl rfl ?_)
    refine Rn.weak (by show WeakSt Γ _ ⟨look [(2,.ptr (Γ.n0 + 2) 0),(4,.ptr (Γ.n0 + 4) 0),(7,.ptr (Γ.n0 + 7) 0),(32,.ptr (Γ.n0 + 7) 0),(34,.tup []),(35,.ptr (Γ.n0 + 7) 0),(37,.f (.lst 1 (List.map (eI .i64) row16))),(38,.ptr (Γ.n0 + 7) 0)],Qn Γ.n0 (bxs [(2,.cells ([.f (.lst 1 (List.map (eI .i64) a1.Alphabet)),(i_ a1.States),.f (.lst 1 (List.map (eI .i64) a1.Marked)),.f (.lst 3 (List.map Qc a1.Edges))])),(4,.cells ([.nils 1,(i_ 0),.nils 1,.nils 3])),(7,.cells ([.f (.lst 1 (List.map (eI .i64) row16)),(i_ a1.States),.f (.lst 1 (List.map (eI .i64) a1.Marked)),.own 3 (List.map Qc x7)]))]) M,Γ.n0 + 74⟩; exact Qp9 34 _ rfl Qblw ⟨(fPtr rfl),(fPtr rfl),(fPtr rfl),(fPtr rfl),(.same rfl),(fPtr rfl),(Qbkf (fun _=>rfl) (fun _=>rfl) rfl (Nat.le_trans (Nat.le_trans hl18 (Nat.le_of_eq hl12)) hc22)),(fPtr rfl),trivial⟩ ⟨⟨_,rfl,rfl,(.cons (.same rfl) (.cons (.same rfl) (.cons (.same rfl) (.cons (.same rfl) .nil))))⟩,⟨_,rfl,rfl,(.cons (.same rfl) (.cons (.same rfl) (.cons (.same rfl) (.cons (.same rfl) .nil))))⟩,⟨_,rfl,rfl,(.cons (Qbkf (fun _=>rfl) (fun _=>rfl) rfl (Nat.le_trans (Nat.le_trans hl18 (Nat.le_of_eq hl12)) hc22)) (.cons (.same rfl) (.cons (.same rfl) (.cons (.same rfl) .nil))))⟩,trivial⟩ rfl) ?_
    refine Rn.nil ⟨rfl,(by exact Qh [] ⟨(kPtr rfl),(kPtr rfl),(kPtr rfl),trivial⟩ ⟨⟨_,rfl,rfl,(.same rfl)⟩,⟨_,rfl,rfl,(.same rfl)⟩,⟨_,rfl,rfl,(.same rfl)⟩,trivial⟩ rfl)⟩
  ·refine Tr.cutB (fun (r41 : List Qe)=>⟨look [(4,.ptr (Γ.n0 + 4) 0),(7,.ptr (Γ.n0 + 7) 0)],Qn Γ.n0 (bxs [(2,.cells ([.f (.lst 1 (List.map (eI .i64) a1.Alphabet)),(i_ a1.States),.f (.lst 1 (List.map (eI .i64) a1.Marked)),.f (.lst 3 (List.map Qc a1.Edges))])),(4,.cells ([.nils 1,(i_ 0),.nils 1,.nils 3])),(7,.cells ([.f (.lst 1 (List.map (eI .i64) row16)),(i_ a1.States),.f (.lst 1 (List.map (eI .i64) a1.Marked)),.own 3 (List.map Qc r41)]))]) M,Γ.n0 + 74⟩) h (fun z h=>?_) (fun z h=>?_)
   ·refine sr ((Rn.fldP (o':=1) trivial rfl rfl (Rn.load (v:=(i_ a1.States)) trivial rfl (Qk rfl) rfl rfl (md rfl (nt ((Tr.block ?_)))))))
    refine Tr.loop (mk:=fun ((x24,r25) : Int × (List Qe))=>⟨look [(2,.ptr (Γ.n0 + 2) 0),(4,.ptr (Γ.n0 + 4) 0),(7,.ptr (Γ.n0 + 7) 0),(40,(i_ a1.States)),(41,(i_ x24))],Qn Γ.n0 (bxs [(2,.cells ([.f (.lst 1 (List.map (eI .i64) a1.Alphabet)),(i_ a1.States),.f (.lst 1 (List.map (eI .i64) a1.Marked)),.f (.lst 3 (List.map Qc a1.Edges))])),(4,.cells ([.nils 1,(i_ 0),.nils 1,.nils 3])),(7,.cells ([.f (.lst 1 (List.map (eI .i64) row16)),(i_ a1.States),.f (.lst 1 (List.map (eI .i64) a1.Marked)),.own 3 (List.map Qc r25)]))]) M,Γ.n0 + 74⟩) h (by exact Ql ⟨(kPtr rfl),(kPtr rfl),(kPtr rfl),(sm rfl),(sm rfl),trivial⟩ ⟨⟨_,rfl,rfl,(.same rfl)⟩,⟨_,rfl,rfl,(.same rfl)⟩,⟨_,rfl,rfl,(.same rfl)⟩,trivial⟩ rfl) (fun k26 z h=>?_)
    ·obtain ⟨x24,r25⟩:=z
     replace h : _ = some _:=h
     refine sr ((Rn.bin trivial rfl rfl rfl (nt ((Tr.seq ?_)))))
     refine Tr.cond rfl (fun hb27=>?_) (fun hb27=>?_)
     ·replace h:=ifT hb27 h
      refine Tr.skip (toN ?_)
      refine Tr.cutB (fun (r40 : List Qe)=>⟨look [(2,.ptr (Γ.n0 + 2) 0),(4,.ptr (Γ.n0 + 4) 0),(7,.ptr (Γ.n0 + 7) 0),(40,(i_ a1.States)),(41,(i_ x24))],Qn Γ.n0 (bxs [(2,.cells ([.f (.lst 1 (List.map (eI .i64) a1.Alphabet)),(i_ a1.States),.f (.lst 1 (List.map (eI .i64) a1.Marked)),.f (.lst 3 (List.map Qc a1.Edges))])),(4,.cells ([.nils 1,(i_ 0),.nils 1,.nils 3])),(7,.cells ([.f (.lst 1 (List.map (eI .i64) row16)),(i_ a1.States),.f (.lst 1 (List.map (eI .i64) a1.Marked)),.own 3 (List.map Qc r40)]))]) M,Γ.n0 + 74⟩) h (fun z h=>?_) (fun z h=>?_)
      ·refine Tr.block (sr ((md rfl (md rfl (nt ((sr ((Rn.fldP (o':=0) trivial rfl rfl (Rn.load (v:=.f (.lst 1 (List.map (eI .i64) row16))) trivial rfl (Qk rfl) rfl rfl ?_))))))))))
       refine Rn.weak (by show WeakSt Γ _ ⟨look [(2,.ptr (Γ.n0 + 2) 0),(4,.ptr (Γ.n0 + 4) 0),(7,.ptr (Γ.n0 + 7) 0),(8,(i_ x24)),(40,(i_ a1.States)),(41,(i_ x24)),(42,(b_ (decide (x24 < a1.States)))),(43,(i_ x24)),(44,.ptr (Γ.n0 + 7) 0),(45,(l_ row16))],Qn Γ.n0 (bxs [(2,.cells ([.f (.lst 1 (List.map (eI .i64) a1.Alphabet)),(i_ a1.States),.f (.lst 1 (List.map (eI .i64) a1.Marked)),.f (.lst 3 (List.map Qc a1.Edges))])),(4,.cells ([.nils 1,(i_ 0),.nils 1,.nils 3])),(7,.cells ([.f (.lst 1 (List.map (eI .i64) row16)),(i_ a1.States),.f (.lst 1 (List.map (eI .i64) a1.Marked)),.own 3 (List.map Qc r25)]))]) M,Γ.n0 + 74⟩; exact Qh [] ⟨(kPtr rfl),(kPtr rfl),(kPtr rfl),(sm rfl),(sm rfl),(sm rfl),(sm rfl),(sm rfl),(kPtr rfl),fToD,trivial⟩ ⟨⟨_,rfl,rfl,(.same rfl)⟩,⟨_,rfl,rfl,(.same rfl)⟩,⟨_,rfl,rfl,(.same rfl)⟩,trivial⟩ rfl) ?_
       refine Rn.lenD trivial rfl (md rfl (nt ((Tr.block ?_))))
       refine Tr.loop (mk:=fun ((x28,r29) : Int × (List Qe))=>⟨look [(2,.ptr (Γ.n0 + 2) 0),(4,.ptr (Γ.n0 + 4) 0),(7,.ptr (Γ.n0 + 7) 0),(8,(i_ x24)),(40,(i_ a1.States)),(41,(i_ x24)),(45,(l_ row16)),(46,(i_ (row16.length : Int))),(47,(i_ x28))],Qn Γ.n0 (bxs [(2,.cells ([.f (.lst 1 (List.map (eI .i64) a1.Alphabet)),(i_ a1.States),.f (.lst 1 (List.map (eI .i64) a1.Marked)),.f (.lst 3 (List.map Qc a1.Edges))])),(4,.cells ([.nils 1,(i_ 0),.nils 1,.nils 3])),(7,.cells ([.f (.lst 1 (List.map (eI .i64) row16)),(i_ a1.States),.f (.lst 1 (List.map (eI .i64) a1.Marked)),.own 3 (List.map Qc r29)]))]) M,Γ.n0 + 74⟩) h (by exact Ql ⟨(kPtr rfl),(kPtr rfl),(kPtr rfl),(sm rfl),(sm rfl),(sm rfl),(sm rfl),(sm rfl),(sm rfl),trivial⟩ ⟨⟨_,rfl,rfl,(.same rfl)⟩,⟨_,rfl,rfl,(.same rfl)⟩,⟨_,rfl,rfl,(.same rfl)⟩,trivial⟩ rfl) (fun k30 z h=>?_)
       ·obtain ⟨x28,r29⟩:=z
        replace h : _ = some _:=h
        refine sr ((Rn.bin trivial rfl rfl rfl (nt ((Tr.seq ?_)))))
        refine Tr.cond rfl (fun hb31=>?_) (fun hb31=>?_)
        ·replace h:=ifT hb31 h
         refine Tr.skip (toN ?_)
         refine Tr.cutB (fun (r39 : List Qe)=>⟨look [(2,.ptr (Γ.n0 + 2) 0),(4,.ptr (Γ.n0 + 4) 0),(7,.ptr (Γ.n0 + 7) 0),(8,(i_ x24)),(40,(i_ a1.States)),(41,(i_ x24)),(45,(l_ row16)),(46,(i_ (row16.length : Int))),(47,(i_ x28))],Qn Γ.n0 (bxs [(2,.cells ([.f (.lst 1 (List.map (eI .i64) a1.Alphabet)),(i_ a1.States),.f (.lst 1 (List.map (eI .i64) a1.Marked)),.f (.lst 3 (List.map Qc a1.Edges))])),(4,.cells ([.nils 1,(i_ 0),.nils 1,.nils 3])),(7,.cells ([.f (.lst 1 (List.map (eI .i64) row16)),(i_ a1.States),.f (.lst 1 (List.map (eI .i64) a1.Marked)),.own 3 (List.map Qc r39)]))]) M,Γ.n0 + 74⟩) h (fun z h=>?_) (fun z h=>?_)
         ·refine Tr.block (Tr.seq (Tr.rgn ?_))
          obtain ⟨x32,h33,h⟩:=bnd h
          refine Rn.idxD (e:=(eI .i64)) trivial rfl rfl h33 (Rn.loadC (x:=.int .i64 x32) trivial rfl (md rfl (nt ((sr ((Rn.fldP (o':=0) trivial rfl rfl (Rn.load (v:=.f (.lst 1 (List.map (eI .i64) a1.Alphabet))) trivial rfl (Qk rfl) rfl rfl (md rfl ?_)))))))))
          obtain ⟨x35,h34,h⟩:=bnd h
          refine Rn.call (args:=[.f (.lst 1 (List.map (eI .i64) a1.Alphabet)),(i_ x32)]) trivial rfl (fun M2 nb2=>ACalls.weak (args':=[(l_ a1.Alphabet),(i_ x32)]) (H_slices_Contains_int _ _ _ h34 M2 nb2) (.cons fToD (.cons (sm rfl) .nil)) rfl) pc9 ?_
          refine Rn.un trivial rfl rfl (Rn.nil (toN ?_))
          refine Tr.cond rfl (fun hb36=>?_) (fun hb36=>?_)
          ·have hb36:=nT' hb36
           replace h:=bF hb36 h
           refine Tr.rgn (Rn.fldP (o':=3) trivial rfl rfl (Rn.loadT (cs':=[.f (.lst 1 (List.map (eI .i64) row16)),(i_ a1.States),.f (.lst 1 (List.map (eI .i64) a1.Marked)),.d (.lst 3 (List.map Qc r29))]) trivial rfl rfl rfl rfl (md rfl (md rfl (md rfl (Rn.build (v:=.agg [(i_ x24),(i_ x32),(i_ x24)]) trivial rfl (Rn.bslice (xs:=[.agg [(i_ x24),(i_ x32),(i_ x24)]]) (cs:=[(i_ x24),(i_ x32),(i_ x24)]) trivial rfl rfl rfl rfl ?_)))))))
           obtain ⟨x37,h38,h⟩:=bnd h
           refine Rn.app (e:=Qc) trivial rfl rfl rfl (Qcc rfl rfl rfl) h38 rfl (Rn.fldP (o':=3) trivial rfl rfl (Rn.storeO (cs':=[.f (.lst 1 (List.map (eI .i64) row16)),(i_ a1.States),.f (.lst 1 (List.map (eI .i64) a1.Marked)),.own 3 (List.map Qc x37)]) trivial rfl rfl rfl rfl rfl (Rn.nil ?_)))
           replace h:=si h; subst h
           exact Qh [62] ⟨(kPtr rfl),(kPtr rfl),(kPtr rfl),(sm rfl),(sm rfl),(sm rfl),(sm rfl),(sm rfl),(sm rfl),trivial⟩ ⟨⟨_,rfl,rfl,(.same rfl)⟩,⟨_,rfl,rfl,(.same rfl)⟩,⟨_,rfl,rfl,(.same rfl)⟩,trivial⟩ rfl
          ·have hb36:=nF' hb36
           replace h:=bT hb36 h
           refine Tr.skip ?_
           replace h:=si h; subst h
           exact Qh [] ⟨(kPtr rfl),(kPtr rfl),(kPtr rfl),(sm rfl),(sm rfl),(sm rfl),(sm rfl),(sm rfl),(sm rfl),trivial⟩ ⟨⟨_,rfl,rfl,(.same rfl)⟩,⟨_,rfl,rfl,(.same rfl)⟩,⟨_,rfl,rfl,(.same rfl)⟩,trivial⟩ rfl
         ·obtain ⟨r39,rfl⟩ : ∃ x,x = z:=⟨_,rfl⟩
          refine Tr.rgn (Rn.bin trivial rfl rfl rfl (md rfl (Rn.nil ?_)))
          exact ⟨_,h,(by exact Ql ⟨(kPtr rfl),(kPtr rfl),(kPtr rfl),(sm rfl),(sm rfl),(sm rfl),(sm rfl),(sm rfl),(sm rfl),trivial⟩ ⟨⟨_,rfl,rfl,(.same rfl)⟩,⟨_,rfl,rfl,(.same rfl)⟩,⟨_,rfl,rfl,(.same rfl)⟩,trivial⟩ rfl)⟩
        ·replace h:=ifF hb31 h
         refine Tr.exit ?_
         replace h:=si h; subst h
         exact Qh [] ⟨(kPtr rfl),(kPtr rfl),(kPtr rfl),(sm rfl),(sm rfl),trivial⟩ ⟨⟨_,rfl,rfl,(.same rfl)⟩,⟨_,rfl,rfl,(.same rfl)⟩,⟨_,rfl,rfl,(.same rfl)⟩,trivial⟩ rfl
      ·obtain ⟨r40,rfl⟩ : ∃ x,x = z:=⟨_,rfl⟩
       refine Tr.rgn (Rn.bin trivial rfl rfl rfl (md rfl (Rn.nil ?_)))
       exact ⟨_,h,(by exact Ql ⟨(kPtr rfl),(kPtr rfl),(kPtr rfl),(sm rfl),(sm rfl),trivial⟩ ⟨⟨_,rfl,rfl,(.same rfl)⟩,⟨_,rfl,rfl,(.same rfl)⟩,⟨_,rfl,rfl,(.same rfl)⟩,trivial⟩ rfl)⟩
     ·replace h:=ifF hb27 h
      refine Tr.exit ?_
      replace h:=si h; subst h
      exact Qh [] ⟨(kPtr rfl),(kPtr rfl),trivial⟩ ⟨⟨_,rfl,rfl,(.same rfl)⟩,⟨_,rfl,rfl,(.same rfl)⟩,⟨_,rfl,rfl,(.same rfl)⟩,trivial⟩ rfl
   ·obtain ⟨r41,rfl⟩ : ∃ x,x = z:=⟨_,rfl⟩
    obtain ⟨row42,hs43,h⟩:=bnd h
    obtain ⟨hl44,hn45,hr46⟩:=H_slices_SortFunc_Edge _ _ hs43
    refine Tr.seqW ⟨look [(4,.ptr (Γ.n0 + 4) 0),(7,.ptr (Γ.n0 + 7) 0)],Qn Γ.n0 (bxs [(2,.cells ([.f (.lst 1 (List.map (eI .i64) a1.Alphabet)),(i_ a1.States),.f (.lst 1 (List.map (eI .i64) a1.Marked)),.f (.lst 3 (List.map Qc a1.Edges))])),(4,.cells ([.nils 1,(i_ 0),.nils 1,.nils 3])),(7,.cells ([.f (.lst 1 (List.map (eI .i64) row16)),(i_ a1.States),.f (.lst 1 (List.map (eI .i64) a1.Marked)),.f (.lst 3 (List.map Qc row42))]))]) M,Γ.n0 + 74⟩ ?_ ?_
    ·by_cases hx47 : r41 = []
     ·obtain ⟨hyx,hn45b⟩:=hn45 hx47
      replace hyx:=hyx.symm
      subst hyx
      replace hn45:=And.intro trivial hn45b
      refine Tr.rgn (Rn.fldP (o':=3) trivial rfl rfl (Rn.load (v:=.d (.lst 3 (List.map Qc r41))) trivial rfl (Qk rfl) rfl rfl (Rn.call (args:=[.d (.lst 3 (List.map Qc r41)),.clo 70 []]) trivial rfl (hn45.2) pc9 ?_)))
      refine Rn.nil ⟨rfl,(by exact Qh [] ⟨(kPtr rfl),(kPtr rfl),trivial⟩ ⟨⟨_,rfl,rfl,(.same rfl)⟩,⟨_,rfl,rfl,(.same rfl)⟩,⟨_,rfl,rfl,(.cons (sm rfl) (.cons (sm rfl) (.cons (sm rfl) (.cons (Qbm6 hx47) .nil))))⟩,trivial⟩ rfl)⟩
     ·refine Tr.weak (by show WeakSt Γ _ ⟨look [(4,.ptr (Γ.n0 + 4) 0),(7,.ptr (Γ.n0 + 7) 0)],Qn Γ.n0 (bxs [(2,.cells ([.f (.lst 1 (List.map (eI .i64) a1.Alphabet)),(i_ a1.States),.f (.lst 1 (List.map (eI .i64) a1.Marked)),.f (.lst 3 (List.map Qc a1.Edges))])),(4,.cells ([.nils 1,(i_ 0),.nils 1,.nils 3])),(7,.cells ([.f (.lst 1 (List.map (eI .i64) row16)),(i_ a1.States),.f (.lst 1 (List.map (eI .i64) a1.Marked)),.own 3 (List.map Qc r41)]))]) M,Γ.n0 + 74⟩; exact Qh [] ⟨(kPtr rfl),(kPtr rfl),trivial⟩ ⟨⟨_,rfl,rfl,(.same rfl)⟩,⟨_,rfl,rfl,(.same rfl)⟩,⟨_,rfl,rfl,(.same rfl)⟩,trivial⟩ rfl) ?_
      refine Qbi2 hG hM0 7 3 69 hx47 (fun _=>rfl) rfl rfl rfl rfl ⟨rfl,rfl,trivial⟩ ⟨⟨rfl,rfl,rfl,rfl,trivial⟩,⟨rfl,rfl,rfl,rfl,trivial⟩,⟨rfl,rfl,rfl,rfl,trivial⟩,trivial⟩ (fun c48 hc49 hc50=>?_)
      refine Tr.rgn (Rn.fldP (o':=3) trivial rfl rfl (Rn.load (v:=.sl 3 (Γ.n0 + 69) 0 r41.length c48) trivial rfl (Qk rfl) rfl rfl ?_))
      refine Rn.callRow (t:=69) (cs:=Qbl (List.map Qc r41) ((c48 - r41.length) * 3)) (cs':=Qbl (List.map Qc row42) ((c48 - r41.length) * 3)) trivial rfl rfl (fun M2 hM2=>hr46 hc50 _ _ _ _ hM2) rfl ?_
      refine Rn.weak (by show WeakSt Γ _ ⟨look [(4,.ptr (Γ.n0 + 4) 0),(7,.ptr (Γ.n0 + 7) 0),(67,.ptr (Γ.n0 + 7) 3),(68,.f (.lst 3 (List.map Qc row42))),(69,.tup [])],Qn Γ.n0 (bxs [(2,.cells ([.f (.lst 1 (List.map (eI .i64) a1.Alphabet)),(i_ a1.States),.f (.lst 1 (List.map (eI .i64) a1.Marked)),.f (.lst 3 (List.map Qc a1.Edges))])),(4,.cells ([.nils 1,(i_ 0),.nils 1,.nils 3])),(7,.cells ([.f (.lst 1 (List.map (eI .i64) row16)),(i_ a1.States),.f (.lst 1 (List.map (eI .i64) a1.Marked)),.f (.lst 3 (List.map Qc row42))]))]) M,Γ.n0 + 74⟩; exact Qp9 69 _ rfl Qblw ⟨(fPtr rfl),(fPtr rfl),(fPtr rfl),(Qbkf (fun _=>rfl) (fun _=>rfl) hl44 hc49),(.same rfl),trivial⟩ ⟨⟨_,rfl,rfl,(.cons (.same rfl) (.cons (.same rfl) (.cons (.same rfl) (.cons (.same rfl) .nil))))⟩,⟨_,rfl,rfl,(.cons (.same rfl) (.cons (.same rfl) (.cons (.same rfl) (.cons (.same rfl) .nil))))⟩,⟨_,rfl,rfl,(.cons (.same rfl) (.cons (.same rfl) (.cons (.same rfl) (.cons (Qbkf (fun _=>rfl) (fun _=>rfl) hl44 hc49) .nil))))⟩,trivial⟩ rfl) ?_
      refine Rn.nil ⟨rfl,(by exact Qh [] ⟨(kPtr rfl),(kPtr rfl),trivial⟩ ⟨⟨_,rfl,rfl,(.same rfl)⟩,⟨_,rfl,rfl,(.same rfl)⟩,⟨_,rfl,rfl,(.same rfl)⟩,trivial⟩ rfl)⟩
    ·refine sr ((Rn.load (v:=.agg [.f (.lst 1 (List.map (eI .i64) row16)),(i_ a1.States),.f (.lst 1 (List.map (eI .i64) a1.Marked)),.f (.lst 3 (List.map Qc row42))]) trivial rfl (Qk rfl) rfl rfl ?_))
     obtain ⟨⟨r52,r53⟩,h51,h⟩:=bnd h
     refine Rn.call (args:=[.agg [.f (.lst 1 (List.map (eI .i64) row16)),(i_ a1.States),.f (.lst 1 (List.map (eI .i64) a1.Marked)),.f (.lst 3 (List.map Qc row42))]]) trivial rfl (fun M2 nb2=>ACalls.weak (args':=[.agg [(l_ row16),(i_ a1.States),(l_ a1.Marked),.d (.lst 3 (List.map Qc row42))]]) (H_automaton_Canonical _ _ h51 M2 nb2) (.cons (WkV.agg (.cons fToD (.cons (sm rfl) (.cons fToD (.cons fToD .nil))))) .nil) rfl) pc9 ?_
     refine Rn.ext (v:=(Qa r52)) (vs:=[(Qa r52),(i_ r53)]) trivial rfl rfl rfl (Rn.ext (v:=(i_ r53)) (vs:=[(Qa r52),(i_ r53)]) trivial rfl rfl rfl (Rn.storeT (v:=(Qa r52)) (ds:=(Qd r52)) (cs':=(Qd r52)) trivial rfl rfl rfl rfl rfl rfl rfl (md rfl (nt ((Tr.ret ?_))))))
     replace h:=si h; subst h
     exact ⟨.inr rfl,.tup [(Qa r52),(i_ r53)],res2 (Qhw rfl rfl rfl rfl) rfl,(WkV.tup (.cons (.same rfl) (.cons (.same rfl) .nil))).rd,⟨⟨trivial,trivial,trivial,trivial,trivial⟩,trivial,trivial⟩,fun k hk=>Qf hk⟩
theorem Qpf {P : Program} {c : Nat} (hcf : Qv P c = some Qf9) (fuel : Nat) : Qcz P c (Qq fuel):=by
 intro a1 b2 r h
 refine Qcg hcf rfl fun Γ M hP hnt hM=>?_
 subst hP
 refine Tr.init [(0,(l_ a1)),(1,(l_ b2))] rfl ?_
 unfold Qq at h
 unfold Qf9
 refine sr ((md rfl (nt ((Tr.seq (sr ((md rfl (Rn.lenD trivial rfl (md rfl (Rn.lenD trivial rfl (Rn.bin trivial rfl rfl rfl (Rn.nil (toN ?_))))))))))))))
 refine Tr.cond rfl (fun hb3=>?_) (fun hb3=>?_)
 ·replace h:=bT hb3 h
  refine sr ((md rfl (nt ((Tr.ret ?_)))))
  replace h:=si h; subst h
  exact ⟨.inr rfl,(b_ false),rfl,fun _ _ _ _ h=>h,trivial,fun k hk=>Qf hk⟩
 ·replace h:=bF hb3 h
  refine Tr.skip (toN (Tr.seq (sr ((md rfl (nt ((Tr.block ?_))))))))
  refine Tr.loop (mk:=fun (i4 : Int)=>⟨look [(0,(l_ a1)),(1,(l_ b2)),(5,(i_ i4))],Qn Γ.n0 (bxs []) M,Γ.n0 + 26⟩) h (by exact Ql ⟨(sm rfl),(sm rfl),(sm rfl),trivial⟩ trivial rfl) (fun k5 z h=>?_)
  ·obtain ⟨i4,rfl⟩ : ∃ x,x = z:=⟨_,rfl⟩
   replace h : _ = some _:=h
   refine Tr.seq (sr ((md rfl (md rfl (Rn.lenD trivial rfl (Rn.bin trivial rfl rfl rfl (Rn.nil (toN ?_))))))))
   refine Tr.cond rfl (fun hb6=>?_) (fun hb6=>?_)
   ·replace h:=ifT hb6 h
    refine Tr.skip (toN (Tr.seq (Tr.block (Tr.seq ?_))))
    refine Tr.rgnD (by decide) ?_
    refine md rfl (md rfl ?_)
    obtain ⟨x7,h8,h⟩:=bnd h
    refine Rn.idxD (e:=(eI .i64)) trivial rfl rfl h8 (Rn.loadC (x:=.int .i64 x7) trivial rfl (md rfl (md rfl ?_)))
    obtain ⟨x9,h10,h⟩:=bnd h
    refine Rn.idxD (e:=(eI .i64)) trivial rfl rfl h10 (Rn.loadC (x:=.int .i64 x9) trivial rfl (Rn.bin trivial rfl rfl rfl ?_))
    refine Rn.nil ⟨rfl,?_⟩
    refine toN ?_
    refine Tr.cond rfl (fun hb11=>?_) (fun hb11=>?_)
    ·replace h:=bT hb11 h
     refine sr ((md rfl (nt ((Tr.ret ?_)))))
     replace h:=si h; subst h
     exact ⟨.inr rfl,(b_ false),rfl,fun _ _ _ _ h=>h,trivial,fun k hk=>Qf hk⟩
    ·replace h:=bF hb11 h
     refine Tr.skip (toN (Tr.rgn (md rfl (Rn.bin trivial rfl rfl rfl (md rfl (Rn.nil ?_))))))
     exact ⟨_,h,(by exact Ql ⟨(sm rfl),(sm rfl),(sm rfl),trivial⟩ trivial rfl)⟩
   ·replace h:=ifF hb6 h
    refine Tr.exit (toN (sr ((md rfl (nt ((Tr.ret ?_)))))))
    replace h:=si h; subst h
    exact ⟨.inr rfl,(b_ true),rfl,fun _ _ _ _ h=>h,trivial,fun k hk=>Qf hk⟩
theorem Qwp {P : Program} {c : Nat} {Qq : (List Int) → (List Int) → Option Bool}
    (H_overseerref03_SameInts : Qcz P 19 Qq) (hcf : Qv P c = some Qh5) (fuel : Nat) : Qh4 P c (Qcq Qq fuel):=by
 intro a1 b2 r h
 refine Qcg hcf rfl fun Γ M hP hnt hM=>?_
 subst hP
 refine Tr.init [(0,(Qa a1)),(1,(Qa b2))] rfl ?_
 unfold Qcq at h
 unfold Qh5
 refine sr ((Rn.box (v:=(Qa a1)) (cs:=(Qd a1)) trivial rfl rfl rfl rfl rfl (Rn.box (v:=(Qa b2)) (cs:=(Qd b2)) trivial rfl rfl rfl rfl rfl (md rfl (nt ((Tr.seq ?_)))))))
 refine Tr.cutB (fun (x10 : Bool)=>⟨look [(2,.ptr (Γ.n0 + 2) 0),(3,.ptr (Γ.n0 + 3) 0),(35,(b_ x10))],Qn Γ.n0 (bxs [(2,.cells ((Qd a1))),(3,.cells ((Qd b2)))]) M,Γ.n0 + 54⟩) h (fun z h=>?_) (fun z h=>?_)
 ·refine Tr.rgn (Rn.fldP (o':=0) trivial rfl rfl (Rn.load (v:=(l_ a1.Alphabet)) trivial rfl (Qk rfl) rfl rfl (Rn.fldP (o':=0) trivial rfl rfl (Rn.load (v:=(l_ b2.Alphabet)) trivial rfl (Qk rfl) rfl rfl ?_))))
  obtain ⟨x4,h3,h⟩:=bnd h
  refine Rn.call (args:=[(l_ a1.Alphabet),(l_ b2.Alphabet)]) trivial rfl (H_overseerref03_SameInts _ _ _ h3) pc9 (Rn.un trivial rfl rfl (md rfl ?_))
  refine Qdb x4 (fun hb5=>?_) (fun hb5=>?_)
  ·replace h:=bT hb5 h
   refine Rn.fldP (o':=1) (gw rfl (nT hb5)) rfl rfl (Rn.load (v:=(i_ a1.States)) (gw rfl (nT hb5)) rfl (Qk rfl) rfl rfl (Rn.fldP (o':=1) (gw rfl (nT hb5)) rfl rfl (Rn.load (v:=(i_ b2.States)) (gw rfl (nT hb5)) rfl (Qk rfl) rfl rfl (Rn.bin (gw rfl (nT hb5)) rfl rfl rfl (Rn.pickF (v:=(b_ (a1.States != b2.States))) trivial rfl (nT hb5) rfl (md rfl ?_))))))
   refine Qdb (a1.States != b2.States) (fun hb6=>?_) (fun hb6=>?_)
   ·replace h:=bT hb6 h
    refine Rn.sk (nw rfl hb6) (Rn.sk (nw rfl hb6) (Rn.sk (nw rfl hb6) (Rn.sk (nw rfl hb6) (Rn.sk (nw rfl hb6) (Rn.sk (nw rfl hb6) (Rn.pickT (v:=(b_ true)) trivial rfl hb6 rfl (md rfl (Rn.sk (nw (b:=true) rfl rfl) (Rn.sk (nw (b:=true) rfl rfl) (Rn.sk (nw (b:=true) rfl rfl) (Rn.sk (nw (b:=true) rfl rfl) (Rn.sk (nw (b:=true) rfl rfl) (Rn.sk (nw (b:=true) rfl rfl) (Rn.sk (nw (b:=true) rfl rfl) (Rn.pickT (v:=(b_ true)) trivial rfl rfl rfl (Rn.nil ?_))))))))))))))))
    replace h:=si h; subst h
    exact Qh [] ⟨(kPtr rfl),(kPtr rfl),(sm rfl),trivial⟩ ⟨⟨_,rfl,rfl,(.same rfl)⟩,⟨_,rfl,rfl,(.same rfl)⟩,trivial⟩ rfl
   ·replace h:=bF hb6 h
    refine Rn.fldP (o':=2) (gw rfl hb6) rfl rfl (Rn.load (v:=(l_ a1.Marked)) (gw rfl hb6) rfl (Qk rfl) rfl rfl (Rn.fldP (o':=2) (gw rfl hb6) rfl rfl (Rn.load (v:=(l_ b2.Marked)) (gw rfl hb6) rfl (Qk rfl) rfl rfl ?_)))
    obtain ⟨x8,h7,h⟩:=bnd h
    refine Rn.call (args:=[(l_ a1.Marked),(l_ b2.Marked)]) (gw rfl hb6) rfl (H_overseerref03_SameInts _ _ _ h7) pc9 (Rn.un (gw rfl hb6) rfl rfl (Rn.pickF (v:=(b_ (!x8))) trivial rfl hb6 rfl (md rfl ?_)))
    refine Qdb x8 (fun hb9=>?_) (fun hb9=>?_)
    ·replace h:=bT hb9 h
     refine Rn.fldP (o':=3) (gw rfl (nT hb9)) rfl rfl (Rn.load (v:=.d (.lst 3 (List.map Qc a1.Edges))) (gw rfl (nT hb9)) rfl (Qk rfl) rfl rfl (Rn.lenD (gw rfl (nT hb9)) rfl (Rn.fldP (o':=3) (gw rfl (nT hb9)) rfl rfl (Rn.load (v:=.d (.lst 3 (List.map Qc b2.Edges))) (gw rfl (nT hb9)) rfl (Qk rfl) rfl rfl (Rn.lenD (gw rfl (nT hb9)) rfl (Rn.bin (gw rfl (nT hb9)) rfl rfl rfl (Rn.pickF (v:=(b_ ((a1.Edges.length : Int) != (b2.Edges.length : Int)))) trivial rfl (nT hb9) rfl (Rn.nil ?_))))))))
     replace h:=si h; subst h
     exact Qh [] ⟨(kPtr rfl),(kPtr rfl),(sm rfl),trivial⟩ ⟨⟨_,rfl,rfl,(.same rfl)⟩,⟨_,rfl,rfl,(.same rfl)⟩,trivial⟩ rfl
    ·replace h:=bF hb9 h
     refine Rn.sk (nw rfl (nF hb9)) (Rn.sk (nw rfl (nF hb9)) (Rn.sk (nw rfl (nF hb9)) (Rn.sk (nw rfl (nF hb9)) (Rn.sk (nw rfl (nF hb9)) (Rn.sk (nw rfl (nF hb9)) (Rn.sk (nw rfl (nF hb9)) (Rn.pickT (v:=(b_ true)) trivial rfl (nF hb9) rfl (Rn.nil ?_))))))))
     replace h:=si h; subst h
     exact Qh [] ⟨(kPtr rfl),(kPtr rfl),(sm rfl),trivial⟩ ⟨⟨_,rfl,rfl,(.same rfl)⟩,⟨_,rfl,rfl,(.same rfl)⟩,trivial⟩ rfl
  ·replace h:=bF hb5 h
   refine Rn.sk (nw rfl (nF hb5)) (Rn.sk (nw rfl (nF hb5)) (Rn.sk (nw rfl (nF hb5)) (Rn.sk (nw rfl (nF hb5)) (Rn.sk (nw rfl (nF hb5)) (Rn.pickT (v:=(b_ true)) trivial rfl (nF hb5) rfl (md rfl (Rn.sk (nw (b:=true) rfl rfl) (Rn.sk (nw (b:=true) rfl rfl) (Rn.sk (nw (b:=true) rfl rfl) (Rn.sk (nw (b:=true) rfl rfl) (Rn.sk (nw (b:=true) rfl rfl) (Rn.sk (nw (b:=true) rfl rfl) (Rn.pickT (v:=(b_ true)) trivial rfl rfl rfl (md rfl (Rn.sk (nw (b:=true) rfl rfl) (Rn.sk (nw (b:=true) rfl rfl) (Rn.sk (nw (b:=true) rfl rfl) (Rn.sk (nw (b:=true) rfl rfl) (Rn.sk (nw (b:=true) rfl rfl) (Rn.sk (nw (b:=true) rfl rfl) (Rn.sk (nw (b:=true) rfl rfl) (Rn.pickT (v:=(b_ true)) trivial rfl rfl rfl (Rn.nil ?_)))))))))))))))))))))))
   replace h:=si h; subst h
   exact Qh [] ⟨(kPtr rfl),(kPtr rfl),(sm rfl),trivial⟩ ⟨⟨_,rfl,rfl,(.same rfl)⟩,⟨_,rfl,rfl,(.same rfl)⟩,trivial⟩ rfl
 ·obtain ⟨x10,rfl⟩ : ∃ x,x = z:=⟨_,rfl⟩
  refine Tr.cond rfl (fun hb11=>?_) (fun hb11=>?_)
  ·replace h:=bT hb11 h
   refine sr ((md rfl (nt ((Tr.ret ?_)))))
   replace h:=si h; subst h
   exact ⟨.inr rfl,(b_ false),rfl,fun _ _ _ _ h=>h,trivial,fun k hk=>Qf hk⟩
  ·replace h:=bF hb11 h
   refine Tr.skip (toN (Tr.seq (sr ((md rfl (nt ((Tr.block ?_))))))))
   refine Tr.loop (mk:=fun (i12 : Int)=>⟨look [(2,.ptr (Γ.n0 + 2) 0),(3,.ptr (Γ.n0 + 3) 0),(5,(i_ i12))],Qn Γ.n0 (bxs [(2,.cells ((Qd a1))),(3,.cells ((Qd b2)))]) M,Γ.n0 + 54⟩) h (by exact Ql ⟨(kPtr rfl),(kPtr rfl),(sm rfl),trivial⟩ ⟨⟨_,rfl,rfl,(.same rfl)⟩,⟨_,rfl,rfl,(.same rfl)⟩,trivial⟩ rfl) (fun k13 z h=>?_)
   ·obtain ⟨i12,rfl⟩ : ∃ x,x = z:=⟨_,rfl⟩
    replace h : _ = some _:=h
    refine Tr.seq (sr ((md rfl (Rn.fldP (o':=3) trivial rfl rfl (Rn.load (v:=.d (.lst 3 (List.map Qc a1.Edges))) trivial rfl (Qk rfl) rfl rfl (Rn.lenD trivial rfl (Rn.bin trivial rfl rfl rfl (Rn.nil (toN ?_)))))))))
    refine Tr.cond rfl (fun hb14=>?_) (fun hb14=>?_)
    ·replace h:=ifT hb14 h
     refine Tr.skip (toN (Tr.seq (Tr.block (Tr.seq ?_))))
     refine Tr.rgnD (by decide) ?_
     refine Rn.fldP (o':=3) trivial rfl rfl (Rn.load (v:=.d (.lst 3 (List.map Qc a1.Edges))) trivial rfl (Qk rfl) rfl rfl (md rfl ?_))
     obtain ⟨x15,h16,h⟩:=bnd h
     refine Rn.idxD (e:=Qc) trivial rfl rfl h16 (Rn.loadCA (vs:=(Qbg x15)) trivial rfl rfl rfl (Rn.fldP (o':=3) trivial rfl rfl (Rn.load (v:=.d (.lst 3 (List.map Qc b2.Edges))) trivial rfl (Qk rfl) rfl rfl (md rfl ?_))))
     obtain ⟨x17,h18,h⟩:=bnd h
     refine Rn.idxD (e:=Qc) trivial rfl rfl h18 (Rn.loadCA (vs:=(Qbg x17)) trivial rfl rfl rfl (Rn.eqa (r:=((x15.From == x17.From) && ((x15.Event == x17.Event) && ((x15.To == x17.To) && true)))) trivial rfl rfl rfl ?_))
     refine Rn.nil ⟨rfl,?_⟩
     refine toN ?_
     refine Tr.cond rfl (fun hb19=>?_) (fun hb19=>?_)
     ·have hb19:=nT' hb19
      replace h:=bF hb19 h
      refine sr ((md rfl (nt ((Tr.ret ?_)))))
      replace h:=si h; subst h
      exact ⟨.inr rfl,(b_ false),rfl,fun _ _ _ _ h=>h,trivial,fun k hk=>Qf hk⟩
     ·have hb19:=nF' hb19
      replace h:=bT hb19 h
      refine Tr.skip (toN (Tr.rgn (md rfl (Rn.bin trivial rfl rfl rfl (md rfl (Rn.nil ?_))))))
      exact ⟨_,h,(by exact Ql ⟨(kPtr rfl),(kPtr rfl),(sm rfl),trivial⟩ ⟨⟨_,rfl,rfl,(.same rfl)⟩,⟨_,rfl,rfl,(.same rfl)⟩,trivial⟩ rfl)⟩
    ·replace h:=ifF hb14 h
     refine Tr.exit (toN (sr ((md rfl (nt ((Tr.ret ?_)))))))
     replace h:=si h; subst h
     exact ⟨.inr rfl,(b_ true),rfl,fun _ _ _ _ h=>h,trivial,fun k hk=>Qf hk⟩
theorem Qnv {P : Program} {c : Nat} {Qq : (List Int) → (List Int) → Option Bool}
    (H_overseerref03_SameInts : Qcz P 19 Qq) (hcf : Qv P c = some Qfr) (fuel : Nat) : Qfq P c (Qbq Qq fuel):=by
 intro a1 b2 r h
 refine Qcg hcf rfl fun Γ M hP hnt hM=>?_
 subst hP
 refine Tr.init [(0,.d (.lst 1 (List.map (eL 1 (eI .i64)) a1))),(1,.d (.lst 1 (List.map (eL 1 (eI .i64)) b2)))] rfl ?_
 unfold Qbq at h
 unfold Qfr
 refine sr ((md rfl (nt ((Tr.seq (sr ((md rfl (Rn.lenD trivial rfl (md rfl (Rn.lenD trivial rfl (Rn.bin trivial rfl rfl rfl (Rn.nil (toN ?_))))))))))))))
 refine Tr.cond rfl (fun hb3=>?_) (fun hb3=>?_)
 ·replace h:=bT hb3 h
  refine sr ((md rfl (nt ((Tr.ret ?_)))))
  replace h:=si h; subst h
  exact ⟨.inr rfl,(b_ false),rfl,fun _ _ _ _ h=>h,trivial,fun k hk=>Qf hk⟩
 ·replace h:=bF hb3 h
  refine Tr.skip (toN (Tr.seq (sr ((md rfl (nt ((Tr.block ?_))))))))
  refine Tr.loop (mk:=fun (i4 : Int)=>⟨look [(0,.d (.lst 1 (List.map (eL 1 (eI .i64)) a1))),(1,.d (.lst 1 (List.map (eL 1 (eI .i64)) b2))),(5,(i_ i4))],Qn Γ.n0 (bxs []) M,Γ.n0 + 27⟩) h (by exact Ql ⟨(sm rfl),(sm rfl),(sm rfl),trivial⟩ trivial rfl) (fun k5 z h=>?_)
  ·obtain ⟨i4,rfl⟩ : ∃ x,x = z:=⟨_,rfl⟩
   replace h : _ = some _:=h
   refine Tr.seq (sr ((md rfl (md rfl (Rn.lenD trivial rfl (Rn.bin trivial rfl rfl rfl (Rn.nil (toN ?_))))))))
   refine Tr.cond rfl (fun hb6=>?_) (fun hb6=>?_)
   ·replace h:=ifT hb6 h
    refine Tr.skip (toN (Tr.seq (Tr.block (Tr.seq ?_))))
    refine Tr.rgnD (by decide) ?_
    refine md rfl (md rfl ?_)
    obtain ⟨x7,h8,h⟩:=bnd h
    refine Rn.idxD (e:=(eL 1 (eI .i64))) trivial rfl rfl h8 (Rn.loadC (x:=.lst 1 (List.map (eI .i64) x7)) trivial rfl (md rfl (md rfl ?_)))
    obtain ⟨x9,h10,h⟩:=bnd h
    refine Rn.idxD (e:=(eL 1 (eI .i64))) trivial rfl rfl h10 (Rn.loadC (x:=.lst 1 (List.map (eI .i64) x9)) trivial rfl ?_)
    obtain ⟨x12,h11,h⟩:=bnd h
    refine Rn.call (args:=[(l_ x7),(l_ x9)]) trivial rfl (H_overseerref03_SameInts _ _ _ h11) pc0 (Rn.un trivial rfl rfl ?_)
    refine Rn.nil ⟨rfl,?_⟩
    refine toN ?_
    refine Tr.cond rfl (fun hb13=>?_) (fun hb13=>?_)
    ·have hb13:=nT' hb13
     replace h:=bF hb13 h
     refine sr ((md rfl (nt ((Tr.ret ?_)))))
     replace h:=si h; subst h
     exact ⟨.inr rfl,(b_ false),rfl,fun _ _ _ _ h=>h,trivial,fun k hk=>Qf hk⟩
    ·have hb13:=nF' hb13
     replace h:=bT hb13 h
     refine Tr.skip (toN (Tr.rgn (md rfl (Rn.bin trivial rfl rfl rfl (md rfl (Rn.nil ?_))))))
     exact ⟨_,h,(by exact Ql ⟨(sm rfl),(sm rfl),(sm rfl),trivial⟩ trivial rfl)⟩
   ·replace h:=ifF hb6 h
    refine Tr.exit (toN (sr ((md rfl (nt ((Tr.ret ?_)))))))
    replace h:=si h; subst h
    exact ⟨.inr rfl,(b_ true),rfl,fun _ _ _ _ h=>h,trivial,fun k hk=>Qf hk⟩
theorem Qsy {P : Program} {c : Nat} {Qco : Qb → (List Int) → Option (Qb × (List (List Int)) × Int)} {Qcq : Qb → Qb → Option Bool} {Qbq : (List (List Int)) → (List (List Int)) → Option Bool} {Qq : (List Int) → (List Int) → Option Bool} {Qdj : Qb → (List Int) → (List Int) → Bool → Option ((List Int) × Bool × Int)} {Qby : Option Qb} {Qcp : Qb → (List Int) → Option (Qb × Int)}
    (H_projection_Project : Qh0 P 12 Qco)
    (H_overseerref03_Same : Qh4 P 14 Qcq)
    (H_overseerlaw03_SameWords : Qfq P 15 Qbq)
    (H_overseerref03_SameInts : Qcz P 19 Qq)
    (H_projection_Lift : Qkx P 31 Qdj)
    (H_overseerlaw07_example : Qgf P 34 Qby)
    (H_projection_Inverse : Qh2 P 35 Qcp) (hcf : Qv P c = some Qhf) : Qhe P c (Qb0 Qco Qcq Qbq Qq Qdj Qby Qcp):=by
 intro  r h
 refine Qcg hcf rfl fun Γ M hP hnt hM=>?_
 subst hP
 refine Tr.init [] rfl ?_
 unfold Qb0 at h
 unfold Qhf
 refine sr ((md rfl (nt ((Tr.seq (Tr.rgn ?_))))))
 obtain ⟨x2,h1,h⟩:=bnd h
 refine Rn.call (args:=[]) trivial rfl (H_overseerlaw07_example _ h1) pc9 (Rn.alloc trivial rfl (Rn.storeT (v:=(Qa x2)) (ds:=(Qd x2)) (cs':=(Qd x2)) trivial rfl rfl rfl rfl rfl rfl rfl (nt ((sr ((Rn.load (v:=(Qa x2)) trivial rfl (Qk rfl) rfl rfl (Rn.bslice (xs:=[(i_ 1)]) (cs:=[(i_ 1)]) trivial rfl rfl rfl rfl ?_))))))))
 refine Rn.weak (by show WeakSt Γ _ ⟨look [(0,(b_ false)),(1,.ptr (Γ.n0 + 1) 0),(10,(Qa x2)),(12,(Qa x2)),(13,(l_ [1]))],Qn Γ.n0 (bxs [(1,.cells ((Qd x2)))]) M,Γ.n0 + 74⟩; exact Qck 13 [.int .i64 1] rfl rfl ⟨(.same rfl),(fPtr rfl),(.same rfl),(.same rfl),(fSl rfl rfl),trivial⟩ ⟨⟨_,rfl,rfl,(.same rfl)⟩,trivial⟩ rfl) ?_
 obtain ⟨⟨r4,r5,r6⟩,h3,h⟩:=bnd h
 refine Rn.call (args:=[(Qa x2),(l_ [1])]) trivial rfl (H_projection_Project _ _ _ h3) pc9 (Rn.mov (v:=.tup [(Qa r4),.d (.lst 1 (List.map (eL 1 (eI .i64)) r5)),(i_ r6)]) trivial rfl (Rn.ext (v:=(Qa r4)) (vs:=[(Qa r4),.d (.lst 1 (List.map (eL 1 (eI .i64)) r5)),(i_ r6)]) trivial rfl rfl rfl (Rn.extTD (vs:=[(Qa r4),.d (.lst 1 (List.map (eL 1 (eI .i64)) r5)),(i_ r6)]) trivial rfl rfl rfl (Rn.ext (v:=(i_ r6)) (vs:=[(Qa r4),.d (.lst 1 (List.map (eL 1 (eI .i64)) r5)),(i_ r6)]) trivial rfl rfl rfl (Rn.alloc trivial rfl (Rn.storeT (v:=(Qa r4)) (ds:=(Qd r4)) (cs':=(Qd r4)) trivial rfl rfl rfl rfl rfl rfl rfl (Rn.movTD trivial rfl (md rfl (nt ((sr ((Rn.load (v:=(Qa x2)) trivial rfl (Qk rfl) rfl rfl (Rn.bslice (xs:=[(i_ 1)]) (cs:=[(i_ 1)]) trivial rfl rfl rfl rfl (Rn.bslice (xs:=[(i_ 1)]) (cs:=[(i_ 1)]) trivial rfl rfl rfl rfl ?_)))))))))))))))
 refine Rn.weak (by show WeakSt Γ _ ⟨look [(0,(b_ false)),(1,.ptr (Γ.n0 + 1) 0),(2,.ptr (Γ.n0 + 2) 0),(3,.d (.lst 1 (List.map (eL 1 (eI .i64)) r5))),(4,(i_ r6)),(10,(Qa x2)),(11,.tup [(Qa r4),.d (.lst 1 (List.map (eL 1 (eI .i64)) r5)),(i_ r6)]),(12,(Qa x2)),(13,(l_ [1])),(14,.tup [(Qa r4),.own 1 (List.map (eL 1 (eI .i64)) r5),(i_ r6)]),(15,(Qa r4)),(16,.d (.lst 1 (List.map (eL 1 (eI .i64)) r5))),(17,(i_ r6)),(19,(Qa x2)),(20,(l_ [1])),(21,.sl 1 (Γ.n0 + 21) 0 1 1)],Qn Γ.n0 (bxs [(1,.cells ((Qd x2))),(2,.cells ((Qd r4))),(21,.cells ([(i_ 1)]))]) M,Γ.n0 + 74⟩; exact Qck 20 [.int .i64 1] rfl rfl ⟨(.same rfl),(fPtr rfl),(fPtr rfl),(.same rfl),(.same rfl),(.same rfl),(.same rfl),(.same rfl),(.same rfl),(.same rfl),(.same rfl),(.same rfl),(.same rfl),(.same rfl),(fSl rfl rfl),(fSlO rfl),trivial⟩ ⟨⟨_,rfl,rfl,(.same rfl)⟩,⟨_,rfl,rfl,(.same rfl)⟩,⟨_,rfl,rfl,(.same rfl)⟩,trivial⟩ rfl) ?_
 refine Rn.weak (by show WeakSt Γ _ ⟨look [(0,(b_ false)),(1,.ptr (Γ.n0 + 1) 0),(2,.ptr (Γ.n0 + 2) 0),(3,.d (.lst 1 (List.map (eL 1 (eI .i64)) r5))),(4,(i_ r6)),(10,(Qa x2)),(11,.tup [(Qa r4),.d (.lst 1 (List.map (eL 1 (eI .i64)) r5)),(i_ r6)]),(12,(Qa x2)),(13,(l_ [1])),(14,.tup [(Qa r4),.own 1 (List.map (eL 1 (eI .i64)) r5),(i_ r6)]),(15,(Qa r4)),(16,.d (.lst 1 (List.map (eL 1 (eI .i64)) r5))),(17,(i_ r6)),(19,(Qa x2)),(20,(l_ [1])),(21,(l_ [1]))],Qn Γ.n0 (bxs [(1,.cells ((Qd x2))),(2,.cells ((Qd r4)))]) M,Γ.n0 + 74⟩; exact Qck 21 [.int .i64 1] rfl rfl ⟨(.same rfl),(fPtr rfl),(fPtr rfl),(.same rfl),(.same rfl),(.same rfl),(.same rfl),(.same rfl),(.same rfl),(.same rfl),(.same rfl),(.same rfl),(.same rfl),(.same rfl),(.same rfl),(fSl rfl rfl),trivial⟩ ⟨⟨_,rfl,rfl,(.same rfl)⟩,⟨_,rfl,rfl,(.same rfl)⟩,trivial⟩ rfl) ?_
 obtain ⟨⟨r8,r9,r10⟩,h7,h⟩:=bnd h
 refine Rn.call (args:=[(Qa x2),(l_ [1]),(l_ [1]),(b_ true)]) trivial rfl (H_projection_Lift _ _ _ _ _ h7) pc9 (Rn.mov (v:=.tup [(l_ r8),(b_ r9),(i_ r10)]) trivial rfl (Rn.extTD (vs:=[(l_ r8),(b_ r9),(i_ r10)]) trivial rfl rfl rfl (Rn.ext (v:=(b_ r9)) (vs:=[(l_ r8),(b_ r9),(i_ r10)]) trivial rfl rfl rfl (Rn.ext (v:=(i_ r10)) (vs:=[(l_ r8),(b_ r9),(i_ r10)]) trivial rfl rfl rfl (Rn.movTD trivial rfl (md rfl (md rfl (nt ((sr ((Rn.bslice (xs:=[(i_ 1)]) (cs:=[(i_ 1)]) trivial rfl rfl rfl rfl (Rn.buildT (v:=.agg [.sl 1 (Γ.n0 + 27) 0 1 1,(i_ 1),.nils 1,.nils 3]) trivial rfl (Rn.bslice (xs:=[(i_ 0),(i_ 1)]) (cs:=[(i_ 0),(i_ 1)]) trivial rfl rfl rfl rfl ?_))))))))))))))
 refine Rn.weak (by show WeakSt Γ _ ⟨look [(0,(b_ false)),(1,.ptr (Γ.n0 + 1) 0),(2,.ptr (Γ.n0 + 2) 0),(3,.d (.lst 1 (List.map (eL 1 (eI .i64)) r5))),(4,(i_ r6)),(5,(l_ r8)),(6,(b_ r9)),(7,(i_ r10)),(10,(Qa x2)),(11,.tup [(Qa r4),.d (.lst 1 (List.map (eL 1 (eI .i64)) r5)),(i_ r6)]),(12,(Qa x2)),(13,(l_ [1])),(14,.tup [(Qa r4),.own 1 (List.map (eL 1 (eI .i64)) r5),(i_ r6)]),(15,(Qa r4)),(16,.d (.lst 1 (List.map (eL 1 (eI .i64)) r5))),(17,(i_ r6)),(18,.tup [(l_ r8),(b_ r9),(i_ r10)]),(19,(Qa x2)),(20,(l_ [1])),(21,(l_ [1])),(22,.tup [(l_ r8),(b_ r9),(i_ r10)]),(23,(l_ r8)),(24,(b_ r9)),(25,(i_ r10)),(27,(l_ [1])),(28,.agg [(l_ [1]),(i_ 1),.nils 1,.nils 3]),(29,.sl 1 (Γ.n0 + 29) 0 2 2)],Qn Γ.n0 (bxs [(1,.cells ((Qd x2))),(2,.cells ((Qd r4))),(29,.cells ([(i_ 0),(i_ 1)]))]) M,Γ.n0 + 74⟩; exact Qck 27 [.int .i64 1] rfl rfl ⟨(.same rfl),(fPtr rfl),(fPtr rfl),(.same rfl),(.same rfl),(.same rfl),(.same rfl),(.same rfl),(.same rfl),(.same rfl),(.same rfl),(.same rfl),(.same rfl),(.same rfl),(.same rfl),(.same rfl),(.same rfl),(.same rfl),(.same rfl),(.same rfl),(.same rfl),(.same rfl),(.same rfl),(.same rfl),(fSl rfl rfl),(WkV.agg (.cons (fSl rfl rfl) (.cons (.same rfl) (.cons (.same rfl) (.cons (.same rfl) .nil))))),(fSlO rfl),trivial⟩ ⟨⟨_,rfl,rfl,(.same rfl)⟩,⟨_,rfl,rfl,(.same rfl)⟩,⟨_,rfl,rfl,(.same rfl)⟩,trivial⟩ rfl) ?_
 refine Rn.weak (by show WeakSt Γ _ ⟨look [(0,(b_ false)),(1,.ptr (Γ.n0 + 1) 0),(2,.ptr (Γ.n0 + 2) 0),(3,.d (.lst 1 (List.map (eL 1 (eI .i64)) r5))),(4,(i_ r6)),(5,(l_ r8)),(6,(b_ r9)),(7,(i_ r10)),(10,(Qa x2)),(11,.tup [(Qa r4),.d (.lst 1 (List.map (eL 1 (eI .i64)) r5)),(i_ r6)]),(12,(Qa x2)),(13,(l_ [1])),(14,.tup [(Qa r4),.own 1 (List.map (eL 1 (eI .i64)) r5),(i_ r6)]),(15,(Qa r4)),(16,.d (.lst 1 (List.map (eL 1 (eI .i64)) r5))),(17,(i_ r6)),(18,.tup [(l_ r8),(b_ r9),(i_ r10)]),(19,(Qa x2)),(20,(l_ [1])),(21,(l_ [1])),(22,.tup [(l_ r8),(b_ r9),(i_ r10)]),(23,(l_ r8)),(24,(b_ r9)),(25,(i_ r10)),(27,(l_ [1])),(28,.agg [(l_ [1]),(i_ 1),.nils 1,.nils 3]),(29,(l_ [0,1]))],Qn Γ.n0 (bxs [(1,.cells ((Qd x2))),(2,.cells ((Qd r4)))]) M,Γ.n0 + 74⟩; exact Qck 29 [.int .i64 0,.int .i64 1] rfl rfl ⟨(.same rfl),(fPtr rfl),(fPtr rfl),(.same rfl),(.same rfl),(.same rfl),(.same rfl),(.same rfl),(.same rfl),(.same rfl),(.same rfl),(.same rfl),(.same rfl),(.same rfl),(.same rfl),(.same rfl),(.same rfl),(.same rfl),(.same rfl),(.same rfl),(.same rfl),(.same rfl),(.same rfl),(.same rfl),(.same rfl),(.same rfl),(fSl rfl rfl),trivial⟩ ⟨⟨_,rfl,rfl,(.same rfl)⟩,⟨_,rfl,rfl,(.same rfl)⟩,trivial⟩ rfl) ?_
 obtain ⟨⟨r12,r13⟩,h11,h⟩:=bnd h
 refine Rn.call (args:=[.agg [(l_ [1]),(i_ 1),.nils 1,.nils 3],(l_ [0,1])]) trivial rfl (fun M2 nb2=>ACalls.weak (args':=[.agg [(l_ [1]),(i_ 1),(l_ []),.d (.lst 3 (List.map Qc []))],(l_ [0,1])]) (H_projection_Inverse _ _ _ h11 M2 nb2) (.cons (WkV.agg (.cons (sm rfl) (.cons (sm rfl) (.cons (WkV.nilsD _) (.cons (WkV.nilsD _) .nil))))) (.cons (sm rfl) .nil)) rfl) pc9 ?_
 refine Rn.mov (v:=.tup [(Qa r12),(i_ r13)]) trivial rfl (Rn.ext (v:=(Qa r12)) (vs:=[(Qa r12),(i_ r13)]) trivial rfl rfl rfl (Rn.ext (v:=(i_ r13)) (vs:=[(Qa r12),(i_ r13)]) trivial rfl rfl rfl (Rn.alloc trivial rfl (Rn.storeT (v:=(Qa r12)) (ds:=(Qd r12)) (cs':=(Qd r12)) trivial rfl rfl rfl rfl rfl rfl rfl (md rfl (Rn.nil (toN ?_)))))))
 refine Tr.cutB (fun (x27 : Bool)=>⟨look [(0,(b_ x27))],Qn Γ.n0 (bxs [(1,.cells ((Qd x2))),(2,.cells ((Qd r4))),(8,.cells ((Qd r12)))]) M,Γ.n0 + 74⟩) h (fun z h=>?_) (fun z h=>?_)
 ·refine Tr.rgn (md rfl (Rn.bin trivial rfl rfl rfl (md rfl ?_)))
  refine Qdb (r6 == 0) (fun hb14=>?_) (fun hb14=>?_)
  ·replace h:=bT hb14 h
   refine Rn.load (v:=(Qa r4)) (gw rfl hb14) rfl (Qk rfl) rfl rfl (Rn.bslice (xs:=[(i_ 1)]) (cs:=[(i_ 1)]) (gw rfl hb14) rfl rfl rfl rfl (Rn.bslice (xs:=[(i_ 1)]) (cs:=[(i_ 1)]) (gw rfl hb14) rfl rfl rfl rfl (Rn.build (v:=.agg [(i_ 0),(i_ 1),(i_ 1)]) (gw rfl hb14) rfl (Rn.build (v:=.agg [(i_ 1),(i_ 1),(i_ 1)]) (gw rfl hb14) rfl (Rn.bslice (xs:=[.agg [(i_ 0),(i_ 1),(i_ 1)],.agg [(i_ 1),(i_ 1),(i_ 1)]]) (cs:=[(i_ 0),(i_ 1),(i_ 1),(i_ 1),(i_ 1),(i_ 1)]) (gw rfl hb14) rfl rfl rfl rfl (Rn.buildT (v:=.agg [.sl 1 (Γ.n0 + 37) 0 1 1,(i_ 2),.sl 1 (Γ.n0 + 38) 0 1 1,.sl 3 (Γ.n0 + 41) 0 2 2]) (gw rfl hb14) rfl ?_))))))
   refine Rn.weak (by show WeakSt Γ _ ⟨look [(0,(b_ false)),(1,.ptr (Γ.n0 + 1) 0),(2,.ptr (Γ.n0 + 2) 0),(3,.d (.lst 1 (List.map (eL 1 (eI .i64)) r5))),(4,(i_ r6)),(5,(l_ r8)),(6,(b_ r9)),(7,(i_ r10)),(8,.ptr (Γ.n0 + 8) 0),(9,(i_ r13)),(10,(Qa x2)),(11,.tup [(Qa r4),.d (.lst 1 (List.map (eL 1 (eI .i64)) r5)),(i_ r6)]),(12,(Qa x2)),(13,(l_ [1])),(14,.tup [(Qa r4),.own 1 (List.map (eL 1 (eI .i64)) r5),(i_ r6)]),(15,(Qa r4)),(16,.d (.lst 1 (List.map (eL 1 (eI .i64)) r5))),(17,(i_ r6)),(18,.tup [(l_ r8),(b_ r9),(i_ r10)]),(19,(Qa x2)),(20,(l_ [1])),(21,(l_ [1])),(22,.tup [(l_ r8),(b_ r9),(i_ r10)]),(23,(l_ r8)),(24,(b_ r9)),(25,(i_ r10)),(26,.tup [(Qa r12),(i_ r13)]),(27,(l_ [1])),(28,.agg [(l_ [1]),(i_ 1),.nils 1,.nils 3]),(29,(l_ [0,1])),(30,.tup [(Qa r12),(i_ r13)]),(31,(Qa r12)),(32,(i_ r13)),(33,(i_ r6)),(34,(b_ (r6 == 0))),(35,(b_ (r6 == 0))),(36,(Qa r4)),(37,(l_ [1])),(38,.sl 1 (Γ.n0 + 38) 0 1 1),(39,.agg [(i_ 0),(i_ 1),(i_ 1)]),(40,.agg [(i_ 1),(i_ 1),(i_ 1)]),(41,.sl 3 (Γ.n0 + 41) 0 2 2),(42,.agg [(l_ [1]),(i_ 2),.sl 1 (Γ.n0 + 38) 0 1 1,.sl 3 (Γ.n0 + 41) 0 2 2])],Qn Γ.n0 (bxs [(1,.cells ((Qd x2))),(2,.cells ((Qd r4))),(8,.cells ((Qd r12))),(38,.cells ([(i_ 1)])),(41,.cells ([(i_ 0),(i_ 1),(i_ 1),(i_ 1),(i_ 1),(i_ 1)]))]) M,Γ.n0 + 74⟩; exact Qck 37 [.int .i64 1] rfl rfl ⟨(.same rfl),(fPtr rfl),(fPtr rfl),(.same rfl),(.same rfl),(.same rfl),(.same rfl),(.same rfl),(fPtr rfl),(.same rfl),(.same rfl),(.same rfl),(.same rfl),(.same rfl),(.same rfl),(.same rfl),(.same rfl),(.same rfl),(.same rfl),(.same rfl),(.same rfl),(.same rfl),(.same rfl),(.same rfl),(.same rfl),(.same rfl),(.same rfl),(.same rfl),(.same rfl),(.same rfl),(.same rfl),(.same rfl),(.same rfl),(.same rfl),(.same rfl),(.same rfl),(.same rfl),(fSl rfl rfl),(fSlO rfl),(.same rfl),(.same rfl),(fSlO rfl),(WkV.agg (.cons (fSl rfl rfl) (.cons (.same rfl) (.cons (fSlO rfl) (.cons (fSlO rfl) .nil))))),trivial⟩ ⟨⟨_,rfl,rfl,(.same rfl)⟩,⟨_,rfl,rfl,(.same rfl)⟩,⟨_,rfl,rfl,(.same rfl)⟩,⟨_,rfl,rfl,(.same rfl)⟩,⟨_,rfl,rfl,(.same rfl)⟩,trivial⟩ rfl) ?_
   refine Rn.weak (by show WeakSt Γ _ ⟨look [(0,(b_ false)),(1,.ptr (Γ.n0 + 1) 0),(2,.ptr (Γ.n0 + 2) 0),(3,.d (.lst 1 (List.map (eL 1 (eI .i64)) r5))),(4,(i_ r6)),(5,(l_ r8)),(6,(b_ r9)),(7,(i_ r10)),(8,.ptr (Γ.n0 + 8) 0),(9,(i_ r13)),(10,(Qa x2)),(11,.tup [(Qa r4),.d (.lst 1 (List.map (eL 1 (eI .i64)) r5)),(i_ r6)]),(12,(Qa x2)),(13,(l_ [1])),(14,.tup [(Qa r4),.own 1 (List.map (eL 1 (eI .i64)) r5),(i_ r6)]),(15,(Qa r4)),(16,.d (.lst 1 (List.map (eL 1 (eI .i64)) r5))),(17,(i_ r6)),(18,.tup [(l_ r8),(b_ r9),(i_ r10)]),(19,(Qa x2)),(20,(l_ [1])),(21,(l_ [1])),(22,.tup [(l_ r8),(b_ r9),(i_ r10)]),(23,(l_ r8)),(24,(b_ r9)),(25,(i_ r10)),(26,.tup [(Qa r12),(i_ r13)]),(27,(l_ [1])),(28,.agg [(l_ [1]),(i_ 1),.nils 1,.nils 3]),(29,(l_ [0,1])),(30,.tup [(Qa r12),(i_ r13)]),(31,(Qa r12)),(32,(i_ r13)),(33,(i_ r6)),(34,(b_ (r6 == 0))),(35,(b_ (r6 == 0))),(36,(Qa r4)),(37,(l_ [1])),(38,(l_ [1])),(39,.agg [(i_ 0),(i_ 1),(i_ 1)]),(40,.agg [(i_ 1),(i_ 1),(i_ 1)]),(41,.sl 3 (Γ.n0 + 41) 0 2 2),(42,.agg [(l_ [1]),(i_ 2),(l_ [1]),.sl 3 (Γ.n0 + 41) 0 2 2])],Qn Γ.n0 (bxs [(1,.cells ((Qd x2))),(2,.cells ((Qd r4))),(8,.cells ((Qd r12))),(41,.cells ([(i_ 0),(i_ 1),(i_ 1),(i_ 1),(i_ 1),(i_ 1)]))]) M,Γ.n0 + 74⟩; exact Qck 38 [.int .i64 1] rfl rfl ⟨(.same rfl),(fPtr rfl),(fPtr rfl),(.same rfl),(.same rfl),(.same rfl),(.same rfl),(.same rfl),(fPtr rfl),(.same rfl),(.same rfl),(.same rfl),(.same rfl),(.same rfl),(.same rfl),(.same rfl),(.same rfl),(.same rfl),(.same rfl),(.same rfl),(.same rfl),(.same rfl),(.same rfl),(.same rfl),(.same rfl),(.same rfl),(.same rfl),(.same rfl),(.same rfl),(.same rfl),(.same rfl),(.same rfl),(.same rfl),(.same rfl),(.same rfl),(.same rfl),(.same rfl),(.same rfl),(fSl rfl rfl),(.same rfl),(.same rfl),(fSlO rfl),(WkV.agg (.cons (.same rfl) (.cons (.same rfl) (.cons (fSl rfl rfl) (.cons (fSlO rfl) .nil))))),trivial⟩ ⟨⟨_,rfl,rfl,(.same rfl)⟩,⟨_,rfl,rfl,(.same rfl)⟩,⟨_,rfl,rfl,(.same rfl)⟩,⟨_,rfl,rfl,(.same rfl)⟩,trivial⟩ rfl) ?_
   refine Rn.weak (by show WeakSt Γ _ ⟨look [(0,(b_ false)),(1,.ptr (Γ.n0 + 1) 0),(2,.ptr (Γ.n0 + 2) 0),(3,.d (.lst 1 (List.map (eL 1 (eI .i64)) r5))),(4,(i_ r6)),(5,(l_ r8)),(6,(b_ r9)),(7,(i_ r10)),(8,.ptr (Γ.n0 + 8) 0),(9,(i_ r13)),(10,(Qa x2)),(11,.tup [(Qa r4),.d (.lst 1 (List.map (eL 1 (eI .i64)) r5)),(i_ r6)]),(12,(Qa x2)),(13,(l_ [1])),(14,.tup [(Qa r4),.own 1 (List.map (eL 1 (eI .i64)) r5),(i_ r6)]),(15,(Qa r4)),(16,.d (.lst 1 (List.map (eL 1 (eI .i64)) r5))),(17,(i_ r6)),(18,.tup [(l_ r8),(b_ r9),(i_ r10)]),(19,(Qa x2)),(20,(l_ [1])),(21,(l_ [1])),(22,.tup [(l_ r8),(b_ r9),(i_ r10)]),(23,(l_ r8)),(24,(b_ r9)),(25,(i_ r10)),(26,.tup [(Qa r12),(i_ r13)]),(27,(l_ [1])),(28,.agg [(l_ [1]),(i_ 1),.nils 1,.nils 3]),(29,(l_ [0,1])),(30,.tup [(Qa r12),(i_ r13)]),(31,(Qa r12)),(32,(i_ r13)),(33,(i_ r6)),(34,(b_ (r6 == 0))),(35,(b_ (r6 == 0))),(36,(Qa r4)),(37,(l_ [1])),(38,(l_ [1])),(39,.agg [(i_ 0),(i_ 1),(i_ 1)]),(40,.agg [(i_ 1),(i_ 1),(i_ 1)]),(41,.d (.lst 3 (List.map Qc [(Qe.mk 0 1 1),(Qe.mk 1 1 1)]))),(42,.agg [(l_ [1]),(i_ 2),(l_ [1]),.d (.lst 3 (List.map Qc [(Qe.mk 0 1 1),(Qe.mk 1 1 1)]))])],Qn Γ.n0 (bxs [(1,.cells ((Qd x2))),(2,.cells ((Qd r4))),(8,.cells ((Qd r12)))]) M,Γ.n0 + 74⟩; exact Qck 41 [.int .i64 0,.int .i64 1,.int .i64 1,.int .i64 1,.int .i64 1,.int .i64 1] rfl rfl ⟨(.same rfl),(fPtr rfl),(fPtr rfl),(.same rfl),(.same rfl),(.same rfl),(.same rfl),(.same rfl),(fPtr rfl),(.same rfl),(.same rfl),(.same rfl),(.same rfl),(.same rfl),(.same rfl),(.same rfl),(.same rfl),(.same rfl),(.same rfl),(.same rfl),(.same rfl),(.same rfl),(.same rfl),(.same rfl),(.same rfl),(.same rfl),(.same rfl),(.same rfl),(.same rfl),(.same rfl),(.same rfl),(.same rfl),(.same rfl),(.same rfl),(.same rfl),(.same rfl),(.same rfl),(.same rfl),(.same rfl),(.same rfl),(.same rfl),(fSl rfl rfl),(WkV.agg (.cons (.same rfl) (.cons (.same rfl) (.cons (.same rfl) (.cons (fSl rfl rfl) .nil))))),trivial⟩ ⟨⟨_,rfl,rfl,(.same rfl)⟩,⟨_,rfl,rfl,(.same rfl)⟩,⟨_,rfl,rfl,(.same rfl)⟩,trivial⟩ rfl) ?_
   obtain ⟨x16,h15,h⟩:=bnd h
   refine Rn.call (args:=[(Qa r4),.agg [(l_ [1]),(i_ 2),(l_ [1]),.d (.lst 3 (List.map Qc [(Qe.mk 0 1 1),(Qe.mk 1 1 1)]))]]) (gw rfl hb14) rfl (H_overseerref03_Same _ _ _ h15) pc9 (Rn.pickT (v:=(b_ x16)) trivial rfl hb14 rfl (md rfl ?_))
   refine Qdb x16 (fun hb17=>?_) (fun hb17=>?_)
   ·replace h:=bT hb17 h
    refine Rn.movD (gw rfl hb17) rfl (Rn.bslice (xs:=[(i_ 0),(i_ 1)]) (cs:=[(i_ 0),(i_ 1)]) (gw rfl hb17) rfl rfl rfl rfl (Rn.bslice (xs:=[(i_ 0),(i_ 1),(i_ 2)]) (cs:=[(i_ 0),(i_ 1),(i_ 2)]) (gw rfl hb17) rfl rfl rfl rfl (Rn.bslice (xs:=[.sl 1 (Γ.n0 + 47) 0 2 2,.sl 1 (Γ.n0 + 48) 0 3 3]) (cs:=[.sl 1 (Γ.n0 + 47) 0 2 2,.sl 1 (Γ.n0 + 48) 0 3 3]) (gw rfl hb17) rfl rfl rfl rfl ?_)))
    refine Rn.weak (by show WeakSt Γ _ ⟨look [(0,(b_ false)),(1,.ptr (Γ.n0 + 1) 0),(2,.ptr (Γ.n0 + 2) 0),(3,.d (.lst 1 (List.map (eL 1 (eI .i64)) r5))),(4,(i_ r6)),(5,(l_ r8)),(6,(b_ r9)),(7,(i_ r10)),(8,.ptr (Γ.n0 + 8) 0),(9,(i_ r13)),(10,(Qa x2)),(11,.tup [(Qa r4),.d (.lst 1 (List.map (eL 1 (eI .i64)) r5)),(i_ r6)]),(12,(Qa x2)),(13,(l_ [1])),(14,.tup [(Qa r4),.own 1 (List.map (eL 1 (eI .i64)) r5),(i_ r6)]),(15,(Qa r4)),(16,.d (.lst 1 (List.map (eL 1 (eI .i64)) r5))),(17,(i_ r6)),(18,.tup [(l_ r8),(b_ r9),(i_ r10)]),(19,(Qa x2)),(20,(l_ [1])),(21,(l_ [1])),(22,.tup [(l_ r8),(b_ r9),(i_ r10)]),(23,(l_ r8)),(24,(b_ r9)),(25,(i_ r10)),(26,.tup [(Qa r12),(i_ r13)]),(27,(l_ [1])),(28,.agg [(l_ [1]),(i_ 1),.nils 1,.nils 3]),(29,(l_ [0,1])),(30,.tup [(Qa r12),(i_ r13)]),(31,(Qa r12)),(32,(i_ r13)),(33,(i_ r6)),(34,(b_ (r6 == 0))),(35,(b_ (r6 == 0))),(36,(Qa r4)),(37,(l_ [1])),(38,(l_ [1])),(39,.agg [(i_ 0),(i_ 1),(i_ 1)]),(40,.agg [(i_ 1),(i_ 1),(i_ 1)]),(41,.d (.lst 3 (List.map Qc [(Qe.mk 0 1 1),(Qe.mk 1 1 1)]))),(42,.agg [(l_ [1]),(i_ 2),(l_ [1]),.d (.lst 3 (List.map Qc [(Qe.mk 0 1 1),(Qe.mk 1 1 1)]))]),(43,(b_ x16)),(44,(b_ x16)),(45,(b_ x16)),(46,.d (.lst 1 (List.map (eL 1 (eI .i64)) r5))),(47,(l_ [0,1])),(48,.sl 1 (Γ.n0 + 48) 0 3 3),(49,.sl 1 (Γ.n0 + 49) 0 2 2)],Qn Γ.n0 (bxs [(1,.cells ((Qd x2))),(2,.cells ((Qd r4))),(8,.cells ((Qd r12))),(48,.cells ([(i_ 0),(i_ 1),(i_ 2)])),(49,.cells ([(l_ [0,1]),.sl 1 (Γ.n0 + 48) 0 3 3]))]) M,Γ.n0 + 74⟩; exact Qck 47 [.int .i64 0,.int .i64 1] rfl rfl ⟨(.same rfl),(fPtr rfl),(fPtr rfl),(.same rfl),(.same rfl),(.same rfl),(.same rfl),(.same rfl),(fPtr rfl),(.same rfl),(.same rfl),(.same rfl),(.same rfl),(.same rfl),(.same rfl),(.same rfl),(.same rfl),(.same rfl),(.same rfl),(.same rfl),(.same rfl),(.same rfl),(.same rfl),(.same rfl),(.same rfl),(.same rfl),(.same rfl),(.same rfl),(.same rfl),(.same rfl),(.same rfl),(.same rfl),(.same rfl),(.same rfl),(.same rfl),(.same rfl),(.same rfl),(.same rfl),(.same rfl),(.same rfl),(.same rfl),(.same rfl),(.same rfl),(.same rfl),(.same rfl),(.same rfl),(.same rfl),(fSl rfl rfl),(fSlO rfl),(fSlO rfl),trivial⟩ ⟨⟨_,rfl,rfl,(.same rfl)⟩,⟨_,rfl,rfl,(.same rfl)⟩,⟨_,rfl,rfl,(.same rfl)⟩,⟨_,rfl,rfl,(.same rfl)⟩,⟨_,rfl,rfl,(.cons (fSl rfl rfl) (.cons (fSlO rfl) .nil))⟩,trivial⟩ rfl) ?_
    refine Rn.weak (by show WeakSt Γ _ ⟨look [(0,(b_ false)),(1,.ptr (Γ.n0 + 1) 0),(2,.ptr (Γ.n0 + 2) 0),(3,.d (.lst 1 (List.map (eL 1 (eI .i64)) r5))),(4,(i_ r6)),(5,(l_ r8)),(6,(b_ r9)),(7,(i_ r10)),(8,.ptr (Γ.n0 + 8) 0),(9,(i_ r13)),(10,(Qa x2)),(11,.tup [(Qa r4),.d (.lst 1 (List.map (eL 1 (eI .i64)) r5)),(i_ r6)]),(12,(Qa x2)),(13,(l_ [1])),(14,.tup [(Qa r4),.own 1 (List.map (eL 1 (eI .i64)) r5),(i_ r6)]),(15,(Qa r4)),(16,.d (.lst 1 (List.map (eL 1 (eI .i64)) r5))),(17,(i_ r6)),(18,.tup [(l_ r8),(b_ r9),(i_ r10)]),(19,(Qa x2)),(20,(l_ [1])),(21,(l_ [1])),(22,.tup [(l_ r8),(b_ r9),(i_ r10)]),(23,(l_ r8)),(24,(b_ r9)),(25,(i_ r10)),(26,.tup [(Qa r12),(i_ r13)]),(27,(l_ [1])),(28,.agg [(l_ [1]),(i_ 1),.nils 1,.nils 3]),(29,(l_ [0,1])),(30,.tup [(Qa r12),(i_ r13)]),(31,(Qa r12)),(32,(i_ r13)),(33,(i_ r6)),(34,(b_ (r6 == 0))),(35,(b_ (r6 == 0))),(36,(Qa r4)),(37,(l_ [1])),(38,(l_ [1])),(39,.agg [(i_ 0),(i_ 1),(i_ 1)]),(40,.agg [(i_ 1),(i_ 1),(i_ 1)]),(41,.d (.lst 3 (List.map Qc [(Qe.mk 0 1 1),(Qe.mk 1 1 1)]))),(42,.agg [(l_ [1]),(i_ 2),(l_ [1]),.d (.lst 3 (List.map Qc [(Qe.mk 0 1 1),(Qe.mk 1 1 1)]))]),(43,(b_ x16)),(44,(b_ x16)),(45,(b_ x16)),(46,.d (.lst 1 (List.map (eL 1 (eI .i64)) r5))),(47,(l_ [0,1])),(48,(l_ [0,1,2])),(49,.sl 1 (Γ.n0 + 49) 0 2 2)],Qn Γ.n0 (bxs [(1,.cells ((Qd x2))),(2,.cells ((Qd r4))),(8,.cells ((Qd r12))),(49,.cells ([(l_ [0,1]),(l_ [0,1,2])]))]) M,Γ.n0 + 74⟩; exact Qck 48 [.int .i64 0,.int .i64 1,.int .i64 2] rfl rfl ⟨(.same rfl),(fPtr rfl),(fPtr rfl),(.same rfl),(.same rfl),(.same rfl),(.same rfl),(.same rfl),(fPtr rfl),(.same rfl),(.same rfl),(.same rfl),(.same rfl),(.same rfl),(.same rfl),(.same rfl),(.same rfl),(.same rfl),(.same rfl),(.same rfl),(.same rfl),(.same rfl),(.same rfl),(.same rfl),(.same rfl),(.same rfl),(.same rfl),(.same rfl),(.same rfl),(.same rfl),(.same rfl),(.same rfl),(.same rfl),(.same rfl),(.same rfl),(.same rfl),(.same rfl),(.same rfl),(.same rfl),(.same rfl),(.same rfl),(.same rfl),(.same rfl),(.same rfl),(.same rfl),(.same rfl),(.same rfl),(.same rfl),(fSl rfl rfl),(fSlO rfl),trivial⟩ ⟨⟨_,rfl,rfl,(.same rfl)⟩,⟨_,rfl,rfl,(.same rfl)⟩,⟨_,rfl,rfl,(.same rfl)⟩,⟨_,rfl,rfl,(.cons (.same rfl) (.cons (fSl rfl rfl) .nil))⟩,trivial⟩ rfl) ?_
    refine Rn.weak (by show WeakSt Γ _ ⟨look [(0,(b_ false)),(1,.ptr (Γ.n0 + 1) 0),(2,.ptr (Γ.n0 + 2) 0),(3,.d (.lst 1 (List.map (eL 1 (eI .i64)) r5))),(4,(i_ r6)),(5,(l_ r8)),(6,(b_ r9)),(7,(i_ r10)),(8,.ptr (Γ.n0 + 8) 0),(9,(i_ r13)),(10,(Qa x2)),(11,.tup [(Qa r4),.d (.lst 1 (List.map (eL 1 (eI .i64)) r5)),(i_ r6)]),(12,(Qa x2)),(13,(l_ [1])),(14,.tup [(Qa r4),.own 1 (List.map (eL 1 (eI .i64)) r5),(i_ r6)]),(15,(Qa r4)),(16,.d (.lst 1 (List.map (eL 1 (eI .i64)) r5))),(17,(i_ r6)),(18,.tup [(l_ r8),(b_ r9),(i_ r10)]),(19,(Qa x2)),(20,(l_ [1])),(21,(l_ [1])),(22,.tup [(l_ r8),(b_ r9),(i_ r10)]),(23,(l_ r8)),(24,(b_ r9)),(25,(i_ r10)),(26,.tup [(Qa r12),(i_ r13)]),(27,(l_ [1])),(28,.agg [(l_ [1]),(i_ 1),.nils 1,.nils 3]),(29,(l_ [0,1])),(30,.tup [(Qa r12),(i_ r13)]),(31,(Qa r12)),(32,(i_ r13)),(33,(i_ r6)),(34,(b_ (r6 == 0))),(35,(b_ (r6 == 0))),(36,(Qa r4)),(37,(l_ [1])),(38,(l_ [1])),(39,.agg [(i_ 0),(i_ 1),(i_ 1)]),(40,.agg [(i_ 1),(i_ 1),(i_ 1)]),(41,.d (.lst 3 (List.map Qc [(Qe.mk 0 1 1),(Qe.mk 1 1 1)]))),(42,.agg [(l_ [1]),(i_ 2),(l_ [1]),.d (.lst 3 (List.map Qc [(Qe.mk 0 1 1),(Qe.mk 1 1 1)]))]),(43,(b_ x16)),(44,(b_ x16)),(45,(b_ x16)),(46,.d (.lst 1 (List.map (eL 1 (eI .i64)) r5))),(47,(l_ [0,1])),(48,(l_ [0,1,2])),(49,.d (.lst 1 (List.map (eL 1 (eI .i64)) ([[0,1],[0,1,2]]))))],Qn Γ.n0 (bxs [(1,.cells ((Qd x2))),(2,.cells ((Qd r4))),(8,.cells ((Qd r12)))]) M,Γ.n0 + 74⟩; exact Qck 49 [.lst 1 (List.map (eI .i64) [0,1]),.lst 1 (List.map (eI .i64) [0,1,2])] rfl rfl ⟨(.same rfl),(fPtr rfl),(fPtr rfl),(.same rfl),(.same rfl),(.same rfl),(.same rfl),(.same rfl),(fPtr rfl),(.same rfl),(.same rfl),(.same rfl),(.same rfl),(.same rfl),(.same rfl),(.same rfl),(.same rfl),(.same rfl),(.same rfl),(.same rfl),(.same rfl),(.same rfl),(.same rfl),(.same rfl),(.same rfl),(.same rfl),(.same rfl),(.same rfl),(.same rfl),(.same rfl),(.same rfl),(.same rfl),(.same rfl),(.same rfl),(.same rfl),(.same rfl),(.same rfl),(.same rfl),(.same rfl),(.same rfl),(.same rfl),(.same rfl),(.same rfl),(.same rfl),(.same rfl),(.same rfl),(.same rfl),(.same rfl),(.same rfl),(fSl rfl rfl),trivial⟩ ⟨⟨_,rfl,rfl,(.same rfl)⟩,⟨_,rfl,rfl,(.same rfl)⟩,⟨_,rfl,rfl,(.same rfl)⟩,trivial⟩ rfl) ?_
    obtain ⟨x19,h18,h⟩:=bnd h
    refine Rn.call (args:=[.d (.lst 1 (List.map (eL 1 (eI .i64)) r5)),.d (.lst 1 (List.map (eL 1 (eI .i64)) ([[0,1],[0,1,2]])))]) (gw rfl hb17) rfl (H_overseerlaw03_SameWords _ _ _ h18) pc9 (Rn.pickT (v:=(b_ x19)) trivial rfl hb17 rfl (md rfl ?_))
    refine Qdb x19 (fun hb20=>?_) (fun hb20=>?_)
    ·replace h:=bT hb20 h
     refine Rn.movD (gw rfl hb20) rfl (Rn.bin (gw rfl hb20) rfl rfl rfl (Rn.pickT (v:=(b_ (r10 == 0))) trivial rfl hb20 rfl (md rfl ?_)))
     refine Qdb (r10 == 0) (fun hb21=>?_) (fun hb21=>?_)
     ·replace h:=bT hb21 h
      refine Rn.movD (gw rfl hb21) rfl (Rn.pickT (v:=(b_ r9)) trivial rfl hb21 rfl (md rfl ?_))
      refine Qdb r9 (fun hb22=>?_) (fun hb22=>?_)
      ·replace h:=bT hb22 h
       refine Rn.movD (gw rfl hb22) rfl (Rn.bslice (xs:=[(i_ 0),(i_ 1)]) (cs:=[(i_ 0),(i_ 1)]) (gw rfl hb22) rfl rfl rfl rfl ?_)
       refine Rn.weak (by show WeakSt Γ _ ⟨look [(0,(b_ false)),(1,.ptr (Γ.n0 + 1) 0),(2,.ptr (Γ.n0 + 2) 0),(3,.d (.lst 1 (List.map (eL 1 (eI .i64)) r5))),(4,(i_ r6)),(5,(l_ r8)),(6,(b_ r9)),(7,(i_ r10)),(8,.ptr (Γ.n0 + 8) 0),(9,(i_ r13)),(10,(Qa x2)),(11,.tup [(Qa r4),.d (.lst 1 (List.map (eL 1 (eI .i64)) r5)),(i_ r6)]),(12,(Qa x2)),(13,(l_ [1])),(14,.tup [(Qa r4),.own 1 (List.map (eL 1 (eI .i64)) r5),(i_ r6)]),(15,(Qa r4)),(16,.d (.lst 1 (List.map (eL 1 (eI .i64)) r5))),(17,(i_ r6)),(18,.tup [(l_ r8),(b_ r9),(i_ r10)]),(19,(Qa x2)),(20,(l_ [1])),(21,(l_ [1])),(22,.tup [(l_ r8),(b_ r9),(i_ r10)]),(23,(l_ r8)),(24,(b_ r9)),(25,(i_ r10)),(26,.tup [(Qa r12),(i_ r13)]),(27,(l_ [1])),(28,.agg [(l_ [1]),(i_ 1),.nils 1,.nils 3]),(29,(l_ [0,1])),(30,.tup [(Qa r12),(i_ r13)]),(31,(Qa r12)),(32,(i_ r13)),(33,(i_ r6)),(34,(b_ (r6 == 0))),(35,(b_ (r6 == 0))),(36,(Qa r4)),(37,(l_ [1])),(38,(l_ [1])),(39,.agg [(i_ 0),(i_ 1),(i_ 1)]),(40,.agg [(i_ 1),(i_ 1),(i_ 1)]),(41,.d (.lst 3 (List.map Qc [(Qe.mk 0 1 1),(Qe.mk 1 1 1)]))),(42,.agg [(l_ [1]),(i_ 2),(l_ [1]),.d (.lst 3 (List.map Qc [(Qe.mk 0 1 1),(Qe.mk 1 1 1)]))]),(43,(b_ x16)),(44,(b_ x16)),(45,(b_ x16)),(46,.d (.lst 1 (List.map (eL 1 (eI .i64)) r5))),(47,(l_ [0,1])),(48,(l_ [0,1,2])),(49,.d (.lst 1 (List.map (eL 1 (eI .i64)) ([[0,1],[0,1,2]])))),(50,(b_ x19)),(51,(b_ x19)),(52,(b_ x19)),(53,(i_ r10)),(54,(b_ (r10 == 0))),(55,(b_ (r10 == 0))),(56,(b_ (r10 == 0))),(57,(b_ r9)),(58,(b_ r9)),(59,(b_ r9)),(60,(l_ r8)),(61,(l_ [0,1]))],Qn Γ.n0 (bxs [(1,.cells ((Qd x2))),(2,.cells ((Qd r4))),(8,.cells ((Qd r12)))]) M,Γ.n0 + 74⟩; exact Qck 61 [.int .i64 0,.int .i64 1] rfl rfl ⟨(.same rfl),(fPtr rfl),(fPtr rfl),(.same rfl),(.same rfl),(.same rfl),(.same rfl),(.same rfl),(fPtr rfl),(.same rfl),(.same rfl),(.same rfl),(.same rfl),(.same rfl),(.same rfl),(.same rfl),(.same rfl),(.same rfl),(.same rfl),(.same rfl),(.same rfl),(.same rfl),(.same rfl),(.same rfl),(.same rfl),(.same rfl),(.same rfl),(.same rfl),(.same rfl),(.same rfl),(.same rfl),(.same rfl),(.same rfl),(.same rfl),(.same rfl),(.same rfl),(.same rfl),(.same rfl),(.same rfl),(.same rfl),(.same rfl),(.same rfl),(.same rfl),(.same rfl),(.same rfl),(.same rfl),(.same rfl),(.same rfl),(.same rfl),(.same rfl),(.same rfl),(.same rfl),(.same rfl),(.same rfl),(.same rfl),(.same rfl),(.same rfl),(.same rfl),(.same rfl),(.same rfl),(.same rfl),(fSl rfl rfl),trivial⟩ ⟨⟨_,rfl,rfl,(.same rfl)⟩,⟨_,rfl,rfl,(.same rfl)⟩,⟨_,rfl,rfl,(.same rfl)⟩,trivial⟩ rfl) ?_
       obtain ⟨x24,h23,h⟩:=bnd h
       refine Rn.call (args:=[(l_ r8),(l_ [0,1])]) (gw rfl hb22) rfl (H_overseerref03_SameInts _ _ _ h23) pc9 (Rn.pickT (v:=(b_ x24)) trivial rfl hb22 rfl (md rfl ?_))
       refine Qdb x24 (fun hb25=>?_) (fun hb25=>?_)
       ·replace h:=bT hb25 h
        refine Rn.movD (gw rfl hb25) rfl (Rn.bin (gw rfl hb25) rfl rfl rfl (Rn.pickT (v:=(b_ (r13 == 0))) trivial rfl hb25 rfl (md rfl ?_)))
        refine Qdb (r13 == 0) (fun hb26=>?_) (fun hb26=>?_)
        ·replace h:=bT hb26 h
         refine Rn.fldP (o':=3) (gw rfl hb26) rfl rfl (Rn.load (v:=.d (.lst 3 (List.map Qc r12.Edges))) (gw rfl hb26) rfl (Qk rfl) rfl rfl (Rn.lenD (gw rfl hb26) rfl (Rn.bin (gw rfl hb26) rfl rfl rfl (Rn.pickT (v:=(b_ ((r12.Edges.length : Int) == 1))) trivial rfl hb26 rfl (md rfl (Rn.nil ?_))))))
         replace h:=si h; subst h
         exact Qh [] ⟨(sm rfl),trivial⟩ ⟨⟨_,rfl,rfl,(.same rfl)⟩,⟨_,rfl,rfl,(.same rfl)⟩,⟨_,rfl,rfl,(.same rfl)⟩,trivial⟩ rfl
        ·replace h:=bF hb26 h
         refine Rn.sk (nw rfl hb26) (Rn.sk (nw rfl hb26) (Rn.sk (nw rfl hb26) (Rn.sk (nw rfl hb26) (Rn.pickF (v:=(b_ false)) trivial rfl hb26 rfl (md rfl (Rn.nil ?_))))))
         replace h:=si h; subst h
         exact Qh [] ⟨(sm rfl),trivial⟩ ⟨⟨_,rfl,rfl,(.same rfl)⟩,⟨_,rfl,rfl,(.same rfl)⟩,⟨_,rfl,rfl,(.same rfl)⟩,trivial⟩ rfl
       ·replace h:=bF hb25 h
        refine Rn.sk (nw rfl hb25) (Rn.sk (nw rfl hb25) (Rn.pickF (v:=(b_ false)) trivial rfl hb25 rfl (md rfl (Rn.sk (nw (b:=false) rfl rfl) (Rn.sk (nw (b:=false) rfl rfl) (Rn.sk (nw (b:=false) rfl rfl) (Rn.sk (nw (b:=false) rfl rfl) (Rn.pickF (v:=(b_ false)) trivial rfl rfl rfl (md rfl (Rn.nil ?_))))))))))
        replace h:=si h; subst h
        exact Qh [] ⟨(sm rfl),trivial⟩ ⟨⟨_,rfl,rfl,(.same rfl)⟩,⟨_,rfl,rfl,(.same rfl)⟩,⟨_,rfl,rfl,(.same rfl)⟩,trivial⟩ rfl
      ·replace h:=bF hb22 h
       refine Rn.sk (nw rfl hb22) (Rn.sk (nw rfl hb22) (Rn.sk (nw rfl hb22) (Rn.pickF (v:=(b_ false)) trivial rfl hb22 rfl (md rfl (Rn.sk (nw (b:=false) rfl rfl) (Rn.sk (nw (b:=false) rfl rfl) (Rn.pickF (v:=(b_ false)) trivial rfl rfl rfl (md rfl (Rn.sk (nw (b:=false) rfl rfl) (Rn.sk (nw (b:=false) rfl rfl) (Rn.sk (nw (b:=false) rfl rfl) (Rn.sk (nw (b:=false) rfl rfl) (Rn.pickF (v:=(b_ false)) trivial rfl rfl rfl (md rfl (Rn.nil ?_)))))))))))))))
       replace h:=si h; subst h
       exact Qh [] ⟨(sm rfl),trivial⟩ ⟨⟨_,rfl,rfl,(.same rfl)⟩,⟨_,rfl,rfl,(.same rfl)⟩,⟨_,rfl,rfl,(.same rfl)⟩,trivial⟩ rfl
     ·replace h:=bF hb21 h
      refine Rn.sk (nw rfl hb21) (Rn.pickF (v:=(b_ false)) trivial rfl hb21 rfl (md rfl (Rn.sk (nw (b:=false) rfl rfl) (Rn.sk (nw (b:=false) rfl rfl) (Rn.sk (nw (b:=false) rfl rfl) (Rn.pickF (v:=(b_ false)) trivial rfl rfl rfl (md rfl (Rn.sk (nw (b:=false) rfl rfl) (Rn.sk (nw (b:=false) rfl rfl) (Rn.pickF (v:=(b_ false)) trivial rfl rfl rfl (md rfl (Rn.sk (nw (b:=false) rfl rfl) (Rn.sk (nw (b:=false) rfl rfl) (Rn.sk (nw (b:=false) rfl rfl) (Rn.sk (nw (b:=false) rfl rfl) (Rn.pickF (v:=(b_ false)) trivial rfl rfl rfl (md rfl (Rn.nil ?_))))))))))))))))))
      replace h:=si h; subst h
      exact Qh [] ⟨(sm rfl),trivial⟩ ⟨⟨_,rfl,rfl,(.same rfl)⟩,⟨_,rfl,rfl,(.same rfl)⟩,⟨_,rfl,rfl,(.same rfl)⟩,trivial⟩ rfl
    ·replace h:=bF hb20 h
     refine Rn.sk (nw rfl hb20) (Rn.sk (nw rfl hb20) (Rn.pickF (v:=(b_ false)) trivial rfl hb20 rfl (md rfl (Rn.sk (nw (b:=false) rfl rfl) (Rn.pickF (v:=(b_ false)) trivial rfl rfl rfl (md rfl (Rn.sk (nw (b:=false) rfl rfl) (Rn.sk (nw (b:=false) rfl rfl) (Rn.sk (nw (b:=false) rfl rfl) (Rn.pickF (v:=(b_ false)) trivial rfl rfl rfl (md rfl (Rn.sk (nw (b:=false) rfl rfl) (Rn.sk (nw (b:=false) rfl rfl) (Rn.pickF (v:=(b_ false)) trivial rfl rfl rfl (md rfl (Rn.sk (nw (b:=false) rfl rfl) (Rn.sk (nw (b:=false) rfl rfl) (Rn.sk (nw (b:=false) rfl rfl) (Rn.sk (nw (b:=false) rfl rfl) (Rn.pickF (v:=(b_ false)) trivial rfl rfl rfl (md rfl (Rn.nil ?_))))))))))))))))))))))
     replace h:=si h; subst h
     exact Qh [] ⟨(sm rfl),trivial⟩ ⟨⟨_,rfl,rfl,(.same rfl)⟩,⟨_,rfl,rfl,(.same rfl)⟩,⟨_,rfl,rfl,(.same rfl)⟩,trivial⟩ rfl
   ·replace h:=bF hb17 h
    refine Rn.sk (nw rfl hb17) (Rn.sk (nw rfl hb17) (Rn.sk (nw rfl hb17) (Rn.sk (nw rfl hb17) (Rn.sk (nw rfl hb17) (Rn.pickF (v:=(b_ false)) trivial rfl hb17 rfl (md rfl (Rn.sk (nw (b:=false) rfl rfl) (Rn.sk (nw (b:=false) rfl rfl) (Rn.pickF (v:=(b_ false)) trivial rfl rfl rfl (md rfl (Rn.sk (nw (b:=false) rfl rfl) (Rn.pickF (v:=(b_ false)) trivial rfl rfl rfl (md rfl (Rn.sk (nw (b:=false) rfl rfl) (Rn.sk (nw (b:=false) rfl rfl) (Rn.sk (nw (b:=false) rfl rfl) (Rn.pickF (v:=(b_ false)) trivial rfl rfl rfl (md rfl (Rn.sk (nw (b:=false) rfl rfl) (Rn.sk (nw (b:=false) rfl rfl) (Rn.pickF (v:=(b_ false)) trivial rfl rfl rfl (md rfl (Rn.sk (nw (b:=false) rfl rfl) (Rn.sk (nw (b:=false) rfl rfl) (Rn.sk (nw (b:=false) rfl rfl) (Rn.sk (nw (b:=false) rfl rfl) (Rn.pickF (v:=(b_ false)) trivial rfl rfl rfl (md rfl (Rn.nil ?_)))))))))))))))))))))))))))))
    replace h:=si h; subst h
    exact Qh [] ⟨(sm rfl),trivial⟩ ⟨⟨_,rfl,rfl,(.same rfl)⟩,⟨_,rfl,rfl,(.same rfl)⟩,⟨_,rfl,rfl,(.same rfl)⟩,trivial⟩ rfl
  ·replace h:=bF hb14 h
   refine Rn.sk (nw rfl hb14) (Rn.sk (nw rfl hb14) (Rn.sk (nw rfl hb14) (Rn.sk (nw rfl hb14) (Rn.sk (nw rfl hb14) (Rn.sk (nw rfl hb14) (Rn.sk (nw rfl hb14) (Rn.sk (nw rfl hb14) (Rn.pickF (v:=(b_ false)) trivial rfl hb14 rfl (md rfl (Rn.sk (nw (b:=false) rfl rfl) (Rn.sk (nw (b:=false) rfl rfl) (Rn.sk (nw (b:=false) rfl rfl) (Rn.sk (nw (b:=false) rfl rfl) (Rn.sk (nw (b:=false) rfl rfl) (Rn.pickF (v:=(b_ false)) trivial rfl rfl rfl (md rfl (Rn.sk (nw (b:=false) rfl rfl) (Rn.sk (nw (b:=false) rfl rfl) (Rn.pickF (v:=(b_ false)) trivial rfl rfl rfl (md rfl (Rn.sk (nw (b:=false) rfl rfl) (Rn.pickF (v:=(b_ false)) trivial rfl rfl rfl (md rfl (Rn.sk (nw (b:=false) rfl rfl) (Rn.sk (nw (b:=false) rfl rfl) (Rn.sk (nw (b:=false) rfl rfl) (Rn.pickF (v:=(b_ false)) trivial rfl rfl rfl (md rfl (Rn.sk (nw (b:=false) rfl rfl) (Rn.sk (nw (b:=false) rfl rfl) (Rn.pickF (v:=(b_ false)) trivial rfl rfl rfl (md rfl (Rn.sk (nw (b:=false) rfl rfl) (Rn.sk (nw (b:=false) rfl rfl) (Rn.sk (nw (b:=false) rfl rfl) (Rn.sk (nw (b:=false) rfl rfl) (Rn.pickF (v:=(b_ false)) trivial rfl rfl rfl (md rfl (Rn.nil ?_)))))))))))))))))))))))))))))))))))))))
   replace h:=si h; subst h
   exact Qh [] ⟨(sm rfl),trivial⟩ ⟨⟨_,rfl,rfl,(.same rfl)⟩,⟨_,rfl,rfl,(.same rfl)⟩,⟨_,rfl,rfl,(.same rfl)⟩,trivial⟩ rfl
 ·obtain ⟨x27,rfl⟩ : ∃ x,x = z:=⟨_,rfl⟩
  refine Tr.ret ?_
  replace h:=si h; subst h
  exact ⟨.inr rfl,(b_ x27),rfl,fun _ _ _ _ h=>h,trivial,fun k hk=>Qf hk⟩
theorem Qms {P : Program} {c : Nat} (hcf : Qv P c = some Qfe) (fuel : Nat) : Qfd P c (Qbh fuel):=by
 intro s1 r h
 refine Qcg hcf rfl fun Γ M hP hnt hM=>?_
 subst hP
 refine Tr.init [(0,.d (.int .u8 s1))] rfl ?_
 unfold Qbh at h
 unfold Qfe
 refine sr ((Rn.movTC (v:=.nils 1) trivial (nt ((sr ((Rn.movTC (v:=.nils 1) trivial (Rn.nil (toN ?_)))))))))
 refine Tr.cutB (fun (out12 : List Int)=>⟨look [(3,.own 1 (List.map (eI .i64) out12))],Qn Γ.n0 (bxs []) M,Γ.n0 + 19⟩) h (fun z h=>?_) (fun z h=>?_)
 ·refine sr ((md rfl (nt ((Tr.block ?_)))))
  refine Tr.loop (mk:=fun ((out2,i3) : (List Int) × Int)=>⟨look [(0,.d (.int .u8 s1)),(3,.own 1 (List.map (eI .i64) out2)),(4,(i_ i3))],Qn Γ.n0 (bxs []) M,Γ.n0 + 19⟩) h (by exact Ql ⟨(sm rfl),(WkV.nilsO _),(sm rfl),trivial⟩ trivial rfl) (fun k4 z h=>?_)
  ·obtain ⟨out2,i3⟩:=z
   replace h : _ = some _:=h
   refine Tr.seq (sr ((md rfl (Rn.bin trivial rfl rfl rfl (Rn.nil (toN ?_))))))
   refine Tr.cond rfl (fun hb5=>?_) (fun hb5=>?_)
   ·replace h:=ifT hb5 h
    refine Tr.skip (toN ?_)
    refine Tr.cutB (fun (out11 : List Int)=>⟨look [(0,.d (.int .u8 s1)),(3,.own 1 (List.map (eI .i64) out11)),(4,(i_ i3))],Qn Γ.n0 (bxs []) M,Γ.n0 + 19⟩) h (fun z h=>?_) (fun z h=>?_)
    ·refine Tr.block (sr ((md rfl (md rfl ?_))))
     obtain ⟨s6,h7,h⟩:=bnd h
     refine Rn.bin trivial rfl rfl (Qbfe h7) (Rn.bin trivial rfl rfl rfl (Rn.bin trivial rfl rfl rfl (Rn.nil (toN ?_))))
     refine Tr.cond rfl (fun hb8=>?_) (fun hb8=>?_)
     ·replace h:=bT hb8 h
      refine Tr.rgn (Rn.movTO trivial rfl (md rfl (Rn.bslice (xs:=[(i_ i3)]) (cs:=[(i_ i3)]) trivial rfl rfl rfl rfl ?_)))
      obtain ⟨x9,h10,h⟩:=bnd h
      refine Rn.app (e:=(eI .i64)) trivial rfl rfl rfl (Qcc rfl rfl rfl) h10 rfl (Rn.movTO trivial rfl (Rn.nil ?_))
      replace h:=si h; subst h
      exact Qh [16] ⟨(sm rfl),(sm rfl),(sm rfl),trivial⟩ trivial rfl
     ·replace h:=bF hb8 h
      refine Tr.skip ?_
      replace h:=si h; subst h
      exact Qh [] ⟨(sm rfl),(sm rfl),(sm rfl),trivial⟩ trivial rfl
    ·obtain ⟨out11,rfl⟩ : ∃ x,x = z:=⟨_,rfl⟩
     refine Tr.rgn (md rfl (Rn.bin trivial rfl rfl rfl (md rfl (Rn.nil ?_))))
     exact ⟨_,h,(by exact Ql ⟨(sm rfl),(sm rfl),(sm rfl),trivial⟩ trivial rfl)⟩
   ·replace h:=ifF hb5 h
    refine Tr.exit ?_
    replace h:=si h; subst h
    exact Qh [] ⟨(sm rfl),trivial⟩ trivial rfl
 ·obtain ⟨out12,rfl⟩ : ∃ x,x = z:=⟨_,rfl⟩
  refine sr ((Rn.movTO trivial rfl (Rn.movTO trivial rfl (nt ((Tr.ret ?_))))))
  replace h:=si h; subst h
  exact ⟨.inr rfl,(.own 1 (List.map (eI .i64) out12)),rfl,fun _ _ _ _ h=>h,trivial,fun k hk=>Qf hk⟩
theorem Qsz {P : Program} {c : Nat} (hcf : Qv P c = some Qhg) : Qfh P c (Q2):=by
 intro alphabet1 r h
 refine Qcg hcf rfl fun Γ M hP hnt hM=>?_
 subst hP
 refine Tr.init [(0,(l_ alphabet1))] rfl ?_
 unfold Q2 at h
 unfold Qhg
 refine sr ((Rn.alloc trivial rfl (nt ((sr ((Rn.bslice (xs:=[]) (cs:=[]) trivial rfl rfl rfl rfl (md rfl ?_))))))))
 obtain ⟨x2,h3,h⟩:=bnd h
 refine Rn.app0 (e:=(eI .i64)) trivial rfl rfl rfl rfl Q0t h3 rfl (Rn.buildT (v:=.agg [.own 1 (List.map (eI .i64) x2),(i_ 0),.nils 1,.nils 3]) trivial rfl (Rn.storeT (v:=.agg [.own 1 (List.map (eI .i64) x2),(i_ 0),.nils 1,.nils 3]) (ds:=[.own 1 (List.map (eI .i64) x2),(i_ 0),.nils 1,.nils 3]) (cs':=[.own 1 (List.map (eI .i64) x2),(i_ 0),.nils 1,.nils 3]) trivial rfl rfl rfl rfl rfl rfl rfl (nt ((Tr.ret ?_)))))
 replace h:=si h; subst h
 exact ⟨.inr rfl,(.agg [(l_ x2),(i_ 0),.nils 1,.nils 3]),Qhw rfl rfl rfl rfl,fun _ _ _ _ h=>h,⟨trivial,trivial,trivial,trivial,trivial⟩,fun k hk=>Qf hk⟩
theorem Qwq {P : Program} {c : Nat} (hcf : Qv P c = some Qh6) (fuel : Nat) : Qfy P c (Qbc fuel):=by
 intro a1 state2 event3 r h
 refine Qcg hcf rfl fun Γ M hP hnt hM=>?_
 subst hP
 refine Tr.init [(0,(Qa a1)),(1,(i_ state2)),(2,(i_ event3))] rfl ?_
 unfold Qbc at h
 unfold Qh6
 refine sr ((Rn.box (v:=(Qa a1)) (cs:=(Qd a1)) trivial rfl rfl rfl rfl rfl (md rfl (nt ((Tr.seq (sr ((md rfl (nt ((Tr.block ?_))))))))))))
 refine Tr.loop (mk:=fun (i4 : Int)=>⟨look [(1,(i_ state2)),(2,(i_ event3)),(3,.ptr (Γ.n0 + 3) 0),(7,(i_ i4))],Qn Γ.n0 (bxs [(3,.cells ((Qd a1)))]) M,Γ.n0 + 39⟩) h (by exact Ql ⟨(sm rfl),(sm rfl),(kPtr rfl),(sm rfl),trivial⟩ ⟨⟨_,rfl,rfl,(.same rfl)⟩,trivial⟩ rfl) (fun k5 z h=>?_)
 ·obtain ⟨i4,rfl⟩ : ∃ x,x = z:=⟨_,rfl⟩
  replace h : _ = some _:=h
  refine Tr.seq (sr ((md rfl (Rn.fldP (o':=3) trivial rfl rfl (Rn.load (v:=.d (.lst 3 (List.map Qc a1.Edges))) trivial rfl (Qk rfl) rfl rfl (Rn.lenD trivial rfl (Rn.bin trivial rfl rfl rfl (Rn.nil (toN ?_)))))))))
  refine Tr.cond rfl (fun hb6=>?_) (fun hb6=>?_)
  ·replace h:=ifT hb6 h
   refine Tr.skip (toN (Tr.seq (Tr.block ?_)))
   refine Tr.cutB (fun (x12 : Bool)=>⟨look [(1,(i_ state2)),(2,(i_ event3)),(3,.ptr (Γ.n0 + 3) 0),(7,(i_ i4)),(32,(b_ x12))],Qn Γ.n0 (bxs [(3,.cells ((Qd a1)))]) M,Γ.n0 + 39⟩) h (fun z h=>?_) (fun z h=>?_)
   ·refine Tr.rgn (Rn.fldP (o':=3) trivial rfl rfl (Rn.load (v:=.d (.lst 3 (List.map Qc a1.Edges))) trivial rfl (Qk rfl) rfl rfl (md rfl ?_)))
    obtain ⟨x7,h8,h⟩:=bnd h
    refine Rn.idxD (e:=Qc) trivial rfl rfl h8 (Rn.fldC trivial rfl (Rn.loadC (x:=.int .i64 x7.From) trivial rfl (md rfl (Rn.bin trivial rfl rfl rfl (md rfl ?_)))))
    refine Qdb (x7.From == state2) (fun hb9=>?_) (fun hb9=>?_)
    ·replace h:=bT hb9 h
     refine Rn.fldP (o':=3) (gw rfl hb9) rfl rfl (Rn.load (v:=.d (.lst 3 (List.map Qc a1.Edges))) (gw rfl hb9) rfl (Qk rfl) rfl rfl (Rn.movD (gw rfl hb9) rfl ?_))
     obtain ⟨x10,h11,h⟩:=bnd h
     refine Rn.idxD (e:=Qc) (gw rfl hb9) rfl rfl h11 (Rn.fldC (gw rfl hb9) rfl (Rn.loadC (x:=.int .i64 x10.Event) (gw rfl hb9) rfl (Rn.movD (gw rfl hb9) rfl (Rn.bin (gw rfl hb9) rfl rfl rfl (Rn.pickT (v:=(b_ (x10.Event == event3))) trivial rfl hb9 rfl (Rn.nil ?_))))))
     replace h:=si h; subst h
     exact Qh [] ⟨(sm rfl),(sm rfl),(kPtr rfl),(sm rfl),(sm rfl),trivial⟩ ⟨⟨_,rfl,rfl,(.same rfl)⟩,trivial⟩ rfl
    ·replace h:=bF hb9 h
     refine Rn.sk (nw rfl hb9) (Rn.sk (nw rfl hb9) (Rn.sk (nw rfl hb9) (Rn.sk (nw rfl hb9) (Rn.sk (nw rfl hb9) (Rn.sk (nw rfl hb9) (Rn.sk (nw rfl hb9) (Rn.sk (nw rfl hb9) (Rn.pickF (v:=(b_ false)) trivial rfl hb9 rfl (Rn.nil ?_)))))))))
     replace h:=si h; subst h
     exact Qh [] ⟨(sm rfl),(sm rfl),(kPtr rfl),(sm rfl),(sm rfl),trivial⟩ ⟨⟨_,rfl,rfl,(.same rfl)⟩,trivial⟩ rfl
   ·obtain ⟨x12,rfl⟩ : ∃ x,x = z:=⟨_,rfl⟩
    refine Tr.cond rfl (fun hb13=>?_) (fun hb13=>?_)
    ·replace h:=bT hb13 h
     refine sr ((Rn.fldP (o':=3) trivial rfl rfl (Rn.load (v:=.d (.lst 3 (List.map Qc a1.Edges))) trivial rfl (Qk rfl) rfl rfl (md rfl ?_))))
     obtain ⟨x14,h15,h⟩:=bnd h
     refine Rn.idxD (e:=Qc) trivial rfl rfl h15 (Rn.fldC trivial rfl (Rn.loadC (x:=.int .i64 x14.To) trivial rfl (md rfl (nt ((Tr.ret ?_))))))
     replace h:=si h; subst h
     exact ⟨.inr rfl,(i_ x14.To),rfl,fun _ _ _ _ h=>h,trivial,fun k hk=>Qf hk⟩
    ·replace h:=bF hb13 h
     refine Tr.skip (toN (Tr.rgn (md rfl (Rn.bin trivial rfl rfl rfl (md rfl (Rn.nil ?_))))))
     exact ⟨_,h,(by exact Ql ⟨(sm rfl),(sm rfl),(kPtr rfl),(sm rfl),trivial⟩ ⟨⟨_,rfl,rfl,(.same rfl)⟩,trivial⟩ rfl)⟩
  ·replace h:=ifF hb6 h
   refine Tr.exit (toN (sr ((md rfl (nt ((Tr.ret ?_)))))))
   replace h:=si h; subst h
   exact ⟨.inr rfl,(i_ (-1)),rfl,fun _ _ _ _ h=>h,trivial,fun k hk=>Qf hk⟩
theorem Qz6 {P : Program} {c : Nat} (hcf : Qv P c = some Qi4) (fuel : Nat) : Qgh P c (Qbf fuel):=by
 intro l1 n2 r h
 refine Qcg hcf rfl fun Γ M hP hnt hM=>?_
 subst hP
 refine Tr.init [(0,(l_ l1)),(1,(i_ n2))] rfl ?_
 unfold Qbf at h
 unfold Qi4
 refine sr ((md rfl (nt ((Tr.seq (sr ((md rfl (nt ((Tr.block ?_)))))))))))
 refine Tr.loop (mk:=fun (i3 : Int)=>⟨look [(0,(l_ l1)),(1,(i_ n2)),(5,(i_ i3))],Qn Γ.n0 (bxs []) M,Γ.n0 + 18⟩) h (by exact Ql ⟨(sm rfl),(sm rfl),(sm rfl),trivial⟩ trivial rfl) (fun k4 z h=>?_)
 ·obtain ⟨i3,rfl⟩ : ∃ x,x = z:=⟨_,rfl⟩
  replace h : _ = some _:=h
  refine Tr.seq (sr ((md rfl (md rfl (Rn.lenD trivial rfl (Rn.bin trivial rfl rfl rfl (Rn.nil (toN ?_))))))))
  refine Tr.cond rfl (fun hb5=>?_) (fun hb5=>?_)
  ·replace h:=ifT hb5 h
   refine Tr.skip (toN (Tr.seq (Tr.block (sr ((md rfl (md rfl ?_)))))))
   obtain ⟨x6,h7,h⟩:=bnd h
   refine Rn.idxD (e:=(eI .i64)) trivial rfl rfl h7 (Rn.loadC (x:=.int .i64 x6) trivial rfl (md rfl (Rn.bin trivial rfl rfl rfl (Rn.nil (toN ?_)))))
   refine Tr.cond rfl (fun hb8=>?_) (fun hb8=>?_)
   ·replace h:=bT hb8 h
    refine sr ((md rfl (nt ((Tr.ret ?_)))))
    replace h:=si h; subst h
    exact ⟨.inr rfl,(b_ true),rfl,fun _ _ _ _ h=>h,trivial,fun k hk=>Qf hk⟩
   ·replace h:=bF hb8 h
    refine Tr.skip (toN (Tr.rgn (md rfl (Rn.bin trivial rfl rfl rfl (md rfl (Rn.nil ?_))))))
    exact ⟨_,h,(by exact Ql ⟨(sm rfl),(sm rfl),(sm rfl),trivial⟩ trivial rfl)⟩
  ·replace h:=ifF hb5 h
   refine Tr.exit (toN (sr ((md rfl (nt ((Tr.ret ?_)))))))
   replace h:=si h; subst h
   exact ⟨.inr rfl,(b_ false),rfl,fun _ _ _ _ h=>h,trivial,fun k hk=>Qf hk⟩
theorem Qs0 {P : Program} {c : Nat} {Qbf : (List Int) → Int → Option Bool} {Qbc : Qb → Int → Int → Option Int}
    (H_overseerref03_has : Qgh P 73 Qbf)
    (H_overseerref03_Step : Qfy P 74 Qbc) (hcf : Qv P c = some Qhi) (fuel : Nat) : Qhh P c (Qb1 Qbf Qbc fuel):=by
 intro a1 r h
 refine Qcg hcf rfl fun Γ M hP hnt hM=>?_
 subst hP
 refine Tr.init [(0,(Qa a1))] rfl ?_
 unfold Qb1 at h
 unfold Qhi
 refine sr ((Rn.box (v:=(Qa a1)) (cs:=(Qd a1)) trivial rfl rfl rfl rfl rfl (Rn.movTC (v:=.nils 1) trivial (nt ((sr ((Rn.movTC (v:=.nils 1) trivial (Rn.nil (toN ?_))))))))))
 refine Tr.cutB (fun (out5 : List Int)=>⟨look [(1,.ptr (Γ.n0 + 1) 0),(3,.own 1 (List.map (eI .i64) out5))],Qn Γ.n0 (bxs [(1,.cells ((Qd a1)))]) M,Γ.n0 + 50⟩) h (fun z h=>?_) (fun z h=>?_)
 ·refine sr ((Rn.fldP (o':=1) trivial rfl rfl (Rn.load (v:=(i_ a1.States)) trivial rfl (Qk rfl) rfl rfl (Rn.bin trivial rfl rfl rfl (Rn.nil (toN ?_))))))
  refine Tr.cond rfl (fun hb2=>?_) (fun hb2=>?_)
  ·replace h:=ifT hb2 h
   refine Tr.rgn (Rn.movTF (v:=.nils 1) trivial rfl rfl (Rn.bslice (xs:=[(i_ 0)]) (cs:=[(i_ 0)]) trivial rfl rfl rfl rfl ?_))
   refine Rn.weak (by show WeakSt Γ _ ⟨look [(0,(Qa a1)),(1,.ptr (Γ.n0 + 1) 0),(2,.nils 1),(3,.nils 1),(7,.ptr (Γ.n0 + 1) 1),(8,(i_ a1.States)),(9,(b_ (decide (a1.States > 0)))),(10,.own 1 (List.map (eI .i64) [])),(11,.sl 1 (Γ.n0 + 11) 0 1 1)],Qn Γ.n0 (bxs [(1,.cells ((Qd a1))),(11,.cells ([(i_ 0)]))]) M,Γ.n0 + 50⟩; exact Qh [] ⟨(sm rfl),(kPtr rfl),(sm rfl),(sm rfl),(kPtr rfl),(sm rfl),(sm rfl),(WkV.nilsO _),(kSl rfl),trivial⟩ ⟨⟨_,rfl,rfl,(.same rfl)⟩,⟨_,rfl,rfl,(.same rfl)⟩,trivial⟩ rfl) ?_
   obtain ⟨x3,h4,h⟩:=bnd h
   refine Rn.app (e:=(eI .i64)) trivial rfl rfl rfl (Qcc rfl rfl rfl) h4 rfl (Rn.movTO trivial rfl (Rn.nil ?_))
   replace h:=si h; subst h
   exact Qh [11] ⟨(kPtr rfl),(sm rfl),trivial⟩ ⟨⟨_,rfl,rfl,(.same rfl)⟩,trivial⟩ rfl
  ·replace h:=ifF hb2 h
   refine Tr.skip ?_
   replace h:=si h; subst h
   exact Qh [] ⟨(kPtr rfl),(WkV.nilsO _),trivial⟩ ⟨⟨_,rfl,rfl,(.same rfl)⟩,trivial⟩ rfl
 ·obtain ⟨out5,rfl⟩ : ∃ x,x = z:=⟨_,rfl⟩
  refine Tr.cutB (fun (out29 : List Int)=>⟨look [(3,.own 1 (List.map (eI .i64) out29))],Qn Γ.n0 (bxs [(1,.cells ((Qd a1)))]) M,Γ.n0 + 50⟩) h (fun z h=>?_) (fun z h=>?_)
  ·refine sr ((md rfl (nt ((Tr.block ?_)))))
   refine Tr.loop (mk:=fun ((out6,i7) : (List Int) × Int)=>⟨look [(1,.ptr (Γ.n0 + 1) 0),(3,.own 1 (List.map (eI .i64) out6)),(4,(i_ i7))],Qn Γ.n0 (bxs [(1,.cells ((Qd a1)))]) M,Γ.n0 + 50⟩) h (by exact Ql ⟨(kPtr rfl),(sm rfl),(sm rfl),trivial⟩ ⟨⟨_,rfl,rfl,(.same rfl)⟩,trivial⟩ rfl) (fun k8 z h=>?_)
   ·obtain ⟨out6,i7⟩:=z
    replace h : _ = some _:=h
    refine Tr.seq (sr ((md rfl (Rn.mov (v:=(l_ out6)) trivial rfl (Rn.lenD trivial rfl (Rn.bin trivial rfl rfl rfl (Rn.nil (toN ?_))))))))
    refine Tr.cond rfl (fun hb9=>?_) (fun hb9=>?_)
    ·replace h:=ifT hb9 h
     refine Tr.skip (toN ?_)
     refine Tr.cutB (fun (out28 : List Int)=>⟨look [(1,.ptr (Γ.n0 + 1) 0),(3,.own 1 (List.map (eI .i64) out28)),(4,(i_ i7))],Qn Γ.n0 (bxs [(1,.cells ((Qd a1)))]) M,Γ.n0 + 50⟩) h (fun z h=>?_) (fun z h=>?_)
     ·refine Tr.block (sr ((md rfl (nt ((Tr.block ?_))))))
      refine Tr.loop (mk:=fun ((out10,k11) : (List Int) × Int)=>⟨look [(1,.ptr (Γ.n0 + 1) 0),(3,.own 1 (List.map (eI .i64) out10)),(4,(i_ i7)),(5,(i_ k11))],Qn Γ.n0 (bxs [(1,.cells ((Qd a1)))]) M,Γ.n0 + 50⟩) h (by exact Ql ⟨(kPtr rfl),(sm rfl),(sm rfl),(sm rfl),trivial⟩ ⟨⟨_,rfl,rfl,(.same rfl)⟩,trivial⟩ rfl) (fun k12 z h=>?_)
      ·obtain ⟨out10,k11⟩:=z
       replace h : _ = some _:=h
       refine Tr.seq (sr ((md rfl (Rn.fldP (o':=0) trivial rfl rfl (Rn.load (v:=(l_ a1.Alphabet)) trivial rfl (Qk rfl) rfl rfl (Rn.lenD trivial rfl (Rn.bin trivial rfl rfl rfl (Rn.nil (toN ?_)))))))))
       refine Tr.cond rfl (fun hb13=>?_) (fun hb13=>?_)
       ·replace h:=ifT hb13 h
        refine Tr.skip (toN ?_)
        refine Tr.cutB (fun (out27 : List Int)=>⟨look [(1,.ptr (Γ.n0 + 1) 0),(3,.own 1 (List.map (eI .i64) out27)),(4,(i_ i7)),(5,(i_ k11))],Qn Γ.n0 (bxs [(1,.cells ((Qd a1)))]) M,Γ.n0 + 50⟩) h (fun z h=>?_) (fun z h=>?_)
        ·refine Tr.block (Tr.seq ?_)
         refine Tr.rgnD (by decide) ?_
         refine Rn.load (v:=(Qa a1)) trivial rfl (Qk rfl) rfl rfl (Rn.mov (v:=(l_ out10)) trivial rfl (md rfl ?_))
         obtain ⟨x14,h15,h⟩:=bnd h
         refine Rn.idxD (e:=(eI .i64)) trivial rfl rfl h15 (Rn.loadC (x:=.int .i64 x14) trivial rfl (Rn.fldP (o':=0) trivial rfl rfl (Rn.load (v:=(l_ a1.Alphabet)) trivial rfl (Qk rfl) rfl rfl (md rfl ?_))))
         obtain ⟨x16,h17,h⟩:=bnd h
         refine Rn.idxD (e:=(eI .i64)) trivial rfl rfl h17 (Rn.loadC (x:=.int .i64 x16) trivial rfl ?_)
         obtain ⟨x19,h18,h⟩:=bnd h
         refine Rn.call (args:=[(Qa a1),(i_ x14),(i_ x16)]) trivial rfl (H_overseerref03_Step _ _ _ _ h18) pc0 (md rfl ?_)
         refine Rn.nil ⟨rfl,?_⟩
         refine toN ?_
         refine Tr.cutB (fun (x23 : Bool)=>⟨look [(1,.ptr (Γ.n0 + 1) 0),(3,.own 1 (List.map (eI .i64) out10)),(4,(i_ i7)),(5,(i_ k11)),(6,(i_ x19)),(44,(b_ x23))],Qn Γ.n0 (bxs [(1,.cells ((Qd a1)))]) M,Γ.n0 + 50⟩) h (fun z h=>?_) (fun z h=>?_)
         ·refine Tr.rgn (md rfl (Rn.bin trivial rfl rfl rfl (md rfl ?_)))
          refine Qdb (decide (x19 ≥ 0)) (fun hb20=>?_) (fun hb20=>?_)
          ·replace h:=ifT hb20 h
           refine Rn.mov (v:=(l_ out10)) (gw rfl hb20) rfl (Rn.movD (gw rfl hb20) rfl ?_)
           obtain ⟨x22,h21,h⟩:=bnd h
           refine Rn.call (args:=[(l_ out10),(i_ x19)]) (gw rfl hb20) rfl (H_overseerref03_has _ _ _ h21) pc9 (Rn.un (gw rfl hb20) rfl rfl (Rn.pickT (v:=(b_ (!x22))) trivial rfl hb20 rfl (Rn.nil ?_)))
           replace h:=si h; subst h
           exact Qh [] ⟨(kPtr rfl),(sm rfl),(sm rfl),(sm rfl),(sm rfl),(sm rfl),trivial⟩ ⟨⟨_,rfl,rfl,(.same rfl)⟩,trivial⟩ rfl
          ·replace h:=ifF hb20 h
           refine Rn.sk (nw rfl hb20) (Rn.sk (nw rfl hb20) (Rn.sk (nw rfl hb20) (Rn.sk (nw rfl hb20) (Rn.pickF (v:=(b_ false)) trivial rfl hb20 rfl (Rn.nil ?_)))))
           replace h:=si h; subst h
           exact Qh [] ⟨(kPtr rfl),(sm rfl),(sm rfl),(sm rfl),(sm rfl),(sm rfl),trivial⟩ ⟨⟨_,rfl,rfl,(.same rfl)⟩,trivial⟩ rfl
         ·obtain ⟨x23,rfl⟩ : ∃ x,x = z:=⟨_,rfl⟩
          refine Tr.cond rfl (fun hb24=>?_) (fun hb24=>?_)
          ·replace h:=bT hb24 h
           refine Tr.rgn (Rn.movTO trivial rfl (md rfl (Rn.bslice (xs:=[(i_ x19)]) (cs:=[(i_ x19)]) trivial rfl rfl rfl rfl ?_)))
           obtain ⟨x25,h26,h⟩:=bnd h
           refine Rn.app (e:=(eI .i64)) trivial rfl rfl rfl (Qcc rfl rfl rfl) h26 rfl (Rn.movTO trivial rfl (Rn.nil ?_))
           replace h:=si h; subst h
           exact Qh [47] ⟨(kPtr rfl),(sm rfl),(sm rfl),(sm rfl),trivial⟩ ⟨⟨_,rfl,rfl,(.same rfl)⟩,trivial⟩ rfl
          ·replace h:=bF hb24 h
           refine Tr.skip ?_
           replace h:=si h; subst h
           exact Qh [] ⟨(kPtr rfl),(sm rfl),(sm rfl),(sm rfl),trivial⟩ ⟨⟨_,rfl,rfl,(.same rfl)⟩,trivial⟩ rfl
        ·obtain ⟨out27,rfl⟩ : ∃ x,x = z:=⟨_,rfl⟩
         refine Tr.rgn (md rfl (Rn.bin trivial rfl rfl rfl (md rfl (Rn.nil ?_))))
         exact ⟨_,h,(by exact Ql ⟨(kPtr rfl),(sm rfl),(sm rfl),(sm rfl),trivial⟩ ⟨⟨_,rfl,rfl,(.same rfl)⟩,trivial⟩ rfl)⟩
       ·replace h:=ifF hb13 h
        refine Tr.exit ?_
        replace h:=si h; subst h
        exact Qh [] ⟨(kPtr rfl),(sm rfl),(sm rfl),trivial⟩ ⟨⟨_,rfl,rfl,(.same rfl)⟩,trivial⟩ rfl
     ·obtain ⟨out28,rfl⟩ : ∃ x,x = z:=⟨_,rfl⟩
      refine Tr.rgn (md rfl (Rn.bin trivial rfl rfl rfl (md rfl (Rn.nil ?_))))
      exact ⟨_,h,(by exact Ql ⟨(kPtr rfl),(sm rfl),(sm rfl),trivial⟩ ⟨⟨_,rfl,rfl,(.same rfl)⟩,trivial⟩ rfl)⟩
    ·replace h:=ifF hb9 h
     refine Tr.exit ?_
     replace h:=si h; subst h
     exact Qh [] ⟨(sm rfl),trivial⟩ ⟨⟨_,rfl,rfl,(.same rfl)⟩,trivial⟩ rfl
  ·obtain ⟨out29,rfl⟩ : ∃ x,x = z:=⟨_,rfl⟩
   refine sr ((Rn.movTO trivial rfl (Rn.movTO trivial rfl (nt ((Tr.ret ?_))))))
   replace h:=si h; subst h
   exact ⟨.inr rfl,(.own 1 (List.map (eI .i64) out29)),rfl,fun _ _ _ _ h=>h,trivial,fun k hk=>Qf hk⟩
theorem Qs1 {P : Program} {c : Nat} (hcf : Qv P c = some Qhk) (fuel : Nat) : Qhj P c (Qb2 fuel):=by
 intro l1 n2 r h
 refine Qcg hcf rfl fun Γ M hP hnt hM=>?_
 subst hP
 refine Tr.init [(0,(l_ l1)),(1,(i_ n2))] rfl ?_
 unfold Qb2 at h
 unfold Qhk
 refine sr ((md rfl (nt ((Tr.seq (sr ((md rfl (nt ((Tr.block ?_)))))))))))
 refine Tr.loop (mk:=fun (i3 : Int)=>⟨look [(0,(l_ l1)),(1,(i_ n2)),(5,(i_ i3))],Qn Γ.n0 (bxs []) M,Γ.n0 + 19⟩) h (by exact Ql ⟨(sm rfl),(sm rfl),(sm rfl),trivial⟩ trivial rfl) (fun k4 z h=>?_)
 ·obtain ⟨i3,rfl⟩ : ∃ x,x = z:=⟨_,rfl⟩
  replace h : _ = some _:=h
  refine Tr.seq (sr ((md rfl (md rfl (Rn.lenD trivial rfl (Rn.bin trivial rfl rfl rfl (Rn.nil (toN ?_))))))))
  refine Tr.cond rfl (fun hb5=>?_) (fun hb5=>?_)
  ·replace h:=ifT hb5 h
   refine Tr.skip (toN (Tr.seq (Tr.block (sr ((md rfl (md rfl ?_)))))))
   obtain ⟨x6,h7,h⟩:=bnd h
   refine Rn.idxD (e:=(eI .i64)) trivial rfl rfl h7 (Rn.loadC (x:=.int .i64 x6) trivial rfl (md rfl (Rn.bin trivial rfl rfl rfl (Rn.nil (toN ?_)))))
   refine Tr.cond rfl (fun hb8=>?_) (fun hb8=>?_)
   ·replace h:=bT hb8 h
    refine sr ((md rfl (md rfl (nt ((Tr.ret ?_))))))
    replace h:=si h; subst h
    exact ⟨.inr rfl,(i_ i3),rfl,fun _ _ _ _ h=>h,trivial,fun k hk=>Qf hk⟩
   ·replace h:=bF hb8 h
    refine Tr.skip (toN (Tr.rgn (md rfl (Rn.bin trivial rfl rfl rfl (md rfl (Rn.nil ?_))))))
    exact ⟨_,h,(by exact Ql ⟨(sm rfl),(sm rfl),(sm rfl),trivial⟩ trivial rfl)⟩
  ·replace h:=ifF hb5 h
   refine Tr.exit (toN (sr ((md rfl (nt ((Tr.ret ?_)))))))
   replace h:=si h; subst h
   exact ⟨.inr rfl,(i_ (-1)),rfl,fun _ _ _ _ h=>h,trivial,fun k hk=>Qf hk⟩
theorem Qnw {P : Program} {c : Nat} {Q2 : (List Int) → Option Qb} {Qb1 : Qb → Option ((List Int))} {Qbf : (List Int) → Int → Option Bool} {Qbc : Qb → Int → Int → Option Int} {Qb2 : (List Int) → Int → Option Int}
    (H_overseerref03_Empty : Qfh P 36 Q2)
    (H_overseerref03_Found : Qhh P 72 Qb1)
    (H_overseerref03_has : Qgh P 73 Qbf)
    (H_overseerref03_Step : Qfy P 74 Qbc)
    (H_overseerref03_index : Qhj P 75 Qb2) (hcf : Qv P c = some Qft) (fuel : Nat) : Qfs P c (Qbj Q2 Qb1 Qbf Qbc Qb2 fuel):=by
 intro a1 r h
 refine Qcg hcf rfl fun Γ M hP hnt hM=>?_
 subst hP
 refine Tr.init [(0,(Qa a1))] rfl ?_
 unfold Qbj at h
 unfold Qft
 refine sr ((Rn.box (v:=(Qa a1)) (cs:=(Qd a1)) trivial rfl rfl rfl rfl rfl (Rn.alloc trivial rfl (nt ((sr ((Rn.load (v:=(Qa a1)) trivial rfl (Qk rfl) rfl rfl ?_))))))))
 obtain ⟨x3,h2,h⟩:=bnd h
 refine Rn.call (args:=[(Qa a1)]) trivial rfl (H_overseerref03_Found _ _ h2) pc9 (Rn.movTO trivial rfl (nt ((sr ((Rn.fldP (o':=0) trivial rfl rfl (Rn.load (v:=(l_ a1.Alphabet)) trivial rfl (Qk rfl) rfl rfl ?_)))))))
 obtain ⟨x5,h4,h⟩:=bnd h
 refine Rn.call (args:=[(l_ a1.Alphabet)]) trivial rfl (H_overseerref03_Empty _ _ h4) pc9 (Rn.alloc trivial rfl (Rn.storeT (v:=.agg [(l_ x5.Alphabet),(i_ x5.States),.nils 1,.nils 3]) (ds:=[(l_ x5.Alphabet),(i_ x5.States),.nils 1,.nils 3]) (cs':=[(l_ x5.Alphabet),(i_ x5.States),.nils 1,.nils 3]) trivial rfl rfl rfl rfl rfl rfl rfl (nt ((sr ((Rn.mov (v:=(l_ x3)) trivial rfl (Rn.lenD trivial rfl (Rn.fldP (o':=1) trivial rfl rfl (Rn.store (v:=(i_ (x3.length : Int))) (cs':=[(l_ x5.Alphabet),(i_ (x3.length : Int)),.nils 1,.nils 3]) trivial rfl rfl rfl rfl rfl rfl (Rn.nil (toN ?_))))))))))))
 refine Tr.cutB (fun ((c42,c43,c44,out45,out46) : (List Int) × (List Int) × (List Qe) × (List Int) × (List Qe))=>⟨look [(2,.ptr (Γ.n0 + 2) 0),(4,.ptr (Γ.n0 + 4) 0)],Qn Γ.n0 (bxs [(1,.cells ((Qd a1))),(2,.cells ([.own 1 (List.map (eI .i64) c42),(i_ 0),.own 1 (List.map (eI .i64) c43),.own 3 (List.map Qc c44)])),(4,.cells ([(l_ x5.Alphabet),(i_ (x3.length : Int)),.own 1 (List.map (eI .i64) out45),.own 3 (List.map Qc out46)]))]) M,Γ.n0 + 71⟩) h (fun z h=>?_) (fun z h=>?_)
 ·refine sr ((md rfl (nt ((Tr.block ?_)))))
  refine Tr.loop (mk:=fun ((i6,c7,c8,c9,out10,out11) : Int × (List Int) × (List Int) × (List Qe) × (List Int) × (List Qe))=>⟨look [(1,.ptr (Γ.n0 + 1) 0),(2,.ptr (Γ.n0 + 2) 0),(3,.own 1 (List.map (eI .i64) x3)),(4,.ptr (Γ.n0 + 4) 0),(5,(i_ i6))],Qn Γ.n0 (bxs [(1,.cells ((Qd a1))),(2,.cells ([.own 1 (List.map (eI .i64) c7),(i_ 0),.own 1 (List.map (eI .i64) c8),.own 3 (List.map Qc c9)])),(4,.cells ([(l_ x5.Alphabet),(i_ (x3.length : Int)),.own 1 (List.map (eI .i64) out10),.own 3 (List.map Qc out11)]))]) M,Γ.n0 + 71⟩) h (by exact Ql ⟨(kPtr rfl),(kPtr rfl),(sm rfl),(kPtr rfl),(sm rfl),trivial⟩ ⟨⟨_,rfl,rfl,(.same rfl)⟩,⟨_,rfl,rfl,(.cons (WkV.nilsO _) (.cons (sm rfl) (.cons (WkV.nilsO _) (.cons (WkV.nilsO _) .nil))))⟩,⟨_,rfl,rfl,(.cons (sm rfl) (.cons (sm rfl) (.cons (WkV.nilsO _) (.cons (WkV.nilsO _) .nil))))⟩,trivial⟩ rfl) (fun k12 z h=>?_)
  ·obtain ⟨i6,c7,c8,c9,out10,out11⟩:=z
   replace h : _ = some _:=h
   refine Tr.seq (sr ((md rfl (Rn.mov (v:=(l_ x3)) trivial rfl (Rn.lenD trivial rfl (Rn.bin trivial rfl rfl rfl (Rn.nil (toN ?_))))))))
   refine Tr.cond rfl (fun hb13=>?_) (fun hb13=>?_)
   ·replace h:=ifT hb13 h
    refine Tr.skip (toN ?_)
    refine Tr.cutB (fun ((out40,out41) : (List Int) × (List Qe))=>⟨look [(1,.ptr (Γ.n0 + 1) 0),(2,.ptr (Γ.n0 + 2) 0),(3,.own 1 (List.map (eI .i64) x3)),(4,.ptr (Γ.n0 + 4) 0),(5,(i_ i6))],Qn Γ.n0 (bxs [(1,.cells ((Qd a1))),(2,.cells ([.own 1 (List.map (eI .i64) c7),(i_ 0),.own 1 (List.map (eI .i64) c8),.own 3 (List.map Qc c9)])),(4,.cells ([(l_ x5.Alphabet),(i_ (x3.length : Int)),.own 1 (List.map (eI .i64) out40),.own 3 (List.map Qc out41)]))]) M,Γ.n0 + 71⟩) h (fun z h=>?_) (fun z h=>?_)
    ·refine Tr.block ?_
     refine Tr.cutB (fun (out21 : List Int)=>⟨look [(1,.ptr (Γ.n0 + 1) 0),(2,.ptr (Γ.n0 + 2) 0),(3,.own 1 (List.map (eI .i64) x3)),(4,.ptr (Γ.n0 + 4) 0),(5,(i_ i6))],Qn Γ.n0 (bxs [(1,.cells ((Qd a1))),(2,.cells ([.own 1 (List.map (eI .i64) c7),(i_ 0),.own 1 (List.map (eI .i64) c8),.own 3 (List.map Qc c9)])),(4,.cells ([(l_ x5.Alphabet),(i_ (x3.length : Int)),.own 1 (List.map (eI .i64) out21),.own 3 (List.map Qc out11)]))]) M,Γ.n0 + 71⟩) h (fun z h=>?_) (fun z h=>?_)
     ·refine Tr.seq ?_
      refine Tr.rgnD (by decide) ?_
      refine Rn.fldP (o':=2) trivial rfl rfl (Rn.load (v:=(l_ a1.Marked)) trivial rfl (Qk rfl) rfl rfl (Rn.mov (v:=(l_ x3)) trivial rfl (md rfl ?_)))
      obtain ⟨x14,h15,h⟩:=bnd h
      refine Rn.idxD (e:=(eI .i64)) trivial rfl rfl h15 (Rn.loadC (x:=.int .i64 x14) trivial rfl ?_)
      obtain ⟨x17,h16,h⟩:=bnd h
      refine Rn.call (args:=[(l_ a1.Marked),(i_ x14)]) trivial rfl (H_overseerref03_has _ _ _ h16) pc0 ?_
      refine Rn.nil ⟨rfl,?_⟩
      refine toN ?_
      refine Tr.cond rfl (fun hb18=>?_) (fun hb18=>?_)
      ·replace h:=bT hb18 h
       refine Tr.rgn (Rn.fldP (o':=2) trivial rfl rfl (Rn.loadT (cs':=[(l_ x5.Alphabet),(i_ (x3.length : Int)),(l_ out10),.own 3 (List.map Qc out11)]) trivial rfl rfl rfl rfl (md rfl (Rn.bslice (xs:=[(i_ i6)]) (cs:=[(i_ i6)]) trivial rfl rfl rfl rfl ?_))))
       obtain ⟨x19,h20,h⟩:=bnd h
       refine Rn.app (e:=(eI .i64)) trivial rfl rfl rfl (Qcc rfl rfl rfl) h20 rfl (Rn.fldP (o':=2) trivial rfl rfl (Rn.storeO (cs':=[(l_ x5.Alphabet),(i_ (x3.length : Int)),.own 1 (List.map (eI .i64) x19),.own 3 (List.map Qc out11)]) trivial rfl rfl rfl rfl rfl (Rn.nil ?_)))
       replace h:=si h; subst h
       exact Qh [32] ⟨(kPtr rfl),(kPtr rfl),(sm rfl),(kPtr rfl),(sm rfl),trivial⟩ ⟨⟨_,rfl,rfl,(.same rfl)⟩,⟨_,rfl,rfl,(.same rfl)⟩,⟨_,rfl,rfl,(.same rfl)⟩,trivial⟩ rfl
      ·replace h:=bF hb18 h
       refine Tr.skip ?_
       replace h:=si h; subst h
       exact Qh [] ⟨(kPtr rfl),(kPtr rfl),(sm rfl),(kPtr rfl),(sm rfl),trivial⟩ ⟨⟨_,rfl,rfl,(.same rfl)⟩,⟨_,rfl,rfl,(.same rfl)⟩,⟨_,rfl,rfl,(.same rfl)⟩,trivial⟩ rfl
     ·obtain ⟨out21,rfl⟩ : ∃ x,x = z:=⟨_,rfl⟩
      refine sr ((md rfl (nt ((Tr.block ?_)))))
      refine Tr.loop (mk:=fun ((k22,out23) : Int × (List Qe))=>⟨look [(1,.ptr (Γ.n0 + 1) 0),(2,.ptr (Γ.n0 + 2) 0),(3,.own 1 (List.map (eI .i64) x3)),(4,.ptr (Γ.n0 + 4) 0),(5,(i_ i6)),(6,(i_ k22))],Qn Γ.n0 (bxs [(1,.cells ((Qd a1))),(2,.cells ([.own 1 (List.map (eI .i64) c7),(i_ 0),.own 1 (List.map (eI .i64) c8),.own 3 (List.map Qc c9)])),(4,.cells ([(l_ x5.Alphabet),(i_ (x3.length : Int)),.own 1 (List.map (eI .i64) out21),.own 3 (List.map Qc out23)]))]) M,Γ.n0 + 71⟩) h (by exact Ql ⟨(kPtr rfl),(kPtr rfl),(sm rfl),(kPtr rfl),(sm rfl),(sm rfl),trivial⟩ ⟨⟨_,rfl,rfl,(.same rfl)⟩,⟨_,rfl,rfl,(.same rfl)⟩,⟨_,rfl,rfl,(.same rfl)⟩,trivial⟩ rfl) (fun k24 z h=>?_)
      ·obtain ⟨k22,out23⟩:=z
       replace h : _ = some _:=h
       refine Tr.seq (sr ((md rfl (Rn.fldP (o':=0) trivial rfl rfl (Rn.load (v:=(l_ a1.Alphabet)) trivial rfl (Qk rfl) rfl rfl (Rn.lenD trivial rfl (Rn.bin trivial rfl rfl rfl (Rn.nil (toN ?_)))))))))
       refine Tr.cond rfl (fun hb25=>?_) (fun hb25=>?_)
       ·replace h:=ifT hb25 h
        refine Tr.skip (toN ?_)
        refine Tr.cutB (fun (out39 : List Qe)=>⟨look [(1,.ptr (Γ.n0 + 1) 0),(2,.ptr (Γ.n0 + 2) 0),(3,.own 1 (List.map (eI .i64) x3)),(4,.ptr (Γ.n0 + 4) 0),(5,(i_ i6)),(6,(i_ k22))],Qn Γ.n0 (bxs [(1,.cells ((Qd a1))),(2,.cells ([.own 1 (List.map (eI .i64) c7),(i_ 0),.own 1 (List.map (eI .i64) c8),.own 3 (List.map Qc c9)])),(4,.cells ([(l_ x5.Alphabet),(i_ (x3.length : Int)),.own 1 (List.map (eI .i64) out21),.own 3 (List.map Qc out39)]))]) M,Γ.n0 + 71⟩) h (fun z h=>?_) (fun z h=>?_)
        ·refine Tr.block (Tr.seq ?_)
         refine Tr.rgnD (by decide) ?_
         refine Rn.load (v:=(Qa a1)) trivial rfl (Qk rfl) rfl rfl (Rn.mov (v:=(l_ x3)) trivial rfl (md rfl ?_))
         obtain ⟨x26,h27,h⟩:=bnd h
         refine Rn.idxD (e:=(eI .i64)) trivial rfl rfl h27 (Rn.loadC (x:=.int .i64 x26) trivial rfl (Rn.fldP (o':=0) trivial rfl rfl (Rn.load (v:=(l_ a1.Alphabet)) trivial rfl (Qk rfl) rfl rfl (md rfl ?_))))
         obtain ⟨x28,h29,h⟩:=bnd h
         refine Rn.idxD (e:=(eI .i64)) trivial rfl rfl h29 (Rn.loadC (x:=.int .i64 x28) trivial rfl ?_)
         obtain ⟨x31,h30,h⟩:=bnd h
         refine Rn.call (args:=[(Qa a1),(i_ x26),(i_ x28)]) trivial rfl (H_overseerref03_Step _ _ _ _ h30) pc0 (md rfl ?_)
         refine Rn.nil ⟨rfl,?_⟩
         refine toN (sr ((md rfl (Rn.bin trivial rfl rfl rfl (Rn.nil (toN ?_))))))
         refine Tr.cond rfl (fun hb32=>?_) (fun hb32=>?_)
         ·replace h:=ifT hb32 h
          refine Tr.rgnD (by decide) ?_
          refine Rn.fldP (o':=3) trivial rfl rfl (Rn.loadT (cs':=[(l_ x5.Alphabet),(i_ (x3.length : Int)),.own 1 (List.map (eI .i64) out21),.d (.lst 3 (List.map Qc out23))]) trivial rfl rfl rfl rfl (md rfl (Rn.fldP (o':=0) trivial rfl rfl (Rn.load (v:=(l_ a1.Alphabet)) trivial rfl (Qk rfl) rfl rfl (md rfl ?_)))))
          obtain ⟨x33,h34,h⟩:=bnd h
          refine Rn.idxD (e:=(eI .i64)) trivial rfl rfl h34 (Rn.loadC (x:=.int .i64 x33) trivial rfl (Rn.mov (v:=(l_ x3)) trivial rfl (md rfl ?_)))
          obtain ⟨x36,h35,h⟩:=bnd h
          refine Rn.call (args:=[(l_ x3),(i_ x31)]) trivial rfl (H_overseerref03_index _ _ _ h35) pc2 (Rn.build (v:=.agg [(i_ i6),(i_ x33),(i_ x36)]) trivial rfl (Rn.bslice (xs:=[.agg [(i_ i6),(i_ x33),(i_ x36)]]) (cs:=[(i_ i6),(i_ x33),(i_ x36)]) trivial rfl rfl rfl rfl ?_))
          obtain ⟨x37,h38,h⟩:=bnd h
          refine Rn.app (e:=Qc) trivial rfl rfl rfl (Qcc rfl rfl rfl) h38 rfl (Rn.fldP (o':=3) trivial rfl rfl (Rn.storeO (cs':=[(l_ x5.Alphabet),(i_ (x3.length : Int)),.own 1 (List.map (eI .i64) out21),.own 3 (List.map Qc x37)]) trivial rfl rfl rfl rfl rfl ?_))
          refine Rn.nil ⟨rfl,?_⟩
          replace h:=si h; subst h
          exact Qh [67] ⟨(kPtr rfl),(kPtr rfl),(sm rfl),(kPtr rfl),(sm rfl),(sm rfl),trivial⟩ ⟨⟨_,rfl,rfl,(.same rfl)⟩,⟨_,rfl,rfl,(.same rfl)⟩,⟨_,rfl,rfl,(.same rfl)⟩,trivial⟩ rfl
         ·replace h:=ifF hb32 h
          refine Tr.skip ?_
          replace h:=si h; subst h
          exact Qh [] ⟨(kPtr rfl),(kPtr rfl),(sm rfl),(kPtr rfl),(sm rfl),(sm rfl),trivial⟩ ⟨⟨_,rfl,rfl,(.same rfl)⟩,⟨_,rfl,rfl,(.same rfl)⟩,⟨_,rfl,rfl,(.same rfl)⟩,trivial⟩ rfl
        ·obtain ⟨out39,rfl⟩ : ∃ x,x = z:=⟨_,rfl⟩
         refine Tr.rgn (md rfl (Rn.bin trivial rfl rfl rfl (md rfl (Rn.nil ?_))))
         exact ⟨_,h,(by exact Ql ⟨(kPtr rfl),(kPtr rfl),(sm rfl),(kPtr rfl),(sm rfl),(sm rfl),trivial⟩ ⟨⟨_,rfl,rfl,(.same rfl)⟩,⟨_,rfl,rfl,(.same rfl)⟩,⟨_,rfl,rfl,(.same rfl)⟩,trivial⟩ rfl)⟩
       ·replace h:=ifF hb25 h
        refine Tr.exit ?_
        replace h:=si h; subst h
        exact Qh [] ⟨(kPtr rfl),(kPtr rfl),(sm rfl),(kPtr rfl),(sm rfl),trivial⟩ ⟨⟨_,rfl,rfl,(.same rfl)⟩,⟨_,rfl,rfl,(.same rfl)⟩,⟨_,rfl,rfl,(.same rfl)⟩,trivial⟩ rfl
    ·obtain ⟨out40,out41⟩:=z
     refine Tr.rgn (md rfl (Rn.bin trivial rfl rfl rfl (md rfl (Rn.nil ?_))))
     exact ⟨_,h,(by exact Ql ⟨(kPtr rfl),(kPtr rfl),(sm rfl),(kPtr rfl),(sm rfl),trivial⟩ ⟨⟨_,rfl,rfl,(.same rfl)⟩,⟨_,rfl,rfl,(.same rfl)⟩,⟨_,rfl,rfl,(.same rfl)⟩,trivial⟩ rfl)⟩
   ·replace h:=ifF hb13 h
    refine Tr.exit ?_
    replace h:=si h; subst h
    exact Qh [] ⟨(kPtr rfl),(kPtr rfl),trivial⟩ ⟨⟨_,rfl,rfl,(.same rfl)⟩,⟨_,rfl,rfl,(.same rfl)⟩,⟨_,rfl,rfl,(.same rfl)⟩,trivial⟩ rfl
 ·obtain ⟨c42,c43,c44,out45,out46⟩:=z
  refine sr ((Rn.load (v:=.agg [(l_ x5.Alphabet),(i_ (x3.length : Int)),(l_ out45),.d (.lst 3 (List.map Qc out46))]) trivial rfl (Qk rfl) rfl rfl (Rn.storeT (v:=.agg [(l_ x5.Alphabet),(i_ (x3.length : Int)),(l_ out45),.d (.lst 3 (List.map Qc out46))]) (ds:=[(l_ x5.Alphabet),(i_ (x3.length : Int)),(l_ out45),.d (.lst 3 (List.map Qc out46))]) (cs':=[(l_ x5.Alphabet),(i_ (x3.length : Int)),(l_ out45),.d (.lst 3 (List.map Qc out46))]) trivial rfl rfl rfl rfl rfl rfl rfl (nt ((Tr.ret ?_))))))
  replace h:=si h; subst h
  exact ⟨.inr rfl,(.agg [(l_ x5.Alphabet),(i_ (x3.length : Int)),(l_ out45),.d (.lst 3 (List.map Qc out46))]),Qhw rfl rfl rfl rfl,fun _ _ _ _ h=>h,⟨trivial,trivial,trivial,trivial,trivial⟩,fun k hk=>Qf hk⟩
theorem Qwr {P : Program} {c : Nat} {Q2 : (List Int) → Option Qb} {Qbj : Qb → Option Qb}
    (H_overseerref03_Empty : Qfh P 36 Q2)
    (H_overseerref03_Canonical : Qfs P 37 Qbj) (hcf : Qv P c = some Qh8) (fuel : Nat) : Qh7 P c (Qb5 Q2 Qbj fuel):=by
 intro alphabet1 g2 r h
 refine Qcg hcf rfl fun Γ M hP hnt hM=>?_
 subst hP
 refine Tr.init [(0,(l_ alphabet1)),(1,.agg [.d (.int .u8 g2.States),.d (.int .u8 g2.Marks),.d (.int .u8 g2.To.1.1),.d (.int .u8 g2.To.1.2.1),.d (.int .u8 g2.To.1.2.2.1),.d (.int .u8 g2.To.1.2.2.2.1),.d (.int .u8 g2.To.1.2.2.2.2),.d (.int .u8 g2.To.2.1.1),.d (.int .u8 g2.To.2.1.2.1),.d (.int .u8 g2.To.2.1.2.2.1),.d (.int .u8 g2.To.2.1.2.2.2.1),.d (.int .u8 g2.To.2.1.2.2.2.2),.d (.int .u8 g2.To.2.2.1.1),.d (.int .u8 g2.To.2.2.1.2.1),.d (.int .u8 g2.To.2.2.1.2.2.1),.d (.int .u8 g2.To.2.2.1.2.2.2.1),.d (.int .u8 g2.To.2.2.1.2.2.2.2),.d (.int .u8 g2.To.2.2.2.1.1),.d (.int .u8 g2.To.2.2.2.1.2.1),.d (.int .u8 g2.To.2.2.2.1.2.2.1),.d (.int .u8 g2.To.2.2.2.1.2.2.2.1),.d (.int .u8 g2.To.2.2.2.1.2.2.2.2),.d (.int .u8 g2.To.2.2.2.2.1),.d (.int .u8 g2.To.2.2.2.2.2.1),.d (.int .u8 g2.To.2.2.2.2.2.2.1),.d (.int .u8 g2.To.2.2.2.2.2.2.2.1),.d (.int .u8 g2.To.2.2.2.2.2.2.2.2)])] rfl ?_
 unfold Qb5 at h
 unfold Qh8
 refine sr ((Rn.box (v:=.agg [.d (.int .u8 g2.States),.d (.int .u8 g2.Marks),.d (.int .u8 g2.To.1.1),.d (.int .u8 g2.To.1.2.1),.d (.int .u8 g2.To.1.2.2.1),.d (.int .u8 g2.To.1.2.2.2.1),.d (.int .u8 g2.To.1.2.2.2.2),.d (.int .u8 g2.To.2.1.1),.d (.int .u8 g2.To.2.1.2.1),.d (.int .u8 g2.To.2.1.2.2.1),.d (.int .u8 g2.To.2.1.2.2.2.1),.d (.int .u8 g2.To.2.1.2.2.2.2),.d (.int .u8 g2.To.2.2.1.1),.d (.int .u8 g2.To.2.2.1.2.1),.d (.int .u8 g2.To.2.2.1.2.2.1),.d (.int .u8 g2.To.2.2.1.2.2.2.1),.d (.int .u8 g2.To.2.2.1.2.2.2.2),.d (.int .u8 g2.To.2.2.2.1.1),.d (.int .u8 g2.To.2.2.2.1.2.1),.d (.int .u8 g2.To.2.2.2.1.2.2.1),.d (.int .u8 g2.To.2.2.2.1.2.2.2.1),.d (.int .u8 g2.To.2.2.2.1.2.2.2.2),.d (.int .u8 g2.To.2.2.2.2.1),.d (.int .u8 g2.To.2.2.2.2.2.1),.d (.int .u8 g2.To.2.2.2.2.2.2.1),.d (.int .u8 g2.To.2.2.2.2.2.2.2.1),.d (.int .u8 g2.To.2.2.2.2.2.2.2.2)]) (cs:=[.d (.int .u8 g2.States),.d (.int .u8 g2.Marks),.d (.int .u8 g2.To.1.1),.d (.int .u8 g2.To.1.2.1),.d (.int .u8 g2.To.1.2.2.1),.d (.int .u8 g2.To.1.2.2.2.1),.d (.int .u8 g2.To.1.2.2.2.2),.d (.int .u8 g2.To.2.1.1),.d (.int .u8 g2.To.2.1.2.1),.d (.int .u8 g2.To.2.1.2.2.1),.d (.int .u8 g2.To.2.1.2.2.2.1),.d (.int .u8 g2.To.2.1.2.2.2.2),.d (.int .u8 g2.To.2.2.1.1),.d (.int .u8 g2.To.2.2.1.2.1),.d (.int .u8 g2.To.2.2.1.2.2.1),.d (.int .u8 g2.To.2.2.1.2.2.2.1),.d (.int .u8 g2.To.2.2.1.2.2.2.2),.d (.int .u8 g2.To.2.2.2.1.1),.d (.int .u8 g2.To.2.2.2.1.2.1),.d (.int .u8 g2.To.2.2.2.1.2.2.1),.d (.int .u8 g2.To.2.2.2.1.2.2.2.1),.d (.int .u8 g2.To.2.2.2.1.2.2.2.2),.d (.int .u8 g2.To.2.2.2.2.1),.d (.int .u8 g2.To.2.2.2.2.2.1),.d (.int .u8 g2.To.2.2.2.2.2.2.1),.d (.int .u8 g2.To.2.2.2.2.2.2.2.1),.d (.int .u8 g2.To.2.2.2.2.2.2.2.2)]) trivial rfl rfl rfl rfl rfl (Rn.alloc trivial rfl (nt ((Tr.seq (sr ((Rn.fldP (o':=0) trivial rfl rfl (Rn.load (v:=.d (.int .u8 g2.States)) trivial rfl (Qk rfl) rfl rfl (Rn.bin trivial rfl rfl rfl (Rn.nil (toN ?_)))))))))))))
 refine Tr.cond rfl (fun hb3=>?_) (fun hb3=>?_)
 ·replace h:=ifT hb3 h
  refine sr ((md rfl ?_))
  obtain ⟨x5,h4,h⟩:=bnd h
  refine Rn.call (args:=[(l_ alphabet1)]) trivial rfl (H_overseerref03_Empty _ _ h4) pc9 (Rn.storeT (v:=.agg [(l_ x5.Alphabet),(i_ x5.States),.nils 1,.nils 3]) (ds:=[(l_ x5.Alphabet),(i_ x5.States),.nils 1,.nils 3]) (cs':=[(l_ x5.Alphabet),(i_ x5.States),.nils 1,.nils 3]) trivial rfl rfl rfl rfl rfl rfl rfl (nt ((Tr.ret ?_))))
  replace h:=si h; subst h
  exact ⟨.inr rfl,(.agg [(l_ x5.Alphabet),(i_ x5.States),.nils 1,.nils 3]),Qhw rfl rfl rfl rfl,(WkV.agg (.cons (.same rfl) (.cons (.same rfl) (.cons (WkV.nilsD _) (.cons (WkV.nilsD _) .nil))))).rd,⟨trivial,trivial,trivial,trivial,trivial⟩,fun k hk=>Qf hk⟩
 ·replace h:=ifF hb3 h
  refine Tr.skip (toN (sr ((md rfl ?_))))
  obtain ⟨x7,h6,h⟩:=bnd h
  refine Rn.call (args:=[(l_ alphabet1)]) trivial rfl (H_overseerref03_Empty _ _ h6) pc9 (Rn.alloc trivial rfl (Rn.storeT (v:=.agg [(l_ x7.Alphabet),(i_ x7.States),.nils 1,.nils 3]) (ds:=[(l_ x7.Alphabet),(i_ x7.States),.nils 1,.nils 3]) (cs':=[(l_ x7.Alphabet),(i_ x7.States),.nils 1,.nils 3]) trivial rfl rfl rfl rfl rfl rfl rfl (nt ((sr ((Rn.fldP (o':=0) trivial rfl rfl (Rn.load (v:=.d (.int .u8 g2.States)) trivial rfl (Qk rfl) rfl rfl (Rn.bin trivial rfl rfl rfl (Rn.conv trivial rfl (Rn.bin trivial rfl rfl rfl (Rn.fldP (o':=1) trivial rfl rfl (Rn.store (v:=(i_ (IntKind.wrap .i64 (1 + (IntKind.wrap .i64 (Int.tmod g2.States 5)))))) (cs':=[(l_ x7.Alphabet),(i_ (IntKind.wrap .i64 (1 + (IntKind.wrap .i64 (Int.tmod g2.States 5))))),.nils 1,.nils 3]) trivial rfl rfl rfl rfl rfl rfl (Rn.nil (toN ?_)))))))))))))))
  refine Tr.cutB (fun ((c43,c44,c45,a46,a47,a48) : (List Int) × (List Int) × (List Qe) × Int × (List Int) × (List Qe))=>⟨look [(4,.ptr (Γ.n0 + 4) 0),(5,.ptr (Γ.n0 + 5) 0)],Qn Γ.n0 (bxs [(3,.cells ([.d (.int .u8 g2.States),.d (.int .u8 g2.Marks),.d (.int .u8 g2.To.1.1),.d (.int .u8 g2.To.1.2.1),.d (.int .u8 g2.To.1.2.2.1),.d (.int .u8 g2.To.1.2.2.2.1),.d (.int .u8 g2.To.1.2.2.2.2),.d (.int .u8 g2.To.2.1.1),.d (.int .u8 g2.To.2.1.2.1),.d (.int .u8 g2.To.2.1.2.2.1),.d (.int .u8 g2.To.2.1.2.2.2.1),.d (.int .u8 g2.To.2.1.2.2.2.2),.d (.int .u8 g2.To.2.2.1.1),.d (.int .u8 g2.To.2.2.1.2.1),.d (.int .u8 g2.To.2.2.1.2.2.1),.d (.int .u8 g2.To.2.2.1.2.2.2.1),.d (.int .u8 g2.To.2.2.1.2.2.2.2),.d (.int .u8 g2.To.2.2.2.1.1),.d (.int .u8 g2.To.2.2.2.1.2.1),.d (.int .u8 g2.To.2.2.2.1.2.2.1),.d (.int .u8 g2.To.2.2.2.1.2.2.2.1),.d (.int .u8 g2.To.2.2.2.1.2.2.2.2),.d (.int .u8 g2.To.2.2.2.2.1),.d (.int .u8 g2.To.2.2.2.2.2.1),.d (.int .u8 g2.To.2.2.2.2.2.2.1),.d (.int .u8 g2.To.2.2.2.2.2.2.2.1),.d (.int .u8 g2.To.2.2.2.2.2.2.2.2)])),(4,.cells ([.own 1 (List.map (eI .i64) c43),(i_ 0),.own 1 (List.map (eI .i64) c44),.own 3 (List.map Qc c45)])),(5,.cells ([(l_ x7.Alphabet),(i_ a46),.own 1 (List.map (eI .i64) a47),.own 3 (List.map Qc a48)]))]) M,Γ.n0 + 79⟩) h (fun z h=>?_) (fun z h=>?_)
  ·refine sr ((md rfl (nt ((Tr.block ?_)))))
   refine Tr.loop (mk:=fun ((i8,c9,c10,c11,a12,a13,a14) : Int × (List Int) × (List Int) × (List Qe) × Int × (List Int) × (List Qe))=>⟨look [(0,(l_ alphabet1)),(3,.ptr (Γ.n0 + 3) 0),(4,.ptr (Γ.n0 + 4) 0),(5,.ptr (Γ.n0 + 5) 0),(6,(i_ i8))],Qn Γ.n0 (bxs [(3,.cells ([.d (.int .u8 g2.States),.d (.int .u8 g2.Marks),.d (.int .u8 g2.To.1.1),.d (.int .u8 g2.To.1.2.1),.d (.int .u8 g2.To.1.2.2.1),.d (.int .u8 g2.To.1.2.2.2.1),.d (.int .u8 g2.To.1.2.2.2.2),.d (.int .u8 g2.To.2.1.1),.d (.int .u8 g2.To.2.1.2.1),.d (.int .u8 g2.To.2.1.2.2.1),.d (.int .u8 g2.To.2.1.2.2.2.1),.d (.int .u8 g2.To.2.1.2.2.2.2),.d (.int .u8 g2.To.2.2.1.1),.d (.int .u8 g2.To.2.2.1.2.1),.d (.int .u8 g2.To.2.2.1.2.2.1),.d (.int .u8 g2.To.2.2.1.2.2.2.1),.d (.int .u8 g2.To.2.2.1.2.2.2.2),.d (.int .u8 g2.To.2.2.2.1.1),.d (.int .u8 g2.To.2.2.2.1.2.1),.d (.int .u8 g2.To.2.2.2.1.2.2.1),.d (.int .u8 g2.To.2.2.2.1.2.2.2.1),.d (.int .u8 g2.To.2.2.2.1.2.2.2.2),.d (.int .u8 g2.To.2.2.2.2.1),.d (.int .u8 g2.To.2.2.2.2.2.1),.d (.int .u8 g2.To.2.2.2.2.2.2.1),.d (.int .u8 g2.To.2.2.2.2.2.2.2.1),.d (.int .u8 g2.To.2.2.2.2.2.2.2.2)])),(4,.cells ([.own 1 (List.map (eI .i64) c9),(i_ 0),.own 1 (List.map (eI .i64) c10),.own 3 (List.map Qc c11)])),(5,.cells ([(l_ x7.Alphabet),(i_ a12),.own 1 (List.map (eI .i64) a13),.own 3 (List.map Qc a14)]))]) M,Γ.n0 + 79⟩) h (by exact Ql ⟨(sm rfl),(kPtr rfl),(kPtr rfl),(kPtr rfl),(sm rfl),trivial⟩ ⟨⟨_,rfl,rfl,(.same rfl)⟩,⟨_,rfl,rfl,(.cons (WkV.nilsO _) (.cons (sm rfl) (.cons (WkV.nilsO _) (.cons (WkV.nilsO _) .nil))))⟩,⟨_,rfl,rfl,(.cons (sm rfl) (.cons (sm rfl) (.cons (WkV.nilsO _) (.cons (WkV.nilsO _) .nil))))⟩,trivial⟩ rfl) (fun k15 z h=>?_)
   ·obtain ⟨i8,c9,c10,c11,a12,a13,a14⟩:=z
    replace h : _ = some _:=h
    refine Tr.seq (sr ((md rfl (Rn.fldP (o':=1) trivial rfl rfl (Rn.load (v:=(i_ a12)) trivial rfl (Qk rfl) rfl rfl (Rn.bin trivial rfl rfl rfl (Rn.nil (toN ?_))))))))
    refine Tr.cond rfl (fun hb16=>?_) (fun hb16=>?_)
    ·replace h:=ifT hb16 h
     refine Tr.skip (toN ?_)
     refine Tr.cutB (fun ((a41,a42) : (List Int) × (List Qe))=>⟨look [(0,(l_ alphabet1)),(3,.ptr (Γ.n0 + 3) 0),(4,.ptr (Γ.n0 + 4) 0),(5,.ptr (Γ.n0 + 5) 0),(6,(i_ i8))],Qn Γ.n0 (bxs [(3,.cells ([.d (.int .u8 g2.States),.d (.int .u8 g2.Marks),.d (.int .u8 g2.To.1.1),.d (.int .u8 g2.To.1.2.1),.d (.int .u8 g2.To.1.2.2.1),.d (.int .u8 g2.To.1.2.2.2.1),.d (.int .u8 g2.To.1.2.2.2.2),.d (.int .u8 g2.To.2.1.1),.d (.int .u8 g2.To.2.1.2.1),.d (.int .u8 g2.To.2.1.2.2.1),.d (.int .u8 g2.To.2.1.2.2.2.1),.d (.int .u8 g2.To.2.1.2.2.2.2),.d (.int .u8 g2.To.2.2.1.1),.d (.int .u8 g2.To.2.2.1.2.1),.d (.int .u8 g2.To.2.2.1.2.2.1),.d (.int .u8 g2.To.2.2.1.2.2.2.1),.d (.int .u8 g2.To.2.2.1.2.2.2.2),.d (.int .u8 g2.To.2.2.2.1.1),.d (.int .u8 g2.To.2.2.2.1.2.1),.d (.int .u8 g2.To.2.2.2.1.2.2.1),.d (.int .u8 g2.To.2.2.2.1.2.2.2.1),.d (.int .u8 g2.To.2.2.2.1.2.2.2.2),.d (.int .u8 g2.To.2.2.2.2.1),.d (.int .u8 g2.To.2.2.2.2.2.1),.d (.int .u8 g2.To.2.2.2.2.2.2.1),.d (.int .u8 g2.To.2.2.2.2.2.2.2.1),.d (.int .u8 g2.To.2.2.2.2.2.2.2.2)])),(4,.cells ([.own 1 (List.map (eI .i64) c9),(i_ 0),.own 1 (List.map (eI .i64) c10),.own 3 (List.map Qc c11)])),(5,.cells ([(l_ x7.Alphabet),(i_ a12),.own 1 (List.map (eI .i64) a41),.own 3 (List.map Qc a42)]))]) M,Γ.n0 + 79⟩) h (fun z h=>?_) (fun z h=>?_)
     ·refine Tr.block ?_
      refine Tr.cutB (fun (a22 : List Int)=>⟨look [(0,(l_ alphabet1)),(3,.ptr (Γ.n0 + 3) 0),(4,.ptr (Γ.n0 + 4) 0),(5,.ptr (Γ.n0 + 5) 0),(6,(i_ i8))],Qn Γ.n0 (bxs [(3,.cells ([.d (.int .u8 g2.States),.d (.int .u8 g2.Marks),.d (.int .u8 g2.To.1.1),.d (.int .u8 g2.To.1.2.1),.d (.int .u8 g2.To.1.2.2.1),.d (.int .u8 g2.To.1.2.2.2.1),.d (.int .u8 g2.To.1.2.2.2.2),.d (.int .u8 g2.To.2.1.1),.d (.int .u8 g2.To.2.1.2.1),.d (.int .u8 g2.To.2.1.2.2.1),.d (.int .u8 g2.To.2.1.2.2.2.1),.d (.int .u8 g2.To.2.1.2.2.2.2),.d (.int .u8 g2.To.2.2.1.1),.d (.int .u8 g2.To.2.2.1.2.1),.d (.int .u8 g2.To.2.2.1.2.2.1),.d (.int .u8 g2.To.2.2.1.2.2.2.1),.d (.int .u8 g2.To.2.2.1.2.2.2.2),.d (.int .u8 g2.To.2.2.2.1.1),.d (.int .u8 g2.To.2.2.2.1.2.1),.d (.int .u8 g2.To.2.2.2.1.2.2.1),.d (.int .u8 g2.To.2.2.2.1.2.2.2.1),.d (.int .u8 g2.To.2.2.2.1.2.2.2.2),.d (.int .u8 g2.To.2.2.2.2.1),.d (.int .u8 g2.To.2.2.2.2.2.1),.d (.int .u8 g2.To.2.2.2.2.2.2.1),.d (.int .u8 g2.To.2.2.2.2.2.2.2.1),.d (.int .u8 g2.To.2.2.2.2.2.2.2.2)])),(4,.cells ([.own 1 (List.map (eI .i64) c9),(i_ 0),.own 1 (List.map (eI .i64) c10),.own 3 (List.map Qc c11)])),(5,.cells ([(l_ x7.Alphabet),(i_ a12),.own 1 (List.map (eI .i64) a22),.own 3 (List.map Qc a14)]))]) M,Γ.n0 + 79⟩) h (fun z h=>?_) (fun z h=>?_)
      ·refine sr ((Rn.fldP (o':=1) trivial rfl rfl (Rn.load (v:=.d (.int .u8 g2.Marks)) trivial rfl (Qk rfl) rfl rfl (md rfl ?_))))
       obtain ⟨s17,h18,h⟩:=bnd h
       refine Rn.bin trivial rfl rfl (Qbfe h18) (Rn.bin trivial rfl rfl rfl (Rn.bin trivial rfl rfl rfl (Rn.nil (toN ?_))))
       refine Tr.cond rfl (fun hb19=>?_) (fun hb19=>?_)
       ·replace h:=bT hb19 h
        refine Tr.rgn (Rn.fldP (o':=2) trivial rfl rfl (Rn.loadT (cs':=[(l_ x7.Alphabet),(i_ a12),(l_ a13),.own 3 (List.map Qc a14)]) trivial rfl rfl rfl rfl (md rfl (Rn.bslice (xs:=[(i_ i8)]) (cs:=[(i_ i8)]) trivial rfl rfl rfl rfl ?_))))
        obtain ⟨x20,h21,h⟩:=bnd h
        refine Rn.app (e:=(eI .i64)) trivial rfl rfl rfl (Qcc rfl rfl rfl) h21 rfl (Rn.fldP (o':=2) trivial rfl rfl (Rn.storeO (cs':=[(l_ x7.Alphabet),(i_ a12),.own 1 (List.map (eI .i64) x20),.own 3 (List.map Qc a14)]) trivial rfl rfl rfl rfl rfl (Rn.nil ?_)))
        replace h:=si h; subst h
        exact Qh [37] ⟨(sm rfl),(kPtr rfl),(kPtr rfl),(kPtr rfl),(sm rfl),trivial⟩ ⟨⟨_,rfl,rfl,(.same rfl)⟩,⟨_,rfl,rfl,(.same rfl)⟩,⟨_,rfl,rfl,(.same rfl)⟩,trivial⟩ rfl
       ·replace h:=bF hb19 h
        refine Tr.skip ?_
        replace h:=si h; subst h
        exact Qh [] ⟨(sm rfl),(kPtr rfl),(kPtr rfl),(kPtr rfl),(sm rfl),trivial⟩ ⟨⟨_,rfl,rfl,(.same rfl)⟩,⟨_,rfl,rfl,(.same rfl)⟩,⟨_,rfl,rfl,(.same rfl)⟩,trivial⟩ rfl
      ·obtain ⟨a22,rfl⟩ : ∃ x,x = z:=⟨_,rfl⟩
       refine sr ((md rfl (nt ((Tr.block ?_)))))
       refine Tr.loop (mk:=fun ((k23,a24) : Int × (List Qe))=>⟨look [(0,(l_ alphabet1)),(3,.ptr (Γ.n0 + 3) 0),(4,.ptr (Γ.n0 + 4) 0),(5,.ptr (Γ.n0 + 5) 0),(6,(i_ i8)),(7,(i_ k23))],Qn Γ.n0 (bxs [(3,.cells ([.d (.int .u8 g2.States),.d (.int .u8 g2.Marks),.d (.int .u8 g2.To.1.1),.d (.int .u8 g2.To.1.2.1),.d (.int .u8 g2.To.1.2.2.1),.d (.int .u8 g2.To.1.2.2.2.1),.d (.int .u8 g2.To.1.2.2.2.2),.d (.int .u8 g2.To.2.1.1),.d (.int .u8 g2.To.2.1.2.1),.d (.int .u8 g2.To.2.1.2.2.1),.d (.int .u8 g2.To.2.1.2.2.2.1),.d (.int .u8 g2.To.2.1.2.2.2.2),.d (.int .u8 g2.To.2.2.1.1),.d (.int .u8 g2.To.2.2.1.2.1),.d (.int .u8 g2.To.2.2.1.2.2.1),.d (.int .u8 g2.To.2.2.1.2.2.2.1),.d (.int .u8 g2.To.2.2.1.2.2.2.2),.d (.int .u8 g2.To.2.2.2.1.1),.d (.int .u8 g2.To.2.2.2.1.2.1),.d (.int .u8 g2.To.2.2.2.1.2.2.1),.d (.int .u8 g2.To.2.2.2.1.2.2.2.1),.d (.int .u8 g2.To.2.2.2.1.2.2.2.2),.d (.int .u8 g2.To.2.2.2.2.1),.d (.int .u8 g2.To.2.2.2.2.2.1),.d (.int .u8 g2.To.2.2.2.2.2.2.1),.d (.int .u8 g2.To.2.2.2.2.2.2.2.1),.d (.int .u8 g2.To.2.2.2.2.2.2.2.2)])),(4,.cells ([.own 1 (List.map (eI .i64) c9),(i_ 0),.own 1 (List.map (eI .i64) c10),.own 3 (List.map Qc c11)])),(5,.cells ([(l_ x7.Alphabet),(i_ a12),.own 1 (List.map (eI .i64) a22),.own 3 (List.map Qc a24)]))]) M,Γ.n0 + 79⟩) h (by exact Ql ⟨(sm rfl),(kPtr rfl),(kPtr rfl),(kPtr rfl),(sm rfl),(sm rfl),trivial⟩ ⟨⟨_,rfl,rfl,(.same rfl)⟩,⟨_,rfl,rfl,(.same rfl)⟩,⟨_,rfl,rfl,(.same rfl)⟩,trivial⟩ rfl) (fun k25 z h=>?_)
       ·obtain ⟨k23,a24⟩:=z
        replace h : _ = some _:=h
        refine Tr.seq ?_
        refine Tr.cutB (fun (x27 : Bool)=>⟨look [(0,(l_ alphabet1)),(3,.ptr (Γ.n0 + 3) 0),(4,.ptr (Γ.n0 + 4) 0),(5,.ptr (Γ.n0 + 5) 0),(6,(i_ i8)),(7,(i_ k23)),(47,(b_ x27))],Qn Γ.n0 (bxs [(3,.cells ([.d (.int .u8 g2.States),.d (.int .u8 g2.Marks),.d (.int .u8 g2.To.1.1),.d (.int .u8 g2.To.1.2.1),.d (.int .u8 g2.To.1.2.2.1),.d (.int .u8 g2.To.1.2.2.2.1),.d (.int .u8 g2.To.1.2.2.2.2),.d (.int .u8 g2.To.2.1.1),.d (.int .u8 g2.To.2.1.2.1),.d (.int .u8 g2.To.2.1.2.2.1),.d (.int .u8 g2.To.2.1.2.2.2.1),.d (.int .u8 g2.To.2.1.2.2.2.2),.d (.int .u8 g2.To.2.2.1.1),.d (.int .u8 g2.To.2.2.1.2.1),.d (.int .u8 g2.To.2.2.1.2.2.1),.d (.int .u8 g2.To.2.2.1.2.2.2.1),.d (.int .u8 g2.To.2.2.1.2.2.2.2),.d (.int .u8 g2.To.2.2.2.1.1),.d (.int .u8 g2.To.2.2.2.1.2.1),.d (.int .u8 g2.To.2.2.2.1.2.2.1),.d (.int .u8 g2.To.2.2.2.1.2.2.2.1),.d (.int .u8 g2.To.2.2.2.1.2.2.2.2),.d (.int .u8 g2.To.2.2.2.2.1),.d (.int .u8 g2.To.2.2.2.2.2.1),.d (.int .u8 g2.To.2.2.2.2.2.2.1),.d (.int .u8 g2.To.2.2.2.2.2.2.2.1),.d (.int .u8 g2.To.2.2.2.2.2.2.2.2)])),(4,.cells ([.own 1 (List.map (eI .i64) c9),(i_ 0),.own 1 (List.map (eI .i64) c10),.own 3 (List.map Qc c11)])),(5,.cells ([(l_ x7.Alphabet),(i_ a12),.own 1 (List.map (eI .i64) a22),.own 3 (List.map Qc a24)]))]) M,Γ.n0 + 79⟩) h (fun z h=>?_) (fun z h=>?_)
        ·refine Tr.rgn (md rfl (md rfl (Rn.lenD trivial rfl (Rn.bin trivial rfl rfl rfl (md rfl ?_)))))
         refine Qdb (decide (k23 < (alphabet1.length : Int))) (fun hb26=>?_) (fun hb26=>?_)
         ·replace h:=ifT hb26 h
          refine Rn.movD (gw rfl hb26) rfl (Rn.bin (gw rfl hb26) rfl rfl rfl (Rn.pickT (v:=(b_ (decide (k23 < 5)))) trivial rfl hb26 rfl (Rn.nil ?_)))
          replace h:=si h; subst h
          exact Qh [] ⟨(sm rfl),(kPtr rfl),(kPtr rfl),(kPtr rfl),(sm rfl),(sm rfl),(sm rfl),trivial⟩ ⟨⟨_,rfl,rfl,(.same rfl)⟩,⟨_,rfl,rfl,(.same rfl)⟩,⟨_,rfl,rfl,(.same rfl)⟩,trivial⟩ rfl
         ·replace h:=ifF hb26 h
          refine Rn.sk (nw rfl hb26) (Rn.sk (nw rfl hb26) (Rn.pickF (v:=(b_ false)) trivial rfl hb26 rfl (Rn.nil ?_)))
          replace h:=si h; subst h
          exact Qh [] ⟨(sm rfl),(kPtr rfl),(kPtr rfl),(kPtr rfl),(sm rfl),(sm rfl),(sm rfl),trivial⟩ ⟨⟨_,rfl,rfl,(.same rfl)⟩,⟨_,rfl,rfl,(.same rfl)⟩,⟨_,rfl,rfl,(.same rfl)⟩,trivial⟩ rfl
        ·obtain ⟨x27,rfl⟩ : ∃ x,x = z:=⟨_,rfl⟩
         refine Tr.cond rfl (fun hb28=>?_) (fun hb28=>?_)
         ·replace h:=bT hb28 h
          refine Tr.skip (toN ?_)
          refine Tr.cutB (fun (a40 : List Qe)=>⟨look [(0,(l_ alphabet1)),(3,.ptr (Γ.n0 + 3) 0),(4,.ptr (Γ.n0 + 4) 0),(5,.ptr (Γ.n0 + 5) 0),(6,(i_ i8)),(7,(i_ k23))],Qn Γ.n0 (bxs [(3,.cells ([.d (.int .u8 g2.States),.d (.int .u8 g2.Marks),.d (.int .u8 g2.To.1.1),.d (.int .u8 g2.To.1.2.1),.d (.int .u8 g2.To.1.2.2.1),.d (.int .u8 g2.To.1.2.2.2.1),.d (.int .u8 g2.To.1.2.2.2.2),.d (.int .u8 g2.To.2.1.1),.d (.int .u8 g2.To.2.1.2.1),.d (.int .u8 g2.To.2.1.2.2.1),.d (.int .u8 g2.To.2.1.2.2.2.1),.d (.int .u8 g2.To.2.1.2.2.2.2),.d (.int .u8 g2.To.2.2.1.1),.d (.int .u8 g2.To.2.2.1.2.1),.d (.int .u8 g2.To.2.2.1.2.2.1),.d (.int .u8 g2.To.2.2.1.2.2.2.1),.d (.int .u8 g2.To.2.2.1.2.2.2.2),.d (.int .u8 g2.To.2.2.2.1.1),.d (.int .u8 g2.To.2.2.2.1.2.1),.d (.int .u8 g2.To.2.2.2.1.2.2.1),.d (.int .u8 g2.To.2.2.2.1.2.2.2.1),.d (.int .u8 g2.To.2.2.2.1.2.2.2.2),.d (.int .u8 g2.To.2.2.2.2.1),.d (.int .u8 g2.To.2.2.2.2.2.1),.d (.int .u8 g2.To.2.2.2.2.2.2.1),.d (.int .u8 g2.To.2.2.2.2.2.2.2.1),.d (.int .u8 g2.To.2.2.2.2.2.2.2.2)])),(4,.cells ([.own 1 (List.map (eI .i64) c9),(i_ 0),.own 1 (List.map (eI .i64) c10),.own 3 (List.map Qc c11)])),(5,.cells ([(l_ x7.Alphabet),(i_ a12),.own 1 (List.map (eI .i64) a22),.own 3 (List.map Qc a40)]))]) M,Γ.n0 + 79⟩) h (fun z h=>?_) (fun z h=>?_)
          ·refine Tr.block (Tr.seq ?_)
           refine Tr.rgnD (by decide) ?_
           refine md rfl (md rfl (Rn.fldP (o':=2) trivial rfl rfl ?_))
           obtain ⟨⟨⟩,h29,h⟩:=bnd h
           refine Rn.idxArr (o':=2 + (Int.toNat i8 * 5)) trivial rfl rfl rfl h29 ?_
           obtain ⟨⟨⟩,h30,h⟩:=bnd h
           refine Rn.idxArr (o':=2 + (Int.toNat i8 * 5 + Int.toNat k23 * 1)) trivial rfl rfl (Nat.add_assoc ..).symm h30 ?_
           obtain ⟨x31,h32,h⟩:=bnd h
           refine Rn.loadArr (e:=(fun (z : Int)=>.int .u8 z)) (pre:=[.d (.int .u8 g2.States),.d (.int .u8 g2.Marks)]) (post:=[]) trivial rfl rfl (Qk rfl) rfl rfl h32 (Rn.conv trivial rfl (Rn.fldP (o':=1) trivial rfl rfl (Rn.load (v:=(i_ a12)) trivial rfl (Qk rfl) rfl rfl (Rn.bin trivial rfl rfl rfl ?_))))
           obtain ⟨s33,h34,h⟩:=bnd h
           refine Rn.bin trivial rfl rfl (Qblu h34) (md rfl ?_)
           refine Rn.nil ⟨rfl,?_⟩
           refine toN (sr ((md rfl (Rn.fldP (o':=1) trivial rfl rfl (Rn.load (v:=(i_ a12)) trivial rfl (Qk rfl) rfl rfl (Rn.bin trivial rfl rfl rfl (Rn.nil (toN ?_))))))))
           refine Tr.cond rfl (fun hb35=>?_) (fun hb35=>?_)
           ·replace h:=ifT hb35 h
            refine Tr.rgnD (by decide) ?_
            refine Rn.fldP (o':=3) trivial rfl rfl (Rn.loadT (cs':=[(l_ x7.Alphabet),(i_ a12),.own 1 (List.map (eI .i64) a22),.d (.lst 3 (List.map Qc a24))]) trivial rfl rfl rfl rfl (md rfl (md rfl (md rfl ?_))))
            obtain ⟨x36,h37,h⟩:=bnd h
            refine Rn.idxD (e:=(eI .i64)) trivial rfl rfl h37 (Rn.loadC (x:=.int .i64 x36) trivial rfl (md rfl (Rn.build (v:=.agg [(i_ i8),(i_ x36),(i_ s33)]) trivial rfl (Rn.bslice (xs:=[.agg [(i_ i8),(i_ x36),(i_ s33)]]) (cs:=[(i_ i8),(i_ x36),(i_ s33)]) trivial rfl rfl rfl rfl ?_))))
            obtain ⟨x38,h39,h⟩:=bnd h
            refine Rn.app (e:=Qc) trivial rfl rfl rfl (Qcc rfl rfl rfl) h39 rfl (Rn.fldP (o':=3) trivial rfl rfl (Rn.storeO (cs':=[(l_ x7.Alphabet),(i_ a12),.own 1 (List.map (eI .i64) a22),.own 3 (List.map Qc x38)]) trivial rfl rfl rfl rfl rfl ?_))
            refine Rn.nil ⟨rfl,?_⟩
            replace h:=si h; subst h
            exact Qh [74] ⟨(sm rfl),(kPtr rfl),(kPtr rfl),(kPtr rfl),(sm rfl),(sm rfl),trivial⟩ ⟨⟨_,rfl,rfl,(.same rfl)⟩,⟨_,rfl,rfl,(.same rfl)⟩,⟨_,rfl,rfl,(.same rfl)⟩,trivial⟩ rfl
           ·replace h:=ifF hb35 h
            refine Tr.skip ?_
            replace h:=si h; subst h
            exact Qh [] ⟨(sm rfl),(kPtr rfl),(kPtr rfl),(kPtr rfl),(sm rfl),(sm rfl),trivial⟩ ⟨⟨_,rfl,rfl,(.same rfl)⟩,⟨_,rfl,rfl,(.same rfl)⟩,⟨_,rfl,rfl,(.same rfl)⟩,trivial⟩ rfl
          ·obtain ⟨a40,rfl⟩ : ∃ x,x = z:=⟨_,rfl⟩
           refine Tr.rgn (md rfl (Rn.bin trivial rfl rfl rfl (md rfl (Rn.nil ?_))))
           exact ⟨_,h,(by exact Ql ⟨(sm rfl),(kPtr rfl),(kPtr rfl),(kPtr rfl),(sm rfl),(sm rfl),trivial⟩ ⟨⟨_,rfl,rfl,(.same rfl)⟩,⟨_,rfl,rfl,(.same rfl)⟩,⟨_,rfl,rfl,(.same rfl)⟩,trivial⟩ rfl)⟩
         ·replace h:=bF hb28 h
          refine Tr.exit ?_
          replace h:=si h; subst h
          exact Qh [] ⟨(sm rfl),(kPtr rfl),(kPtr rfl),(kPtr rfl),(sm rfl),trivial⟩ ⟨⟨_,rfl,rfl,(.same rfl)⟩,⟨_,rfl,rfl,(.same rfl)⟩,⟨_,rfl,rfl,(.same rfl)⟩,trivial⟩ rfl
     ·obtain ⟨a41,a42⟩:=z
      refine Tr.rgn (md rfl (Rn.bin trivial rfl rfl rfl (md rfl (Rn.nil ?_))))
      exact ⟨_,h,(by exact Ql ⟨(sm rfl),(kPtr rfl),(kPtr rfl),(kPtr rfl),(sm rfl),trivial⟩ ⟨⟨_,rfl,rfl,(.same rfl)⟩,⟨_,rfl,rfl,(.same rfl)⟩,⟨_,rfl,rfl,(.same rfl)⟩,trivial⟩ rfl)⟩
    ·replace h:=ifF hb16 h
     refine Tr.exit ?_
     replace h:=si h; subst h
     exact Qh [] ⟨(kPtr rfl),(kPtr rfl),trivial⟩ ⟨⟨_,rfl,rfl,(.same rfl)⟩,⟨_,rfl,rfl,(.same rfl)⟩,⟨_,rfl,rfl,(.same rfl)⟩,trivial⟩ rfl
  ·obtain ⟨c43,c44,c45,a46,a47,a48⟩:=z
   refine sr ((Rn.load (v:=.agg [(l_ x7.Alphabet),(i_ a46),(l_ a47),.d (.lst 3 (List.map Qc a48))]) trivial rfl (Qk rfl) rfl rfl ?_))
   obtain ⟨x50,h49,h⟩:=bnd h
   refine Rn.call (args:=[.agg [(l_ x7.Alphabet),(i_ a46),(l_ a47),.d (.lst 3 (List.map Qc a48))]]) trivial rfl (H_overseerref03_Canonical _ _ h49) pc9 (Rn.storeT (v:=(Qa x50)) (ds:=(Qd x50)) (cs':=(Qd x50)) trivial rfl rfl rfl rfl rfl rfl rfl (nt ((Tr.ret ?_))))
   replace h:=si h; subst h
   exact ⟨.inr rfl,(Qa x50),Qhw rfl rfl rfl rfl,fun _ _ _ _ h=>h,⟨trivial,trivial,trivial,trivial,trivial⟩,fun k hk=>Qf hk⟩
theorem Qws {P : Program} {c : Nat} (hcf : Qv P c = some Qia) (fuel : Nat) : Qh9 P c (Qb6 fuel):=by
 intro a1 bits2 r h
 refine Qcg hcf rfl fun Γ M hP hnt hM=>?_
 subst hP
 refine Tr.init [(0,(Qa a1)),(1,.d (.int .u8 bits2))] rfl ?_
 unfold Qb6 at h
 unfold Qia
 refine sr ((Rn.box (v:=(Qa a1)) (cs:=(Qd a1)) trivial rfl rfl rfl rfl rfl (Rn.movTC (v:=.nils 1) trivial (nt ((sr ((Rn.movTC (v:=.nils 1) trivial (Rn.nil (toN ?_))))))))))
 refine Tr.cutB (fun (out15 : List Int)=>⟨look [(5,.own 1 (List.map (eI .i64) out15))],Qn Γ.n0 (bxs [(2,.cells ((Qd a1)))]) M,Γ.n0 + 27⟩) h (fun z h=>?_) (fun z h=>?_)
 ·refine sr ((md rfl (nt ((Tr.block ?_)))))
  refine Tr.loop (mk:=fun ((out3,i4) : (List Int) × Int)=>⟨look [(1,.d (.int .u8 bits2)),(2,.ptr (Γ.n0 + 2) 0),(5,.own 1 (List.map (eI .i64) out3)),(6,(i_ i4))],Qn Γ.n0 (bxs [(2,.cells ((Qd a1)))]) M,Γ.n0 + 27⟩) h (by exact Ql ⟨(sm rfl),(kPtr rfl),(WkV.nilsO _),(sm rfl),trivial⟩ ⟨⟨_,rfl,rfl,(.same rfl)⟩,trivial⟩ rfl) (fun k5 z h=>?_)
  ·obtain ⟨out3,i4⟩:=z
   replace h : _ = some _:=h
   refine Tr.seq ?_
   refine Tr.cutB (fun (x7 : Bool)=>⟨look [(1,.d (.int .u8 bits2)),(2,.ptr (Γ.n0 + 2) 0),(5,.own 1 (List.map (eI .i64) out3)),(6,(i_ i4)),(14,(b_ x7))],Qn Γ.n0 (bxs [(2,.cells ((Qd a1)))]) M,Γ.n0 + 27⟩) h (fun z h=>?_) (fun z h=>?_)
   ·refine Tr.rgn (md rfl (Rn.fldP (o':=1) trivial rfl rfl (Rn.load (v:=(i_ a1.States)) trivial rfl (Qk rfl) rfl rfl (Rn.bin trivial rfl rfl rfl (md rfl ?_)))))
    refine Qdb (decide (i4 < a1.States)) (fun hb6=>?_) (fun hb6=>?_)
    ·replace h:=ifT hb6 h
     refine Rn.movD (gw rfl hb6) rfl (Rn.bin (gw rfl hb6) rfl rfl rfl (Rn.pickT (v:=(b_ (decide (i4 < 8)))) trivial rfl hb6 rfl (Rn.nil ?_)))
     replace h:=si h; subst h
     exact Qh [] ⟨(sm rfl),(kPtr rfl),(sm rfl),(sm rfl),(sm rfl),trivial⟩ ⟨⟨_,rfl,rfl,(.same rfl)⟩,trivial⟩ rfl
    ·replace h:=ifF hb6 h
     refine Rn.sk (nw rfl hb6) (Rn.sk (nw rfl hb6) (Rn.pickF (v:=(b_ false)) trivial rfl hb6 rfl (Rn.nil ?_)))
     replace h:=si h; subst h
     exact Qh [] ⟨(sm rfl),(kPtr rfl),(sm rfl),(sm rfl),(sm rfl),trivial⟩ ⟨⟨_,rfl,rfl,(.same rfl)⟩,trivial⟩ rfl
   ·obtain ⟨x7,rfl⟩ : ∃ x,x = z:=⟨_,rfl⟩
    refine Tr.cond rfl (fun hb8=>?_) (fun hb8=>?_)
    ·replace h:=bT hb8 h
     refine Tr.skip (toN ?_)
     refine Tr.cutB (fun (out14 : List Int)=>⟨look [(1,.d (.int .u8 bits2)),(2,.ptr (Γ.n0 + 2) 0),(5,.own 1 (List.map (eI .i64) out14)),(6,(i_ i4))],Qn Γ.n0 (bxs [(2,.cells ((Qd a1)))]) M,Γ.n0 + 27⟩) h (fun z h=>?_) (fun z h=>?_)
     ·refine Tr.block (sr ((md rfl (md rfl ?_))))
      obtain ⟨s9,h10,h⟩:=bnd h
      refine Rn.bin trivial rfl rfl (Qbfe h10) (Rn.bin trivial rfl rfl rfl (Rn.bin trivial rfl rfl rfl (Rn.nil (toN ?_))))
      refine Tr.cond rfl (fun hb11=>?_) (fun hb11=>?_)
      ·replace h:=bT hb11 h
       refine Tr.rgn (Rn.movTO trivial rfl (md rfl (Rn.bslice (xs:=[(i_ i4)]) (cs:=[(i_ i4)]) trivial rfl rfl rfl rfl ?_)))
       obtain ⟨x12,h13,h⟩:=bnd h
       refine Rn.app (e:=(eI .i64)) trivial rfl rfl rfl (Qcc rfl rfl rfl) h13 rfl (Rn.movTO trivial rfl (Rn.nil ?_))
       replace h:=si h; subst h
       exact Qh [24] ⟨(sm rfl),(kPtr rfl),(sm rfl),(sm rfl),trivial⟩ ⟨⟨_,rfl,rfl,(.same rfl)⟩,trivial⟩ rfl
      ·replace h:=bF hb11 h
       refine Tr.skip ?_
       replace h:=si h; subst h
       exact Qh [] ⟨(sm rfl),(kPtr rfl),(sm rfl),(sm rfl),trivial⟩ ⟨⟨_,rfl,rfl,(.same rfl)⟩,trivial⟩ rfl
     ·obtain ⟨out14,rfl⟩ : ∃ x,x = z:=⟨_,rfl⟩
      refine Tr.rgn (md rfl (Rn.bin trivial rfl rfl rfl (md rfl (Rn.nil ?_))))
      exact ⟨_,h,(by exact Ql ⟨(sm rfl),(kPtr rfl),(sm rfl),(sm rfl),trivial⟩ ⟨⟨_,rfl,rfl,(.same rfl)⟩,trivial⟩ rfl)⟩
    ·replace h:=bF hb8 h
     refine Tr.exit ?_
     replace h:=si h; subst h
     exact Qh [] ⟨(sm rfl),trivial⟩ ⟨⟨_,rfl,rfl,(.same rfl)⟩,trivial⟩ rfl
 ·obtain ⟨out15,rfl⟩ : ∃ x,x = z:=⟨_,rfl⟩
  refine sr ((Rn.movTO trivial rfl (Rn.movTO trivial rfl (nt ((Tr.ret ?_))))))
  replace h:=si h; subst h
  exact ⟨.inr rfl,(.own 1 (List.map (eI .i64) out15)),rfl,fun _ _ _ _ h=>h,trivial,fun k hk=>Qf hk⟩
theorem Q12 {P : Program} {c : Nat} {Qt : Qb → (List Int) → Option Int} {Qu : Qb → (List Int) → Option Qg} {Qz : (List Int) → Int → Option Int} {Qr : Qg → (List Int) → (List Int) → Option ((List Int))}
    (H_projection_check : Qdo P 38 Qt)
    (H_projection_observe : Qdw P 39 Qu)
    (H_projection_checkSet : Qea P 49 Qz)
    (H_projection_observer_reach : Qc1 P 50 Qr) (hcf : Qv P c = some Qj2) : Qj1 P c (Qb3 Qt Qu Qz Qr):=by
 intro a1 xfrom2 events3 r h
 refine Qcg hcf rfl fun Γ M hP hnt hM=>?_
 subst hP
 refine Tr.init [(0,(Qa a1)),(1,(l_ xfrom2)),(2,(l_ events3))] rfl ?_
 unfold Qb3 at h
 unfold Qj2
 refine sr ((Rn.box (v:=(Qa a1)) (cs:=(Qd a1)) trivial rfl rfl rfl rfl rfl (Rn.movTC (v:=.nils 1) trivial (md rfl (nt ((Tr.seq (sr ((Rn.load (v:=(Qa a1)) trivial rfl (Qk rfl) rfl rfl (md rfl ?_)))))))))))
 obtain ⟨x5,h4,h⟩:=bnd h
 refine Rn.call (args:=[(Qa a1),(l_ events3)]) trivial rfl (H_projection_check _ _ _ h4) pc9 (md rfl (nt ((sr ((md rfl (Rn.bin trivial rfl rfl rfl (Rn.nil (toN ?_)))))))))
 refine Tr.cond rfl (fun hb6=>?_) (fun hb6=>?_)
 ·replace h:=bT hb6 h
  refine sr ((md rfl (Rn.movTC (v:=.nils 1) trivial (md rfl (nt ((Tr.ret ?_)))))))
  replace h:=si h; subst h
  exact ⟨.inr rfl,.tup [.nils 1,(i_ x5)],res2 rfl rfl,(WkV.tup (.cons (WkV.nilsD _) (.cons (.same rfl) .nil))).rd,⟨trivial,trivial,trivial⟩,fun k hk=>Qf hk⟩
 ·replace h:=bF hb6 h
  refine Tr.skip (toN (Tr.seq (sr ((md rfl (Rn.fldP (o':=1) trivial rfl rfl (Rn.load (v:=(i_ a1.States)) trivial rfl (Qk rfl) rfl rfl ?_)))))))
  obtain ⟨x8,h7,h⟩:=bnd h
  refine Rn.call (args:=[(l_ xfrom2),(i_ a1.States)]) trivial rfl (H_projection_checkSet _ _ _ h7) pc9 (md rfl (nt ((sr ((md rfl (Rn.bin trivial rfl rfl rfl (Rn.nil (toN ?_)))))))))
  refine Tr.cond rfl (fun hb9=>?_) (fun hb9=>?_)
  ·replace h:=bT hb9 h
   refine sr ((md rfl (Rn.movTC (v:=.nils 1) trivial (md rfl (nt ((Tr.ret ?_)))))))
   replace h:=si h; subst h
   exact ⟨.inr rfl,.tup [.nils 1,(i_ x8)],res2 rfl rfl,(WkV.tup (.cons (WkV.nilsD _) (.cons (.same rfl) .nil))).rd,⟨trivial,trivial,trivial⟩,fun k hk=>Qf hk⟩
  ·replace h:=bF hb9 h
   refine Tr.skip (toN (sr ((Rn.load (v:=(Qa a1)) trivial rfl (Qk rfl) rfl rfl ?_))))
   obtain ⟨x11,h10,h⟩:=bnd h
   refine Rn.call (args:=[(Qa a1),.nils 1]) trivial rfl (fun M2 nb2=>ACalls.weak (args':=[(Qa a1),(l_ [])]) (H_projection_observe _ _ _ h10 M2 nb2) (.cons (sm rfl) (.cons (WkV.nilsD _) .nil)) rfl) pc9 ?_
   refine md rfl (md rfl ?_)
   obtain ⟨x13,h12,h⟩:=bnd h
   refine Rn.call (args:=[(Qi x11),(l_ xfrom2),(l_ events3)]) trivial rfl (H_projection_observer_reach _ _ _ _ h12) pc9 (Rn.movTD trivial rfl (md rfl (nt ((Tr.ret ?_)))))
   replace h:=si h; subst h
   exact ⟨.inr rfl,.tup [(l_ x13),(i_ 0)],res2 rfl rfl,(WkV.tup (.cons (.same rfl) (.cons (.same rfl) .nil))).rd,⟨trivial,trivial,trivial⟩,fun k hk=>Qf hk⟩
theorem Qz7 {P : Program} {c : Nat} (hcf : Qv P c = some Qi5) (fuel : Nat) : Qdg P c (Qs fuel):=by
 intro l1 n2 r h
 refine Qcg hcf rfl fun Γ M hP hnt hM=>?_
 subst hP
 refine Tr.init [(0,(l_ l1)),(1,(i_ n2))] rfl ?_
 unfold Qs at h
 unfold Qi5
 refine sr ((md rfl (nt ((Tr.seq (sr ((md rfl (nt ((Tr.block ?_)))))))))))
 refine Tr.loop (mk:=fun (i3 : Int)=>⟨look [(0,(l_ l1)),(1,(i_ n2)),(5,(i_ i3))],Qn Γ.n0 (bxs []) M,Γ.n0 + 18⟩) h (by exact Ql ⟨(sm rfl),(sm rfl),(sm rfl),trivial⟩ trivial rfl) (fun k4 z h=>?_)
 ·obtain ⟨i3,rfl⟩ : ∃ x,x = z:=⟨_,rfl⟩
  replace h : _ = some _:=h
  refine Tr.seq (sr ((md rfl (md rfl (Rn.lenD trivial rfl (Rn.bin trivial rfl rfl rfl (Rn.nil (toN ?_))))))))
  refine Tr.cond rfl (fun hb5=>?_) (fun hb5=>?_)
  ·replace h:=ifT hb5 h
   refine Tr.skip (toN (Tr.seq (Tr.block (sr ((md rfl (md rfl ?_)))))))
   obtain ⟨x6,h7,h⟩:=bnd h
   refine Rn.idxD (e:=(eI .i64)) trivial rfl rfl h7 (Rn.loadC (x:=.int .i64 x6) trivial rfl (md rfl (Rn.bin trivial rfl rfl rfl (Rn.nil (toN ?_)))))
   refine Tr.cond rfl (fun hb8=>?_) (fun hb8=>?_)
   ·replace h:=bT hb8 h
    refine sr ((md rfl (nt ((Tr.ret ?_)))))
    replace h:=si h; subst h
    exact ⟨.inr rfl,(b_ true),rfl,fun _ _ _ _ h=>h,trivial,fun k hk=>Qf hk⟩
   ·replace h:=bF hb8 h
    refine Tr.skip (toN (Tr.rgn (md rfl (Rn.bin trivial rfl rfl rfl (md rfl (Rn.nil ?_))))))
    exact ⟨_,h,(by exact Ql ⟨(sm rfl),(sm rfl),(sm rfl),trivial⟩ trivial rfl)⟩
  ·replace h:=ifF hb5 h
   refine Tr.exit (toN (sr ((md rfl (nt ((Tr.ret ?_)))))))
   replace h:=si h; subst h
   exact ⟨.inr rfl,(b_ false),rfl,fun _ _ _ _ h=>h,trivial,fun k hk=>Qf hk⟩
theorem Qqv {P : Program} {c : Nat} {Qs : (List Int) → Int → Option Bool}
    (H_overseerref07_has : Qdg P 45 Qs) (hcf : Qv P c = some Qgw) (fuel : Nat) : Qgv P c (Qbu Qs fuel):=by
 intro l1 states2 r h
 refine Qcg hcf rfl fun Γ M hP hnt hM=>?_
 subst hP
 refine Tr.init [(0,(l_ l1)),(1,(i_ states2))] rfl ?_
 unfold Qbu at h
 unfold Qgw
 refine sr ((Rn.movTC (v:=.nils 1) trivial (nt ((sr ((Rn.movTC (v:=.nils 1) trivial (Rn.nil (toN ?_)))))))))
 refine Tr.cutB (fun (out13 : List Int)=>⟨look [(5,.own 1 (List.map (eI .i64) out13))],Qn Γ.n0 (bxs []) M,Γ.n0 + 20⟩) h (fun z h=>?_) (fun z h=>?_)
 ·refine sr ((md rfl (nt ((Tr.block ?_)))))
  refine Tr.loop (mk:=fun ((out3,i4) : (List Int) × Int)=>⟨look [(0,(l_ l1)),(1,(i_ states2)),(5,.own 1 (List.map (eI .i64) out3)),(6,(i_ i4))],Qn Γ.n0 (bxs []) M,Γ.n0 + 20⟩) h (by exact Ql ⟨(sm rfl),(sm rfl),(WkV.nilsO _),(sm rfl),trivial⟩ trivial rfl) (fun k5 z h=>?_)
  ·obtain ⟨out3,i4⟩:=z
   replace h : _ = some _:=h
   refine Tr.seq (sr ((md rfl (md rfl (Rn.bin trivial rfl rfl rfl (Rn.nil (toN ?_)))))))
   refine Tr.cond rfl (fun hb6=>?_) (fun hb6=>?_)
   ·replace h:=ifT hb6 h
    refine Tr.skip (toN ?_)
    refine Tr.cutB (fun (out12 : List Int)=>⟨look [(0,(l_ l1)),(1,(i_ states2)),(5,.own 1 (List.map (eI .i64) out12)),(6,(i_ i4))],Qn Γ.n0 (bxs []) M,Γ.n0 + 20⟩) h (fun z h=>?_) (fun z h=>?_)
    ·refine Tr.block (sr ((md rfl (md rfl ?_))))
     obtain ⟨x8,h7,h⟩:=bnd h
     refine Rn.call (args:=[(l_ l1),(i_ i4)]) trivial rfl (H_overseerref07_has _ _ _ h7) pc9 (Rn.nil (toN ?_))
     refine Tr.cond rfl (fun hb9=>?_) (fun hb9=>?_)
     ·replace h:=bT hb9 h
      refine Tr.rgn (Rn.movTO trivial rfl (md rfl (Rn.bslice (xs:=[(i_ i4)]) (cs:=[(i_ i4)]) trivial rfl rfl rfl rfl ?_)))
      obtain ⟨x10,h11,h⟩:=bnd h
      refine Rn.app (e:=(eI .i64)) trivial rfl rfl rfl (Qcc rfl rfl rfl) h11 rfl (Rn.movTO trivial rfl (Rn.nil ?_))
      replace h:=si h; subst h
      exact Qh [17] ⟨(sm rfl),(sm rfl),(sm rfl),(sm rfl),trivial⟩ trivial rfl
     ·replace h:=bF hb9 h
      refine Tr.skip ?_
      replace h:=si h; subst h
      exact Qh [] ⟨(sm rfl),(sm rfl),(sm rfl),(sm rfl),trivial⟩ trivial rfl
    ·obtain ⟨out12,rfl⟩ : ∃ x,x = z:=⟨_,rfl⟩
     refine Tr.rgn (md rfl (Rn.bin trivial rfl rfl rfl (md rfl (Rn.nil ?_))))
     exact ⟨_,h,(by exact Ql ⟨(sm rfl),(sm rfl),(sm rfl),(sm rfl),trivial⟩ trivial rfl)⟩
   ·replace h:=ifF hb6 h
    refine Tr.exit ?_
    replace h:=si h; subst h
    exact Qh [] ⟨(sm rfl),trivial⟩ trivial rfl
 ·obtain ⟨out13,rfl⟩ : ∃ x,x = z:=⟨_,rfl⟩
  refine sr ((Rn.movTO trivial rfl (Rn.movTO trivial rfl (nt ((Tr.ret ?_))))))
  replace h:=si h; subst h
  exact ⟨.inr rfl,(.own 1 (List.map (eI .i64) out13)),rfl,fun _ _ _ _ h=>h,trivial,fun k hk=>Qf hk⟩
theorem Qs2 {P : Program} {c : Nat} {Qs : (List Int) → Int → Option Bool} {Qbu : (List Int) → Int → Option ((List Int))}
    (H_overseerref07_has : Qdg P 45 Qs)
    (H_overseerref07_sorted : Qgv P 51 Qbu) (hcf : Qv P c = some Qhl) (fuel : Nat) : Qfi P c (Q6 Qs Qbu fuel):=by
 intro a1 xfrom2 events3 r h
 refine Qcg hcf rfl fun Γ M hP hnt hM=>?_
 subst hP
 refine Tr.init [(0,(Qa a1)),(1,(l_ xfrom2)),(2,(l_ events3))] rfl ?_
 unfold Q6 at h
 unfold Qhl
 refine sr ((Rn.box (v:=(Qa a1)) (cs:=(Qd a1)) trivial rfl rfl rfl rfl rfl (Rn.movTC (v:=.nils 1) trivial (nt ((sr ((Rn.bslice (xs:=[]) (cs:=[]) trivial rfl rfl rfl rfl (md rfl ?_)))))))))
 obtain ⟨x4,h5,h⟩:=bnd h
 refine Rn.app0 (e:=(eI .i64)) trivial rfl rfl rfl rfl Q0t h5 rfl (Rn.movTO trivial rfl (Rn.nil (toN ?_)))
 refine Tr.cutB (fun (out33 : List Int)=>⟨look [(3,.ptr (Γ.n0 + 3) 0),(7,.own 1 (List.map (eI .i64) out33))],Qn Γ.n0 (bxs [(3,.cells ((Qd a1))),(11,.cells ([]))]) M,Γ.n0 + 61⟩) h (fun z h=>?_) (fun z h=>?_)
 ·refine sr ((md rfl (nt ((Tr.block ?_)))))
  refine Tr.loop (mk:=fun ((out6,i7) : (List Int) × Int)=>⟨look [(2,(l_ events3)),(3,.ptr (Γ.n0 + 3) 0),(7,.own 1 (List.map (eI .i64) out6)),(8,(i_ i7))],Qn Γ.n0 (bxs [(3,.cells ((Qd a1))),(11,.cells ([]))]) M,Γ.n0 + 61⟩) h (by exact Ql ⟨(sm rfl),(kPtr rfl),(sm rfl),(sm rfl),trivial⟩ ⟨⟨_,rfl,rfl,(.same rfl)⟩,⟨_,rfl,rfl,(.same rfl)⟩,trivial⟩ rfl) (fun k8 z h=>?_)
  ·obtain ⟨out6,i7⟩:=z
   replace h : _ = some _:=h
   refine Tr.seq (sr ((md rfl (Rn.mov (v:=(l_ out6)) trivial rfl (Rn.lenD trivial rfl (Rn.bin trivial rfl rfl rfl (Rn.nil (toN ?_))))))))
   refine Tr.cond rfl (fun hb9=>?_) (fun hb9=>?_)
   ·replace h:=ifT hb9 h
    refine Tr.skip (toN ?_)
    refine Tr.cutB (fun (out32 : List Int)=>⟨look [(2,(l_ events3)),(3,.ptr (Γ.n0 + 3) 0),(7,.own 1 (List.map (eI .i64) out32)),(8,(i_ i7))],Qn Γ.n0 (bxs [(3,.cells ((Qd a1))),(11,.cells ([]))]) M,Γ.n0 + 61⟩) h (fun z h=>?_) (fun z h=>?_)
    ·refine Tr.block (sr ((md rfl (nt ((Tr.block ?_))))))
     refine Tr.loop (mk:=fun ((out10,k11) : (List Int) × Int)=>⟨look [(2,(l_ events3)),(3,.ptr (Γ.n0 + 3) 0),(7,.own 1 (List.map (eI .i64) out10)),(8,(i_ i7)),(9,(i_ k11))],Qn Γ.n0 (bxs [(3,.cells ((Qd a1))),(11,.cells ([]))]) M,Γ.n0 + 61⟩) h (by exact Ql ⟨(sm rfl),(kPtr rfl),(sm rfl),(sm rfl),(sm rfl),trivial⟩ ⟨⟨_,rfl,rfl,(.same rfl)⟩,⟨_,rfl,rfl,(.same rfl)⟩,trivial⟩ rfl) (fun k12 z h=>?_)
     ·obtain ⟨out10,k11⟩:=z
      replace h : _ = some _:=h
      refine Tr.seq (sr ((md rfl (Rn.fldP (o':=3) trivial rfl rfl (Rn.load (v:=.d (.lst 3 (List.map Qc a1.Edges))) trivial rfl (Qk rfl) rfl rfl (Rn.lenD trivial rfl (Rn.bin trivial rfl rfl rfl (Rn.nil (toN ?_)))))))))
      refine Tr.cond rfl (fun hb13=>?_) (fun hb13=>?_)
      ·replace h:=ifT hb13 h
       refine Tr.skip (toN ?_)
       refine Tr.cutB (fun ((out28,c29,c30,c31) : (List Int) × Int × Int × Int)=>⟨look [(2,(l_ events3)),(3,.ptr (Γ.n0 + 3) 0),(7,.own 1 (List.map (eI .i64) out28)),(8,(i_ i7)),(9,(i_ k11))],Qn Γ.n0 (bxs [(3,.cells ((Qd a1))),(10,.cells ([(i_ c29),(i_ c30),(i_ c31)])),(11,.cells ([]))]) M,Γ.n0 + 61⟩) h (fun z h=>?_) (fun z h=>?_)
       ·refine Tr.block (sr ((Rn.fldP (o':=3) trivial rfl rfl (Rn.load (v:=.d (.lst 3 (List.map Qc a1.Edges))) trivial rfl (Qk rfl) rfl rfl (md rfl ?_)))))
        obtain ⟨x14,h15,h⟩:=bnd h
        refine Rn.idxD (e:=Qc) trivial rfl rfl h15 (Rn.loadCA (vs:=(Qbg x14)) trivial rfl rfl rfl (Rn.alloc trivial rfl (Rn.store (v:=(Qbx x14)) (cs':=(Qbg x14)) trivial rfl rfl rfl rfl rfl rfl (Rn.nil (toN ?_)))))
        refine Tr.cutB (fun (x24 : Bool)=>⟨look [(2,(l_ events3)),(3,.ptr (Γ.n0 + 3) 0),(7,.own 1 (List.map (eI .i64) out10)),(8,(i_ i7)),(9,(i_ k11)),(10,.ptr (Γ.n0 + 10) 0),(51,(b_ x24))],Qn Γ.n0 (bxs [(3,.cells ((Qd a1))),(10,.cells ((Qbg x14))),(11,.cells ([]))]) M,Γ.n0 + 61⟩) h (fun z h=>?_) (fun z h=>?_)
        ·refine Tr.rgnD (by decide) ?_
         refine Rn.fldP (o':=0) trivial rfl rfl (Rn.load (v:=(i_ x14.From)) trivial rfl (Qk rfl) rfl rfl (Rn.mov (v:=(l_ out10)) trivial rfl (md rfl ?_)))
         obtain ⟨x16,h17,h⟩:=bnd h
         refine Rn.idxD (e:=(eI .i64)) trivial rfl rfl h17 (Rn.loadC (x:=.int .i64 x16) trivial rfl (Rn.bin trivial rfl rfl rfl (md rfl ?_)))
         refine Qdb (x14.From == x16) (fun hb18=>?_) (fun hb18=>?_)
         ·replace h:=bT hb18 h
          refine Rn.movD (gw rfl hb18) rfl (Rn.fldP (o':=1) (gw rfl hb18) rfl rfl (Rn.load (v:=(i_ x14.Event)) (gw rfl hb18) rfl (Qk rfl) rfl rfl ?_))
          obtain ⟨x20,h19,h⟩:=bnd h
          refine Rn.call (args:=[(l_ events3),(i_ x14.Event)]) (gw rfl hb18) rfl (H_overseerref07_has _ _ _ h19) pc0 (Rn.pickT (v:=(b_ x20)) trivial rfl hb18 rfl (md rfl ?_))
          refine Qdb x20 (fun hb21=>?_) (fun hb21=>?_)
          ·replace h:=bT hb21 h
           refine Rn.mov (v:=(l_ out10)) (gw rfl hb21) rfl (Rn.fldP (o':=2) (gw rfl hb21) rfl rfl (Rn.load (v:=(i_ x14.To)) (gw rfl hb21) rfl (Qk rfl) rfl rfl ?_))
           obtain ⟨x23,h22,h⟩:=bnd h
           refine Rn.call (args:=[(l_ out10),(i_ x14.To)]) (gw rfl hb21) rfl (H_overseerref07_has _ _ _ h22) pc0 (Rn.un (gw rfl hb21) rfl rfl (Rn.pickT (v:=(b_ (!x23))) trivial rfl hb21 rfl ?_))
           refine Rn.nil ⟨rfl,?_⟩
           replace h:=si h; subst h
           exact Qh [] ⟨(sm rfl),(kPtr rfl),(sm rfl),(sm rfl),(sm rfl),(kPtr rfl),(sm rfl),trivial⟩ ⟨⟨_,rfl,rfl,(.same rfl)⟩,⟨_,rfl,rfl,(.same rfl)⟩,⟨_,rfl,rfl,(.same rfl)⟩,trivial⟩ rfl
          ·replace h:=bF hb21 h
           refine Rn.sk (nw rfl hb21) (Rn.sk (nw rfl hb21) (Rn.sk (nw rfl hb21) (Rn.sk (nw rfl hb21) (Rn.sk (nw rfl hb21) (Rn.pickF (v:=(b_ false)) trivial rfl hb21 rfl ?_)))))
           refine Rn.nil ⟨rfl,?_⟩
           replace h:=si h; subst h
           exact Qh [] ⟨(sm rfl),(kPtr rfl),(sm rfl),(sm rfl),(sm rfl),(kPtr rfl),(sm rfl),trivial⟩ ⟨⟨_,rfl,rfl,(.same rfl)⟩,⟨_,rfl,rfl,(.same rfl)⟩,⟨_,rfl,rfl,(.same rfl)⟩,trivial⟩ rfl
         ·replace h:=bF hb18 h
          refine Rn.sk (nw rfl hb18) (Rn.sk (nw rfl hb18) (Rn.sk (nw rfl hb18) (Rn.sk (nw rfl hb18) (Rn.pickF (v:=(b_ false)) trivial rfl hb18 rfl (md rfl (Rn.sk (nw (b:=false) rfl rfl) (Rn.sk (nw (b:=false) rfl rfl) (Rn.sk (nw (b:=false) rfl rfl) (Rn.sk (nw (b:=false) rfl rfl) (Rn.sk (nw (b:=false) rfl rfl) (Rn.pickF (v:=(b_ false)) trivial rfl rfl rfl ?_)))))))))))
          refine Rn.nil ⟨rfl,?_⟩
          replace h:=si h; subst h
          exact Qh [] ⟨(sm rfl),(kPtr rfl),(sm rfl),(sm rfl),(sm rfl),(kPtr rfl),(sm rfl),trivial⟩ ⟨⟨_,rfl,rfl,(.same rfl)⟩,⟨_,rfl,rfl,(.same rfl)⟩,⟨_,rfl,rfl,(.same rfl)⟩,trivial⟩ rfl
        ·obtain ⟨x24,rfl⟩ : ∃ x,x = z:=⟨_,rfl⟩
         refine Tr.cond rfl (fun hb25=>?_) (fun hb25=>?_)
         ·replace h:=bT hb25 h
          refine Tr.rgn (Rn.movTO trivial rfl (Rn.fldP (o':=2) trivial rfl rfl (Rn.load (v:=(i_ x14.To)) trivial rfl (Qk rfl) rfl rfl (Rn.bslice (xs:=[(i_ x14.To)]) (cs:=[(i_ x14.To)]) trivial rfl rfl rfl rfl ?_))))
          obtain ⟨x26,h27,h⟩:=bnd h
          refine Rn.app (e:=(eI .i64)) trivial rfl rfl rfl (Qcc rfl rfl rfl) h27 rfl (Rn.movTO trivial rfl (Rn.nil ?_))
          replace h:=si h; subst h
          exact Qh [55] ⟨(sm rfl),(kPtr rfl),(sm rfl),(sm rfl),(sm rfl),trivial⟩ ⟨⟨_,rfl,rfl,(.same rfl)⟩,⟨_,rfl,rfl,(.same rfl)⟩,⟨_,rfl,rfl,(.same rfl)⟩,trivial⟩ rfl
         ·replace h:=bF hb25 h
          refine Tr.skip ?_
          replace h:=si h; subst h
          exact Qh [] ⟨(sm rfl),(kPtr rfl),(sm rfl),(sm rfl),(sm rfl),trivial⟩ ⟨⟨_,rfl,rfl,(.same rfl)⟩,⟨_,rfl,rfl,(.same rfl)⟩,⟨_,rfl,rfl,(.same rfl)⟩,trivial⟩ rfl
       ·obtain ⟨out28,c29,c30,c31⟩:=z
        refine Tr.rgn (md rfl (Rn.bin trivial rfl rfl rfl (md rfl (Rn.nil ?_))))
        exact ⟨_,h,(by exact Ql ⟨(sm rfl),(kPtr rfl),(sm rfl),(sm rfl),(sm rfl),trivial⟩ ⟨⟨_,rfl,rfl,(.same rfl)⟩,⟨_,rfl,rfl,(.same rfl)⟩,trivial⟩ rfl)⟩
      ·replace h:=ifF hb13 h
       refine Tr.exit ?_
       replace h:=si h; subst h
       exact Qh [] ⟨(sm rfl),(kPtr rfl),(sm rfl),(sm rfl),trivial⟩ ⟨⟨_,rfl,rfl,(.same rfl)⟩,⟨_,rfl,rfl,(.same rfl)⟩,trivial⟩ rfl
    ·obtain ⟨out32,rfl⟩ : ∃ x,x = z:=⟨_,rfl⟩
     refine Tr.rgn (md rfl (Rn.bin trivial rfl rfl rfl (md rfl (Rn.nil ?_))))
     exact ⟨_,h,(by exact Ql ⟨(sm rfl),(kPtr rfl),(sm rfl),(sm rfl),trivial⟩ ⟨⟨_,rfl,rfl,(.same rfl)⟩,⟨_,rfl,rfl,(.same rfl)⟩,trivial⟩ rfl)⟩
   ·replace h:=ifF hb9 h
    refine Tr.exit ?_
    replace h:=si h; subst h
    exact Qh [] ⟨(kPtr rfl),(sm rfl),trivial⟩ ⟨⟨_,rfl,rfl,(.same rfl)⟩,⟨_,rfl,rfl,(.same rfl)⟩,trivial⟩ rfl
 ·obtain ⟨out33,rfl⟩ : ∃ x,x = z:=⟨_,rfl⟩
  refine sr ((Rn.mov (v:=(l_ out33)) trivial rfl (Rn.fldP (o':=1) trivial rfl rfl (Rn.load (v:=(i_ a1.States)) trivial rfl (Qk rfl) rfl rfl ?_))))
  obtain ⟨x35,h34,h⟩:=bnd h
  refine Rn.call (args:=[(l_ out33),(i_ a1.States)]) trivial rfl (H_overseerref07_sorted _ _ _ h34) pc9 (Rn.movTO trivial rfl (nt ((Tr.ret ?_))))
  replace h:=si h; subst h
  exact ⟨.inr rfl,(.own 1 (List.map (eI .i64) x35)),rfl,fun _ _ _ _ h=>h,trivial,fun k hk=>Qf hk⟩
theorem Q4v {P : Program} {c : Nat} {Qt : Qb → (List Int) → Option Int} {Qu : Qb → (List Int) → Option Qg} {Qy : Qg → (List Int) → Int → Option ((List Int))} {Qz : (List Int) → Int → Option Int} {Qw : Qg → (List Int) → Option Bool}
    (H_projection_check : Qdo P 38 Qt)
    (H_projection_observe : Qdw P 39 Qu)
    (H_projection_observer_next : Qdz P 43 Qy)
    (H_projection_checkSet : Qea P 49 Qz)
    (H_projection_observer_known : Qdp P 52 Qw) (hcf : Qv P c = some Qld) : Qlc P c (Qce Qt Qu Qy Qz Qw):=by
 intro a1 onto2 estimate3 event4 r h
 refine Qcg hcf rfl fun Γ M hP hnt hM=>?_
 subst hP
 refine Tr.init [(0,(Qa a1)),(1,(l_ onto2)),(2,(l_ estimate3)),(3,(i_ event4))] rfl ?_
 unfold Qce at h
 unfold Qld
 refine sr ((Rn.box (v:=(Qa a1)) (cs:=(Qd a1)) trivial rfl rfl rfl rfl rfl (Rn.movTC (v:=.nils 1) trivial (md rfl (nt ((Tr.seq (sr ((Rn.load (v:=(Qa a1)) trivial rfl (Qk rfl) rfl rfl (md rfl ?_)))))))))))
 obtain ⟨x6,h5,h⟩:=bnd h
 refine Rn.call (args:=[(Qa a1),(l_ onto2)]) trivial rfl (H_projection_check _ _ _ h5) pc9 (md rfl (nt ((sr ((md rfl (Rn.bin trivial rfl rfl rfl (Rn.nil (toN ?_)))))))))
 refine Tr.cond rfl (fun hb7=>?_) (fun hb7=>?_)
 ·replace h:=bT hb7 h
  refine sr ((md rfl (Rn.movTC (v:=.nils 1) trivial (md rfl (nt ((Tr.ret ?_)))))))
  replace h:=si h; subst h
  exact ⟨.inr rfl,.tup [.nils 1,(i_ x6)],res2 rfl rfl,(WkV.tup (.cons (WkV.nilsD _) (.cons (.same rfl) .nil))).rd,⟨trivial,trivial,trivial⟩,fun k hk=>Qf hk⟩
 ·replace h:=bF hb7 h
  refine Tr.skip (toN (Tr.seq (sr ((md rfl (Rn.fldP (o':=1) trivial rfl rfl (Rn.load (v:=(i_ a1.States)) trivial rfl (Qk rfl) rfl rfl ?_)))))))
  obtain ⟨x9,h8,h⟩:=bnd h
  refine Rn.call (args:=[(l_ estimate3),(i_ a1.States)]) trivial rfl (H_projection_checkSet _ _ _ h8) pc9 (md rfl (nt ((sr ((md rfl (Rn.bin trivial rfl rfl rfl (Rn.nil (toN ?_)))))))))
  refine Tr.cond rfl (fun hb10=>?_) (fun hb10=>?_)
  ·replace h:=bT hb10 h
   refine sr ((md rfl (Rn.movTC (v:=.nils 1) trivial (md rfl (nt ((Tr.ret ?_)))))))
   replace h:=si h; subst h
   exact ⟨.inr rfl,.tup [.nils 1,(i_ x9)],res2 rfl rfl,(WkV.tup (.cons (WkV.nilsD _) (.cons (.same rfl) .nil))).rd,⟨trivial,trivial,trivial⟩,fun k hk=>Qf hk⟩
  ·replace h:=bF hb10 h
   refine Tr.skip (toN (sr ((Rn.load (v:=(Qa a1)) trivial rfl (Qk rfl) rfl rfl (md rfl ?_)))))
   obtain ⟨x12,h11,h⟩:=bnd h
   refine Rn.call (args:=[(Qa a1),(l_ onto2)]) trivial rfl (H_projection_observe _ _ _ h11) pc9 (Rn.alloc trivial rfl (Rn.storeT (v:=(Qi x12)) (ds:=(Qo x12)) (cs':=(Qo x12)) trivial rfl rfl rfl rfl rfl rfl rfl (nt ((Tr.seq (sr ((Rn.load (v:=(Qi x12)) trivial rfl (Qk rfl) rfl rfl (md rfl (Rn.bslice (xs:=[(i_ event4)]) (cs:=[(i_ event4)]) trivial rfl rfl rfl rfl ?_))))))))))
   refine Rn.weak (by show WeakSt Γ _ ⟨look [(0,(Qa a1)),(1,(l_ onto2)),(2,(l_ estimate3)),(3,(i_ event4)),(4,.ptr (Γ.n0 + 4) 0),(8,.nils 1),(9,(i_ 0)),(10,(i_ x6)),(11,(i_ x9)),(12,.ptr (Γ.n0 + 12) 0),(13,(Qa a1)),(14,(l_ onto2)),(15,(i_ x6)),(16,(i_ x6)),(17,(b_ (x6 != 0))),(19,(l_ estimate3)),(20,.ptr (Γ.n0 + 4) 1),(21,(i_ a1.States)),(22,(i_ x9)),(23,(i_ x9)),(24,(b_ (x9 != 0))),(26,(Qa a1)),(27,(l_ onto2)),(28,(Qi x12)),(29,(Qi x12)),(30,(i_ event4)),(31,(l_ [event4]))],Qn Γ.n0 (bxs [(4,.cells ((Qd a1))),(12,.cells ((Qo x12)))]) M,Γ.n0 + 38⟩; exact Qck 31 [.int .i64 event4] rfl rfl ⟨(.same rfl),(.same rfl),(.same rfl),(.same rfl),(fPtr rfl),(.same rfl),(.same rfl),(.same rfl),(.same rfl),(fPtr rfl),(.same rfl),(.same rfl),(.same rfl),(.same rfl),(.same rfl),(.same rfl),(fPtr rfl),(.same rfl),(.same rfl),(.same rfl),(.same rfl),(.same rfl),(.same rfl),(.same rfl),(.same rfl),(.same rfl),(fSl rfl rfl),trivial⟩ ⟨⟨_,rfl,rfl,(.same rfl)⟩,⟨_,rfl,rfl,(.same rfl)⟩,trivial⟩ rfl) ?_
   obtain ⟨x14,h13,h⟩:=bnd h
   refine Rn.call (args:=[(Qi x12),(l_ [event4])]) trivial rfl (H_projection_observer_known _ _ _ h13) pc9 (Rn.un trivial rfl rfl (Rn.nil (toN ?_)))
   refine Tr.cond rfl (fun hb15=>?_) (fun hb15=>?_)
   ·have hb15:=nT' hb15
    replace h:=bF hb15 h
    refine sr ((Rn.movTC (v:=.nils 1) trivial (md rfl (nt ((Tr.ret ?_))))))
    replace h:=si h; subst h
    exact ⟨.inr rfl,.tup [.nils 1,(i_ 9)],res2 rfl rfl,(WkV.tup (.cons (WkV.nilsD _) (.cons (.same rfl) .nil))).rd,⟨trivial,trivial,trivial⟩,fun k hk=>Qf hk⟩
   ·have hb15:=nF' hb15
    replace h:=bT hb15 h
    refine Tr.skip (toN (sr ((Rn.load (v:=(Qi x12)) trivial rfl (Qk rfl) rfl rfl (md rfl (md rfl ?_))))))
    obtain ⟨x17,h16,h⟩:=bnd h
    refine Rn.call (args:=[(Qi x12),(l_ estimate3),(i_ event4)]) trivial rfl (H_projection_observer_next _ _ _ _ h16) pc9 (Rn.movTD trivial rfl (md rfl (nt ((Tr.ret ?_)))))
    replace h:=si h; subst h
    exact ⟨.inr rfl,.tup [(l_ x17),(i_ 0)],res2 rfl rfl,(WkV.tup (.cons (.same rfl) (.cons (.same rfl) .nil))).rd,⟨trivial,trivial,trivial⟩,fun k hk=>Qf hk⟩
theorem Qwt {P : Program} {c : Nat} {Qs : (List Int) → Int → Option Bool}
    (H_overseerref07_has : Qdg P 45 Qs) (hcf : Qv P c = some Qic) (fuel : Nat) : Qib P c (Qb7 Qs fuel):=by
 intro a1 onto2 r h
 refine Qcg hcf rfl fun Γ M hP hnt hM=>?_
 subst hP
 refine Tr.init [(0,(Qa a1)),(1,(l_ onto2))] rfl ?_
 unfold Qb7 at h
 unfold Qic
 refine sr ((Rn.box (v:=(Qa a1)) (cs:=(Qd a1)) trivial rfl rfl rfl rfl rfl (Rn.movTC (v:=.nils 1) trivial (nt ((sr ((Rn.movTC (v:=.nils 1) trivial (Rn.nil (toN ?_))))))))))
 refine Tr.cutB (fun (out17 : List Int)=>⟨look [(5,.own 1 (List.map (eI .i64) out17))],Qn Γ.n0 (bxs [(2,.cells ((Qd a1)))]) M,Γ.n0 + 30⟩) h (fun z h=>?_) (fun z h=>?_)
 ·refine sr ((md rfl (nt ((Tr.block ?_)))))
  refine Tr.loop (mk:=fun ((out3,i4) : (List Int) × Int)=>⟨look [(1,(l_ onto2)),(2,.ptr (Γ.n0 + 2) 0),(5,.own 1 (List.map (eI .i64) out3)),(6,(i_ i4))],Qn Γ.n0 (bxs [(2,.cells ((Qd a1)))]) M,Γ.n0 + 30⟩) h (by exact Ql ⟨(sm rfl),(kPtr rfl),(WkV.nilsO _),(sm rfl),trivial⟩ ⟨⟨_,rfl,rfl,(.same rfl)⟩,trivial⟩ rfl) (fun k5 z h=>?_)
  ·obtain ⟨out3,i4⟩:=z
   replace h : _ = some _:=h
   refine Tr.seq (sr ((md rfl (Rn.fldP (o':=0) trivial rfl rfl (Rn.load (v:=(l_ a1.Alphabet)) trivial rfl (Qk rfl) rfl rfl (Rn.lenD trivial rfl (Rn.bin trivial rfl rfl rfl (Rn.nil (toN ?_)))))))))
   refine Tr.cond rfl (fun hb6=>?_) (fun hb6=>?_)
   ·replace h:=ifT hb6 h
    refine Tr.skip (toN ?_)
    refine Tr.cutB (fun (out16 : List Int)=>⟨look [(1,(l_ onto2)),(2,.ptr (Γ.n0 + 2) 0),(5,.own 1 (List.map (eI .i64) out16)),(6,(i_ i4))],Qn Γ.n0 (bxs [(2,.cells ((Qd a1)))]) M,Γ.n0 + 30⟩) h (fun z h=>?_) (fun z h=>?_)
    ·refine Tr.block (sr ((md rfl (Rn.fldP (o':=0) trivial rfl rfl (Rn.load (v:=(l_ a1.Alphabet)) trivial rfl (Qk rfl) rfl rfl (md rfl ?_))))))
     obtain ⟨x7,h8,h⟩:=bnd h
     refine Rn.idxD (e:=(eI .i64)) trivial rfl rfl h8 (Rn.loadC (x:=.int .i64 x7) trivial rfl ?_)
     obtain ⟨x10,h9,h⟩:=bnd h
     refine Rn.call (args:=[(l_ onto2),(i_ x7)]) trivial rfl (H_overseerref07_has _ _ _ h9) pc9 (Rn.nil (toN ?_))
     refine Tr.cond rfl (fun hb11=>?_) (fun hb11=>?_)
     ·replace h:=bT hb11 h
      refine Tr.rgn (Rn.movTO trivial rfl (Rn.fldP (o':=0) trivial rfl rfl (Rn.load (v:=(l_ a1.Alphabet)) trivial rfl (Qk rfl) rfl rfl (md rfl ?_))))
      obtain ⟨x12,h13,h⟩:=bnd h
      refine Rn.idxD (e:=(eI .i64)) trivial rfl rfl h13 (Rn.loadC (x:=.int .i64 x12) trivial rfl (Rn.bslice (xs:=[(i_ x12)]) (cs:=[(i_ x12)]) trivial rfl rfl rfl rfl ?_))
      obtain ⟨x14,h15,h⟩:=bnd h
      refine Rn.app (e:=(eI .i64)) trivial rfl rfl rfl (Qcc rfl rfl rfl) h15 rfl (Rn.movTO trivial rfl (Rn.nil ?_))
      replace h:=si h; subst h
      exact Qh [27] ⟨(sm rfl),(kPtr rfl),(sm rfl),(sm rfl),trivial⟩ ⟨⟨_,rfl,rfl,(.same rfl)⟩,trivial⟩ rfl
     ·replace h:=bF hb11 h
      refine Tr.skip ?_
      replace h:=si h; subst h
      exact Qh [] ⟨(sm rfl),(kPtr rfl),(sm rfl),(sm rfl),trivial⟩ ⟨⟨_,rfl,rfl,(.same rfl)⟩,trivial⟩ rfl
    ·obtain ⟨out16,rfl⟩ : ∃ x,x = z:=⟨_,rfl⟩
     refine Tr.rgn (md rfl (Rn.bin trivial rfl rfl rfl (md rfl (Rn.nil ?_))))
     exact ⟨_,h,(by exact Ql ⟨(sm rfl),(kPtr rfl),(sm rfl),(sm rfl),trivial⟩ ⟨⟨_,rfl,rfl,(.same rfl)⟩,trivial⟩ rfl)⟩
   ·replace h:=ifF hb6 h
    refine Tr.exit ?_
    replace h:=si h; subst h
    exact Qh [] ⟨(sm rfl),trivial⟩ ⟨⟨_,rfl,rfl,(.same rfl)⟩,trivial⟩ rfl
 ·obtain ⟨out17,rfl⟩ : ∃ x,x = z:=⟨_,rfl⟩
  refine sr ((Rn.movTO trivial rfl (Rn.movTO trivial rfl (nt ((Tr.ret ?_))))))
  replace h:=si h; subst h
  exact ⟨.inr rfl,(.own 1 (List.map (eI .i64) out17)),rfl,fun _ _ _ _ h=>h,trivial,fun k hk=>Qf hk⟩
theorem Qz8 {P : Program} {c : Nat} (hcf : Qv P c = some Qi7) (fuel : Nat) : Qi6 P c (Qc4 fuel):=by
 intro l1 n2 r h
 refine Qcg hcf rfl fun Γ M hP hnt hM=>?_
 subst hP
 refine Tr.init [(0,(l_ l1)),(1,(i_ n2))] rfl ?_
 unfold Qc4 at h
 unfold Qi7
 refine sr ((md rfl (nt ((Tr.seq (sr ((md rfl (nt ((Tr.block ?_)))))))))))
 refine Tr.loop (mk:=fun (i3 : Int)=>⟨look [(0,(l_ l1)),(1,(i_ n2)),(5,(i_ i3))],Qn Γ.n0 (bxs []) M,Γ.n0 + 18⟩) h (by exact Ql ⟨(sm rfl),(sm rfl),(sm rfl),trivial⟩ trivial rfl) (fun k4 z h=>?_)
 ·obtain ⟨i3,rfl⟩ : ∃ x,x = z:=⟨_,rfl⟩
  replace h : _ = some _:=h
  refine Tr.seq (sr ((md rfl (md rfl (Rn.lenD trivial rfl (Rn.bin trivial rfl rfl rfl (Rn.nil (toN ?_))))))))
  refine Tr.cond rfl (fun hb5=>?_) (fun hb5=>?_)
  ·replace h:=ifT hb5 h
   refine Tr.skip (toN (Tr.seq (Tr.block (sr ((md rfl (md rfl ?_)))))))
   obtain ⟨x6,h7,h⟩:=bnd h
   refine Rn.idxD (e:=(eI .i64)) trivial rfl rfl h7 (Rn.loadC (x:=.int .i64 x6) trivial rfl (md rfl (Rn.bin trivial rfl rfl rfl (Rn.nil (toN ?_)))))
   refine Tr.cond rfl (fun hb8=>?_) (fun hb8=>?_)
   ·replace h:=bT hb8 h
    refine sr ((md rfl (nt ((Tr.ret ?_)))))
    replace h:=si h; subst h
    exact ⟨.inr rfl,(b_ true),rfl,fun _ _ _ _ h=>h,trivial,fun k hk=>Qf hk⟩
   ·replace h:=bF hb8 h
    refine Tr.skip (toN (Tr.rgn (md rfl (Rn.bin trivial rfl rfl rfl (md rfl (Rn.nil ?_))))))
    exact ⟨_,h,(by exact Ql ⟨(sm rfl),(sm rfl),(sm rfl),trivial⟩ trivial rfl)⟩
  ·replace h:=ifF hb5 h
   refine Tr.exit (toN (sr ((md rfl (nt ((Tr.ret ?_)))))))
   replace h:=si h; subst h
   exact ⟨.inr rfl,(b_ false),rfl,fun _ _ _ _ h=>h,trivial,fun k hk=>Qf hk⟩
theorem Qqw {P : Program} {c : Nat} {Qs : (List Int) → Int → Option Bool}
    (H_overseerref07_has : Qdg P 45 Qs) (hcf : Qv P c = some Qgy) (fuel : Nat) : Qgx P c (Qbv Qs fuel):=by
 intro a1 onto2 r h
 refine Qcg hcf rfl fun Γ M hP hnt hM=>?_
 subst hP
 refine Tr.init [(0,(Qa a1)),(1,(l_ onto2))] rfl ?_
 unfold Qbv at h
 unfold Qgy
 refine sr ((Rn.box (v:=(Qa a1)) (cs:=(Qd a1)) trivial rfl rfl rfl rfl rfl (Rn.movTC (v:=.nils 1) trivial (nt ((sr ((Rn.movTC (v:=.nils 1) trivial (Rn.nil (toN ?_))))))))))
 refine Tr.cutB (fun (out17 : List Int)=>⟨look [(5,.own 1 (List.map (eI .i64) out17))],Qn Γ.n0 (bxs [(2,.cells ((Qd a1)))]) M,Γ.n0 + 31⟩) h (fun z h=>?_) (fun z h=>?_)
 ·refine sr ((md rfl (nt ((Tr.block ?_)))))
  refine Tr.loop (mk:=fun ((out3,i4) : (List Int) × Int)=>⟨look [(1,(l_ onto2)),(2,.ptr (Γ.n0 + 2) 0),(5,.own 1 (List.map (eI .i64) out3)),(6,(i_ i4))],Qn Γ.n0 (bxs [(2,.cells ((Qd a1)))]) M,Γ.n0 + 31⟩) h (by exact Ql ⟨(sm rfl),(kPtr rfl),(WkV.nilsO _),(sm rfl),trivial⟩ ⟨⟨_,rfl,rfl,(.same rfl)⟩,trivial⟩ rfl) (fun k5 z h=>?_)
  ·obtain ⟨out3,i4⟩:=z
   replace h : _ = some _:=h
   refine Tr.seq (sr ((md rfl (Rn.fldP (o':=0) trivial rfl rfl (Rn.load (v:=(l_ a1.Alphabet)) trivial rfl (Qk rfl) rfl rfl (Rn.lenD trivial rfl (Rn.bin trivial rfl rfl rfl (Rn.nil (toN ?_)))))))))
   refine Tr.cond rfl (fun hb6=>?_) (fun hb6=>?_)
   ·replace h:=ifT hb6 h
    refine Tr.skip (toN ?_)
    refine Tr.cutB (fun (out16 : List Int)=>⟨look [(1,(l_ onto2)),(2,.ptr (Γ.n0 + 2) 0),(5,.own 1 (List.map (eI .i64) out16)),(6,(i_ i4))],Qn Γ.n0 (bxs [(2,.cells ((Qd a1)))]) M,Γ.n0 + 31⟩) h (fun z h=>?_) (fun z h=>?_)
    ·refine Tr.block (sr ((md rfl (Rn.fldP (o':=0) trivial rfl rfl (Rn.load (v:=(l_ a1.Alphabet)) trivial rfl (Qk rfl) rfl rfl (md rfl ?_))))))
     obtain ⟨x7,h8,h⟩:=bnd h
     refine Rn.idxD (e:=(eI .i64)) trivial rfl rfl h8 (Rn.loadC (x:=.int .i64 x7) trivial rfl ?_)
     obtain ⟨x10,h9,h⟩:=bnd h
     refine Rn.call (args:=[(l_ onto2),(i_ x7)]) trivial rfl (H_overseerref07_has _ _ _ h9) pc9 (Rn.un trivial rfl rfl (Rn.nil (toN ?_)))
     refine Tr.cond rfl (fun hb11=>?_) (fun hb11=>?_)
     ·have hb11:=nT' hb11
      replace h:=bF hb11 h
      refine Tr.rgn (Rn.movTO trivial rfl (Rn.fldP (o':=0) trivial rfl rfl (Rn.load (v:=(l_ a1.Alphabet)) trivial rfl (Qk rfl) rfl rfl (md rfl ?_))))
      obtain ⟨x12,h13,h⟩:=bnd h
      refine Rn.idxD (e:=(eI .i64)) trivial rfl rfl h13 (Rn.loadC (x:=.int .i64 x12) trivial rfl (Rn.bslice (xs:=[(i_ x12)]) (cs:=[(i_ x12)]) trivial rfl rfl rfl rfl ?_))
      obtain ⟨x14,h15,h⟩:=bnd h
      refine Rn.app (e:=(eI .i64)) trivial rfl rfl rfl (Qcc rfl rfl rfl) h15 rfl (Rn.movTO trivial rfl (Rn.nil ?_))
      replace h:=si h; subst h
      exact Qh [28] ⟨(sm rfl),(kPtr rfl),(sm rfl),(sm rfl),trivial⟩ ⟨⟨_,rfl,rfl,(.same rfl)⟩,trivial⟩ rfl
     ·have hb11:=nF' hb11
      replace h:=bT hb11 h
      refine Tr.skip ?_
      replace h:=si h; subst h
      exact Qh [] ⟨(sm rfl),(kPtr rfl),(sm rfl),(sm rfl),trivial⟩ ⟨⟨_,rfl,rfl,(.same rfl)⟩,trivial⟩ rfl
    ·obtain ⟨out16,rfl⟩ : ∃ x,x = z:=⟨_,rfl⟩
     refine Tr.rgn (md rfl (Rn.bin trivial rfl rfl rfl (md rfl (Rn.nil ?_))))
     exact ⟨_,h,(by exact Ql ⟨(sm rfl),(kPtr rfl),(sm rfl),(sm rfl),trivial⟩ ⟨⟨_,rfl,rfl,(.same rfl)⟩,trivial⟩ rfl)⟩
   ·replace h:=ifF hb6 h
    refine Tr.exit ?_
    replace h:=si h; subst h
    exact Qh [] ⟨(sm rfl),trivial⟩ ⟨⟨_,rfl,rfl,(.same rfl)⟩,trivial⟩ rfl
 ·obtain ⟨out17,rfl⟩ : ∃ x,x = z:=⟨_,rfl⟩
  refine sr ((Rn.movTO trivial rfl (Rn.movTO trivial rfl (nt ((Tr.ret ?_))))))
  replace h:=si h; subst h
  exact ⟨.inr rfl,(.own 1 (List.map (eI .i64) out17)),rfl,fun _ _ _ _ h=>h,trivial,fun k hk=>Qf hk⟩
theorem Qwu {P : Program} {c : Nat} {Q6 : Qb → (List Int) → (List Int) → Option ((List Int))} {Qs : (List Int) → Int → Option Bool} {Qbv : Qb → (List Int) → Option ((List Int))}
    (H_overseerref07_Reach : Qfi P 20 Q6)
    (H_overseerref07_has : Qdg P 45 Qs)
    (H_overseerref07_Erased : Qgx P 53 Qbv) (hcf : Qv P c = some Qie) (fuel : Nat) : Qid P c (Qb8 Q6 Qs Qbv fuel):=by
 intro a1 onto2 estimate3 event4 r h
 refine Qcg hcf rfl fun Γ M hP hnt hM=>?_
 subst hP
 refine Tr.init [(0,(Qa a1)),(1,(l_ onto2)),(2,(l_ estimate3)),(3,(i_ event4))] rfl ?_
 unfold Qb8 at h
 unfold Qie
 refine sr ((Rn.box (v:=(Qa a1)) (cs:=(Qd a1)) trivial rfl rfl rfl rfl rfl (Rn.movTC (v:=.nils 1) trivial (nt ((sr ((Rn.movTC (v:=.nils 1) trivial (Rn.nil (toN ?_))))))))))
 refine Tr.cutB (fun (moved23 : List Int)=>⟨look [(1,(l_ onto2)),(4,.ptr (Γ.n0 + 4) 0),(9,.own 1 (List.map (eI .i64) moved23))],Qn Γ.n0 (bxs [(4,.cells ((Qd a1)))]) M,Γ.n0 + 51⟩) h (fun z h=>?_) (fun z h=>?_)
 ·refine sr ((md rfl (nt ((Tr.block ?_)))))
  refine Tr.loop (mk:=fun ((moved5,i6) : (List Int) × Int)=>⟨look [(1,(l_ onto2)),(2,(l_ estimate3)),(3,(i_ event4)),(4,.ptr (Γ.n0 + 4) 0),(9,.own 1 (List.map (eI .i64) moved5)),(10,(i_ i6))],Qn Γ.n0 (bxs [(4,.cells ((Qd a1)))]) M,Γ.n0 + 51⟩) h (by exact Ql ⟨(sm rfl),(sm rfl),(sm rfl),(kPtr rfl),(WkV.nilsO _),(sm rfl),trivial⟩ ⟨⟨_,rfl,rfl,(.same rfl)⟩,trivial⟩ rfl) (fun k7 z h=>?_)
  ·obtain ⟨moved5,i6⟩:=z
   replace h : _ = some _:=h
   refine Tr.seq (sr ((md rfl (Rn.fldP (o':=3) trivial rfl rfl (Rn.load (v:=.d (.lst 3 (List.map Qc a1.Edges))) trivial rfl (Qk rfl) rfl rfl (Rn.lenD trivial rfl (Rn.bin trivial rfl rfl rfl (Rn.nil (toN ?_)))))))))
   refine Tr.cond rfl (fun hb8=>?_) (fun hb8=>?_)
   ·replace h:=ifT hb8 h
    refine Tr.skip (toN ?_)
    refine Tr.cutB (fun (moved22 : List Int)=>⟨look [(1,(l_ onto2)),(2,(l_ estimate3)),(3,(i_ event4)),(4,.ptr (Γ.n0 + 4) 0),(9,.own 1 (List.map (eI .i64) moved22)),(10,(i_ i6))],Qn Γ.n0 (bxs [(4,.cells ((Qd a1)))]) M,Γ.n0 + 51⟩) h (fun z h=>?_) (fun z h=>?_)
    ·refine Tr.block ?_
     refine Tr.cutB (fun (x16 : Bool)=>⟨look [(1,(l_ onto2)),(2,(l_ estimate3)),(3,(i_ event4)),(4,.ptr (Γ.n0 + 4) 0),(9,.own 1 (List.map (eI .i64) moved5)),(10,(i_ i6)),(35,(b_ x16))],Qn Γ.n0 (bxs [(4,.cells ((Qd a1)))]) M,Γ.n0 + 51⟩) h (fun z h=>?_) (fun z h=>?_)
     ·refine Tr.rgn (Rn.fldP (o':=3) trivial rfl rfl (Rn.load (v:=.d (.lst 3 (List.map Qc a1.Edges))) trivial rfl (Qk rfl) rfl rfl (md rfl ?_)))
      obtain ⟨x9,h10,h⟩:=bnd h
      refine Rn.idxD (e:=Qc) trivial rfl rfl h10 (Rn.fldC trivial rfl (Rn.loadC (x:=.int .i64 x9.Event) trivial rfl (md rfl (Rn.bin trivial rfl rfl rfl (md rfl ?_)))))
      refine Qdb (x9.Event == event4) (fun hb11=>?_) (fun hb11=>?_)
      ·replace h:=bT hb11 h
       refine Rn.movD (gw rfl hb11) rfl (Rn.fldP (o':=3) (gw rfl hb11) rfl rfl (Rn.load (v:=.d (.lst 3 (List.map Qc a1.Edges))) (gw rfl hb11) rfl (Qk rfl) rfl rfl (Rn.movD (gw rfl hb11) rfl ?_)))
       obtain ⟨x12,h13,h⟩:=bnd h
       refine Rn.idxD (e:=Qc) (gw rfl hb11) rfl rfl h13 (Rn.fldC (gw rfl hb11) rfl (Rn.loadC (x:=.int .i64 x12.From) (gw rfl hb11) rfl ?_))
       obtain ⟨x15,h14,h⟩:=bnd h
       refine Rn.call (args:=[(l_ estimate3),(i_ x12.From)]) (gw rfl hb11) rfl (H_overseerref07_has _ _ _ h14) pc9 (Rn.pickT (v:=(b_ x15)) trivial rfl hb11 rfl (Rn.nil ?_))
       replace h:=si h; subst h
       exact Qh [] ⟨(sm rfl),(sm rfl),(sm rfl),(kPtr rfl),(sm rfl),(sm rfl),(sm rfl),trivial⟩ ⟨⟨_,rfl,rfl,(.same rfl)⟩,trivial⟩ rfl
      ·replace h:=bF hb11 h
       refine Rn.sk (nw rfl hb11) (Rn.sk (nw rfl hb11) (Rn.sk (nw rfl hb11) (Rn.sk (nw rfl hb11) (Rn.sk (nw rfl hb11) (Rn.sk (nw rfl hb11) (Rn.sk (nw rfl hb11) (Rn.sk (nw rfl hb11) (Rn.pickF (v:=(b_ false)) trivial rfl hb11 rfl (Rn.nil ?_)))))))))
       replace h:=si h; subst h
       exact Qh [] ⟨(sm rfl),(sm rfl),(sm rfl),(kPtr rfl),(sm rfl),(sm rfl),(sm rfl),trivial⟩ ⟨⟨_,rfl,rfl,(.same rfl)⟩,trivial⟩ rfl
     ·obtain ⟨x16,rfl⟩ : ∃ x,x = z:=⟨_,rfl⟩
      refine Tr.cond rfl (fun hb17=>?_) (fun hb17=>?_)
      ·replace h:=bT hb17 h
       refine Tr.rgn (Rn.movTO trivial rfl (Rn.fldP (o':=3) trivial rfl rfl (Rn.load (v:=.d (.lst 3 (List.map Qc a1.Edges))) trivial rfl (Qk rfl) rfl rfl (md rfl ?_))))
       obtain ⟨x18,h19,h⟩:=bnd h
       refine Rn.idxD (e:=Qc) trivial rfl rfl h19 (Rn.fldC trivial rfl (Rn.loadC (x:=.int .i64 x18.To) trivial rfl (Rn.bslice (xs:=[(i_ x18.To)]) (cs:=[(i_ x18.To)]) trivial rfl rfl rfl rfl ?_)))
       obtain ⟨x20,h21,h⟩:=bnd h
       refine Rn.app (e:=(eI .i64)) trivial rfl rfl rfl (Qcc rfl rfl rfl) h21 rfl (Rn.movTO trivial rfl (Rn.nil ?_))
       replace h:=si h; subst h
       exact Qh [43] ⟨(sm rfl),(sm rfl),(sm rfl),(kPtr rfl),(sm rfl),(sm rfl),trivial⟩ ⟨⟨_,rfl,rfl,(.same rfl)⟩,trivial⟩ rfl
      ·replace h:=bF hb17 h
       refine Tr.skip ?_
       replace h:=si h; subst h
       exact Qh [] ⟨(sm rfl),(sm rfl),(sm rfl),(kPtr rfl),(sm rfl),(sm rfl),trivial⟩ ⟨⟨_,rfl,rfl,(.same rfl)⟩,trivial⟩ rfl
    ·obtain ⟨moved22,rfl⟩ : ∃ x,x = z:=⟨_,rfl⟩
     refine Tr.rgn (md rfl (Rn.bin trivial rfl rfl rfl (md rfl (Rn.nil ?_))))
     exact ⟨_,h,(by exact Ql ⟨(sm rfl),(sm rfl),(sm rfl),(kPtr rfl),(sm rfl),(sm rfl),trivial⟩ ⟨⟨_,rfl,rfl,(.same rfl)⟩,trivial⟩ rfl)⟩
   ·replace h:=ifF hb8 h
    refine Tr.exit ?_
    replace h:=si h; subst h
    exact Qh [] ⟨(sm rfl),(kPtr rfl),(sm rfl),trivial⟩ ⟨⟨_,rfl,rfl,(.same rfl)⟩,trivial⟩ rfl
 ·obtain ⟨moved23,rfl⟩ : ∃ x,x = z:=⟨_,rfl⟩
  refine Tr.seq ?_
  refine Tr.rgnD (by decide) ?_
  refine Rn.load (v:=(Qa a1)) trivial rfl (Qk rfl) rfl rfl (Rn.mov (v:=(l_ moved23)) trivial rfl (Rn.load (v:=(Qa a1)) trivial rfl (Qk rfl) rfl rfl (md rfl ?_)))
  obtain ⟨x25,h24,h⟩:=bnd h
  refine Rn.call (args:=[(Qa a1),(l_ onto2)]) trivial rfl (H_overseerref07_Erased _ _ _ h24) (fun _=>Q7j hM rfl) ?_
  obtain ⟨x27,h26,h⟩:=bnd h
  refine Rn.call (args:=[(Qa a1),(l_ moved23),(l_ x25)]) trivial rfl (H_overseerref07_Reach _ _ _ _ h26) (fun _=>Q7j hM rfl) (Rn.movTO trivial rfl ?_)
  refine Rn.nil ⟨rfl,?_⟩
  refine toN (Tr.ret ?_)
  replace h:=si h; subst h
  exact ⟨.inr rfl,(.own 1 (List.map (eI .i64) x27)),rfl,fun _ _ _ _ h=>h,trivial,fun k hk=>Qf hk⟩
theorem Qwv {P : Program} {c : Nat} (hcf : Qv P c = some Qig) (fuel : Nat) : Qif P c (Qb9 fuel):=by
 intro l1 most2 r h
 refine Qcg hcf rfl fun Γ M hP hnt hM=>?_
 subst hP
 refine Tr.init [(0,(l_ l1)),(1,(i_ most2))] rfl ?_
 unfold Qb9 at h
 unfold Qig
 refine sr ((md rfl (nt ((Tr.seq (sr ((md rfl (nt ((Tr.block ?_)))))))))))
 refine Tr.loop (mk:=fun (i3 : Int)=>⟨look [(0,(l_ l1)),(1,(i_ most2)),(5,(i_ i3))],Qn Γ.n0 (bxs []) M,Γ.n0 + 39⟩) h (by exact Ql ⟨(sm rfl),(sm rfl),(sm rfl),trivial⟩ trivial rfl) (fun k4 z h=>?_)
 ·obtain ⟨i3,rfl⟩ : ∃ x,x = z:=⟨_,rfl⟩
  replace h : _ = some _:=h
  refine Tr.seq (sr ((md rfl (md rfl (Rn.lenD trivial rfl (Rn.bin trivial rfl rfl rfl (Rn.nil (toN ?_))))))))
  refine Tr.cond rfl (fun hb5=>?_) (fun hb5=>?_)
  ·replace h:=ifT hb5 h
   refine Tr.skip (toN (Tr.seq (Tr.block (Tr.seq ?_))))
   refine Tr.cutB (fun (x11 : Bool)=>⟨look [(0,(l_ l1)),(1,(i_ most2)),(5,(i_ i3)),(24,(b_ x11))],Qn Γ.n0 (bxs []) M,Γ.n0 + 39⟩) h (fun z h=>?_) (fun z h=>?_)
   ·refine Tr.rgn (md rfl (md rfl ?_))
    obtain ⟨x6,h7,h⟩:=bnd h
    refine Rn.idxD (e:=(eI .i64)) trivial rfl rfl h7 (Rn.loadC (x:=.int .i64 x6) trivial rfl (Rn.bin trivial rfl rfl rfl (md rfl ?_)))
    refine Qdb (decide (x6 < 0)) (fun hb8=>?_) (fun hb8=>?_)
    ·replace h:=ifT hb8 h
     refine Rn.sk (nw rfl hb8) (Rn.sk (nw rfl hb8) (Rn.sk (nw rfl hb8) (Rn.sk (nw rfl hb8) (Rn.sk (nw rfl hb8) (Rn.sk (nw rfl hb8) (Rn.pickT (v:=(b_ true)) trivial rfl hb8 rfl (Rn.nil ?_)))))))
     replace h:=si h; subst h
     exact Qh [] ⟨(sm rfl),(sm rfl),(sm rfl),(sm rfl),trivial⟩ trivial rfl
    ·replace h:=ifF hb8 h
     refine Rn.movD (gw rfl hb8) rfl (Rn.movD (gw rfl hb8) rfl ?_)
     obtain ⟨x9,h10,h⟩:=bnd h
     refine Rn.idxD (e:=(eI .i64)) (gw rfl hb8) rfl rfl h10 (Rn.loadC (x:=.int .i64 x9) (gw rfl hb8) rfl (Rn.movD (gw rfl hb8) rfl (Rn.bin (gw rfl hb8) rfl rfl rfl (Rn.pickF (v:=(b_ (decide (x9 ≥ most2)))) trivial rfl hb8 rfl (Rn.nil ?_)))))
     replace h:=si h; subst h
     exact Qh [] ⟨(sm rfl),(sm rfl),(sm rfl),(sm rfl),trivial⟩ trivial rfl
   ·obtain ⟨x11,rfl⟩ : ∃ x,x = z:=⟨_,rfl⟩
    refine Tr.cond rfl (fun hb12=>?_) (fun hb12=>?_)
    ·replace h:=bT hb12 h
     refine sr ((md rfl (nt ((Tr.ret ?_)))))
     replace h:=si h; subst h
     exact ⟨.inr rfl,(i_ 2),rfl,fun _ _ _ _ h=>h,trivial,fun k hk=>Qf hk⟩
    ·replace h:=bF hb12 h
     refine Tr.skip (toN ?_)
     refine Tr.cutB (fun (x18 : Bool)=>⟨look [(0,(l_ l1)),(1,(i_ most2)),(5,(i_ i3)),(38,(b_ x18))],Qn Γ.n0 (bxs []) M,Γ.n0 + 39⟩) h (fun z h=>?_) (fun z h=>?_)
     ·refine Tr.rgnD (by decide) ?_
      refine md rfl (Rn.bin trivial rfl rfl rfl (md rfl ?_))
      refine Qdb (decide (i3 > 0)) (fun hb13=>?_) (fun hb13=>?_)
      ·replace h:=ifT hb13 h
       refine Rn.movD (gw rfl hb13) rfl (Rn.movD (gw rfl hb13) rfl ?_)
       obtain ⟨x14,h15,h⟩:=bnd h
       refine Rn.idxD (e:=(eI .i64)) (gw rfl hb13) rfl rfl h15 (Rn.loadC (x:=.int .i64 x14) (gw rfl hb13) rfl (Rn.movD (gw rfl hb13) rfl (Rn.movD (gw rfl hb13) rfl (Rn.bin (gw rfl hb13) rfl rfl rfl ?_))))
       obtain ⟨x16,h17,h⟩:=bnd h
       refine Rn.idxD (e:=(eI .i64)) (gw rfl hb13) rfl rfl h17 (Rn.loadC (x:=.int .i64 x16) (gw rfl hb13) rfl (Rn.bin (gw rfl hb13) rfl rfl rfl (Rn.pickT (v:=(b_ (decide (x14 ≤ x16)))) trivial rfl hb13 rfl ?_)))
       refine Rn.nil ⟨rfl,?_⟩
       replace h:=si h; subst h
       exact Qh [] ⟨(sm rfl),(sm rfl),(sm rfl),(sm rfl),trivial⟩ trivial rfl
      ·replace h:=ifF hb13 h
       refine Rn.sk (nw rfl hb13) (Rn.sk (nw rfl hb13) (Rn.sk (nw rfl hb13) (Rn.sk (nw rfl hb13) (Rn.sk (nw rfl hb13) (Rn.sk (nw rfl hb13) (Rn.sk (nw rfl hb13) (Rn.sk (nw rfl hb13) (Rn.sk (nw rfl hb13) (Rn.sk (nw rfl hb13) (Rn.pickF (v:=(b_ false)) trivial rfl hb13 rfl ?_))))))))))
       refine Rn.nil ⟨rfl,?_⟩
       replace h:=si h; subst h
       exact Qh [] ⟨(sm rfl),(sm rfl),(sm rfl),(sm rfl),trivial⟩ trivial rfl
     ·obtain ⟨x18,rfl⟩ : ∃ x,x = z:=⟨_,rfl⟩
      refine Tr.cond rfl (fun hb19=>?_) (fun hb19=>?_)
      ·replace h:=bT hb19 h
       refine sr ((md rfl (nt ((Tr.ret ?_)))))
       replace h:=si h; subst h
       exact ⟨.inr rfl,(i_ 5),rfl,fun _ _ _ _ h=>h,trivial,fun k hk=>Qf hk⟩
      ·replace h:=bF hb19 h
       refine Tr.skip (toN (Tr.rgn (md rfl (Rn.bin trivial rfl rfl rfl (md rfl (Rn.nil ?_))))))
       exact ⟨_,h,(by exact Ql ⟨(sm rfl),(sm rfl),(sm rfl),trivial⟩ trivial rfl)⟩
  ·replace h:=ifF hb5 h
   refine Tr.exit (toN (sr ((md rfl (nt ((Tr.ret ?_)))))))
   replace h:=si h; subst h
   exact ⟨.inr rfl,(i_ 0),rfl,fun _ _ _ _ h=>h,trivial,fun k hk=>Qf hk⟩
theorem Qiu {P : Program} {c : Nat} {Qb0 : Option Bool} {Qb9 : (List Int) → Int → Option Int} {Qb5 : (List Int) → Q5 → Option Qb} {Qbh : Int → Option ((List Int))} {Qb6 : Qb → Int → Option ((List Int))} {Qb3 : Qb → (List Int) → (List Int) → Option ((List Int) × Int)} {Qq : (List Int) → (List Int) → Option Bool} {Q6 : Qb → (List Int) → (List Int) → Option ((List Int))} {Qce : Qb → (List Int) → (List Int) → Int → Option ((List Int) × Int)} {Qc4 : (List Int) → Int → Option Bool} {Qb7 : Qb → (List Int) → Option ((List Int))} {Qb8 : Qb → (List Int) → (List Int) → Int → Option ((List Int))}
    (H_overseerlaw07_known : Qhe P 8 Qb0)
    (H_overseerref03_List : Qif P 9 Qb9)
    (H_overseerlaw03_Make : Qh7 P 10 Qb5)
    (H_overseerlaw03_Set_Events : Qfd P 11 Qbh)
    (H_overseerlaw07_part : Qh9 P 17 Qb6)
    (H_projection_Reach : Qj1 P 18 Qb3)
    (H_overseerref03_SameInts : Qcz P 19 Qq)
    (H_overseerref07_Reach : Qfi P 20 Q6)
    (H_projection_Next : Qlc P 21 Qce)
    (H_overseerlaw03_Has : Qi6 P 22 Qc4)
    (H_overseerref07_Kept : Qib P 23 Qb7)
    (H_overseerref07_Next : Qid P 24 Qb8) (hcf : Qv P c = some Qdr) : Qfj P c (Qcw Qb0 Qb9 Qb5 Qbh Qb6 Qb3 Qq Q6 Qce Qc4 Qb7 Qb8):=by
 intro s1 g2 x3 r h
 refine Qcg hcf rfl fun Γ M hP hnt hM=>?_
 subst hP
 refine Tr.init [(0,.agg [.d (.int .u8 s1.1),.d (.int .u8 s1.2)]),(1,.agg [.d (.int .u8 g2.States),.d (.int .u8 g2.Marks),.d (.int .u8 g2.To.1.1),.d (.int .u8 g2.To.1.2.1),.d (.int .u8 g2.To.1.2.2.1),.d (.int .u8 g2.To.1.2.2.2.1),.d (.int .u8 g2.To.1.2.2.2.2),.d (.int .u8 g2.To.2.1.1),.d (.int .u8 g2.To.2.1.2.1),.d (.int .u8 g2.To.2.1.2.2.1),.d (.int .u8 g2.To.2.1.2.2.2.1),.d (.int .u8 g2.To.2.1.2.2.2.2),.d (.int .u8 g2.To.2.2.1.1),.d (.int .u8 g2.To.2.2.1.2.1),.d (.int .u8 g2.To.2.2.1.2.2.1),.d (.int .u8 g2.To.2.2.1.2.2.2.1),.d (.int .u8 g2.To.2.2.1.2.2.2.2),.d (.int .u8 g2.To.2.2.2.1.1),.d (.int .u8 g2.To.2.2.2.1.2.1),.d (.int .u8 g2.To.2.2.2.1.2.2.1),.d (.int .u8 g2.To.2.2.2.1.2.2.2.1),.d (.int .u8 g2.To.2.2.2.1.2.2.2.2),.d (.int .u8 g2.To.2.2.2.2.1),.d (.int .u8 g2.To.2.2.2.2.2.1),.d (.int .u8 g2.To.2.2.2.2.2.2.1),.d (.int .u8 g2.To.2.2.2.2.2.2.2.1),.d (.int .u8 g2.To.2.2.2.2.2.2.2.2)]),(2,(Qf8 x3))] rfl ?_
 unfold Qcw at h
 unfold Qdr
 refine sr ((Rn.box (v:=.agg [.d (.int .u8 s1.1),.d (.int .u8 s1.2)]) (cs:=[.d (.int .u8 s1.1),.d (.int .u8 s1.2)]) trivial rfl rfl rfl rfl rfl (Rn.box (v:=.agg [.d (.int .u8 g2.States),.d (.int .u8 g2.Marks),.d (.int .u8 g2.To.1.1),.d (.int .u8 g2.To.1.2.1),.d (.int .u8 g2.To.1.2.2.1),.d (.int .u8 g2.To.1.2.2.2.1),.d (.int .u8 g2.To.1.2.2.2.2),.d (.int .u8 g2.To.2.1.1),.d (.int .u8 g2.To.2.1.2.1),.d (.int .u8 g2.To.2.1.2.2.1),.d (.int .u8 g2.To.2.1.2.2.2.1),.d (.int .u8 g2.To.2.1.2.2.2.2),.d (.int .u8 g2.To.2.2.1.1),.d (.int .u8 g2.To.2.2.1.2.1),.d (.int .u8 g2.To.2.2.1.2.2.1),.d (.int .u8 g2.To.2.2.1.2.2.2.1),.d (.int .u8 g2.To.2.2.1.2.2.2.2),.d (.int .u8 g2.To.2.2.2.1.1),.d (.int .u8 g2.To.2.2.2.1.2.1),.d (.int .u8 g2.To.2.2.2.1.2.2.1),.d (.int .u8 g2.To.2.2.2.1.2.2.2.1),.d (.int .u8 g2.To.2.2.2.1.2.2.2.2),.d (.int .u8 g2.To.2.2.2.2.1),.d (.int .u8 g2.To.2.2.2.2.2.1),.d (.int .u8 g2.To.2.2.2.2.2.2.1),.d (.int .u8 g2.To.2.2.2.2.2.2.2.1),.d (.int .u8 g2.To.2.2.2.2.2.2.2.2)]) (cs:=[.d (.int .u8 g2.States),.d (.int .u8 g2.Marks),.d (.int .u8 g2.To.1.1),.d (.int .u8 g2.To.1.2.1),.d (.int .u8 g2.To.1.2.2.1),.d (.int .u8 g2.To.1.2.2.2.1),.d (.int .u8 g2.To.1.2.2.2.2),.d (.int .u8 g2.To.2.1.1),.d (.int .u8 g2.To.2.1.2.1),.d (.int .u8 g2.To.2.1.2.2.1),.d (.int .u8 g2.To.2.1.2.2.2.1),.d (.int .u8 g2.To.2.1.2.2.2.2),.d (.int .u8 g2.To.2.2.1.1),.d (.int .u8 g2.To.2.2.1.2.1),.d (.int .u8 g2.To.2.2.1.2.2.1),.d (.int .u8 g2.To.2.2.1.2.2.2.1),.d (.int .u8 g2.To.2.2.1.2.2.2.2),.d (.int .u8 g2.To.2.2.2.1.1),.d (.int .u8 g2.To.2.2.2.1.2.1),.d (.int .u8 g2.To.2.2.2.1.2.2.1),.d (.int .u8 g2.To.2.2.2.1.2.2.2.1),.d (.int .u8 g2.To.2.2.2.1.2.2.2.2),.d (.int .u8 g2.To.2.2.2.2.1),.d (.int .u8 g2.To.2.2.2.2.2.1),.d (.int .u8 g2.To.2.2.2.2.2.2.1),.d (.int .u8 g2.To.2.2.2.2.2.2.2.1),.d (.int .u8 g2.To.2.2.2.2.2.2.2.2)]) trivial rfl rfl rfl rfl rfl (Rn.box (v:=(Qf8 x3)) (cs:=(Qcd x3)) trivial rfl rfl rfl rfl rfl (md rfl (nt ((Tr.seq ?_))))))))
 refine Tr.cutB (fun (x7 : Bool)=>⟨look [(3,.ptr (Γ.n0 + 3) 0),(4,.ptr (Γ.n0 + 4) 0),(5,.ptr (Γ.n0 + 5) 0),(22,(b_ x7))],Qn Γ.n0 (bxs [(3,.cells ([.d (.int .u8 s1.1),.d (.int .u8 s1.2)])),(4,.cells ([.d (.int .u8 g2.States),.d (.int .u8 g2.Marks),.d (.int .u8 g2.To.1.1),.d (.int .u8 g2.To.1.2.1),.d (.int .u8 g2.To.1.2.2.1),.d (.int .u8 g2.To.1.2.2.2.1),.d (.int .u8 g2.To.1.2.2.2.2),.d (.int .u8 g2.To.2.1.1),.d (.int .u8 g2.To.2.1.2.1),.d (.int .u8 g2.To.2.1.2.2.1),.d (.int .u8 g2.To.2.1.2.2.2.1),.d (.int .u8 g2.To.2.1.2.2.2.2),.d (.int .u8 g2.To.2.2.1.1),.d (.int .u8 g2.To.2.2.1.2.1),.d (.int .u8 g2.To.2.2.1.2.2.1),.d (.int .u8 g2.To.2.2.1.2.2.2.1),.d (.int .u8 g2.To.2.2.1.2.2.2.2),.d (.int .u8 g2.To.2.2.2.1.1),.d (.int .u8 g2.To.2.2.2.1.2.1),.d (.int .u8 g2.To.2.2.2.1.2.2.1),.d (.int .u8 g2.To.2.2.2.1.2.2.2.1),.d (.int .u8 g2.To.2.2.2.1.2.2.2.2),.d (.int .u8 g2.To.2.2.2.2.1),.d (.int .u8 g2.To.2.2.2.2.2.1),.d (.int .u8 g2.To.2.2.2.2.2.2.1),.d (.int .u8 g2.To.2.2.2.2.2.2.2.1),.d (.int .u8 g2.To.2.2.2.2.2.2.2.2)])),(5,.cells ((Qcd x3)))]) M,Γ.n0 + 132⟩) h (fun z h=>?_) (fun z h=>?_)
 ·refine Tr.rgn ?_
  obtain ⟨x5,h4,h⟩:=bnd h
  refine Rn.call (args:=[]) trivial rfl (H_overseerlaw07_known _ h4) pc9 (Rn.un trivial rfl rfl (md rfl ?_))
  refine Qdb x5 (fun hb6=>?_) (fun hb6=>?_)
  ·replace h:=bT hb6 h
   refine Rn.fldP (o':=1) (gw rfl (nT hb6)) rfl rfl (Rn.load (v:=(l_ x3.Raw)) (gw rfl (nT hb6)) rfl (Qk rfl) rfl rfl (Rn.lenD (gw rfl (nT hb6)) rfl (Rn.bin (gw rfl (nT hb6)) rfl rfl rfl (Rn.pickF (v:=(b_ (decide ((x3.Raw.length : Int) > 6)))) trivial rfl (nT hb6) rfl (Rn.nil ?_)))))
   replace h:=si h; subst h
   exact Qh [] ⟨(kPtr rfl),(kPtr rfl),(kPtr rfl),(sm rfl),trivial⟩ ⟨⟨_,rfl,rfl,(.same rfl)⟩,⟨_,rfl,rfl,(.same rfl)⟩,⟨_,rfl,rfl,(.same rfl)⟩,trivial⟩ rfl
  ·replace h:=bF hb6 h
   refine Rn.sk (nw rfl (nF hb6)) (Rn.sk (nw rfl (nF hb6)) (Rn.sk (nw rfl (nF hb6)) (Rn.sk (nw rfl (nF hb6)) (Rn.pickT (v:=(b_ true)) trivial rfl (nF hb6) rfl (Rn.nil ?_)))))
   replace h:=si h; subst h
   exact Qh [] ⟨(kPtr rfl),(kPtr rfl),(kPtr rfl),(sm rfl),trivial⟩ ⟨⟨_,rfl,rfl,(.same rfl)⟩,⟨_,rfl,rfl,(.same rfl)⟩,⟨_,rfl,rfl,(.same rfl)⟩,trivial⟩ rfl
 ·obtain ⟨x7,rfl⟩ : ∃ x,x = z:=⟨_,rfl⟩
  refine Tr.cond rfl (fun hb8=>?_) (fun hb8=>?_)
  ·replace h:=bT hb8 h
   refine Tr.seq (Tr.rgn ?_)
   obtain ⟨x10,h9,h⟩:=bnd h
   refine Rn.call (args:=[]) trivial rfl (H_overseerlaw07_known _ h9) pc9 (md rfl (nt ((Tr.ret ?_))))
   replace h:=si h; subst h
   exact ⟨.inr rfl,(b_ x10),rfl,fun _ _ _ _ h=>h,trivial,fun k hk=>Qf hk⟩
  ·replace h:=bF hb8 h
   refine Tr.skip (toN (Tr.seq ?_))
   refine Tr.rgnD (by decide) ?_
   refine Rn.k (v:=.ptr (Γ.n0 + 3) 0) trivial rfl rfl rfl (Rn.load (v:=.d (.int .u8 s1.1)) trivial rfl (Qk rfl) rfl rfl ?_)
   obtain ⟨x12,h11,h⟩:=bnd h
   refine Rn.call (args:=[.d (.int .u8 s1.1)]) trivial rfl (H_overseerlaw03_Set_Events _ _ h11) (fun _=>Q7j hM rfl) (Rn.load (v:=.agg [.d (.int .u8 g2.States),.d (.int .u8 g2.Marks),.d (.int .u8 g2.To.1.1),.d (.int .u8 g2.To.1.2.1),.d (.int .u8 g2.To.1.2.2.1),.d (.int .u8 g2.To.1.2.2.2.1),.d (.int .u8 g2.To.1.2.2.2.2),.d (.int .u8 g2.To.2.1.1),.d (.int .u8 g2.To.2.1.2.1),.d (.int .u8 g2.To.2.1.2.2.1),.d (.int .u8 g2.To.2.1.2.2.2.1),.d (.int .u8 g2.To.2.1.2.2.2.2),.d (.int .u8 g2.To.2.2.1.1),.d (.int .u8 g2.To.2.2.1.2.1),.d (.int .u8 g2.To.2.2.1.2.2.1),.d (.int .u8 g2.To.2.2.1.2.2.2.1),.d (.int .u8 g2.To.2.2.1.2.2.2.2),.d (.int .u8 g2.To.2.2.2.1.1),.d (.int .u8 g2.To.2.2.2.1.2.1),.d (.int .u8 g2.To.2.2.2.1.2.2.1),.d (.int .u8 g2.To.2.2.2.1.2.2.2.1),.d (.int .u8 g2.To.2.2.2.1.2.2.2.2),.d (.int .u8 g2.To.2.2.2.2.1),.d (.int .u8 g2.To.2.2.2.2.2.1),.d (.int .u8 g2.To.2.2.2.2.2.2.1),.d (.int .u8 g2.To.2.2.2.2.2.2.2.1),.d (.int .u8 g2.To.2.2.2.2.2.2.2.2)]) trivial rfl (Qk rfl) rfl rfl ?_)
   obtain ⟨x14,h13,h⟩:=bnd h
   refine Rn.call (args:=[(l_ x12),.agg [.d (.int .u8 g2.States),.d (.int .u8 g2.Marks),.d (.int .u8 g2.To.1.1),.d (.int .u8 g2.To.1.2.1),.d (.int .u8 g2.To.1.2.2.1),.d (.int .u8 g2.To.1.2.2.2.1),.d (.int .u8 g2.To.1.2.2.2.2),.d (.int .u8 g2.To.2.1.1),.d (.int .u8 g2.To.2.1.2.1),.d (.int .u8 g2.To.2.1.2.2.1),.d (.int .u8 g2.To.2.1.2.2.2.1),.d (.int .u8 g2.To.2.1.2.2.2.2),.d (.int .u8 g2.To.2.2.1.1),.d (.int .u8 g2.To.2.2.1.2.1),.d (.int .u8 g2.To.2.2.1.2.2.1),.d (.int .u8 g2.To.2.2.1.2.2.2.1),.d (.int .u8 g2.To.2.2.1.2.2.2.2),.d (.int .u8 g2.To.2.2.2.1.1),.d (.int .u8 g2.To.2.2.2.1.2.1),.d (.int .u8 g2.To.2.2.2.1.2.2.1),.d (.int .u8 g2.To.2.2.2.1.2.2.2.1),.d (.int .u8 g2.To.2.2.2.1.2.2.2.2),.d (.int .u8 g2.To.2.2.2.2.1),.d (.int .u8 g2.To.2.2.2.2.2.1),.d (.int .u8 g2.To.2.2.2.2.2.2.1),.d (.int .u8 g2.To.2.2.2.2.2.2.2.1),.d (.int .u8 g2.To.2.2.2.2.2.2.2.2)]]) trivial rfl (H_overseerlaw03_Make _ _ _ h13) (fun _=>Q7j hM rfl) (Rn.k (v:=.ptr (Γ.n0 + 3) 1) trivial rfl rfl rfl (Rn.load (v:=.d (.int .u8 s1.2)) trivial rfl (Qk rfl) rfl rfl ?_))
   obtain ⟨x16,h15,h⟩:=bnd h
   refine Rn.call (args:=[.d (.int .u8 s1.2)]) trivial rfl (H_overseerlaw03_Set_Events _ _ h15) (fun _=>Q7j hM rfl) (Rn.alloc trivial rfl (Rn.storeT (v:=(Qa x14)) (ds:=(Qd x14)) (cs':=(Qd x14)) trivial rfl rfl rfl rfl rfl rfl rfl (Rn.movTO trivial rfl ?_)))
   refine Rn.nil ⟨rfl,?_⟩
   refine toN (sr ((Rn.load (v:=(Qa x14)) trivial rfl (Qk rfl) rfl rfl (Rn.fldP (o':=0) trivial rfl rfl (Rn.load (v:=.d (.int .u8 x3.Part)) trivial rfl (Qk rfl) rfl rfl ?_)))))
   obtain ⟨x18,h17,h⟩:=bnd h
   refine Rn.call (args:=[(Qa x14),.d (.int .u8 x3.Part)]) trivial rfl (H_overseerlaw07_part _ _ _ h17) pc9 (Rn.movTO trivial rfl (nt ((sr ((Rn.load (v:=(Qa x14)) trivial rfl (Qk rfl) rfl rfl (Rn.mov (v:=(l_ x18)) trivial rfl (Rn.mov (v:=(l_ x16)) trivial rfl ?_))))))))
   obtain ⟨⟨r20,r21⟩,h19,h⟩:=bnd h
   refine Rn.call (args:=[(Qa x14),(l_ x18),(l_ x16)]) trivial rfl (H_projection_Reach _ _ _ _ h19) pc9 (Rn.mov (v:=.tup [(l_ r20),(i_ r21)]) trivial rfl (Rn.extTD (vs:=[(l_ r20),(i_ r21)]) trivial rfl rfl rfl (Rn.ext (v:=(i_ r21)) (vs:=[(l_ r20),(i_ r21)]) trivial rfl rfl rfl (Rn.movTD trivial rfl (md rfl (nt ((Tr.seq ?_))))))))
   refine Tr.cutB (fun (x27 : Bool)=>⟨look [(5,.ptr (Γ.n0 + 5) 0),(7,.ptr (Γ.n0 + 7) 0),(8,.own 1 (List.map (eI .i64) x16)),(9,.own 1 (List.map (eI .i64) x18)),(53,(b_ x27))],Qn Γ.n0 (bxs [(3,.cells ([.d (.int .u8 s1.1),.d (.int .u8 s1.2)])),(4,.cells ([.d (.int .u8 g2.States),.d (.int .u8 g2.Marks),.d (.int .u8 g2.To.1.1),.d (.int .u8 g2.To.1.2.1),.d (.int .u8 g2.To.1.2.2.1),.d (.int .u8 g2.To.1.2.2.2.1),.d (.int .u8 g2.To.1.2.2.2.2),.d (.int .u8 g2.To.2.1.1),.d (.int .u8 g2.To.2.1.2.1),.d (.int .u8 g2.To.2.1.2.2.1),.d (.int .u8 g2.To.2.1.2.2.2.1),.d (.int .u8 g2.To.2.1.2.2.2.2),.d (.int .u8 g2.To.2.2.1.1),.d (.int .u8 g2.To.2.2.1.2.1),.d (.int .u8 g2.To.2.2.1.2.2.1),.d (.int .u8 g2.To.2.2.1.2.2.2.1),.d (.int .u8 g2.To.2.2.1.2.2.2.2),.d (.int .u8 g2.To.2.2.2.1.1),.d (.int .u8 g2.To.2.2.2.1.2.1),.d (.int .u8 g2.To.2.2.2.1.2.2.1),.d (.int .u8 g2.To.2.2.2.1.2.2.2.1),.d (.int .u8 g2.To.2.2.2.1.2.2.2.2),.d (.int .u8 g2.To.2.2.2.2.1),.d (.int .u8 g2.To.2.2.2.2.2.1),.d (.int .u8 g2.To.2.2.2.2.2.2.1),.d (.int .u8 g2.To.2.2.2.2.2.2.2.1),.d (.int .u8 g2.To.2.2.2.2.2.2.2.2)])),(5,.cells ((Qcd x3))),(7,.cells ((Qd x14)))]) M,Γ.n0 + 132⟩) h (fun z h=>?_) (fun z h=>?_)
   ·refine Tr.rgn (md rfl (Rn.load (v:=(Qa x14)) trivial rfl (Qk rfl) rfl rfl (Rn.mov (v:=(l_ x18)) trivial rfl (Rn.mov (v:=(l_ x16)) trivial rfl ?_))))
    obtain ⟨x23,h22,h⟩:=bnd h
    refine Rn.call (args:=[(Qa x14),(l_ x18),(l_ x16)]) trivial rfl (H_overseerref07_Reach _ _ _ _ h22) pc9 ?_
    obtain ⟨x25,h24,h⟩:=bnd h
    refine Rn.call (args:=[(l_ r20),(l_ x23)]) trivial rfl (H_overseerref03_SameInts _ _ _ h24) pc9 (Rn.un trivial rfl rfl (md rfl ?_))
    refine Qdb x25 (fun hb26=>?_) (fun hb26=>?_)
    ·replace h:=bT hb26 h
     refine Rn.movD (gw rfl (nT hb26)) rfl (Rn.bin (gw rfl (nT hb26)) rfl rfl rfl (Rn.pickF (v:=(b_ (r21 != 0))) trivial rfl (nT hb26) rfl (Rn.nil ?_)))
     replace h:=si h; subst h
     exact Qh [] ⟨(kPtr rfl),(kPtr rfl),(sm rfl),(sm rfl),(sm rfl),trivial⟩ ⟨⟨_,rfl,rfl,(.same rfl)⟩,⟨_,rfl,rfl,(.same rfl)⟩,⟨_,rfl,rfl,(.same rfl)⟩,⟨_,rfl,rfl,(.same rfl)⟩,trivial⟩ rfl
    ·replace h:=bF hb26 h
     refine Rn.sk (nw rfl (nF hb26)) (Rn.sk (nw rfl (nF hb26)) (Rn.pickT (v:=(b_ true)) trivial rfl (nF hb26) rfl (Rn.nil ?_)))
     replace h:=si h; subst h
     exact Qh [] ⟨(kPtr rfl),(kPtr rfl),(sm rfl),(sm rfl),(sm rfl),trivial⟩ ⟨⟨_,rfl,rfl,(.same rfl)⟩,⟨_,rfl,rfl,(.same rfl)⟩,⟨_,rfl,rfl,(.same rfl)⟩,⟨_,rfl,rfl,(.same rfl)⟩,trivial⟩ rfl
   ·obtain ⟨x27,rfl⟩ : ∃ x,x = z:=⟨_,rfl⟩
    refine Tr.cond rfl (fun hb28=>?_) (fun hb28=>?_)
    ·replace h:=bT hb28 h
     refine sr ((md rfl (nt ((Tr.ret ?_)))))
     replace h:=si h; subst h
     exact ⟨.inr rfl,(b_ false),rfl,fun _ _ _ _ h=>h,trivial,fun k hk=>Qf hk⟩
    ·replace h:=bF hb28 h
     refine Tr.skip (toN (sr ((Rn.load (v:=(Qa x14)) trivial rfl (Qk rfl) rfl rfl (Rn.mov (v:=(l_ x16)) trivial rfl (Rn.mov (v:=(l_ x18)) trivial rfl (Rn.fldP (o':=2) trivial rfl rfl (Rn.load (v:=(i_ x3.Event)) trivial rfl (Qk rfl) rfl rfl ?_))))))))
     obtain ⟨⟨r30,r31⟩,h29,h⟩:=bnd h
     refine Rn.call (args:=[(Qa x14),(l_ x16),(l_ x18),(i_ x3.Event)]) trivial rfl (H_projection_Next _ _ _ _ _ h29) pc9 (Rn.mov (v:=.tup [(l_ r30),(i_ r31)]) trivial rfl (Rn.extTD (vs:=[(l_ r30),(i_ r31)]) trivial rfl rfl rfl (Rn.ext (v:=(i_ r31)) (vs:=[(l_ r30),(i_ r31)]) trivial rfl rfl rfl (Rn.movTD trivial rfl (md rfl (Rn.nil (toN ?_)))))))
     refine Tr.cutJ (fun (_ : Unit)=>⟨look [(5,.ptr (Γ.n0 + 5) 0),(7,.ptr (Γ.n0 + 7) 0),(8,.own 1 (List.map (eI .i64) x16))],Qn Γ.n0 (bxs [(3,.cells ([.d (.int .u8 s1.1),.d (.int .u8 s1.2)])),(4,.cells ([.d (.int .u8 g2.States),.d (.int .u8 g2.Marks),.d (.int .u8 g2.To.1.1),.d (.int .u8 g2.To.1.2.1),.d (.int .u8 g2.To.1.2.2.1),.d (.int .u8 g2.To.1.2.2.2.1),.d (.int .u8 g2.To.1.2.2.2.2),.d (.int .u8 g2.To.2.1.1),.d (.int .u8 g2.To.2.1.2.1),.d (.int .u8 g2.To.2.1.2.2.1),.d (.int .u8 g2.To.2.1.2.2.2.1),.d (.int .u8 g2.To.2.1.2.2.2.2),.d (.int .u8 g2.To.2.2.1.1),.d (.int .u8 g2.To.2.2.1.2.1),.d (.int .u8 g2.To.2.2.1.2.2.1),.d (.int .u8 g2.To.2.2.1.2.2.2.1),.d (.int .u8 g2.To.2.2.1.2.2.2.2),.d (.int .u8 g2.To.2.2.2.1.1),.d (.int .u8 g2.To.2.2.2.1.2.1),.d (.int .u8 g2.To.2.2.2.1.2.2.1),.d (.int .u8 g2.To.2.2.2.1.2.2.2.1),.d (.int .u8 g2.To.2.2.2.1.2.2.2.2),.d (.int .u8 g2.To.2.2.2.2.1),.d (.int .u8 g2.To.2.2.2.2.2.1),.d (.int .u8 g2.To.2.2.2.2.2.2.1),.d (.int .u8 g2.To.2.2.2.2.2.2.2.1),.d (.int .u8 g2.To.2.2.2.2.2.2.2.2)])),(5,.cells ((Qcd x3))),(7,.cells ((Qd x14)))]) M,Γ.n0 + 132⟩) h (fun J59 h=>?_) (fun z h=>?_)
     ·refine Tr.seq ?_
      refine Tr.rgnD (by decide) ?_
      refine Rn.load (v:=(Qa x14)) trivial rfl (Qk rfl) rfl rfl (Rn.mov (v:=(l_ x16)) trivial rfl ?_)
      obtain ⟨x33,h32,h⟩:=bnd h
      refine Rn.call (args:=[(Qa x14),(l_ x16)]) trivial rfl (H_overseerref07_Kept _ _ _ h32) (fun _=>Q7j hM rfl) (Rn.fldP (o':=2) trivial rfl rfl (Rn.load (v:=(i_ x3.Event)) trivial rfl (Qk rfl) rfl rfl ?_))
      obtain ⟨x35,h34,h⟩:=bnd h
      refine Rn.call (args:=[(l_ x33),(i_ x3.Event)]) trivial rfl (H_overseerlaw03_Has _ _ _ h34) (fun _=>Q7j hM rfl) ?_
      refine Rn.nil ⟨rfl,?_⟩
      refine toN ?_
      refine Tr.cond rfl (fun hb36=>?_) (fun hb36=>?_)
      ·replace h:=bT hb36 h
       refine Tr.cutB (fun (x42 : Bool)=>⟨look [(5,.ptr (Γ.n0 + 5) 0),(7,.ptr (Γ.n0 + 7) 0),(8,.own 1 (List.map (eI .i64) x16)),(81,(b_ x42))],Qn Γ.n0 (bxs [(3,.cells ([.d (.int .u8 s1.1),.d (.int .u8 s1.2)])),(4,.cells ([.d (.int .u8 g2.States),.d (.int .u8 g2.Marks),.d (.int .u8 g2.To.1.1),.d (.int .u8 g2.To.1.2.1),.d (.int .u8 g2.To.1.2.2.1),.d (.int .u8 g2.To.1.2.2.2.1),.d (.int .u8 g2.To.1.2.2.2.2),.d (.int .u8 g2.To.2.1.1),.d (.int .u8 g2.To.2.1.2.1),.d (.int .u8 g2.To.2.1.2.2.1),.d (.int .u8 g2.To.2.1.2.2.2.1),.d (.int .u8 g2.To.2.1.2.2.2.2),.d (.int .u8 g2.To.2.2.1.1),.d (.int .u8 g2.To.2.2.1.2.1),.d (.int .u8 g2.To.2.2.1.2.2.1),.d (.int .u8 g2.To.2.2.1.2.2.2.1),.d (.int .u8 g2.To.2.2.1.2.2.2.2),.d (.int .u8 g2.To.2.2.2.1.1),.d (.int .u8 g2.To.2.2.2.1.2.1),.d (.int .u8 g2.To.2.2.2.1.2.2.1),.d (.int .u8 g2.To.2.2.2.1.2.2.2.1),.d (.int .u8 g2.To.2.2.2.1.2.2.2.2),.d (.int .u8 g2.To.2.2.2.2.1),.d (.int .u8 g2.To.2.2.2.2.2.1),.d (.int .u8 g2.To.2.2.2.2.2.2.1),.d (.int .u8 g2.To.2.2.2.2.2.2.2.1),.d (.int .u8 g2.To.2.2.2.2.2.2.2.2)])),(5,.cells ((Qcd x3))),(7,.cells ((Qd x14)))]) M,Γ.n0 + 132⟩) h (fun z h=>?_) (fun z h=>?_)
       ·refine Tr.rgn (md rfl (Rn.load (v:=(Qa x14)) trivial rfl (Qk rfl) rfl rfl (Rn.mov (v:=(l_ x16)) trivial rfl (Rn.mov (v:=(l_ x18)) trivial rfl (Rn.fldP (o':=2) trivial rfl rfl (Rn.load (v:=(i_ x3.Event)) trivial rfl (Qk rfl) rfl rfl ?_))))))
        obtain ⟨x38,h37,h⟩:=bnd h
        refine Rn.call (args:=[(Qa x14),(l_ x16),(l_ x18),(i_ x3.Event)]) trivial rfl (H_overseerref07_Next _ _ _ _ _ h37) pc9 ?_
        obtain ⟨x40,h39,h⟩:=bnd h
        refine Rn.call (args:=[(l_ r30),(l_ x38)]) trivial rfl (H_overseerref03_SameInts _ _ _ h39) pc9 (Rn.un trivial rfl rfl (md rfl ?_))
        refine Qdb x40 (fun hb41=>?_) (fun hb41=>?_)
        ·replace h:=bT hb41 h
         refine Rn.movD (gw rfl (nT hb41)) rfl (Rn.bin (gw rfl (nT hb41)) rfl rfl rfl (Rn.pickF (v:=(b_ (r31 != 0))) trivial rfl (nT hb41) rfl (Rn.nil ?_)))
         replace h:=si h; subst h
         exact Qh [] ⟨(kPtr rfl),(kPtr rfl),(sm rfl),(sm rfl),trivial⟩ ⟨⟨_,rfl,rfl,(.same rfl)⟩,⟨_,rfl,rfl,(.same rfl)⟩,⟨_,rfl,rfl,(.same rfl)⟩,⟨_,rfl,rfl,(.same rfl)⟩,trivial⟩ rfl
        ·replace h:=bF hb41 h
         refine Rn.sk (nw rfl (nF hb41)) (Rn.sk (nw rfl (nF hb41)) (Rn.pickT (v:=(b_ true)) trivial rfl (nF hb41) rfl (Rn.nil ?_)))
         replace h:=si h; subst h
         exact Qh [] ⟨(kPtr rfl),(kPtr rfl),(sm rfl),(sm rfl),trivial⟩ ⟨⟨_,rfl,rfl,(.same rfl)⟩,⟨_,rfl,rfl,(.same rfl)⟩,⟨_,rfl,rfl,(.same rfl)⟩,⟨_,rfl,rfl,(.same rfl)⟩,trivial⟩ rfl
       ·obtain ⟨x42,rfl⟩ : ∃ x,x = z:=⟨_,rfl⟩
        refine Tr.cond rfl (fun hb43=>?_) (fun hb43=>?_)
        ·replace h:=bT hb43 h
         refine sr ((md rfl (nt ((Tr.ret ?_)))))
         replace h:=si h; subst h
         exact ⟨.inr rfl,(b_ false),rfl,fun _ _ _ _ h=>h,trivial,fun k hk=>Qf hk⟩
        ·replace h:=bF hb43 h
         refine Tr.skip ?_
         exact ⟨_,h,(by exact Qh [] ⟨(kPtr rfl),(kPtr rfl),(sm rfl),trivial⟩ ⟨⟨_,rfl,rfl,(.same rfl)⟩,⟨_,rfl,rfl,(.same rfl)⟩,⟨_,rfl,rfl,(.same rfl)⟩,⟨_,rfl,rfl,(.same rfl)⟩,trivial⟩ rfl)⟩
      ·replace h:=bF hb36 h
       refine Tr.cutB (fun (x45 : Bool)=>⟨look [(5,.ptr (Γ.n0 + 5) 0),(7,.ptr (Γ.n0 + 7) 0),(8,.own 1 (List.map (eI .i64) x16)),(88,(b_ x45))],Qn Γ.n0 (bxs [(3,.cells ([.d (.int .u8 s1.1),.d (.int .u8 s1.2)])),(4,.cells ([.d (.int .u8 g2.States),.d (.int .u8 g2.Marks),.d (.int .u8 g2.To.1.1),.d (.int .u8 g2.To.1.2.1),.d (.int .u8 g2.To.1.2.2.1),.d (.int .u8 g2.To.1.2.2.2.1),.d (.int .u8 g2.To.1.2.2.2.2),.d (.int .u8 g2.To.2.1.1),.d (.int .u8 g2.To.2.1.2.1),.d (.int .u8 g2.To.2.1.2.2.1),.d (.int .u8 g2.To.2.1.2.2.2.1),.d (.int .u8 g2.To.2.1.2.2.2.2),.d (.int .u8 g2.To.2.2.1.1),.d (.int .u8 g2.To.2.2.1.2.1),.d (.int .u8 g2.To.2.2.1.2.2.1),.d (.int .u8 g2.To.2.2.1.2.2.2.1),.d (.int .u8 g2.To.2.2.1.2.2.2.2),.d (.int .u8 g2.To.2.2.2.1.1),.d (.int .u8 g2.To.2.2.2.1.2.1),.d (.int .u8 g2.To.2.2.2.1.2.2.1),.d (.int .u8 g2.To.2.2.2.1.2.2.2.1),.d (.int .u8 g2.To.2.2.2.1.2.2.2.2),.d (.int .u8 g2.To.2.2.2.2.1),.d (.int .u8 g2.To.2.2.2.2.2.1),.d (.int .u8 g2.To.2.2.2.2.2.2.1),.d (.int .u8 g2.To.2.2.2.2.2.2.2.1),.d (.int .u8 g2.To.2.2.2.2.2.2.2.2)])),(5,.cells ((Qcd x3))),(7,.cells ((Qd x14)))]) M,Γ.n0 + 132⟩) h (fun z h=>?_) (fun z h=>?_)
       ·refine Tr.rgn (md rfl (Rn.lenD trivial rfl (Rn.bin trivial rfl rfl rfl (md rfl ?_))))
        refine Qdb ((r30.length : Int) != 0) (fun hb44=>?_) (fun hb44=>?_)
        ·replace h:=bT hb44 h
         refine Rn.sk (nw rfl hb44) (Rn.sk (nw rfl hb44) (Rn.pickT (v:=(b_ true)) trivial rfl hb44 rfl (Rn.nil ?_)))
         replace h:=si h; subst h
         exact Qh [] ⟨(kPtr rfl),(kPtr rfl),(sm rfl),(sm rfl),trivial⟩ ⟨⟨_,rfl,rfl,(.same rfl)⟩,⟨_,rfl,rfl,(.same rfl)⟩,⟨_,rfl,rfl,(.same rfl)⟩,⟨_,rfl,rfl,(.same rfl)⟩,trivial⟩ rfl
        ·replace h:=bF hb44 h
         refine Rn.movD (gw rfl hb44) rfl (Rn.bin (gw rfl hb44) rfl rfl rfl (Rn.pickF (v:=(b_ (r31 != 9))) trivial rfl hb44 rfl (Rn.nil ?_)))
         replace h:=si h; subst h
         exact Qh [] ⟨(kPtr rfl),(kPtr rfl),(sm rfl),(sm rfl),trivial⟩ ⟨⟨_,rfl,rfl,(.same rfl)⟩,⟨_,rfl,rfl,(.same rfl)⟩,⟨_,rfl,rfl,(.same rfl)⟩,⟨_,rfl,rfl,(.same rfl)⟩,trivial⟩ rfl
       ·obtain ⟨x45,rfl⟩ : ∃ x,x = z:=⟨_,rfl⟩
        refine Tr.cond rfl (fun hb46=>?_) (fun hb46=>?_)
        ·replace h:=bT hb46 h
         refine sr ((md rfl (nt ((Tr.ret ?_)))))
         replace h:=si h; subst h
         exact ⟨.inr rfl,(b_ false),rfl,fun _ _ _ _ h=>h,trivial,fun k hk=>Qf hk⟩
        ·replace h:=bF hb46 h
         refine Tr.skip ?_
         exact ⟨_,h,(by exact Qh [] ⟨(kPtr rfl),(kPtr rfl),(sm rfl),trivial⟩ ⟨⟨_,rfl,rfl,(.same rfl)⟩,⟨_,rfl,rfl,(.same rfl)⟩,⟨_,rfl,rfl,(.same rfl)⟩,⟨_,rfl,rfl,(.same rfl)⟩,trivial⟩ rfl)⟩
     ·refine Tr.seq (sr ((Rn.fldP (o':=1) trivial rfl rfl (Rn.load (v:=(l_ x3.Raw)) trivial rfl (Qk rfl) rfl rfl (Rn.fldP (o':=1) trivial rfl rfl (Rn.load (v:=(i_ x14.States)) trivial rfl (Qk rfl) rfl rfl ?_))))))
      obtain ⟨x48,h47,h⟩:=bnd h
      refine Rn.call (args:=[(l_ x3.Raw),(i_ x14.States)]) trivial rfl (H_overseerref03_List _ _ _ h47) pc9 (md rfl (nt ((sr ((md rfl (Rn.bin trivial rfl rfl rfl (Rn.nil (toN ?_)))))))))
      refine Tr.cond rfl (fun hb49=>?_) (fun hb49=>?_)
      ·replace h:=bT hb49 h
       refine sr ((Rn.load (v:=(Qa x14)) trivial rfl (Qk rfl) rfl rfl (Rn.fldP (o':=1) trivial rfl rfl (Rn.load (v:=(l_ x3.Raw)) trivial rfl (Qk rfl) rfl rfl (Rn.mov (v:=(l_ x16)) trivial rfl ?_)))))
       obtain ⟨⟨r51,r52⟩,h50,h⟩:=bnd h
       refine Rn.call (args:=[(Qa x14),(l_ x3.Raw),(l_ x16)]) trivial rfl (H_projection_Reach _ _ _ _ h50) pc9 (Rn.mov (v:=.tup [(l_ r51),(i_ r52)]) trivial rfl (Rn.extTD (vs:=[(l_ r51),(i_ r52)]) trivial rfl rfl rfl (Rn.ext (v:=(i_ r52)) (vs:=[(l_ r51),(i_ r52)]) trivial rfl rfl rfl (Rn.movTD trivial rfl (md rfl (nt ((sr ((Rn.load (v:=(Qa x14)) trivial rfl (Qk rfl) rfl rfl (Rn.mov (v:=(l_ x16)) trivial rfl (Rn.fldP (o':=1) trivial rfl rfl (Rn.load (v:=(l_ x3.Raw)) trivial rfl (Qk rfl) rfl rfl (Rn.fldP (o':=2) trivial rfl rfl (Rn.load (v:=(i_ x3.Event)) trivial rfl (Qk rfl) rfl rfl ?_)))))))))))))))
       obtain ⟨⟨r54,r55⟩,h53,h⟩:=bnd h
       refine Rn.call (args:=[(Qa x14),(l_ x16),(l_ x3.Raw),(i_ x3.Event)]) trivial rfl (H_projection_Next _ _ _ _ _ h53) pc9 (Rn.mov (v:=.tup [(l_ r54),(i_ r55)]) trivial rfl (Rn.extTD (vs:=[(l_ r54),(i_ r55)]) trivial rfl rfl rfl (Rn.ext (v:=(i_ r55)) (vs:=[(l_ r54),(i_ r55)]) trivial rfl rfl rfl (Rn.movTD trivial rfl (md rfl (nt ((sr ((md rfl (Rn.lenD trivial rfl (Rn.bin trivial rfl rfl rfl (md rfl ?_)))))))))))))
       refine Qdb ((r51.length : Int) == 0) (fun hb56=>?_) (fun hb56=>?_)
       ·replace h:=bT hb56 h
        refine Rn.movD (gw rfl hb56) rfl (Rn.movD (gw rfl hb56) rfl (Rn.bin (gw rfl hb56) rfl rfl rfl (Rn.pickT (v:=(b_ (r52 == x48))) trivial rfl hb56 rfl (md rfl ?_))))
        refine Qdb (r52 == x48) (fun hb57=>?_) (fun hb57=>?_)
        ·replace h:=bT hb57 h
         refine Rn.movD (gw rfl hb57) rfl (Rn.lenD (gw rfl hb57) rfl (Rn.bin (gw rfl hb57) rfl rfl rfl (Rn.pickT (v:=(b_ ((r54.length : Int) == 0))) trivial rfl hb57 rfl (md rfl ?_))))
         refine Qdb ((r54.length : Int) == 0) (fun hb58=>?_) (fun hb58=>?_)
         ·replace h:=bT hb58 h
          refine Rn.movD (gw rfl hb58) rfl (Rn.movD (gw rfl hb58) rfl (Rn.bin (gw rfl hb58) rfl rfl rfl (Rn.pickT (v:=(b_ (r55 == x48))) trivial rfl hb58 rfl (md rfl (nt ((Tr.ret ?_)))))))
          replace h:=si h; subst h
          exact ⟨.inr rfl,(b_ (r55 == x48)),rfl,fun _ _ _ _ h=>h,trivial,fun k hk=>Qf hk⟩
         ·replace h:=bF hb58 h
          refine Rn.sk (nw rfl hb58) (Rn.sk (nw rfl hb58) (Rn.sk (nw rfl hb58) (Rn.pickF (v:=(b_ false)) trivial rfl hb58 rfl (md rfl (nt ((Tr.ret ?_)))))))
          replace h:=si h; subst h
          exact ⟨.inr rfl,(b_ false),rfl,fun _ _ _ _ h=>h,trivial,fun k hk=>Qf hk⟩
        ·replace h:=bF hb57 h
         refine Rn.sk (nw rfl hb57) (Rn.sk (nw rfl hb57) (Rn.sk (nw rfl hb57) (Rn.pickF (v:=(b_ false)) trivial rfl hb57 rfl (md rfl (Rn.sk (nw (b:=false) rfl rfl) (Rn.sk (nw (b:=false) rfl rfl) (Rn.sk (nw (b:=false) rfl rfl) (Rn.pickF (v:=(b_ false)) trivial rfl rfl rfl (md rfl (nt ((Tr.ret ?_))))))))))))
         replace h:=si h; subst h
         exact ⟨.inr rfl,(b_ false),rfl,fun _ _ _ _ h=>h,trivial,fun k hk=>Qf hk⟩
       ·replace h:=bF hb56 h
        refine Rn.sk (nw rfl hb56) (Rn.sk (nw rfl hb56) (Rn.sk (nw rfl hb56) (Rn.pickF (v:=(b_ false)) trivial rfl hb56 rfl (md rfl (Rn.sk (nw (b:=false) rfl rfl) (Rn.sk (nw (b:=false) rfl rfl) (Rn.sk (nw (b:=false) rfl rfl) (Rn.pickF (v:=(b_ false)) trivial rfl rfl rfl (md rfl (Rn.sk (nw (b:=false) rfl rfl) (Rn.sk (nw (b:=false) rfl rfl) (Rn.sk (nw (b:=false) rfl rfl) (Rn.pickF (v:=(b_ false)) trivial rfl rfl rfl (md rfl (nt ((Tr.ret ?_)))))))))))))))))
        replace h:=si h; subst h
        exact ⟨.inr rfl,(b_ false),rfl,fun _ _ _ _ h=>h,trivial,fun k hk=>Qf hk⟩
      ·replace h:=bF hb49 h
       refine Tr.skip (toN (sr ((md rfl (nt ((Tr.ret ?_)))))))
       replace h:=si h; subst h
       exact ⟨.inr rfl,(b_ true),rfl,fun _ _ _ _ h=>h,trivial,fun k hk=>Qf hk⟩
theorem Q13 {P : Program} {c : Nat} (hcf : Qv P c = some Qj3) (fuel : Nat) : Qqb P c (Qg3 fuel):=by
 intro s1 s2 r h
 refine Qcg hcf rfl fun Γ M hP hnt hM=>?_
 subst hP
 refine Tr.init [(0,(l_ s1)),(1,(l_ s2))] rfl ?_
 unfold Qg3 at h
 unfold Qj3
 refine sr ((md rfl (nt ((Tr.seq (sr ((md rfl (Rn.lenD trivial rfl (md rfl (Rn.lenD trivial rfl (Rn.bin trivial rfl rfl rfl (Rn.nil (toN ?_))))))))))))))
 refine Tr.cond rfl (fun hb3=>?_) (fun hb3=>?_)
 ·replace h:=bT hb3 h
  refine sr ((md rfl (nt ((Tr.ret ?_)))))
  replace h:=si h; subst h
  exact ⟨.inr rfl,(b_ false),rfl,fun _ _ _ _ h=>h,trivial,fun k hk=>Qf hk⟩
 ·replace h:=bF hb3 h
  refine Tr.skip (toN (Tr.seq (sr ((md rfl (Rn.lenD trivial rfl (md rfl (nt ((Tr.block ?_))))))))))
  refine Tr.loop (mk:=fun (x4 : Int)=>⟨look [(0,(l_ s1)),(1,(l_ s2)),(12,(i_ (s1.length : Int))),(13,(i_ x4))],Qn Γ.n0 (bxs []) M,Γ.n0 + 26⟩) h (by exact Ql ⟨(sm rfl),(sm rfl),(sm rfl),(sm rfl),trivial⟩ trivial rfl) (fun k5 z h=>?_)
  ·obtain ⟨x4,rfl⟩ : ∃ x,x = z:=⟨_,rfl⟩
   replace h : _ = some _:=h
   refine sr ((Rn.bin trivial rfl rfl rfl (nt ((Tr.seq ?_)))))
   refine Tr.cond rfl (fun hb6=>?_) (fun hb6=>?_)
   ·replace h:=ifT hb6 h
    refine Tr.skip (toN (Tr.seq (Tr.block (sr ((md rfl (md rfl (nt ((Tr.seq ?_))))))))))
    refine Tr.rgnD (by decide) ?_
    refine md rfl (md rfl ?_)
    obtain ⟨x7,h8,h⟩:=bnd h
    refine Rn.idxD (e:=(eI .i64)) trivial rfl rfl h8 (Rn.loadC (x:=.int .i64 x7) trivial rfl (md rfl (md rfl ?_)))
    obtain ⟨x9,h10,h⟩:=bnd h
    refine Rn.idxD (e:=(eI .i64)) trivial rfl rfl h10 (Rn.loadC (x:=.int .i64 x9) trivial rfl (Rn.bin trivial rfl rfl rfl ?_))
    refine Rn.nil ⟨rfl,?_⟩
    refine toN ?_
    refine Tr.cond rfl (fun hb11=>?_) (fun hb11=>?_)
    ·replace h:=bT hb11 h
     refine sr ((md rfl (nt ((Tr.ret ?_)))))
     replace h:=si h; subst h
     exact ⟨.inr rfl,(b_ false),rfl,fun _ _ _ _ h=>h,trivial,fun k hk=>Qf hk⟩
    ·replace h:=bF hb11 h
     refine Tr.skip (toN (Tr.rgn (Rn.bin trivial rfl rfl rfl (md rfl (Rn.nil ?_)))))
     exact ⟨_,h,(by exact Ql ⟨(sm rfl),(sm rfl),(sm rfl),(sm rfl),trivial⟩ trivial rfl)⟩
   ·replace h:=ifF hb6 h
    refine Tr.exit (toN (sr ((md rfl (nt ((Tr.ret ?_)))))))
    replace h:=si h; subst h
    exact ⟨.inr rfl,(b_ true),rfl,fun _ _ _ _ h=>h,trivial,fun k hk=>Qf hk⟩
end Go.Abs
end
section
namespace Go.Proofs
open Go.Abs
set_option maxRecDepth 100000
theorem Qj5 : Qv Tryz.prog 4 = some Qdr:=by kernel_rfl
theorem Q14 : Qv Tryz.prog 8 = some Qhf:=by kernel_rfl
theorem Q4w : Qv Tryz.prog 9 = some Qig:=by kernel_rfl
theorem Q4x : Qv Tryz.prog 10 = some Qh8:=by kernel_rfl
theorem Qp1 : Qv Tryz.prog 11 = some Qfe:=by kernel_rfl
theorem Q4y : Qv Tryz.prog 12 = some Qh1:=by kernel_rfl
theorem Q4z : Qv Tryz.prog 14 = some Qh5:=by kernel_rfl
theorem Qqx : Qv Tryz.prog 15 = some Qfr:=by kernel_rfl
theorem Q40 : Qv Tryz.prog 17 = some Qia:=by kernel_rfl
theorem Q7p : Qv Tryz.prog 18 = some Qj2:=by kernel_rfl
theorem Qs3 : Qv Tryz.prog 19 = some Qf9:=by kernel_rfl
theorem Q15 : Qv Tryz.prog 20 = some Qhl:=by kernel_rfl
theorem Q8r : Qv Tryz.prog 21 = some Qld:=by kernel_rfl
theorem Q6p : Qv Tryz.prog 22 = some Qi7:=by kernel_rfl
theorem Q41 : Qv Tryz.prog 23 = some Qic:=by kernel_rfl
theorem Q42 : Qv Tryz.prog 24 = some Qie:=by kernel_rfl
theorem Q8s : Qv Tryz.prog 31 = some Qky:=by kernel_rfl
theorem Qww : Qv Tryz.prog 34 = some Qgg:=by kernel_rfl
theorem Q43 : Qv Tryz.prog 35 = some Qh3:=by kernel_rfl
theorem Q16 : Qv Tryz.prog 36 = some Qhg:=by kernel_rfl
theorem Qqy : Qv Tryz.prog 37 = some Qft:=by kernel_rfl
theorem Q7q : Qv Tryz.prog 38 = some Qjx:=by kernel_rfl
theorem Q44 : Qv Tryz.prog 39 = some Qhz:=by kernel_rfl
theorem Qpg : Qv Tryz.prog 40 = some Qe2:=by kernel_rfl
theorem Qlx : Qv Tryz.prog 42 = some Qec:=by kernel_rfl
theorem Qp2 : Qv Tryz.prog 43 = some Qfc:=by kernel_rfl
theorem Q6q : Qv Tryz.prog 45 = some Qi5:=by kernel_rfl
theorem Q8t : Qv Tryz.prog 46 = some Qkr:=by kernel_rfl
theorem Q17 : Qv Tryz.prog 48 = some Qhb:=by kernel_rfl
theorem Q18 : Qv Tryz.prog 49 = some Qg9:=by kernel_rfl
theorem Qph : Qv Tryz.prog 50 = some Qe0:=by kernel_rfl
theorem Qz9 : Qv Tryz.prog 51 = some Qgw:=by kernel_rfl
theorem Qpi : Qv Tryz.prog 52 = some Qe3:=by kernel_rfl
theorem Q0a : Qv Tryz.prog 53 = some Qgy:=by kernel_rfl
theorem Qban : Qv Tryz.prog 54 = some Qov:=by kernel_rfl
theorem Q7r : Qv Tryz.prog 55 = some Qjy:=by kernel_rfl
theorem Q19 : Qv Tryz.prog 56 = some Qg8:=by kernel_rfl
theorem Qqz : Qv Tryz.prog 58 = some Qfn:=by kernel_rfl
theorem Q7s : Qv Tryz.prog 63 = some Qj3:=by kernel_rfl
theorem Q6r : Qv Tryz.prog 65 = some Qi1:=by kernel_rfl
theorem Q6s : Qv Tryz.prog 66 = some Qi3:=by kernel_rfl
theorem Q0b : Qv Tryz.prog 70 = some Qgt:=by kernel_rfl
theorem Q2a : Qv Tryz.prog 71 = some Qhd:=by kernel_rfl
theorem Q2b : Qv Tryz.prog 72 = some Qhi:=by kernel_rfl
theorem Q6t : Qv Tryz.prog 73 = some Qi4:=by kernel_rfl
theorem Q45 : Qv Tryz.prog 74 = some Qh6:=by kernel_rfl
theorem Q2c : Qv Tryz.prog 75 = some Qhk:=by kernel_rfl
theorem Qkj : Qv Tryz.prog 78 = some Qdy:=by kernel_rfl
theorem Q46 : Qv Tryz.prog 79 = some Qhy:=by kernel_rfl
theorem Q0c : Qv Tryz.prog 80 = some Qgq:=by kernel_rfl
theorem Qq0 : Qv Tryz.prog 82 = some Qfp:=by kernel_rfl
theorem Qmt : Qv Tryz.prog 83 = some Qel:=by kernel_rfl
theorem Qmu : Qv Tryz.prog 84 = some Qen:=by kernel_rfl
theorem Qmv : Qv Tryz.prog 85 = some Qep:=by kernel_rfl
theorem Q8u : Qv Tryz.prog 86 = some Qk9:=by kernel_rfl
theorem Q8v : Qv Tryz.prog 87 = some Qlb:=by kernel_rfl
theorem Q7t : Qv Tryz.prog 88 = some Qjw:=by kernel_rfl
theorem Q0d : Qv Tryz.prog 89 = some Qgs:=by kernel_rfl
theorem Qbbb : Qv Tryz.prog 97 = some Qqr:=by kernel_rfl
theorem Q7u : Qv Tryz.prog 98 = some Qj0:=by kernel_rfl
theorem Qbao : Qv Tryz.prog 121 = some Qok:=by kernel_rfl
end Go.Proofs
end
section
namespace Go.Abs
open Go Go.Sort
set_option linter.unusedVariables false
section plain
variable {β : Type}
def insB (lt : β → β → Bool) (x : β) : List β → List β
 | []=>[x]
 | y :: ys=>if lt y x then y :: insB lt x ys else x :: y :: ys
def Qht (lt : β → β → Bool) : List β → List β
 | []=>[]
 | x :: xs=>insB lt x (Qht lt xs)
def Qbbc (lt : β → β → Bool) : List β → Bool
 | []=>true
 | x :: xs=>xs.all (fun y=>lt x y || lt y x) && Qbbc lt xs
def Qblx (ok : β → Bool) (lt : β → β → Bool) (l : List β) : Option (List β):=if l.all ok && Qbbc lt l then some (Qht lt l) else none
theorem Qbap (lt : β → β → Bool) (x : β) : ∀ l,(insB lt x l).Perm (x :: l)
 | []=>.refl _
 | y :: ys=>by
  unfold insB; split
  ·exact ((Qbap lt x ys).cons y).trans (.swap x y ys)
  ·exact .refl _
theorem Qjj (lt : β → β → Bool) : ∀ l,(Qht lt l).Perm l
 | []=>.refl _
 | x :: xs=>(Qbap lt x _).trans ((Qjj lt xs).cons x)
theorem Qnx (lt : β → β → Bool) (l : List β) : (Qht lt l).length = l.length:=(Qjj lt l).length_eq
theorem Qbaq {lt : β → β → Bool} (h : SWO lt) (x : β) : ∀ l,l.Pairwise (fun a b=>lt b a = false) → (insB lt x l).Pairwise fun a b=>lt b a = false
 | [],_=>by simp [insB]
 | y :: ys,hl=>by
  obtain ⟨h1,h2⟩:=List.pairwise_cons.1 hl
  unfold insB; split
  ·rename_i hc
   refine List.pairwise_cons.2 ⟨fun z hz=>?_,Qbaq h x ys h2⟩
   rcases List.mem_cons.1 ((Qbap lt x ys).mem_iff.1 hz) with rfl | hz
   ·cases hb : lt z y with
    | false=>rfl
    | true=>have:=h.trans _ _ _ hc hb; rw [h.irrefl] at this; cases this
   ·exact h1 z hz
  ·rename_i hc
   have hc : lt y x = false:=by cases h : lt y x <;> simp_all
   refine List.pairwise_cons.2 ⟨fun z hz=>?_,hl⟩
   rcases List.mem_cons.1 hz with rfl | hz
   ·exact hc
   ·exact h.ntrans _ _ _ (h1 z hz) hc
theorem Qj6 {lt : β → β → Bool} (h : SWO lt) : ∀ l,(Qht lt l).Pairwise fun a b=>lt b a = false
 | []=>.nil
 | x :: xs=>Qbaq h x _ (Qj6 h xs)
theorem Qbb5 {lt : β → β → Bool} : ∀ {l : List β},Qbbc lt l = true → ∀ a b,a ∈ l → b ∈ l → lt a b = false → lt b a = false → a = b
 | [],_,a,_,ha,_,_,_=>by cases ha
 | x :: xs,h,a,b,ha,hb,h1,h2=>by
  simp only [Qbbc,Bool.and_eq_true,List.all_eq_true] at h
  obtain ⟨k1,k2⟩:=h
  rcases List.mem_cons.1 ha with e1 | ha' <;> rcases List.mem_cons.1 hb with e2 | hb'
  ·rw [e1,e2]
  ·subst e1; have:=k1 b hb'; simp [h1,h2] at this
  ·subst e2; have:=k1 a ha'; simp [h1,h2] at this
  ·exact Qbb5 k2 a b ha' hb' h1 h2
theorem Qbc5 {lt : β → β → Bool} (h : SWO lt) {l m : List β} (hd : Qbbc lt l = true) (hp : m.Perm l) (hs : m.Pairwise fun a b=>lt b a = false) : m = Qht lt l:=by
 refine List.Perm.eq_of_pairwise (le:=fun a b=>lt b a = false) (fun a b ha hb h1 h2=>?_) hs (Qj6 h l) (hp.trans (Qjj lt l).symm)
 exact Qbb5 hd a b (hp.mem_iff.1 ha) ((Qjj lt l).mem_iff.1 hb) h2 h1
theorem Qbgg {α : Type} (f : α → β) (lt : β → β → Bool) (x : α) : ∀ l : List α,insB lt (f x) (l.map f) = (insB (fun a b=>lt (f a) (f b)) x l).map f
 | []=>rfl
 | y :: ys=>by
  simp only [List.map_cons,insB]; split
  ·simp only [List.map_cons,Qbgg f lt x ys]
  ·rfl
theorem Qbb6 {α : Type} (f : α → β) (lt : β → β → Bool) : ∀ l : List α,Qht lt (l.map f) = (Qht (fun a b=>lt (f a) (f b)) l).map f
 | []=>rfl
 | x :: xs=>by simp only [List.map_cons,Qht,Qbb6 f lt xs,Qbgg]
theorem Qbed {α : Type} (f : α → β) (lt : β → β → Bool) : ∀ l : List α,Qbbc lt (l.map f) = Qbbc (fun a b=>lt (f a) (f b)) l
 | []=>rfl
 | x :: xs=>by simp only [List.map_cons,Qbbc,Qbed f lt xs,List.all_map]; rfl
end plain
def Qfa (a b : Int) : Bool:=decide (a < b)
end Go.Abs
end
section
namespace Go.Abs
open Go Go.Sort Go.RowKit
set_option linter.unusedVariables false
theorem Qbar {P : Program} {f : FuncId} {ex : Array Value} {exV : List V} {sz nb : Nat} {M : Mem} (hb : Qgo P f = true) (hex : ∀ g w us,RFs g w exV us → us = ex.toList)
  (h : ∀ (p : Option Addr) (cap : Nat) (w : World),Calls P f (#[.slice p 0 cap] ++ ex) w fun e' w'=>e' = .returned (.tuple #[]) ∧ w' = w) :
  ACalls P f (.d (.lst sz []) :: exV) M nb (.tup []) M nb:=by
 refine ⟨hb,Nat.le_refl _,fun w g us hm hMon hfresh hus hfl hons=>?_⟩
 obtain ⟨u0,us',rfl,hu0,hus'⟩:=hus
 have h1:=hex _ _ _ hus'
 subst h1
 have h2 : ∃ p cap,u0 = .slice p 0 cap:=by
  have:=RF_d.1 hu0
  obtain ⟨a,cap,rfl,_,_⟩:=this
  exact ⟨a,cap,rfl⟩
 obtain ⟨p,cap,rfl⟩:=h2
 have e1 : (Value.slice p 0 cap :: ex.toList).toArray = #[.slice p 0 cap] ++ ex:=by apply Array.ext'; simp
 rw [e1]
 refine (h p cap w).mono ?_
 rintro e' w' ⟨rfl,rfl⟩
 exact ⟨_,g,rfl,hm,⟨[],rfl,rfl⟩,trivial,hMon,Fr.refl _ _ _⟩
theorem Qbfh (l : List Int) : (l.mergeSort fun x y=>decide (x ≤ y)) = Qht Qfa l:=by
 have hO : Go.Sort.SWO Qfa:=⟨fun x=>by simp [Qfa],fun x y z h1 h2=>by simp [Qfa] at *; omega,fun x y z h1 h2=>by simp [Qfa] at *; omega⟩
 refine List.Perm.eq_of_pairwise (le:=fun a b=>Qfa b a = false) (fun a b _ _ h1 h2=>by simp [Qfa] at *; omega) ?_ (Qj6 hO l) ((List.mergeSort_perm _ _).trans (Qjj _ l).symm)
 have:=List.pairwise_mergeSort (le:=fun x y : Int=>decide (x ≤ y)) (fun a b c h1 h2=>by simp at *; omega) (fun a b=>by simp; omega) l
 exact this.imp fun h=>by simp [Qfa] at *; omega
end Go.Abs
end
section
namespace Go.Abs
def sortI (l : List Int) : Option (List Int):=if l.length ≤ lim then some (Qht Qfa l) else none
def Qbgh (l : List Int) : Option (List Int):=if l.length ≤ lim then some (Lib.compact l) else none
def okE (x : Qe) : Bool:=decide (0 ≤ x.From ∧ x.From < 4611686018427387904 ∧ 0 ≤ x.Event ∧ x.Event < 4611686018427387904)
def ltE (x y : Qe) : Bool:=decide (x.From < y.From ∨ (x.From = y.From ∧ x.Event < y.Event))
def Qbk7 (l : List Qe) : Option (List Qe):=if l.length ≤ 65536 then Qblx okE ltE l else none
def Qbly (n : Int) : Option (List Int):=if 0 ≤ n ∧ n ≤ lim then some [] else none
def keyB (l : List Int) : ByteArray:=⟨(l.flatMap fun x=>Lib.encodeRune (x + 1)).toArray⟩
def keyS (l : List Int) : Option ByteArray:=if l.length ≤ lim ∧ ∀ x ∈ l,0 ≤ x ∧ x < 50000 then some (keyB l) else none
end Go.Abs
end
section
namespace Go.Abs
open Go Go.Abs
set_option linter.unusedVariables false
set_option maxRecDepth 10000
set_option maxHeartbeats 4000000
def Qbi : Nat:=1099511627776
def Qj7:=Qby
def Qfz:=Qbw Qbi
def Qg4:=Qcu Qbi
def Q7:=Qj Qg4
def Qe6:=Qbs Q7 Qbi
def Qga:=Qbm Qfz Qe6
def Qee:=Qz Qbi
def Qcx:=Qt Qga Qee
def Qda:=Qu Q7 Qbi
def Q4:=Q3
def Qcf:=Qr Q7 sortI Q4 Qbi
def Qhm:=Qbk Qcf
def Qfu:=Q8 Q7
def Qgz:=Qbt Qbi
def Qdc:=Q0 Qgz
def Qgc:=Qbe Qdc Qfu
def Qc9:=Qy Qcf Qbi
def Qmw:=Qco Qcx Qda Qhm keyS Qgc Qc9 Qbi
def Qeq:=Q9 Q7
def Qc5:=Qw Qdc Qeq
def Qj8:=Qbn
def Qs4:=Qdj Qcx Qda Qc5 Qj8 Q7 Qbi
def Qpj:=Qc2
def Qpk:=Qc3 Qbly Qbi
def Q0e:=Qgu
def Q2d:=Qdq
def Q5f:=Qew Q2d
def Qqc:=Qcv
def Qiv:=Qbp Q5f Qqc Qbi
def Qgj:=Qba Qbi
def Qs5:=Qdk
def Qs6:=Qdl
def Q2e:=Qed Qgj Qs5 Qs6
def Qly:=Qch Q2e Qj8 Qiv Qbi
def Qlz:=Qci Qga Qly
def Qmx:=Qcp Qcx Q7 Qpj Qpk sortI Qbgh Qbk7 Qlz Qbi
def Qc0:=Qq Qbi
def Qmy:=Qcq Qc0 Qbi
def Qiw:=Qbq Qc0 Qbi
def Qhn:=Qb0 Qmw Qmy Qiw Qc0 Qs4 Qj7 Qmx
def Qd0:=Qbh Qbi
def Qef:=Q2
def Qca:=Qbc Qbi
def Qc6:=Qbf Qbi
def Qfk:=Qb1 Qc6 Qca Qbi
def Qeg:=Qb2 Qbi
def Qd6:=Qbj Qef Qfk Qc6 Qca Qeg Qbi
def Qf0:=Qb5 Qef Qd6 Qbi
def Qf1:=Qb6 Qbi
def Qds:=Qb3 Qcx Qda Qee Qcf
def Qdh:=Qs Qbi
def Qe7:=Qbu Qdh Qbi
def Qeh:=Q6 Qdh Qe7 Qbi
def Qd3:=Qce Qcx Qda Qc9 Qee Qc5
def Qf2:=Qb7 Qdh Qbi
def Qjk:=Qc4 Qbi
def Qe8:=Qbv Qdh Qbi
def Qf3:=Qb8 Qeh Qdh Qe8 Qbi
def Qes:=Qb9 Qbi
def Qdt:=Qcw Qhn Qes Qf0 Qd0 Qf1 Qds Qc0 Qeh Qd3 Qjk Qf2 Qf3
def Qj9:=Qg3 Qbi
end Go.Abs
end
section
namespace Go.Abs
open Go Go.Sort Go.Shelf Go.RowKit Go.Lib Go.Proofs
set_option linter.unusedVariables false
set_option linter.unusedSectionVars false
theorem Qbee {α : Type} [Inhabited α] {enc : α → List Value} {k : Nat} (hk : ∀ x, (enc x).length = k) (h0 : 0 < k) : ∀ (l : List α) (t : Nat), t < l.length * k → (l.map enc).flatten[t]? = some (enc l[t / k]!)[t % k]!
  | [], t, h => by simp at h
  | x :: xs, t, h => by
    rw [List.map_cons, List.flatten_cons]
    by_cases hl : t < k
    · rw [List.getElem?_append_left (by rw [hk]; exact hl), Nat.div_eq_of_lt hl, Nat.mod_eq_of_lt hl]
      have : t < (enc x).length := by rw [hk]; exact hl
      simp [this]
    · have hge : k ≤ t := by omega
      have h2 : t - k < xs.length * k := by simp only [List.length_cons, Nat.add_mul, Nat.one_mul] at h; omega
      rw [List.getElem?_append_right (by rw [hk]; exact hge), hk, Qbee hk h0 xs (t - k) h2]
      have e1 : t / k = (t - k) / k + 1 := by rw [← Nat.add_div_right _ h0, Nat.sub_add_cancel hge]
      have e2 : t % k = (t - k) % k := by rw [Nat.mod_eq_sub_mod hge]
      rw [e1, e2]; simp
theorem Qbef {α : Type} [Inhabited α] {enc : α → List Value} {k : Nat} (hk : ∀ x, (enc x).length = k) (h0 : 0 < k) (l : List α) : flatK enc k l.toArray = (l.map enc).flatten.toArray := by
  have hs : (l.map enc).flatten.length = l.length * k := by
    induction l with
    | nil => simp
    | cons x xs ih => rw [List.map_cons, List.flatten_cons, List.length_append, ih, hk]; simp [Nat.add_mul]; omega
  refine ext_get! (by simp [hs]) fun t ht => ?_
  have ht' : t < l.length * k := by simpa using ht
  rw [get_flatK _ _ _ _ (by simpa using ht')]
  have := Qbee hk h0 l t ht'
  obtain ⟨h1, h2⟩ := List.getElem?_eq_some_iff.1 this
  rw [getElem!_pos _ t (by simpa using h1)]
  simp only [List.getElem_toArray, h2]
  simp
theorem Qbeg {α : Type} (e : α → List D) (xs : List α) : rowV e xs = (xs.map fun x => (e x).map D.val).flatten := by
  unfold rowV; rw [List.map_flatten, List.map_map]; rfl
theorem Qbbd {P : Program} {ρ : Ren} {α : Type} [Inhabited α] (L : SlLaysF0.n6 P ρ) {k : Nat} (aE : ∀ w, (isAgg (ρ.t 24)).run P w = .ok true w) (zE : ∀ w, (Go.sizeOf (ρ.t 24)).run P w = .ok k w) (e : α → List D) (hk : ∀ x, (e x).length = k) (h0 : 0 < k) (hsc : ∀ x, (e x).all D.scalar = true)
    (cf : α → α → Int) (hO : SWO (ltOf cf)) (g : Nat) (cb : Array Value) (eg : ∀ args w, (callFunc g args).run P w = .ok (.enter g args) w)
    (hcmp : ∀ (x y : α) (W : World), Calls P g (#[.agg ((e x).map D.val).toArray, .agg ((e y).map D.val).toArray] ++ cb) W fun r w' => r = .returned (.int .i64 (cf x y)) ∧ ∃ q os', w' = grow (W.drewN q) os') :
    Qbi0 P (ρ.f 6) e #[.func (.func g) #[] cb] (fun xs => (pdq (ltOf cf) xs.toArray 0 xs.length (Lib.bitLen xs.length) true true).toList) := by
  intro blk cap xs w hc hblk hsz
  have henc : ∀ x, ((fun x => (e x).map D.val) x).length = k := fun x => by simp [hk]
  have h1 : ∀ x : α, ∀ v ∈ (e x).map D.val, v.oneCell' = true := by
    intro x v hv
    obtain ⟨d, hd, rfl⟩ := List.mem_map.1 hv
    exact Qbfg (List.all_eq_true.1 (hsc x) d hd)
  have hH : HoldsK (fun x => (e x).map D.val) k w blk 0 xs.toArray := by
    unfold HoldsK
    rw [Qbef henc h0, ← Qbeg]
    intro j hj
    have hj' : j < (rowV e xs).length := by simpa using hj
    obtain ⟨k1, k2⟩ := hc j hj'
    rw [Nat.zero_add]
    refine ⟨k1.trans ?_, k2⟩
    rw [List.getElem?_eq_getElem hj', getElem!_pos _ j hj]; rfl
  have hcl : CmpLays P g cb (fun x => (e x).map D.val) k cf blk 0 xs.toArray.size w := fun _ _ _ _ x y => hcmp x y _
  have := AnyQ.slices_SortFunc_eq L k aE zE (fun x => (e x).map D.val) henc h1 cf hO g cb blk 0 cap xs.toArray w eg hcl hH hblk (by simpa using hsz)
  refine this.mono ?_
  rintro r w' ⟨rfl, n, os, rfl⟩
  refine ⟨rfl, n, os, ?_⟩
  unfold sortWorldK putRowK
  have hrow : flatK (fun x => (e x).map D.val) k (pdq (ltOf cf) xs.toArray 0 xs.toArray.size (Lib.bitLen xs.toArray.size) true true) = (rowV e (pdq (ltOf cf) xs.toArray 0 xs.length (Lib.bitLen xs.length) true true).toList).toArray := by
    rw [Qbeg, ← Qbef henc h0]; simp
  rw [hrow]
section
variable {α : Type} [Inhabited α]
theorem Qbc6 {lt : α → α → Bool} (hO : SWO lt) (xs : List α) (k : Nat) : (pdq lt xs.toArray 0 xs.length k true true).toList.Perm xs ∧ (pdq lt xs.toArray 0 xs.length k true true).toList.Pairwise fun a b => lt b a = false := by
  obtain ⟨⟨h1, _, h2⟩, h3⟩ := pdq_sorts lt hO xs.toArray 0 xs.length k true true (Nat.zero_le _) (by simp) (Or.inl rfl)
  generalize pdq lt xs.toArray 0 xs.length k true true = d at *
  have hs : d.size = xs.length := by simpa using h1
  refine ⟨?_, ?_⟩
  · have e1 : d.extract 0 xs.length = d := by rw [← hs]; exact Array.extract_size
    have e2 : xs.toArray.extract 0 xs.length = xs.toArray := by have : xs.length = xs.toArray.size := by simp
                                                                rw [this]; exact Array.extract_size
    rw [e1, e2] at h2
    simpa using h2
  · rw [List.pairwise_iff_getElem]
    intro i j hi hj hij
    have hi' : i < d.size := by simpa using hi
    have hj' : j < d.size := by simpa using hj
    have := h3 i j (Nat.zero_le _) hij (by omega)
    rw [getElem!_pos d i hi', getElem!_pos d j hj'] at this
    simpa using this
theorem Qbi9 {lt : α → α → Bool} (hO : SWO lt) (xs : List α) (k : Nat) (hd : Qbbc lt xs = true) : (pdq lt xs.toArray 0 xs.length k true true).toList = Qht lt xs :=
  Qbc5 hO hd (Qbc6 hO xs k).1 (Qbc6 hO xs k).2
end
theorem Qbja {β : Type} {P : Program} {c : Nat} {e : β → List D} {sz N : Nat} {ok : β → Bool} {lt : β → β → Bool} [Inhabited {x : β // ok x = true}] {lt' : {x : β // ok x = true} → {x : β // ok x = true} → Bool}
    (hN : N < 4611686018427387904) (hk : ∀ x, (e x).length = sz) (hsc : ∀ x, (e x).all D.scalar = true) (hO : SWO lt') (hlt : ∀ x y, lt' x y = lt x.1 y.1) (hb : Qgo P c = true) {ex : Array Value} {exV : List V} (hex : ∀ g w us, RFs g w exV us → us = ex.toList)
    (hrow : Qbi0 P c (fun x : {x : β // ok x = true} => e x.1) ex (fun xs => (pdq lt' xs.toArray 0 xs.length (Lib.bitLen xs.length) true true).toList))
    (hnone : ∀ (p : Option Addr) (cap : Nat) (w : World), Calls P c (#[.slice p 0 cap] ++ ex) w fun e' w' => e' = .returned (.tuple #[]) ∧ w' = w) :
    RowK P c e sz exV (fun l => if l.length ≤ N then Qblx ok lt l else none) := by
  intro xs ys h
  dsimp only at h
  split at h <;> try (cases h; done)
  rename_i hlN
  unfold Qblx at h
  split at h <;> cases h
  rename_i hok
  simp only [Bool.and_eq_true, List.all_eq_true] at hok
  obtain ⟨ho, hd⟩ := hok
  obtain ⟨zs, rfl⟩ : ∃ zs : List {x : β // ok x = true}, xs = zs.map Subtype.val := ⟨xs.pmap Subtype.mk ho, by rw [List.map_pmap]; simp⟩
  have hd' : Qbbc lt' zs = true := by
    rw [Qbed] at hd
    rw [show lt' = fun a b => lt a.1 b.1 from funext fun a => funext fun b => hlt a b]; exact hd
  have e1 : Qht lt (zs.map Subtype.val) = (Qht lt' zs).map Subtype.val := by
    rw [Qbb6, show lt' = fun a b => lt a.1 b.1 from funext fun a => funext fun b => hlt a b]
  refine ⟨Qnx _ _, fun h0 => ?_, fun hl cap k0 M nb hM => ?_⟩
  · simp only [List.map_eq_nil_iff] at h0
    subst h0
    exact ⟨rfl, fun M nb => Qbar hb hex hnone⟩
  · have hM' : M k0 = some (.cells (Qbl (zs.map fun x => e x.1) ((cap - zs.length) * sz))) := by
      rw [hM, List.map_map, List.length_map]; rfl
    have := Qbb3 (fun x => hk x.1) (fun x => hsc x.1) (fun xs => (Qbc6 hO xs _).1.length_eq) hex hb hrow zs cap k0 M nb hM' (by rw [List.length_map] at hlN; omega)
    rw [Qbi9 hO zs _ hd'] at this
    rw [e1, List.map_map, List.length_map]
    exact this
end Go.Abs
end
section
namespace Go.Abs
open Go Go.RowKit
set_option linter.unusedVariables false
end Go.Abs
end
section
namespace Go.Abs
open Go Go.Sort Go.RowKit
set_option linter.unusedVariables false
theorem Qbas (xs : List Int) : rowV (eI .i64) xs = xs.map (Value.int .i64):=by
 unfold rowV
 induction xs with
 | nil=>rfl
 | cons x xs ih=>simp only [List.map_cons,List.flatten_cons,List.map_append,ih]; rfl
theorem Qbjb {P : Program} {c : Nat} (hb : Qgo P c = true)
  (hs : ∀ (blk off cap : Nat) (zs : List Int) (w : World),Holds (Value.int .i64) w blk off zs.toArray → blk < w.heap.size → zs.length < 4611686018427387904 →
   Calls P c #[.slice (some ⟨blk,off,none⟩) zs.length cap] w fun e w'=>e = .returned (.tuple #[]) ∧ ∃ n os,w' = grow (putRow (Value.int .i64) (Sort.ahead w n) blk off (zs.mergeSort fun x y=>decide (x ≤ y)).toArray) os)
  (hnone : ∀ (p : Option Addr) (cap : Nat) (w : World),Calls P c (#[.slice p 0 cap] ++ #[]) w fun e' w'=>e' = .returned (.tuple #[]) ∧ w' = w) :
  RowK P c (eI .i64) 1 [] (fun l=>if l.length ≤ lim then some (Qht Qfa l) else none):=by
 have hrow : Qbi0 P c (eI .i64) #[] (fun xs=>Qht Qfa xs):=by
  intro blk cap xs w hcell hblk hsz
  refine Calls.mono (hs blk 0 cap xs w ?_ hblk hsz) ?_
  ·intro j hj
   have hj' : j < xs.length:=by simpa using hj
   have:=hcell j (by rw [Qbas]; simpa using hj')
   rw [Qbas] at this
   rw [Nat.zero_add]
   refine ⟨?_,this.2⟩
   rw [this.1,getElem!_pos xs.toArray j hj]
   simp [hj']
  ·rintro e w' ⟨rfl,n,os,rfl⟩
   refine ⟨rfl,n,os,?_⟩
   rw [Qbfh,Qbas]
   congr 1
   unfold putRow
   congr 1
   funext c
   unfold putCells
   congr 1
   funext k x
   simp only [List.size_toArray,List.length_map]
   split
   ·rename_i h
    simp only [id]
    rw [getElem!_pos _ _ (by simp; omega),getElem!_pos _ _ (by simp; omega)]
    simp
   ·rfl
 intro xs ys h
 dsimp only at h
 split at h <;> cases h
 rename_i hl
 refine ⟨Qnx _ _,fun h0=>?_,fun hl2 cap k0 M nb hM=>?_⟩
 ·subst h0
  exact ⟨rfl,fun M nb=>Qbar (ex:=#[]) (exV:=[]) hb (fun _ _ _ h=>h) hnone⟩
 ·exact Qbb3 (e:=eI .i64) (fun _=>rfl) (fun _=>rfl) (fun xs=>Qnx _ _) (ex:=#[]) (exV:=[]) (fun _ _ _ h=>h) hb hrow xs cap k0 M nb hM (by unfold lim at hl; omega)
end Go.Abs
end
section
namespace Go.Abs
open Go Go.Sort Go.RowKit Go.Lib
set_option linter.unusedVariables false
theorem Qbat (zs : List Int) : (Lib.compact zs).length ≤ zs.length:=by
 unfold Lib.compact Lib.compactUpTo
 rw [List.length_map]
 exact Nat.le_trans (List.length_filter_le _ _) (by simp)
theorem Qblz (l : List Int) : (l.map (eI .i64)).flatten = l.map (D.int .i64):=by
 induction l with
 | nil=>rfl
 | cons x l ih=>simp only [List.map_cons,List.flatten_cons,ih]; rfl
theorem Qbg8 {P : Program} {c : Nat} (hb : Qgo P c = true)
  (hs : ∀ (blk off cap : Nat) (zs : List Int) (w : World),Holds (Value.int .i64) w blk off zs.toArray → zs.length ≤ 9223372036854775807 → zs.length ≤ cap →
   Calls P c #[.slice (some ⟨blk,off,none⟩) zs.length cap] w fun e w'=>e = .returned (.slice (some ⟨blk,off,none⟩) (Lib.compact zs).length cap) ∧ ∃ n,w' = putRow (Value.int .i64) (Sort.ahead w n) blk off (Lib.compact zs ++ List.replicate (zs.length - (Lib.compact zs).length) 0).toArray)
  (hnone : ∀ (p : Option Addr) (cap : Nat) (w : World),Calls P c #[.slice p 0 cap] w fun e' w'=>e' = .returned (.slice p 0 cap) ∧ w' = w) :
  CompK P c (fun l=>if l.length ≤ lim then some (Lib.compact l) else none):=by
 intro xs ys hf
 dsimp only at hf
 split at hf <;> cases hf
 rename_i hl
 refine ⟨Qbat xs,fun h0=>?_,fun cap k0 M nb hcap hM=>?_⟩
 ·subst h0
  refine ⟨rfl,fun M nb=>⟨hb,Nat.le_refl _,fun w g us hm hMon hfresh hus hfl hons=>?_⟩⟩
  obtain ⟨u0,us',rfl,hu0,rfl⟩:=hus
  have h2:=RF_d.1 hu0
  obtain ⟨a,cp,rfl,_,_⟩:=id h2
  refine (hnone a cp w).mono ?_
  rintro e' w' ⟨rfl,rfl⟩
  exact ⟨_,g,rfl,hm,hu0 _,trivial,hMon,Fr.refl _ _ _⟩
 refine ⟨hb,Nat.le_refl _,fun w g us hm hMon hfresh hus hfl hons=>?_⟩
 obtain ⟨u0,us',rfl,hu0,rfl⟩:=hus
 have h0:=Qba8.1 hu0
 subst h0
 obtain ⟨hk0,hown,vals,et,hh,hrv,hone⟩:=hm.box k0 _ hM
 have hlt : g.box k0 < w.heap.size:=(Array.getElem?_eq_some_iff.1 hh).1
 obtain ⟨hvl,hvr⟩:=(Qcj _ _ _ _).1 hrv
 simp only [Qbl,Qblz,List.map_map,List.length_append,List.length_map,List.length_replicate,Nat.mul_one] at hvl hvr
 have hcell : ∀ (j : Nat) (x : Int),xs[j]? = some x → vals[j]? = some (.int .i64 x):=by
  intro j x hx
  have hj:=(List.getElem?_eq_some_iff.1 hx).1
  have hjv : j < vals.length:=by omega
  have hc : (List.map (V.d ∘ D.int .i64) xs ++ List.replicate (cap - xs.length) V.und)[j]? = some (.d (.int .i64 x)):=by
   rw [List.getElem?_append_left (by rw [List.length_map]; exact hj),List.getElem?_map,hx]; rfl
  have:=hvr j _ _ hc (List.getElem?_eq_getElem hjv)
  have h2 : vals[j] = .int .i64 x:=this
  rw [List.getElem?_eq_getElem hjv,h2]
 have hH : Holds (Value.int .i64) w (g.box k0) 0 xs.toArray:=by
  intro j hj
  have hj' : j < xs.length:=by simpa using hj
  have:=hcell j xs[j] (List.getElem?_eq_getElem hj')
  rw [Nat.zero_add]
  refine ⟨?_,by simp [World.frozen?,hh]⟩
  rw [getElem!_pos xs.toArray j hj]
  simp [World.cell?,hh,this]
 refine (hs (g.box k0) 0 cap xs w hH (by unfold lim at hl; omega) hcap).mono ?_
 rintro e' w' ⟨rfl,n,rfl⟩
 have hyl:=Qbat xs
 generalize Lib.compact xs = ys at hyl ⊢
 generalize hF : (ys ++ List.replicate (xs.length - ys.length) 0).toArray = F
 have hFs : F.size = xs.length:=by rw [← hF]; simp; omega
 have hput : putRow (Value.int .i64) (Sort.ahead w n) (g.box k0) 0 F = grow (putRow id (Sort.ahead w n) (g.box k0) 0 (F.map (Value.int .i64))) #[]:=by
  have e1 : ∀ W : World,grow W #[] = W:=fun W=>by unfold grow; simp
  rw [e1]
  unfold putRow
  congr 1
  funext c
  unfold putCells
  congr 1
  funext k x
  simp only [Array.size_map]
  split
  ·rename_i h
   simp only [id]
   rw [getElem!_pos _ _ (by omega),getElem!_pos _ _ (by simp; omega)]
   simp
  ·rfl
 rw [hput]
 generalize hF' : F.map (Value.int .i64) = F'
 have hFs' : F'.size = xs.length:=by rw [← hF',Array.size_map,hFs]
 have hFv : ∀ j (h : j < ys.length),F'[j]'(by omega) = Value.int .i64 ys[j]:=by
  intro j h
  subst hF'
  subst hF
  simp only [List.getElem_toArray,Array.getElem_map]
  rw [List.getElem_append_left h]
 have hFi : ∀ j (h : j < F'.size),∃ z : Int,F'[j] = Value.int .i64 z:=by
  intro j h
  subst hF'
  exact ⟨_,Array.getElem_map ..⟩
 have hblk:=Qbak w n (g.box k0) F' #[] hh
 have hoth : ∀ b,b ≠ g.box k0 → b < w.heap.size → (grow (putRow id (Sort.ahead w n) (g.box k0) 0 F') #[]).heap[b]? = w.heap[b]?:=fun b hb hlt=>Qq3 w n _ F' #[] hb hlt
 have hsize : w.heap.size ≤ (grow (putRow id (Sort.ahead w n) (g.box k0) 0 F') #[]).heap.size:=by
  simp [putRow,mapBlock,Sort.ahead]
 generalize hw' : grow (putRow id (Sort.ahead w n) (g.box k0) 0 F') #[] = w' at hblk hoth hsize
 have himm : Imm g.imm g.imm w w':=by
  refine ⟨fun _ _ h=>h,fun b o h=>?_⟩
  obtain ⟨k1,k2⟩:=hm.imm b o h
  have hne : b ≠ g.box k0:=by rintro rfl; exact k2 k0 hown
  simp only [World.cell?,hoth b hne k1]
 have hkept : Kept g w g w' (There M) (fun o=>o ≠ .box k0):=⟨himm,fun _ _=>rfl,fun b hb hl=>⟨rfl,hoth b (by rintro rfl; exact hb hown) hl,fun _=>Iff.rfl⟩⟩
 have hsub : ∀ (o : Owner) i,o ≠ .box k0 → o.sub i ≠ .box k0:=by intro o i _; cases o <;> simp [Owner.sub]
 have hnew : ∀ p : Nat → Prop,V.ons p (Qbl (ys.map (eI .i64)) ((cap - ys.length) * 1)):=by
  intro p
  rw [Qge]
  intro v hv
  simp only [Qbl,List.mem_append,List.mem_map,List.mem_replicate] at hv
  rcases hv with ⟨x,_,rfl⟩ | ⟨_,rfl⟩ <;> trivial
 have hth : There (M.put k0 (.cells (Qbl (ys.map (eI .i64)) ((cap - ys.length) * 1)))) k0:=by simp [There,Mem.put]
 refine ⟨_,g,rfl,⟨fun k b hk=>?_,fun b o h=>⟨Nat.lt_of_lt_of_le (hm.imm b o h).1 hsize,(hm.imm b o h).2⟩⟩,by simp [RV],hth,fun k cs hk=>?_,?_⟩
 ·by_cases hkk : k = k0
  ·subst hkk
   rw [Qfx] at hk; cases hk
   refine ⟨hk0,hown,(putCells id 0 F' vals.toArray).toList,et,by simpa using hblk,(Qcj _ _ _ _).2 ⟨?_,fun j cc x hc hx=>?_⟩,fun x hx=>?_⟩
   ·simp only [Qbl,Qblz,List.map_map,List.length_append,List.length_map,List.length_replicate,Nat.mul_one]
    simp [putCells]
    omega
   ·have hx' : (putCells id 0 F' vals.toArray)[j]? = some x:=by simpa using hx
    simp only [putCells,Array.getElem?_mapIdx,List.getElem?_toArray,Option.map_eq_some_iff] at hx'
    obtain ⟨y,hy,rfl⟩:=hx'
    simp only [Qbl,Qblz,List.map_map,Nat.mul_one] at hc
    by_cases hj : j < ys.length
    ·rw [List.getElem?_append_left (by rw [List.length_map]; exact hj),List.getElem?_map,List.getElem?_eq_getElem hj,Option.map_some,Option.some.injEq] at hc
     subst hc
     rw [if_pos ⟨Nat.zero_le _,by omega⟩]
     simp only [Nat.sub_zero,id]
     rw [getElem!_pos F' j (by omega),hFv j hj]
     simp [RV,RD]
    ·rw [List.getElem?_append_right (by rw [List.length_map]; omega)] at hc
     have : cc = .und:=(List.mem_replicate.1 (List.mem_of_getElem? hc)).2
     subst this; simp [RV]
   ·obtain ⟨j,hj⟩:=List.getElem?_of_mem hx
    have hx' : (putCells id 0 F' vals.toArray)[j]? = some x:=by simpa using hj
    simp only [putCells,Array.getElem?_mapIdx,List.getElem?_toArray,Option.map_eq_some_iff] at hx'
    obtain ⟨y,hy,rfl⟩:=hx'
    split
    ·rename_i hr
     simp only [id]
     rw [getElem!_pos F' _ (by omega)]
     obtain ⟨z,hz⟩:=hFi (j - 0) (by omega)
     rw [hz]
     exact Qbfg (x:=.int .i64 z) rfl
    ·exact hone y (List.mem_of_getElem? hy)
  ·rw [Qcs _ _ hkk] at hk
   obtain ⟨k1,k2,k3⟩:=hm.box k b hk
   cases b with
   | mp es c =>
    obtain ⟨ents,q1,q2⟩:=k3
    have hne : g.box k ≠ g.box k0:=by
     intro h; rw [h,hown] at k2; cases k2; exact hkk rfl
    exact ⟨k1,k2,ents,(hoth _ hne (Array.getElem?_eq_some_iff.1 q1).1).trans q1,Qoa (g:=g) (g':=g) hkept.imm q2⟩
   | cells cs =>
    obtain ⟨vals2,e2,q1,q2,q3⟩:=k3
    have hne : g.box k ≠ g.box k0:=by
     intro h; rw [h,hown] at k2; cases k2; exact hkk rfl
    refine ⟨k1,k2,vals2,e2,(hoth _ hne (Array.getElem?_eq_some_iff.1 q1).1).trans q1,?_,q3⟩
    exact RVs_mono hkept hsub (by simp) cs (.box k) 0 vals2 (by simpa using hkk) (hMon k cs hk) q2
 ·by_cases hkk : k = k0
  ·subst hkk
   rw [Qfx] at hk; cases hk
   exact hnew _
  ·rw [Qcs _ _ hkk] at hk
   exact ons_mono (fun j hj=>There.put hj) _ (hMon k cs hk)
 ·refine ⟨by rw [← hw']; rfl,by rw [← hw']; rfl,by rw [← hw']; rfl,hsize,himm,fun _ _=>rfl,fun b hb ho=>⟨rfl,hoth b ?_ hb,fun _=>Iff.rfl⟩⟩
  rintro rfl
  rw [hown] at ho
  exact ho
end Go.Abs
end
section
namespace Go.Proofs
open Go.Shelf
def Tryz.sortI_ren : Go.Shelf.Ren:=⟨fun | 5=>67 | 8=>93 | 7=>92 | 19=>109 | 20=>110 | 10=>101 | 11=>102 | 12=>103 | 13=>104 | 14=>105 | 15=>106 | 16=>97 | 17=>107 | 18=>108 | 30=>122 | 31=>123 | 32=>124 | 33=>125 | 34=>126 | 35=>121 | 40=>130 | n=>n,fun | 23=>27 | 25=>3 | 3=>3 | 32=>134 | 22=>27 | 0=>0 | 44=>149 | 46=>151 | 4=>4 | 36=>143 | 35=>142 | 41=>88 | 5=>5 | 9=>9 | 53=>159 | 57=>163 | 63=>167 | 64=>98 | n=>n,fun | n=>n⟩
theorem Tryz.sortI : Go.Proofs.SlLaysM.n5 Tryz.prog Tryz.sortI_ren:={
 mixed:=by kernel_rfl
 f5:=⟨Tryz.f67.name,by decide,Tryz.func67.trans (congrArg some (by kernel_rfl))⟩
 f7:=⟨Tryz.f92.name,by decide,Tryz.func92.trans (congrArg some (by kernel_rfl))⟩
 f8:=Tryz.func93.trans (congrArg some (by kernel_rfl))
 f10:=⟨Tryz.f101.name,by decide,Tryz.func101.trans (congrArg some (by kernel_rfl))⟩
 f11:=⟨Tryz.f102.name,by decide,Tryz.func102.trans (congrArg some (by kernel_rfl))⟩
 f12:=⟨Tryz.f103.name,by decide,Tryz.func103.trans (congrArg some (by kernel_rfl))⟩
 f13:=⟨Tryz.f104.name,by decide,Tryz.func104.trans (congrArg some (by kernel_rfl))⟩
 f14:=⟨Tryz.f105.name,by decide,Tryz.func105.trans (congrArg some (by kernel_rfl))⟩
 f15:=⟨Tryz.f106.name,by decide,Tryz.func106.trans (congrArg some (by kernel_rfl))⟩
 f16:=⟨Tryz.f97.name,by decide,Tryz.func97.trans (congrArg some (by kernel_rfl))⟩
 f17:=⟨Tryz.f107.name,by decide,Tryz.func107.trans (congrArg some (by kernel_rfl))⟩
 f18:=⟨Tryz.f108.name,by decide,Tryz.func108.trans (congrArg some (by kernel_rfl))⟩
 f19:=Tryz.func109.trans (congrArg some (by kernel_rfl))
 f20:=Tryz.func110.trans (congrArg some (by kernel_rfl))
 f30:=⟨Tryz.f122.name,by decide,Tryz.func122.trans (congrArg some (by kernel_rfl))⟩
 f31:=Tryz.func123.trans (congrArg some (by kernel_rfl))
 f32:=Tryz.func124.trans (congrArg some (by kernel_rfl))
 f33:=⟨Tryz.f125.name,by decide,Tryz.func125.trans (congrArg some (by kernel_rfl))⟩
 f34:=⟨Tryz.f126.name,by decide,Tryz.func126.trans (congrArg some (by kernel_rfl))⟩
 f35:=⟨Tryz.f121.name,by decide,Tryz.func121.trans (congrArg some (by kernel_rfl))⟩
 f40:=⟨Tryz.f130.name,by decide,Tryz.func130.trans (congrArg some (by kernel_rfl))⟩
 t0:=Tryz.underlying0
 a0:=Tryz.isAgg0
 z0:=Tryz.sizeOf0
 v0:=Tryz.zeroValue0
 t3:=Tryz.underlying3
 a3:=Tryz.isAgg3
 z3:=Tryz.sizeOf3
 v3:=Tryz.zeroValue3
 t4:=Tryz.underlying4
 a4:=Tryz.isAgg4
 z4:=Tryz.sizeOf4
 v4:=Tryz.zeroValue4
 t5:=Tryz.underlying5
 a5:=Tryz.isAgg5
 z5:=Tryz.sizeOf5
 v5:=Tryz.zeroValue5
 t9:=Tryz.underlying9
 a9:=Tryz.isAgg9
 z9:=Tryz.sizeOf9
 v9:=Tryz.zeroValue9
 t22:=Tryz.underlying27
 a22:=Tryz.isAgg27
 z22:=Tryz.sizeOf27
 v22:=Tryz.zeroValue27
 t23:=Tryz.underlying27
 a23:=Tryz.isAgg27
 z23:=Tryz.sizeOf27
 v23:=Tryz.zeroValue27
 t25:=Tryz.underlying3
 a25:=Tryz.isAgg3
 z25:=Tryz.sizeOf3
 v25:=Tryz.zeroValue3
 t32:=Tryz.underlying134
 a32:=Tryz.isAgg134
 z32:=Tryz.sizeOf134
 v32:=Tryz.zeroValue134
 t35:=Tryz.underlying142
 a35:=Tryz.isAgg142
 z35:=Tryz.sizeOf142
 v35:=Tryz.zeroValue142
 t36:=Tryz.underlying143
 a36:=Tryz.isAgg143
 z36:=Tryz.sizeOf143
 v36:=Tryz.zeroValue143
 t41:=Tryz.underlying88
 a41:=Tryz.isAgg88
 z41:=Tryz.sizeOf88
 v41:=Tryz.zeroValue88
 t44:=Tryz.underlying149
 a44:=Tryz.isAgg149
 z44:=Tryz.sizeOf149
 v44:=Tryz.zeroValue149
 t46:=Tryz.underlying151
 a46:=Tryz.isAgg151
 z46:=Tryz.sizeOf151
 v46:=Tryz.zeroValue151
 t53:=Tryz.underlying159
 a53:=Tryz.isAgg159
 z53:=Tryz.sizeOf159
 v53:=Tryz.zeroValue159
 t57:=Tryz.underlying163
 a57:=Tryz.isAgg163
 z57:=Tryz.sizeOf163
 v57:=Tryz.zeroValue163
 t63:=Tryz.underlying167
 a63:=Tryz.isAgg167
 z63:=Tryz.sizeOf167
 v63:=Tryz.zeroValue167
 t64:=Tryz.underlying98
 a64:=Tryz.isAgg98
 z64:=Tryz.sizeOf98
 v64:=Tryz.zeroValue98 }
def Tryz.sortE_ren : Go.Shelf.Ren:=⟨fun | 6=>69 | 15=>93 | 14=>94 | 28=>109 | 29=>110 | 20=>111 | 21=>112 | 22=>113 | 23=>114 | 24=>115 | 25=>116 | 26=>117 | 27=>118 | 46=>127 | 47=>123 | 48=>124 | 49=>128 | 50=>129 | 57=>131 | n=>n,fun | 22=>31 | 24=>76 | 25=>111 | 3=>3 | 39=>134 | 0=>0 | 53=>149 | 55=>151 | 4=>4 | 46=>143 | 45=>142 | 50=>88 | 5=>5 | 9=>9 | 66=>159 | 70=>163 | 76=>167 | 77=>98 | n=>n,fun | n=>n⟩
theorem Tryz.sortE : Go.Proofs.SlLaysF0.n6 Tryz.prog Tryz.sortE_ren:={
 mixed:=by kernel_rfl
 f6:=⟨Tryz.f69.name,by decide,Tryz.func69.trans (congrArg some (by kernel_rfl))⟩
 f14:=⟨Tryz.f94.name,by decide,Tryz.func94.trans (congrArg some (by kernel_rfl))⟩
 f15:=Tryz.func93.trans (congrArg some (by kernel_rfl))
 f20:=⟨Tryz.f111.name,by decide,Tryz.func111.trans (congrArg some (by kernel_rfl))⟩
 f21:=⟨Tryz.f112.name,by decide,Tryz.func112.trans (congrArg some (by kernel_rfl))⟩
 f22:=⟨Tryz.f113.name,by decide,Tryz.func113.trans (congrArg some (by kernel_rfl))⟩
 f23:=⟨Tryz.f114.name,by decide,Tryz.func114.trans (congrArg some (by kernel_rfl))⟩
 f24:=⟨Tryz.f115.name,by decide,Tryz.func115.trans (congrArg some (by kernel_rfl))⟩
 f25:=⟨Tryz.f116.name,by decide,Tryz.func116.trans (congrArg some (by kernel_rfl))⟩
 f26:=⟨Tryz.f117.name,by decide,Tryz.func117.trans (congrArg some (by kernel_rfl))⟩
 f27:=⟨Tryz.f118.name,by decide,Tryz.func118.trans (congrArg some (by kernel_rfl))⟩
 f28:=Tryz.func109.trans (congrArg some (by kernel_rfl))
 f29:=Tryz.func110.trans (congrArg some (by kernel_rfl))
 f46:=⟨Tryz.f127.name,by decide,Tryz.func127.trans (congrArg some (by kernel_rfl))⟩
 f47:=Tryz.func123.trans (congrArg some (by kernel_rfl))
 f48:=Tryz.func124.trans (congrArg some (by kernel_rfl))
 f49:=⟨Tryz.f128.name,by decide,Tryz.func128.trans (congrArg some (by kernel_rfl))⟩
 f50:=⟨Tryz.f129.name,by decide,Tryz.func129.trans (congrArg some (by kernel_rfl))⟩
 f57:=⟨Tryz.f131.name,by decide,Tryz.func131.trans (congrArg some (by kernel_rfl))⟩
 t0:=Tryz.underlying0
 a0:=Tryz.isAgg0
 z0:=Tryz.sizeOf0
 v0:=Tryz.zeroValue0
 t3:=Tryz.underlying3
 a3:=Tryz.isAgg3
 z3:=Tryz.sizeOf3
 v3:=Tryz.zeroValue3
 t4:=Tryz.underlying4
 a4:=Tryz.isAgg4
 z4:=Tryz.sizeOf4
 v4:=Tryz.zeroValue4
 t5:=Tryz.underlying5
 a5:=Tryz.isAgg5
 z5:=Tryz.sizeOf5
 v5:=Tryz.zeroValue5
 t9:=Tryz.underlying9
 a9:=Tryz.isAgg9
 z9:=Tryz.sizeOf9
 v9:=Tryz.zeroValue9
 t22:=Tryz.underlying31
 a22:=Tryz.isAgg31
 z22:=Tryz.sizeOf31
 v22:=Tryz.zeroValue31
 t25:=Tryz.underlying111
 a25:=Tryz.isAgg111
 z25:=Tryz.sizeOf111
 v25:=Tryz.zeroValue111
 t39:=Tryz.underlying134
 a39:=Tryz.isAgg134
 z39:=Tryz.sizeOf134
 v39:=Tryz.zeroValue134
 t45:=Tryz.underlying142
 a45:=Tryz.isAgg142
 z45:=Tryz.sizeOf142
 v45:=Tryz.zeroValue142
 t46:=Tryz.underlying143
 a46:=Tryz.isAgg143
 z46:=Tryz.sizeOf143
 v46:=Tryz.zeroValue143
 t50:=Tryz.underlying88
 a50:=Tryz.isAgg88
 z50:=Tryz.sizeOf88
 v50:=Tryz.zeroValue88
 t53:=Tryz.underlying149
 a53:=Tryz.isAgg149
 z53:=Tryz.sizeOf149
 v53:=Tryz.zeroValue149
 t55:=Tryz.underlying151
 a55:=Tryz.isAgg151
 z55:=Tryz.sizeOf151
 v55:=Tryz.zeroValue151
 t66:=Tryz.underlying159
 a66:=Tryz.isAgg159
 z66:=Tryz.sizeOf159
 v66:=Tryz.zeroValue159
 t70:=Tryz.underlying163
 a70:=Tryz.isAgg163
 z70:=Tryz.sizeOf163
 v70:=Tryz.zeroValue163
 t76:=Tryz.underlying167
 a76:=Tryz.isAgg167
 z76:=Tryz.sizeOf167
 v76:=Tryz.zeroValue167
 t77:=Tryz.underlying98
 a77:=Tryz.isAgg98
 z77:=Tryz.sizeOf98
 v77:=Tryz.zeroValue98 }
def Tryz.laysC_ren : Go.Shelf.Ren:=⟨fun | 20=>68 | n=>n,fun | 22=>27 | 3=>3 | 4=>4 | 0=>0 | n=>n,fun | n=>n⟩
theorem Tryz.laysC : Go.Proofs.Lays2.n20 Tryz.prog Tryz.laysC_ren:={
 mixed:=by kernel_rfl
 f20:=Tryz.func68.trans (congrArg some (by kernel_rfl))
 t0:=Tryz.underlying0
 a0:=Tryz.isAgg0
 z0:=Tryz.sizeOf0
 v0:=Tryz.zeroValue0
 t3:=Tryz.underlying3
 a3:=Tryz.isAgg3
 z3:=Tryz.sizeOf3
 v3:=Tryz.zeroValue3
 t4:=Tryz.underlying4
 a4:=Tryz.isAgg4
 z4:=Tryz.sizeOf4
 v4:=Tryz.zeroValue4
 t22:=Tryz.underlying27
 a22:=Tryz.isAgg27
 z22:=Tryz.sizeOf27
 v22:=Tryz.zeroValue27
 i3:=by kernel_rfl }
open Go.RowKit Go.Sort in
theorem Tryz.slices_Sort_int (blk off cap : Nat) (zs : List Int) (w : World) (hH : Holds (Value.int .i64) w blk off zs.toArray) (hblk : blk < w.heap.size) (hsz : zs.length < 4611686018427387904) :
  Calls Tryz.prog 67 #[.slice (some ⟨blk,off,none⟩) zs.length cap] w fun e w' =>
   e = .returned (.tuple #[]) ∧ ∃ n os,w' = grow (putRow (Value.int .i64) (Sort.ahead w n) blk off (zs.mergeSort fun x y=>decide (x ≤ y)).toArray) os:=AnyM.slices_Sort_int Tryz.sortI blk off cap zs w hH hblk hsz
open Go.RowKit Go.Sort in
theorem Tryz.slices_Sort_int_none (p : Option Addr) (cap : Nat) (w : World) :
  Calls Tryz.prog 67 #[.slice p 0 cap] w fun e w'=>e = .returned (.tuple #[]) ∧ w' = w:=AnyM.slices_Sort_int_none Tryz.sortI p cap w
open Go.RowKit Go.Lib Go.Sort in
theorem Tryz.slices_Compact_int (blk off cap : Nat) (zs : List Int) (w : World) (hH : Holds (Value.int .i64) w blk off zs.toArray) (hsz : zs.length ≤ 9223372036854775807) (hcap : zs.length ≤ cap) :
  Calls Tryz.prog 68 #[.slice (some ⟨blk,off,none⟩) zs.length cap] w fun e w'=>e = .returned (.slice (some ⟨blk,off,none⟩) (Lib.compact zs).length cap) ∧ ∃ q,w' = putRow (Value.int .i64) (Sort.ahead w q) blk off (Lib.compact zs ++ List.replicate (zs.length - (Lib.compact zs).length) 0).toArray:=Any.slices_Compact_int Tryz.laysC blk off cap zs w hH hsz hcap
open Go.RowKit Go.Lib Go.Sort in
theorem Tryz.slices_Compact_int_empty (a : Option Addr) (cap : Nat) (w : World) :
  Calls Tryz.prog 68 #[.slice a 0 cap] w fun e w'=>e = .returned (.slice a 0 cap) ∧ w' = w:=Any.slices_Compact_int_empty Tryz.laysC a cap w
end Go.Proofs
end
section
namespace Go.Proofs
open Go.Shelf Go.RowKit Go.Lib Go.Sort Go.Abs
abbrev Qbb7 := {x : Qe // okE x = true}
instance : Inhabited Qbb7 := ⟨⟨⟨0, 0, 0⟩, rfl⟩⟩
def cfE (x y : Qbb7) : Int := if x.1.From = y.1.From then x.1.Event - y.1.Event else x.1.From - y.1.From
theorem Q9n (x y : Qbb7) : ltOf cfE x y = ltE x.1 y.1 := by
 unfold ltOf cfE ltE
 apply decide_eq_decide.2
 split <;> omega
theorem swoE : SWO (ltOf cfE) := {
 irrefl x := by rw [Q9n]; simp [ltE]
 trans x y z h1 h2 := by rw [Q9n] at *; simp only [ltE, decide_eq_true_eq] at *; omega
 ntrans x y z h1 h2 := by rw [Q9n] at *; simp only [ltE, decide_eq_false_iff_not] at *; omega }
set_option maxHeartbeats 1000000 in
theorem Tryz.edges37 (x y : Qbb7) (W : World) : Calls Tryz.prog 70 #[.agg ((Qc x.1).map D.val).toArray, .agg ((Qc y.1).map D.val).toArray] W fun e w' => e = .returned (.int .i64 (cfE x y)) ∧ ∃ q os', w' = grow (W.drewN q) os' := by
 obtain ⟨⟨a, b, c⟩, hx0⟩ := x
 obtain ⟨⟨a', b', c'⟩, hy0⟩ := y
 have hx := hx0
 have hy := hy0
 simp only [okE, decide_eq_true_eq] at hx hy
 have w1 : IntKind.i64.wrap (a - a') = a - a' := by simp [IntKind.wrap, IntKind.bits, IntKind.signed]; omega
 have w2 : IntKind.i64.wrap (b - b') = b - b' := by simp [IntKind.wrap, IntKind.bits, IntKind.signed]; omega
 have hr : cfE ⟨⟨a, b, c⟩, hx0⟩ ⟨⟨a', b', c'⟩, hy0⟩ = if a = a' then b - b' else a - a' := rfl
 generalize cfE ⟨⟨a, b, c⟩, hx0⟩ ⟨⟨a', b', c'⟩, hy0⟩ = r at hr ⊢
 simp only [Qc, List.map_cons, List.map_nil, D.val]
 go_enter Tryz.func70, Tryz.ntmps70
 go_wp2
 ·rename_i h
  have h : a ≠ a' := by simpa using h
  go_ret
  exact ⟨by rw [hr, if_neg h]; rfl, 0, _, by rw [alloc_eq_grow, alloc_eq_grow, grow_grow]; rfl⟩
 ·rename_i h
  have h : a = a' := by simpa using h
  go_ret
  exact ⟨by rw [hr, if_pos h]; rfl, 0, _, by rw [alloc_eq_grow, alloc_eq_grow, grow_grow]; rfl⟩
set_option maxHeartbeats 1000000 in
theorem Tryz.row36 : Qbi0 Tryz.prog 69 (fun x : Qbb7 => Qc x.1) #[.func (.func 70) #[] #[]] (fun xs => (pdq (ltOf cfE) xs.toArray 0 xs.length (Lib.bitLen xs.length) true true).toList) :=
 Qbbd Tryz.sortE Tryz.isAgg76 Tryz.sizeOf76 (fun x : Qbb7 => Qc x.1) (fun _ => rfl) (by decide) (fun _ => rfl) cfE swoE 70 #[] (enters_of Tryz.func70 (by kernel_rfl) rfl) (fun x y W => Tryz.edges37 x y W)
set_option maxHeartbeats 1000000 in
theorem Tryz.none36 (p : Option Addr) (cap : Nat) (w : World) : Calls Tryz.prog 69 (#[.slice p 0 cap] ++ #[.func (.func 70) #[] #[]]) w fun e' w' => e' = .returned (.tuple #[]) ∧ w' = w :=
 AnyF.slices_SortFunc_none Tryz.sortE p cap (.func (.func 70) #[] #[]) w
theorem Tryz.rowK36 : Go.Abs.RowK Tryz.prog 69 Qc 3 [.clo 70 []] Qbk7 :=
 Qbja (e := Qc) (sz := 3) (N := 65536) (by decide) (fun _ => rfl) (fun _ => rfl) swoE Q9n (by kernel_rfl) (ex := #[.func (.func 70) #[] #[]]) (exV := [.clo 70 []]) (fun g w us h => by
  obtain ⟨u, us', rfl, hu, hus⟩ := h
  simp only [RFs] at hus
  subst hus
  have := hu .free
  simp only [RV] at this
  obtain ⟨vs, rfl, hv⟩ := this
  simp only [RVs] at hv
  subst hv
  rfl) Tryz.row36 Tryz.none36
theorem Tryz.rowK33 : Go.Abs.RowK Tryz.prog 67 (eI .i64) 1 [] Go.Abs.sortI :=
 Qbjb (by kernel_rfl) Tryz.slices_Sort_int Tryz.slices_Sort_int_none
theorem Tryz.compK34 : Go.Abs.CompK Tryz.prog 68 Qbgh :=
 Qbg8 (by kernel_rfl) Tryz.slices_Compact_int Tryz.slices_Compact_int_empty
end Go.Proofs
end
section
namespace Go.Proofs
open Go.Shelf
def Tryz.lays169_ren : Go.Shelf.Ren:=⟨fun | 169=>77 | n=>n,fun | 70=>116 | 9=>9 | 0=>0 | 72=>119 | 37=>117 | 127=>137 | 3=>3 | 5=>5 | n=>n,fun | n=>n⟩
theorem Tryz.lays169 : Go.Proofs.Lays.n169 Tryz.prog Tryz.lays169_ren:={
 mixed:=by kernel_rfl
 f169:=Tryz.func77.trans (congrArg some (by kernel_rfl))
 t0:=Tryz.underlying0
 a0:=Tryz.isAgg0
 z0:=Tryz.sizeOf0
 v0:=Tryz.zeroValue0
 t3:=Tryz.underlying3
 a3:=Tryz.isAgg3
 z3:=Tryz.sizeOf3
 v3:=Tryz.zeroValue3
 t9:=Tryz.underlying9
 a9:=Tryz.isAgg9
 z9:=Tryz.sizeOf9
 v9:=Tryz.zeroValue9
 t37:=Tryz.underlying117
 a37:=Tryz.isAgg117
 z37:=Tryz.sizeOf117
 v37:=Tryz.zeroValue117
 t70:=Tryz.underlying116
 a70:=Tryz.isAgg116
 z70:=Tryz.sizeOf116
 v70:=Tryz.zeroValue116
 t72:=Tryz.underlying119
 a72:=Tryz.isAgg119
 z72:=Tryz.sizeOf119
 v72:=Tryz.zeroValue119
 t127:=Tryz.underlying137
 a127:=Tryz.isAgg137
 z127:=Tryz.sizeOf137
 v127:=Tryz.zeroValue137 }
theorem Tryz.Builder_Extra_169 : Builder.Extra Tryz.prog Tryz.lays169_ren:={
 sizeBuilder:=by kernel_rfl
 liesBuilder:=by kernel_rfl
 t5:=Tryz.underlying5
 a5:=Tryz.isAgg5
 z5:=Tryz.sizeOf5
 v5:=Tryz.zeroValue5
 infoByte:=by kernel_rfl
 cellsByte:=by kernel_rfl
 sizeByte:=by kernel_rfl
 neB5:=by decide }
open Go.RowKit in
theorem Tryz.Builder_String_any_k (B b : Nat) (l : List UInt8) (w : World) (h : Lib.IsBuilderF 119 5 B b (Lib.byteCells l) w) (hBw : B ≤ w.heap.size) :
  Calls Tryz.prog 77 #[.pointer (some ⟨b,0,none⟩)] w fun e w'=>e = .returned (.string ⟨l.toArray⟩) ∧ (Lib.IsBuilderF 119 5 B b (Lib.byteCells l) w' ∧ Below B w w' ∧ Lib.OthersKept 5 (some b) w w'):=Any.Builder_String_any_k Tryz.lays169 Tryz.Builder_Extra_169 B b l w h hBw
def Tryz.lays168_ren : Go.Shelf.Ren:=⟨fun | 168=>76 | 240=>95 | 242=>96 | 276=>119 | 278=>120 | n=>n,fun | 0=>0 | 3=>3 | 4=>4 | 5=>5 | 9=>9 | 20=>20 | 21=>21 | 37=>117 | 46=>134 | 51=>149 | 70=>116 | 72=>119 | 75=>121 | 80=>124 | 164=>157 | n=>n,fun | n=>n⟩
theorem Tryz.lays168 : Go.Proofs.Lays.n168 Tryz.prog Tryz.lays168_ren:={
 mixed:=by kernel_rfl
 f168:=Tryz.func76.trans (congrArg some (by kernel_rfl))
 f240:=Tryz.func95.trans (congrArg some (by kernel_rfl))
 f242:=Tryz.func96.trans (congrArg some (by kernel_rfl))
 f276:=Tryz.func119.trans (congrArg some (by kernel_rfl))
 f278:=Tryz.func120.trans (congrArg some (by kernel_rfl))
 t0:=Tryz.underlying0
 a0:=Tryz.isAgg0
 z0:=Tryz.sizeOf0
 v0:=Tryz.zeroValue0
 t3:=Tryz.underlying3
 a3:=Tryz.isAgg3
 z3:=Tryz.sizeOf3
 v3:=Tryz.zeroValue3
 t4:=Tryz.underlying4
 a4:=Tryz.isAgg4
 z4:=Tryz.sizeOf4
 v4:=Tryz.zeroValue4
 t5:=Tryz.underlying5
 a5:=Tryz.isAgg5
 z5:=Tryz.sizeOf5
 v5:=Tryz.zeroValue5
 t9:=Tryz.underlying9
 a9:=Tryz.isAgg9
 z9:=Tryz.sizeOf9
 v9:=Tryz.zeroValue9
 t20:=Tryz.underlying20
 a20:=Tryz.isAgg20
 z20:=Tryz.sizeOf20
 v20:=Tryz.zeroValue20
 t21:=Tryz.underlying21
 a21:=Tryz.isAgg21
 z21:=Tryz.sizeOf21
 v21:=Tryz.zeroValue21
 t37:=Tryz.underlying117
 a37:=Tryz.isAgg117
 z37:=Tryz.sizeOf117
 v37:=Tryz.zeroValue117
 t46:=Tryz.underlying134
 a46:=Tryz.isAgg134
 z46:=Tryz.sizeOf134
 v46:=Tryz.zeroValue134
 t51:=Tryz.underlying149
 a51:=Tryz.isAgg149
 z51:=Tryz.sizeOf149
 v51:=Tryz.zeroValue149
 t70:=Tryz.underlying116
 a70:=Tryz.isAgg116
 z70:=Tryz.sizeOf116
 v70:=Tryz.zeroValue116
 t72:=Tryz.underlying119
 a72:=Tryz.isAgg119
 z72:=Tryz.sizeOf119
 v72:=Tryz.zeroValue119
 t75:=Tryz.underlying121
 a75:=Tryz.isAgg121
 z75:=Tryz.sizeOf121
 v75:=Tryz.zeroValue121
 t164:=Tryz.underlying157
 a164:=Tryz.isAgg157
 z164:=Tryz.sizeOf157
 v164:=Tryz.zeroValue157 }
theorem Tryz.Builder_Extra_168 : Builder.Extra Tryz.prog Tryz.lays168_ren:={
 sizeBuilder:=by kernel_rfl
 liesBuilder:=by kernel_rfl
 t5:=Tryz.underlying5
 a5:=Tryz.isAgg5
 z5:=Tryz.sizeOf5
 v5:=Tryz.zeroValue5
 infoByte:=by kernel_rfl
 cellsByte:=by kernel_rfl
 sizeByte:=by kernel_rfl
 neB5:=by decide }
open Go.RowKit in
theorem Tryz.Builder_WriteRune_k (B b : Nat) (bs : List Value) (r : Int) (hr0 : -2147483648 ≤ r) (hr1 : r ≤ 2147483647) (w : World) (h : Lib.IsBuilderF 119 5 B b bs w) (hlen : bs.length + 4 ≤ 140737488355328) (hBw : B ≤ w.heap.size) :
  Calls Tryz.prog 76 #[.pointer (some ⟨b,0,none⟩),.int .i32 r] w fun e w'=>e = .returned (.tuple #[.int .i64 (Lib.runeCells r).length,.nilIface]) ∧ (Lib.BuilderAtF 119 5 B b (.pointer (some ⟨b,0,none⟩)) (bs ++ Lib.runeCells r) w' ∧ Below B w w' ∧ Lib.OthersKept 5 (some b) w w'):=Any.Builder_WriteRune_k Tryz.lays168 Tryz.Builder_Extra_168 B b bs r hr0 hr1 w h hlen hBw
def Tryz.laysGrow_ren : Go.Shelf.Ren:=⟨fun | 4=>91 | n=>n,fun | 22=>27 | 25=>3 | 3=>3 | 4=>4 | 9=>9 | 20=>20 | 0=>0 | n=>n,fun | n=>n⟩
theorem Tryz.laysGrow : Go.Proofs.Lays8.n4 Tryz.prog Tryz.laysGrow_ren:={
 mixed:=by kernel_rfl
 f4:=⟨Tryz.f91.name,by decide,Tryz.func91.trans (congrArg some (by kernel_rfl))⟩
 t0:=Tryz.underlying0
 a0:=Tryz.isAgg0
 z0:=Tryz.sizeOf0
 v0:=Tryz.zeroValue0
 t3:=Tryz.underlying3
 a3:=Tryz.isAgg3
 z3:=Tryz.sizeOf3
 v3:=Tryz.zeroValue3
 t4:=Tryz.underlying4
 a4:=Tryz.isAgg4
 z4:=Tryz.sizeOf4
 v4:=Tryz.zeroValue4
 t9:=Tryz.underlying9
 a9:=Tryz.isAgg9
 z9:=Tryz.sizeOf9
 v9:=Tryz.zeroValue9
 t20:=Tryz.underlying20
 a20:=Tryz.isAgg20
 z20:=Tryz.sizeOf20
 v20:=Tryz.zeroValue20
 t22:=Tryz.underlying27
 a22:=Tryz.isAgg27
 z22:=Tryz.sizeOf27
 v22:=Tryz.zeroValue27 }
end Go.Proofs
end
section
namespace Go.Abs
open Go Go.RowKit
set_option linter.unusedVariables false
set_option linter.unusedSimpArgs false
theorem MR.cellOld {g : G} {w w' : World} {M : Mem} {nb : Nat} (hm : MR g w M nb) (hbw : Below w.heap.size w w') : ∀ b o,g.imm b o → w'.cell? ⟨b,o,none⟩ = w.cell? ⟨b,o,none⟩:=by
 intro b o hi
 have hlt:=(hm.imm b o hi).1
 simp only [World.cell?]
 rw [hbw.block b hlt]
theorem Qbc7 {P : Program} {f : FuncId} {args : List V} {x : D} (hx : x.scalar = true) (hb : Qgo P f = true)
  (h : ∀ (w : World) (g : G) (us : List Value),(∀ b o,g.imm b o → b < w.heap.size) → RFs g w args us → Calls P f us.toArray w fun e w'=>e = .returned x.val ∧ Below w.heap.size w w') (M : Mem) (nb : Nat) : ACalls P f args M nb (.d x) M nb:=by
 refine ⟨hb,Nat.le_refl _,fun w g us hm hMon hfresh hus hfl hons=>?_⟩
 refine Calls.mono (h w g us (fun b o hi=>(hm.imm b o hi).1) hus) ?_
 rintro e w' ⟨rfl,hbw⟩
 have hI : Imm g.imm g.imm w w':=⟨fun _ _ h=>h,fun b o hi=>hm.cellOld hbw b o hi⟩
 have hk : Kept g w g w' (There M) (fun _=>True):=⟨hI,fun _ _=>rfl,fun b _ hlt=>⟨rfl,hbw.block b hlt,fun _=>Iff.rfl⟩⟩
 refine ⟨_,g,rfl,hm.kept hk hMon (fun _ _ _=>trivial) trivial (fun _ _=>trivial) (fun b o hi=>?_),?_,trivial,hMon,?_⟩
 ·obtain ⟨h1,h2⟩:=hm.imm b o hi
  exact ⟨Nat.lt_of_lt_of_le h1 hbw.size,h2⟩
 ·simp only [RV]; exact (Qbiz hx).2 rfl
 ·exact ⟨hbw.os,hbw.tape,hbw.output,hbw.size,hI,fun _ _=>rfl,fun b hb _=>⟨rfl,hbw.block b hb,fun _=>Iff.rfl⟩⟩
theorem Qbfi {P : Program} {f : FuncId} {args : List V} {sz : Nat} (hb : Qgo P f = true)
  (h : ∀ (w : World) (g : G) (us : List Value),RFs g w args us → Calls P f us.toArray w fun e w'=>(∃ a,e = .returned (.slice a 0 0) ∧ w' = w) ∨
   ∃ cap row t,e = .returned (.slice (some ⟨w.heap.size,0,none⟩) 0 cap) ∧ w' = w.drew.alloc (.cells row t) ∧ row.size = cap * sz ∧ cap ≤ maxLen ∧ ∀ u ∈ row.toList,u.oneCell' = true) (M : Mem) (nb : Nat) : ACalls P f args M nb (.own sz []) M nb:=by
 refine ⟨hb,Nat.le_refl _,fun w g us hm hMon hfresh hus hfl hons=>?_⟩
 refine Calls.mono (h w g us hus) ?_
 rintro e w' (⟨a,rfl,rfl⟩ | ⟨cap,row,t,rfl,rfl,hrow,hcap,hone⟩)
 ·exact ⟨_,g,rfl,hm,by simp only [RV]; exact .inl ⟨⟨a,rfl⟩,trivial⟩,trivial,hMon,Fr.refl _ _ _⟩
 ·let g' : G:={ box:=g.box,imm:=g.imm,own:=fun b=>if b = w.heap.size then .res [] else g.own b }
  have hold : ∀ b,b < w.heap.size → (w.drew.alloc (.cells row t)).heap[b]? = w.heap[b]?:=fun b hlt=>RowKit.Below.heap_alloc w.drew _ b (by simpa using hlt)
  have hown : ∀ b,b < w.heap.size → g'.own b = g.own b:=fun b hlt=>by simp only [g']; rw [if_neg (by omega)]
  have hI : Imm g.imm g'.imm w (w.drew.alloc (.cells row t)):=⟨fun _ _ h=>h,fun b o hi=>by
   have hlt:=(hm.imm b o hi).1
   simp only [World.cell?]
   rw [hold b hlt]⟩
  have hk : Kept g w g' (w.drew.alloc (.cells row t)) (There M) (fun _=>True):=⟨hI,fun _ _=>rfl,fun b _ hlt=>⟨hown b hlt,hold b hlt,fun _=>Iff.rfl⟩⟩
  refine ⟨_,g',rfl,hm.kept hk hMon (fun _ _ _=>trivial) trivial (fun _ _=>trivial) (fun b o hi=>?_),?_,trivial,hMon,?_⟩
  ·obtain ⟨h1,h2⟩:=hm.imm b o hi
   refine ⟨by simp; omega,fun k=>?_⟩
   rw [hown b h1]; exact h2 k
  ·simp only [RV]
   refine .inr ⟨w.heap.size,cap,row,t,rfl,by simp [g'],heap_alloc_new w.drew _,Nat.zero_le _,hcap,⟨hrow,hone⟩,fun o=>?_,by simp [RDL]⟩
   constructor
   ·intro hi; have:=(hm.imm _ _ hi).1; omega
   ·intro hi; simp at hi
  ·exact ⟨rfl,rfl,rfl,by simp,hI,fun _ _=>rfl,fun b hb _=>⟨hown b hb,hold b hb,fun _=>Iff.rfl⟩⟩
theorem Qbl0 {g : G} {w : World} {l : List Int} {k : IntKind} {u : Value} (h : RF g w (.d (.lst 1 (l.map (fun n=>[.int k n])))) u) :
  ∃ a cap,u = .slice a l.length cap ∧ l.length ≤ cap ∧ (l = [] ∨ ∃ b o,a = some ⟨b,o,none⟩ ∧ ∀ (i : Nat) n,l[i]? = some n → g.imm b (o + i) ∧ w.cell? ⟨b,o + i,none⟩ = some (.int k n)):=by
 have h:=RF_d.1 h
 simp only [RD,List.length_map] at h
 obtain ⟨a,cap,rfl,hc,hl⟩:=h
 refine ⟨a,cap,rfl,hc,?_⟩
 rcases hl with hl | ⟨b,o,rfl,hl⟩
 ·exact .inl (by simpa using hl)
 ·refine .inr ⟨b,o,rfl,fun i n hi=>?_⟩
  have:=(Q9t hl i [.int k n] (by simp [hi])).2
  simp only [RDc,Nat.mul_one,RD] at this
  obtain ⟨h1,⟨u,h2,rfl⟩,_⟩:=this
  exact ⟨h1,h2⟩
end Go.Abs
end
section
namespace Go.Proofs
open Go.RowKit Go.Abs
def keyL (l : List Int) : List UInt8 := l.flatMap fun x => Lib.encodeRune (x + 1)
theorem Qbjc : ∀ l : List Int, (keyL l).length ≤ 4 * l.length
 | [] => by simp [keyL]
 | x :: l => by
  have h := Lib.runeCells_le (x + 1)
  rw [Lib.runeCells_length] at h
  have ih := Qbjc l
  simp only [keyL, List.flatMap_cons, List.length_append, List.length_cons] at *
  omega
set_option maxHeartbeats 4000000 in
set_option maxRecDepth 1000000 in
theorem Tryz.key_walk (l : List Int) (hl : l.length ≤ lim) (hx : ∀ x ∈ l, 0 ≤ x ∧ x < 50000) (a : Option Addr) (cap : Nat) (w : World)
  (hc : ∀ (i : Nat) n, l[i]? = some n → ∃ b o, a = some ⟨b, o, none⟩ ∧ b < w.heap.size ∧ w.cell? ⟨b, o + i, none⟩ = some (.int .i64 n)) :
  Calls Tryz.prog 41 #[.slice a l.length cap] w fun e w' => e = .returned (.string (keyB l)) ∧ Below w.heap.size w w' := by
 have hlim : l.length ≤ 1099511627776 := hl
 go_enter Tryz.func41, Tryz.ntmps41
 go_wp2
 go_loopw [8] (fun vi wr => ∃ (k : Nat), vi = .int .i64 k ∧ k ≤ l.length ∧ Lib.IsBuilderF 119 5 w.heap.size w.heap.size (Lib.byteCells (keyL (l.take k))) wr ∧ Below w.heap.size w wr) (fun vi _ => l.length - (intOf vi).toNat)
 case atStart =>
  refine ⟨0, rfl, by omega, ?_, ((Below.refl _ w).alloc (Nat.le_refl _) _)⟩
  exact Lib.IsBuilderF.of (Lib.fresh_isBuilder 119 5 w)
 case round =>
  obtain ⟨k, rfl, hk, hI, hbw⟩ := hrel
  by_cases hlt : k < l.length
  ·obtain ⟨b, o, rfl, hb, hcell⟩ := hc k l[k] (List.getElem?_eq_getElem hlt)
   have hcr : wr.cell? ⟨b, o + k, none⟩ = some (.int .i64 l[k]) := by
    rw [← hcell]; simp only [World.cell?]; rw [hbw.block b hb]
   have hxk := hx l[k] (List.getElem_mem hlt)
   have w1 : IntKind.i64.wrap (l[k] + 1) = l[k] + 1 := by simp [IntKind.wrap, IntKind.bits, IntKind.signed]; omega
   have w2 : IntKind.i32.wrap (l[k] + 1) = l[k] + 1 := by simp [IntKind.wrap, IntKind.bits, IntKind.signed]; omega
   have hsz : w.heap.size ≤ wr.heap.size := hbw.size
   have hkl := Qbjc (l.take k)
   rw [List.length_take] at hkl
   go_wp2_with (go_at_call 76; refine (Tryz.Builder_WriteRune_k w.heap.size w.heap.size _ (l[k] + 1) (by omega) (by omega) _ hI (by rw [Lib.byteCells_length]; omega) hsz).mono ?_)
   rintro e W1 ⟨rfl, h1, b1, k1⟩
   go_wp2
   go_roundw
   case rel =>
    refine ⟨k + 1, by simp, by omega, ?_, hbw.trans b1⟩
    have e1 : keyL (l.take (k + 1)) = keyL (l.take k) ++ Lib.encodeRune (l[k] + 1) := by
     rw [List.take_succ_eq_append_getElem hlt]; simp only [keyL, List.flatMap_append, List.flatMap_cons, List.flatMap_nil, List.append_nil]
    rw [e1, Lib.byteCells_append, Lib.byteCells_encodeRune]; exact Or.inr h1
   case measure =>
    simp [intOf]; omega
  ·have hk2 : k = l.length := by omega
   subst hk2
   go_wp2_with (go_at_call 77; refine (Tryz.Builder_String_any_k w.heap.size w.heap.size _ _ hI hbw.size).mono ?_)
   rintro e W1 ⟨rfl, _, b1, _⟩
   go_wp2
   go_ret
   exact ⟨rfl, hbw.trans b1⟩
theorem Tryz.keyK : Go.Abs.K_projection_key Tryz.prog 41 keyS := by
 intro l r h
 unfold keyS at h
 split at h <;> cases h
 rename_i hc
 intro M nb
 refine Qbc7 rfl (by kernel_rfl) (fun w g us himm hus => ?_) M nb
 obtain ⟨u, us', rfl, hu, hus'⟩ := hus
 simp only [RFs] at hus'
 subst hus'
 obtain ⟨a, cap, rfl, hcap, hl⟩ := Qbl0 hu
 refine Tryz.key_walk l hc.1 hc.2 a cap w fun i n hi => ?_
 rcases hl with rfl | ⟨b, o, rfl, hl⟩
 ·simp at hi
 ·exact ⟨b, o, rfl, himm _ _ (hl i n hi).1, (hl i n hi).2⟩
theorem Tryz.growK : Go.Abs.K_slices_Grow_int Tryz.prog 91 Qbly := by
 intro n r h
 unfold Qbly at h
 split at h <;> cases h
 rename_i hc
 have hlim : n ≤ 1099511627776 := hc.2
 intro M nb
 refine Qbfi (by kernel_rfl) (fun w g us hus => ?_) M nb
 obtain ⟨u, us', rfl, hu, u2, us2, rfl, hu2, hus'⟩ := hus
 simp only [RFs] at hus'
 subst hus'
 have hu := hu .free
 simp only [RV] at hu
 obtain ⟨a, rfl⟩ := hu
 have h2 := Qm3 hu2
 subst h2
 by_cases h0 : n = 0
 ·subst h0
  refine (Any8.slices_Grow_room Tryz.laysGrow a 0 0 0 w (by omega) (by omega) (by omega) (by omega)).mono ?_
  rintro e w' ⟨rfl, rfl⟩
  exact .inl ⟨a, rfl, rfl⟩
 ·obtain ⟨m, rfl⟩ : ∃ m : Nat, n = m := ⟨n.toNat, by omega⟩
  obtain ⟨i, zv, hi, hzv, hcz, _⟩ := Qju Tryz.prog (t := 3) (z := [.d (.int .i64 0)]) (by kernel_rfl)
  have hsz : i.size = 1 := (Qd2 Tryz.prog hi).symm.trans (by kernel_rfl)
  have hby : i.bytes = 8 := by
   have : Tryz.prog.bytesOf 3 = 8 := by kernel_rfl
   simpa [Program.bytesOf, hi] using this
  have hzs : zv.cells.size = 1 := by have := (hcz g w).len; simpa using this
  have hz1 : ∀ q, ∀ u ∈ (Builtin.zeroCells zv.cells q).toList, u.oneCell' = true := by
   intro q u hu
   refine (hcz g w).one u ?_
   simp only [Builtin.zeroCells] at hu
   have hu' : ∃ a, a < q * zv.cells.size ∧ zv.cells[a % zv.cells.size]! = u := by simpa using hu
   obtain ⟨j, hj, rfl⟩ := hu'
   have hlt : j % zv.cells.size < zv.cells.size := Nat.mod_lt _ (by omega)
   rw [getElem!_pos zv.cells _ hlt]
   simp
  have hge := grownCap_ge w (0 + m) 0 3
  have hle := grownCap_le_maxLen w (0 + m) 0 3 (by simp only [maxLen]; omega)
  refine (Any8.slices_Grow_grow Tryz.laysGrow i zv hi hzv (by omega) a 0 0 m [] w (by omega) (by omega) (by rw [hby]; omega) (by omega) (by simp) (fun _ => rfl) (fun _ _ j v hj => by simp at hj)).mono ?_
  rintro e w' ⟨rfl, rfl⟩
  refine .inr ⟨_, _, _, rfl, rfl, ?_, hle, fun u hu => ?_⟩
  ·simp only [Array.size_append, size_zeroCells, hzs, List.size_toArray, List.length_nil]
   show _ = grownCap w (0 + m) 0 3 * 1
   simp only [show (Tryz.laysGrow_ren.t 25) = 3 from rfl]
   omega
  ·simp only [Array.toList_append, List.mem_append, List.nil_append] at hu
   rcases hu with hu | hu
   ·exact hz1 _ u hu
   ·exact hz1 _ u hu
end Go.Proofs
end
section
namespace Go.Proofs
open Go Go.Abs
set_option linter.unusedVariables false
set_option maxRecDepth 10000
set_option maxHeartbeats 4000000
theorem Qs7 : Qgf Tryz.prog 34 Qj7:=Qp0 Qww
theorem Q2f : Qhx Tryz.prog 79 Qfz:=Qwl Q46 Qbi
theorem Q6u : Qjv Tryz.prog 88 Qg4:=Q1y Q7t Qbi
theorem Qcr : Qbz Tryz.prog 56 Q7:=Qsu Q6u Q19
theorem Qwx : Qgp Tryz.prog 80 Qe6:=Qqs Qcr Q0c Qbi
theorem Qqd : Qhr Tryz.prog 46 Qga:=Q4r Q2f Qwx Q8t
theorem Qg0 : Qea Tryz.prog 49 Qee:=Qsv Q18 Qbi
theorem Qe4 : Qdo Tryz.prog 38 Qcx:=Q1z Qqd Qg0 Q7q
theorem Qfl : Qdw Tryz.prog 39 Qda:=Qwm Qcr Q44 Qbi
theorem Ql0 : Qek Tryz.prog 83 Q4:=Qkg Qmt
theorem Qev : Qc1 Tryz.prog 50 Qcf:=Qlu Qcr Tryz.rowK33 Ql0 Qph Qbi
theorem Qny : Qe1 Tryz.prog 40 Qhm:=Qlv Qev Qpg
theorem Qka : Qdx Tryz.prog 78 Qfu:=Qji Qcr Qkj
theorem Qwy : Qgr Tryz.prog 89 Qgz:=Qqt Q0d Qbi
theorem Qhu : Qd5 Tryz.prog 58 Qdc:=Qnt Qwy Qqz
theorem Qle : Qeb Tryz.prog 42 Qgc:=Qj4 Qhu Qka Qlx
theorem Qho : Qdz Tryz.prog 43 Qc9:=Qmr Qev Qp2 Qbi
theorem Q2g : Qh0 Tryz.prog 12 Qmw:=Qwn Qe4 Qfl Qny Tryz.keyK Qle Qho Q4y Qbi
theorem Ql1 : Qem Tryz.prog 84 Qeq:=Qkh Qcr Qmu
theorem Qg5 : Qdp Tryz.prog 52 Qc5:=Qlw Qhu Ql1 Qpi
theorem Qpl : Qg2 Tryz.prog 55 Qj8:=Q10 Q7r
theorem Q7v : Qkx Tryz.prog 31 Qs4:=Q4s Qe4 Qfl Qg5 Qpl Qcr Q8s Qbi
theorem Q47 : Qi0 Tryz.prog 65 Qpj:=Qz4 Q6r
theorem Q48 : Qi2 Tryz.prog 66 Qpk:=Qz5 Tryz.growK Q6s Qbi
theorem Qbc8 : Qkl Tryz.prog 70 Q0e:=Qqu Q0b
theorem Q9e : Qoj Tryz.prog 121 Q2d:=Q7n Qbao
theorem Qbau : Qqq Tryz.prog 97 Q5f:=Q8q Q9e Qbbb
theorem Q6v : Qjz Tryz.prog 98 Qqc:=Q11 Q7u
theorem Qp3 : Qfo Tryz.prog 82 Qiv:=Qnu Qbau Q6v Qq0 Qbi
theorem Ql2 : Qeo Tryz.prog 85 Qgj:=Qki Qmv Qbi
theorem Q7w : Qk8 Tryz.prog 86 Qs5:=Q4t Q8u
theorem Q7x : Qla Tryz.prog 87 Qs6:=Q4u Q8v
theorem Q9f : Qou Tryz.prog 54 Q2e:=Q7o Ql2 Q7w Q7x Qban
theorem Q0f : Qha Tryz.prog 48 Qly:=Qsw Q9f Qpl Qp3 Q17 Qbi
theorem Q0g : Qhc Tryz.prog 71 Qlz:=Qsx Qqd Q0f Q2a
theorem Q2h : Qh2 Tryz.prog 35 Qmx:=Qwo Qe4 Qcr Q47 Q48 Tryz.rowK33 Tryz.compK34 Tryz.rowK36 Q0g Q43 Qbi
theorem Qd7 : Qcz Tryz.prog 19 Qc0:=Qpf Qs3 Qbi
theorem Q2i : Qh4 Tryz.prog 14 Qmy:=Qwp Qd7 Q4z Qbi
theorem Qp4 : Qfq Tryz.prog 15 Qiw:=Qnv Qd7 Qqx Qbi
theorem Q0h : Qhe Tryz.prog 8 Qhn:=Qsy Q2g Q2i Qp4 Qd7 Q7v Qs7 Q2h Q14
theorem Qpm : Qfd Tryz.prog 11 Qd0:=Qms Qp1 Qbi
theorem Qkm : Qfh Tryz.prog 36 Qef:=Qsz Q16
theorem Ql3 : Qfy Tryz.prog 74 Qca:=Qwq Q45 Qbi
theorem Qmz : Qgh Tryz.prog 73 Qc6:=Qz6 Q6t Qbi
theorem Q0i : Qhh Tryz.prog 72 Qfk:=Qs0 Qmz Ql3 Q2b Qbi
theorem Q0j : Qhj Tryz.prog 75 Qeg:=Qs1 Q2c Qbi
theorem Qp5 : Qfs Tryz.prog 37 Qd6:=Qnw Qkm Q0i Qmz Ql3 Q0j Qqy Qbi
theorem Q2j : Qh7 Tryz.prog 10 Qf0:=Qwr Qkm Qp5 Q4x Qbi
theorem Q2k : Qh9 Tryz.prog 17 Qf1:=Qws Q40 Qbi
theorem Q6w : Qj1 Tryz.prog 18 Qds:=Q12 Qe4 Qfl Qg0 Qev Q7p
theorem Qet : Qdg Tryz.prog 45 Qdh:=Qz7 Q6q Qbi
theorem Qwz : Qgv Tryz.prog 51 Qe7:=Qqv Qet Qz9 Qbi
theorem Qkn : Qfi Tryz.prog 20 Qeh:=Qs2 Qet Qwz Q15 Qbi
theorem Q7y : Qlc Tryz.prog 21 Qd3:=Q4v Qe4 Qfl Qho Qg0 Qg5 Q8r
theorem Q2l : Qib Tryz.prog 23 Qf2:=Qwt Qet Q41 Qbi
theorem Q49 : Qi6 Tryz.prog 22 Qjk:=Qz8 Q6p Qbi
theorem Qw0 : Qgx Tryz.prog 53 Qe8:=Qqw Qet Q0a Qbi
theorem Q2m : Qid Tryz.prog 24 Qf3:=Qwu Qkn Qet Qw0 Q42 Qbi
theorem Q2n : Qif Tryz.prog 9 Qes:=Qwv Q4w Qbi
theorem Q61 : Qfj Tryz.prog 4 Qdt:=Qiu Q0h Q2n Q2j Qpm Q2k Q6w Qd7 Qkn Q7y Q49 Q2l Q2m Qj5
theorem Qbfj : Qqb Tryz.prog 63 Qj9:=Q13 Q7s Qbi
end Go.Proofs
end
