/-
  Part 6 of the proof: see the last text.
-/
import Derived.Test.YtdfiohnppomfgaaP5
import Derived.Test.YtdfiohnppomfgaaProg
import Derived.KernelRfl
import Derived.Sort.Statements
import Derived.Lib.SlicesCompact
import Derived.Lib.RuneBytes
import Derived.Shelf.SlSortCmp.NoneTotal
import Derived.Shelf.SlGeneric
import Derived.Ground.SlgmProg
import Derived.Shelf.SortM.Plain
import Derived.Shelf.SortM.SortNone
import Derived.Shelf.Small.Bits
import Derived.Ground.Names2Prog
import Derived.Shelf.Slices.CompactI
import Derived.WalkKit
import Derived.Shelf.Strings.BuilderK
import Derived.Shelf.Strings.BuilderRune
import Derived.Shelf.Strconv.Itoa0
import Derived.Shelf.Spec.SlicesGrow
import Derived.Ground.Names8Prog
import Derived.BigCall
import Derived.Lib.OthersKept
import Derived.OpenShut
import Derived.ProofKit
import Derived.Carry
import GoSem.Claim
import GoSem.ClaimJoined
import Derived.JoinedTies
set_option linter.unusedVariables false
set_option linter.unusedSimpArgs false
set_option linter.unusedSectionVars false
section
namespace Go.Abs
open Go
set_option linter.unusedVariables false
set_option maxRecDepth 10000
set_option maxHeartbeats 4000000
theorem Qu4 {P : Program} {c : Nat} {Qy : Qb → (List Int) → Option Int} {Qcq : (List Qe) → Option ((List Qe))} {Qcr : (List (List Int)) → Option ((List Int))} {f_slices_Sort_int : List Int → Option (List Int)} {f_slices_Compact_int : List Int → Option (List Int)} {Qh : (List Int) → Int → Option Bool} {f_slices_SortFunc_Edge : List Qe → Option (List Qe)} {Qb9 : Qb → Option (Qb × Int)}
    (H_projection_check : Qex P 30 Qy)
    (H_slices_Clone_Edge : Qhx P 31 Qcq)
    (H_slices_Concat_int : Qhz P 32 Qcr)
    (H_slices_Sort_int : RowK P 33 (eI .i64) 1 [] f_slices_Sort_int)
    (H_slices_Compact_int : CompK P 34 f_slices_Compact_int)
    (H_slices_Contains_int : Qbx P 35 Qh)
    (H_slices_SortFunc_Edge : RowK P 36 Qc 3 [.clo 37 []] f_slices_SortFunc_Edge)
    (H_automaton_Canonical : Qgo P 38 Qb9) (hcf : Qt P c = some Qhf) (fuel : Nat) : Qhe P c (Qcf Qy Qcq Qcr f_slices_Sort_int f_slices_Compact_int Qh f_slices_SortFunc_Edge Qb9 fuel):=by
 intro a1 alphabet2 r h
 refine Qbh0 hcf (args':=[.agg [.f (.lst 1 (List.map (eI .i64) a1.Alphabet)),(i_ a1.States),.f (.lst 1 (List.map (eI .i64) a1.Marked)),.f (.lst 3 (List.map Qc a1.Edges))],.f (.lst 1 (List.map (eI .i64) alphabet2))]) rfl rfl rfl rfl rfl rfl fun Γ M hP hnt hG hM0 hM=>?_
 subst hP
 refine Tr.init [(0,.agg [.f (.lst 1 (List.map (eI .i64) a1.Alphabet)),(i_ a1.States),.f (.lst 1 (List.map (eI .i64) a1.Marked)),.f (.lst 3 (List.map Qc a1.Edges))]),(1,.f (.lst 1 (List.map (eI .i64) alphabet2)))] rfl ?_
 unfold Qcf at h
 unfold Qhf
 refine sr ((Rn.box (v:=.agg [.f (.lst 1 (List.map (eI .i64) a1.Alphabet)),(i_ a1.States),.f (.lst 1 (List.map (eI .i64) a1.Marked)),.f (.lst 3 (List.map Qc a1.Edges))]) (cs:=[.f (.lst 1 (List.map (eI .i64) a1.Alphabet)),(i_ a1.States),.f (.lst 1 (List.map (eI .i64) a1.Marked)),.f (.lst 3 (List.map Qc a1.Edges))]) trivial rfl rfl rfl rfl rfl (Rn.alloc trivial rfl (md rfl (nt ((Tr.seq (sr ((Rn.load (v:=.agg [.f (.lst 1 (List.map (eI .i64) a1.Alphabet)),(i_ a1.States),.f (.lst 1 (List.map (eI .i64) a1.Marked)),.f (.lst 3 (List.map Qc a1.Edges))]) trivial rfl (Ql rfl) rfl rfl (Rn.mov (v:=.f (.lst 1 (List.map (eI .i64) alphabet2))) trivial rfl ?_)))))))))))
 obtain ⟨x4,h3,h⟩:=bnd h
 refine Rn.call (args:=[.agg [.f (.lst 1 (List.map (eI .i64) a1.Alphabet)),(i_ a1.States),.f (.lst 1 (List.map (eI .i64) a1.Marked)),.f (.lst 3 (List.map Qc a1.Edges))],.f (.lst 1 (List.map (eI .i64) alphabet2))]) trivial rfl (fun M2 nb2=>ACalls.weak (args':=[(Qa a1),(l_ alphabet2)]) (H_projection_check _ _ _ h3 M2 nb2) (.cons (WkV.agg (.cons fToD (.cons (sm rfl) (.cons fToD (.cons fToD .nil))))) (.cons fToD .nil)) rfl) pc9 ?_
 refine md rfl (nt ((sr ((md rfl (Rn.bin trivial rfl rfl rfl (Rn.nil (toN ?_))))))))
 refine Tr.cond rfl (fun hb5=>?_) (fun hb5=>?_)
 ·replace h:=bT hb5 h
  refine sr ((Rn.build (v:=.agg [.nils 1,(i_ 0),.nils 1,.nils 3]) trivial rfl (md rfl (Rn.storeT (v:=.agg [.nils 1,(i_ 0),.nils 1,.nils 3]) (ds:=[.nils 1,(i_ 0),.nils 1,.nils 3]) (cs':=[.nils 1,(i_ 0),.nils 1,.nils 3]) trivial rfl rfl rfl rfl rfl rfl rfl (md rfl (nt ((Tr.ret ?_))))))))
  replace h:=si h; subst h
  exact ⟨.inr rfl,.tup [.agg [.nils 1,(i_ 0),.nils 1,.nils 3],(i_ x4)],res2 (Qg8 rfl rfl rfl rfl) rfl,(WkV.tup (.cons (WkV.agg (.cons (WkV.nilsD _) (.cons (.same rfl) (.cons (WkV.nilsD _) (.cons (WkV.nilsD _) .nil))))) (.cons (.same rfl) .nil))).rd,⟨⟨trivial,trivial,trivial,trivial,trivial⟩,trivial,trivial⟩,fun k hk=>Qf hk⟩
 ·replace h:=bF hb5 h
  refine Tr.skip (toN (Tr.seq ?_))
  refine Tr.rgnD (by decide) ?_
  refine Rn.fldP (o':=1) trivial rfl rfl (Rn.load (v:=(i_ a1.States)) trivial rfl (Ql rfl) rfl rfl (Rn.fldP (o':=2) trivial rfl rfl (Rn.load (v:=.f (.lst 1 (List.map (eI .i64) a1.Marked))) trivial rfl (Ql rfl) rfl rfl (Rn.fldP (o':=3) trivial rfl rfl (Rn.load (v:=.f (.lst 3 (List.map Qc a1.Edges))) trivial rfl (Ql rfl) rfl rfl ?_)))))
  obtain ⟨x7,h6,h⟩:=bnd h
  refine Rn.call (args:=[.f (.lst 3 (List.map Qc a1.Edges))]) trivial rfl (fun M2 nb2=>ACalls.weak (args':=[.d (.lst 3 (List.map Qc a1.Edges))]) (H_slices_Clone_Edge _ _ h6 M2 nb2) (.cons fToD .nil) rfl) (fun _=>Q8r hM rfl) ?_
  refine Rn.buildT (v:=.agg [.nils 1,(i_ a1.States),.f (.lst 1 (List.map (eI .i64) a1.Marked)),.own 3 (List.map Qc x7)]) trivial rfl (Rn.alloc trivial rfl (Rn.storeT (v:=.agg [.nils 1,(i_ a1.States),.f (.lst 1 (List.map (eI .i64) a1.Marked)),.own 3 (List.map Qc x7)]) (ds:=[.nils 1,(i_ a1.States),.f (.lst 1 (List.map (eI .i64) a1.Marked)),.own 3 (List.map Qc x7)]) (cs':=[.nils 1,(i_ a1.States),.f (.lst 1 (List.map (eI .i64) a1.Marked)),.own 3 (List.map Qc x7)]) trivial rfl rfl rfl rfl rfl rfl rfl ?_))
  refine Rn.nil ⟨rfl,?_⟩
  refine toN (sr ((Rn.fldP (o':=0) trivial rfl rfl (Rn.load (v:=.f (.lst 1 (List.map (eI .i64) a1.Alphabet))) trivial rfl (Ql rfl) rfl rfl (Rn.mov (v:=.f (.lst 1 (List.map (eI .i64) alphabet2))) trivial rfl ?_)))))
  refine Rn.weak (by show WeakSt Γ _ ⟨look [(0,.agg [.f (.lst 1 (List.map (eI .i64) a1.Alphabet)),(i_ a1.States),.f (.lst 1 (List.map (eI .i64) a1.Marked)),.f (.lst 3 (List.map Qc a1.Edges))]),(1,.f (.lst 1 (List.map (eI .i64) alphabet2))),(2,.ptr (Γ.n0 + 2) 0),(4,.ptr (Γ.n0 + 4) 0),(5,(i_ 0)),(6,(i_ x4)),(7,.ptr (Γ.n0 + 7) 0),(11,.agg [.f (.lst 1 (List.map (eI .i64) a1.Alphabet)),(i_ a1.States),.f (.lst 1 (List.map (eI .i64) a1.Marked)),.f (.lst 3 (List.map Qc a1.Edges))]),(12,.f (.lst 1 (List.map (eI .i64) alphabet2))),(13,(i_ x4)),(14,(i_ x4)),(15,(b_ (x4 != 0))),(18,.ptr (Γ.n0 + 2) 1),(19,(i_ a1.States)),(20,.ptr (Γ.n0 + 2) 2),(21,.f (.lst 1 (List.map (eI .i64) a1.Marked))),(22,.ptr (Γ.n0 + 2) 3),(23,.f (.lst 3 (List.map Qc a1.Edges))),(24,.d (.lst 3 (List.map Qc x7))),(25,.agg [.nils 1,(i_ a1.States),.f (.lst 1 (List.map (eI .i64) a1.Marked)),.d (.lst 3 (List.map Qc x7))]),(26,.ptr (Γ.n0 + 2) 0),(27,(l_ a1.Alphabet)),(28,(l_ alphabet2))],Qp Γ.n0 (bxs [(2,.cells ([.f (.lst 1 (List.map (eI .i64) a1.Alphabet)),(i_ a1.States),.f (.lst 1 (List.map (eI .i64) a1.Marked)),.f (.lst 3 (List.map Qc a1.Edges))])),(4,.cells ([.nils 1,(i_ 0),.nils 1,.nils 3])),(7,.cells ([.nils 1,(i_ a1.States),.f (.lst 1 (List.map (eI .i64) a1.Marked)),.own 3 (List.map Qc x7)]))]) M,Γ.n0 + 74⟩; exact Qi [] ⟨(sm rfl),(sm rfl),(kPtr rfl),(kPtr rfl),(sm rfl),(sm rfl),(kPtr rfl),(sm rfl),(sm rfl),(sm rfl),(sm rfl),(sm rfl),(kPtr rfl),(sm rfl),(kPtr rfl),(sm rfl),(kPtr rfl),(sm rfl),(sm rfl),(sm rfl),(kPtr rfl),fToD,fToD,trivial⟩ ⟨⟨_,rfl,rfl,(.same rfl)⟩,⟨_,rfl,rfl,(.same rfl)⟩,⟨_,rfl,rfl,(.same rfl)⟩,trivial⟩ rfl) ?_
  refine Rn.bslice (xs:=[(l_ a1.Alphabet),(l_ alphabet2)]) (cs:=[(l_ a1.Alphabet),(l_ alphabet2)]) trivial rfl rfl rfl rfl ?_
  refine Rn.weak (by show WeakSt Γ _ ⟨look [(0,.agg [.f (.lst 1 (List.map (eI .i64) a1.Alphabet)),(i_ a1.States),.f (.lst 1 (List.map (eI .i64) a1.Marked)),.f (.lst 3 (List.map Qc a1.Edges))]),(1,.f (.lst 1 (List.map (eI .i64) alphabet2))),(2,.ptr (Γ.n0 + 2) 0),(4,.ptr (Γ.n0 + 4) 0),(5,(i_ 0)),(6,(i_ x4)),(7,.ptr (Γ.n0 + 7) 0),(11,.agg [.f (.lst 1 (List.map (eI .i64) a1.Alphabet)),(i_ a1.States),.f (.lst 1 (List.map (eI .i64) a1.Marked)),.f (.lst 3 (List.map Qc a1.Edges))]),(12,.f (.lst 1 (List.map (eI .i64) alphabet2))),(13,(i_ x4)),(14,(i_ x4)),(15,(b_ (x4 != 0))),(18,.ptr (Γ.n0 + 2) 1),(19,(i_ a1.States)),(20,.ptr (Γ.n0 + 2) 2),(21,.f (.lst 1 (List.map (eI .i64) a1.Marked))),(22,.ptr (Γ.n0 + 2) 3),(23,.f (.lst 3 (List.map Qc a1.Edges))),(24,.d (.lst 3 (List.map Qc x7))),(25,.agg [.nils 1,(i_ a1.States),.f (.lst 1 (List.map (eI .i64) a1.Marked)),.d (.lst 3 (List.map Qc x7))]),(26,.ptr (Γ.n0 + 2) 0),(27,(l_ a1.Alphabet)),(28,(l_ alphabet2)),(29,.d (.lst 1 (List.map (eL 1 (eI .i64)) [a1.Alphabet,alphabet2])))],Qp Γ.n0 (bxs [(2,.cells ([.f (.lst 1 (List.map (eI .i64) a1.Alphabet)),(i_ a1.States),.f (.lst 1 (List.map (eI .i64) a1.Marked)),.f (.lst 3 (List.map Qc a1.Edges))])),(4,.cells ([.nils 1,(i_ 0),.nils 1,.nils 3])),(7,.cells ([.nils 1,(i_ a1.States),.f (.lst 1 (List.map (eI .i64) a1.Marked)),.own 3 (List.map Qc x7)]))]) M,Γ.n0 + 74⟩; exact Qch 29 [.lst 1 (List.map (eI .i64) a1.Alphabet),.lst 1 (List.map (eI .i64) alphabet2)] rfl rfl ⟨(.same rfl),(.same rfl),(fPtr rfl),(fPtr rfl),(.same rfl),(.same rfl),(fPtr rfl),(.same rfl),(.same rfl),(.same rfl),(.same rfl),(.same rfl),(fPtr rfl),(.same rfl),(fPtr rfl),(.same rfl),(fPtr rfl),(.same rfl),(.same rfl),(.same rfl),(fPtr rfl),(.same rfl),(.same rfl),(fSl rfl rfl),trivial⟩ ⟨⟨_,rfl,rfl,(.same rfl)⟩,⟨_,rfl,rfl,(.same rfl)⟩,⟨_,rfl,rfl,(.same rfl)⟩,trivial⟩ rfl) ?_
  obtain ⟨x9,h8,h⟩:=bnd h
  refine Rn.call (args:=[.d (.lst 1 (List.map (eL 1 (eI .i64)) [a1.Alphabet,alphabet2]))]) trivial rfl (H_slices_Concat_int _ _ h8) pc9 (Rn.fldP (o':=0) trivial rfl rfl (Rn.storeO (cs':=[.own 1 (List.map (eI .i64) x9),(i_ a1.States),.f (.lst 1 (List.map (eI .i64) a1.Marked)),.own 3 (List.map Qc x7)]) trivial rfl rfl rfl rfl rfl (Rn.nil (toN ?_))))
  obtain ⟨row10,hs11,h⟩:=bnd h
  obtain ⟨hl12,hn13,hr14⟩:=H_slices_Sort_int _ _ hs11
  obtain ⟨row16,hs17,h⟩:=bnd h
  obtain ⟨hl18,hn19,hr20⟩:=H_slices_Compact_int _ _ hs17
  refine Tr.seqW2 ⟨look [(2,.ptr (Γ.n0 + 2) 0),(4,.ptr (Γ.n0 + 4) 0),(7,.ptr (Γ.n0 + 7) 0)],Qp Γ.n0 (bxs [(2,.cells ([.f (.lst 1 (List.map (eI .i64) a1.Alphabet)),(i_ a1.States),.f (.lst 1 (List.map (eI .i64) a1.Marked)),.f (.lst 3 (List.map Qc a1.Edges))])),(4,.cells ([.nils 1,(i_ 0),.nils 1,.nils 3])),(7,.cells ([.f (.lst 1 (List.map (eI .i64) row16)),(i_ a1.States),.f (.lst 1 (List.map (eI .i64) a1.Marked)),.own 3 (List.map Qc x7)]))]) M,Γ.n0 + 74⟩ ?_ ?_
  ·by_cases hx15 : x9 = []
   ·obtain ⟨hyx,hn13b⟩:=hn13 hx15
    replace hyx:=hyx.symm
    subst hyx
    replace hn13:=And.intro trivial hn13b
    obtain ⟨hyx2,hn19b⟩:=hn19 hx15
    replace hyx2:=hyx2.symm
    subst hyx2
    replace hn19:=And.intro trivial hn19b
    refine Tr.rgn (Rn.fldP (o':=0) trivial rfl rfl (Rn.load (v:=(l_ x9)) trivial rfl (Ql rfl) rfl rfl (Rn.call (args:=[.d (.lst 1 (List.map (eI .i64) x9))]) trivial rfl (hn13.2) pc9 (nt ((Tr.rgn (Rn.fldP (o':=0) trivial rfl rfl (Rn.load (v:=(l_ x9)) trivial rfl (Ql rfl) rfl rfl (Rn.call (args:=[.d (.lst 1 (List.map (eI .i64) x9))]) (r:=.d (.lst 1 (List.map (eI .i64) x9))) trivial rfl (hn19.2) pc9 (Rn.fldP (o':=0) trivial rfl rfl (Rn.storeD (cs':=[(l_ x9),(i_ a1.States),.f (.lst 1 (List.map (eI .i64) a1.Marked)),.own 3 (List.map Qc x7)]) trivial rfl rfl rfl rfl rfl ?_)))))))))))
    refine Rn.nil ⟨rfl,(by exact Qi [] ⟨(kPtr rfl),(kPtr rfl),(kPtr rfl),trivial⟩ ⟨⟨_,rfl,rfl,(.same rfl)⟩,⟨_,rfl,rfl,(.same rfl)⟩,⟨_,rfl,rfl,(.cons (Qbjo hx15) (.cons (sm rfl) (.cons (sm rfl) (.cons (sm rfl) .nil))))⟩,trivial⟩ rfl)⟩
   ·refine Tr.weak (by show WeakSt Γ _ ⟨look [(2,.ptr (Γ.n0 + 2) 0),(4,.ptr (Γ.n0 + 4) 0),(7,.ptr (Γ.n0 + 7) 0)],Qp Γ.n0 (bxs [(2,.cells ([.f (.lst 1 (List.map (eI .i64) a1.Alphabet)),(i_ a1.States),.f (.lst 1 (List.map (eI .i64) a1.Marked)),.f (.lst 3 (List.map Qc a1.Edges))])),(4,.cells ([.nils 1,(i_ 0),.nils 1,.nils 3])),(7,.cells ([.own 1 (List.map (eI .i64) x9),(i_ a1.States),.f (.lst 1 (List.map (eI .i64) a1.Marked)),.own 3 (List.map Qc x7)]))]) M,Γ.n0 + 74⟩; exact Qi [] ⟨(kPtr rfl),(kPtr rfl),(kPtr rfl),trivial⟩ ⟨⟨_,rfl,rfl,(.same rfl)⟩,⟨_,rfl,rfl,(.same rfl)⟩,⟨_,rfl,rfl,(.same rfl)⟩,trivial⟩ rfl) ?_
    refine Qbft hG hM0 7 0 34 hx15 (fun _=>rfl) rfl rfl rfl rfl ⟨rfl,rfl,rfl,trivial⟩ ⟨⟨rfl,rfl,rfl,rfl,trivial⟩,⟨rfl,rfl,rfl,rfl,trivial⟩,⟨rfl,rfl,rfl,(Qbg7 (fun _=>rfl)),trivial⟩,trivial⟩ (fun c21 hc22 hc23=>?_)
    refine Tr.rgn (Rn.fldP (o':=0) trivial rfl rfl (Rn.load (v:=.sl 1 (Γ.n0 + 34) 0 x9.length c21) trivial rfl (Ql rfl) rfl rfl ?_))
    refine Rn.callRow (t:=34) (cs:=Qbj (List.map (eI .i64) x9) ((c21 - x9.length) * 1)) (cs':=Qbj (List.map (eI .i64) row10) ((c21 - x9.length) * 1)) trivial rfl rfl (fun M2 hM2=>hr14 hc23 _ _ _ _ hM2) rfl ?_
    refine nt ((Tr.rgn (Rn.fldP (o':=0) trivial rfl rfl (Rn.load (v:=.sl 1 (Γ.n0 + 34) 0 x9.length c21) trivial rfl (Ql rfl) rfl rfl ?_))))
    refine Rn.callRow (t:=34) (cs:=Qbj (List.map (eI .i64) row10) ((c21 - x9.length) * 1)) (cs':=Qbj (List.map (eI .i64) row16) ((c21 - row16.length) * 1)) trivial rfl rfl (fun M2 hM2=>Qbha hr20 hl12 hc22 hM2) rfl ?_
    refine Rn.fldP (o':=0) trivial rfl rfl (Rn.storeV (v:=.sl 1 (Γ.n0 + 34) 0 row16.length c21) (cs':=[.sl 1 (Γ.n0 + 34) 0 row16.length c21,(i_ a1.States),.f (.lst 1 (List.map (eI .i64) a1.Marked)),.own 3 (List.map Qc x7)]) trivial rfl rfl rfl rfl rfl rfl rfl rfl ?_)
    refine Rn.weak (by show WeakSt Γ _ ⟨look [(2,.ptr (Γ.n0 + 2) 0),(4,.ptr (Γ.n0 + 4) 0),(7,.ptr (Γ.n0 + 7) 0),(32,.ptr (Γ.n0 + 7) 0),(34,.tup []),(35,.ptr (Γ.n0 + 7) 0),(37,.f (.lst 1 (List.map (eI .i64) row16))),(38,.ptr (Γ.n0 + 7) 0)],Qp Γ.n0 (bxs [(2,.cells ([.f (.lst 1 (List.map (eI .i64) a1.Alphabet)),(i_ a1.States),.f (.lst 1 (List.map (eI .i64) a1.Marked)),.f (.lst 3 (List.map Qc a1.Edges))])),(4,.cells ([.nils 1,(i_ 0),.nils 1,.nils 3])),(7,.cells ([.f (.lst 1 (List.map (eI .i64) row16)),(i_ a1.States),.f (.lst 1 (List.map (eI .i64) a1.Marked)),.own 3 (List.map Qc x7)]))]) M,Γ.n0 + 74⟩; exact Qpa 34 _ rfl Qbir ⟨(fPtr rfl),(fPtr rfl),(fPtr rfl),(fPtr rfl),(.same rfl),(fPtr rfl),(Qbg9 (fun _=>rfl) (fun _=>rfl) rfl (Nat.le_trans (Nat.le_trans hl18 (Nat.le_of_eq hl12)) hc22)),(fPtr rfl),trivial⟩ ⟨⟨_,rfl,rfl,(.cons (.same rfl) (.cons (.same rfl) (.cons (.same rfl) (.cons (.same rfl) .nil))))⟩,⟨_,rfl,rfl,(.cons (.same rfl) (.cons (.same rfl) (.cons (.same rfl) (.cons (.same rfl) .nil))))⟩,⟨_,rfl,rfl,(.cons (Qbg9 (fun _=>rfl) (fun _=>rfl) rfl (Nat.le_trans (Nat.le_trans hl18 (Nat.le_of_eq hl12)) hc22)) (.cons (.same rfl) (.cons (.same rfl) (.cons (.same rfl) .nil))))⟩,trivial⟩ rfl) ?_
    refine Rn.nil ⟨rfl,(by exact Qi [] ⟨(kPtr rfl),(kPtr rfl),(kPtr rfl),trivial⟩ ⟨⟨_,rfl,rfl,(.same rfl)⟩,⟨_,rfl,rfl,(.same rfl)⟩,⟨_,rfl,rfl,(.same rfl)⟩,trivial⟩ rfl)⟩
  ·refine Tr.cutB (fun (r41 : List Qe)=>⟨look [(4,.ptr (Γ.n0 + 4) 0),(7,.ptr (Γ.n0 + 7) 0)],Qp Γ.n0 (bxs [(2,.cells ([.f (.lst 1 (List.map (eI .i64) a1.Alphabet)),(i_ a1.States),.f (.lst 1 (List.map (eI .i64) a1.Marked)),.f (.lst 3 (List.map Qc a1.Edges))])),(4,.cells ([.nils 1,(i_ 0),.nils 1,.nils 3])),(7,.cells ([.f (.lst 1 (List.map (eI .i64) row16)),(i_ a1.States),.f (.lst 1 (List.map (eI .i64) a1.Marked)),.own 3 (List.map Qc r41)]))]) M,Γ.n0 + 74⟩) h (fun z h=>?_) (fun z h=>?_)
   ·refine sr ((Rn.fldP (o':=1) trivial rfl rfl (Rn.load (v:=(i_ a1.States)) trivial rfl (Ql rfl) rfl rfl (md rfl (nt ((Tr.block ?_)))))))
    refine Tr.loop (mk:=fun ((x24,r25) : Int × (List Qe))=>⟨look [(2,.ptr (Γ.n0 + 2) 0),(4,.ptr (Γ.n0 + 4) 0),(7,.ptr (Γ.n0 + 7) 0),(40,(i_ a1.States)),(41,(i_ x24))],Qp Γ.n0 (bxs [(2,.cells ([.f (.lst 1 (List.map (eI .i64) a1.Alphabet)),(i_ a1.States),.f (.lst 1 (List.map (eI .i64) a1.Marked)),.f (.lst 3 (List.map Qc a1.Edges))])),(4,.cells ([.nils 1,(i_ 0),.nils 1,.nils 3])),(7,.cells ([.f (.lst 1 (List.map (eI .i64) row16)),(i_ a1.States),.f (.lst 1 (List.map (eI .i64) a1.Marked)),.own 3 (List.map Qc r25)]))]) M,Γ.n0 + 74⟩) h (by exact Qj ⟨(kPtr rfl),(kPtr rfl),(kPtr rfl),(sm rfl),(sm rfl),trivial⟩ ⟨⟨_,rfl,rfl,(.same rfl)⟩,⟨_,rfl,rfl,(.same rfl)⟩,⟨_,rfl,rfl,(.same rfl)⟩,trivial⟩ rfl) (fun k26 z h=>?_)
    ·obtain ⟨x24,r25⟩:=z
     replace h : _ = some _:=h
     refine sr ((Rn.bin trivial rfl rfl rfl (nt ((Tr.seq ?_)))))
     refine Tr.cond rfl (fun hb27=>?_) (fun hb27=>?_)
     ·replace h:=ifT hb27 h
      refine Tr.skip (toN ?_)
      refine Tr.cutB (fun (r40 : List Qe)=>⟨look [(2,.ptr (Γ.n0 + 2) 0),(4,.ptr (Γ.n0 + 4) 0),(7,.ptr (Γ.n0 + 7) 0),(40,(i_ a1.States)),(41,(i_ x24))],Qp Γ.n0 (bxs [(2,.cells ([.f (.lst 1 (List.map (eI .i64) a1.Alphabet)),(i_ a1.States),.f (.lst 1 (List.map (eI .i64) a1.Marked)),.f (.lst 3 (List.map Qc a1.Edges))])),(4,.cells ([.nils 1,(i_ 0),.nils 1,.nils 3])),(7,.cells ([.f (.lst 1 (List.map (eI .i64) row16)),(i_ a1.States),.f (.lst 1 (List.map (eI .i64) a1.Marked)),.own 3 (List.map Qc r40)]))]) M,Γ.n0 + 74⟩) h (fun z h=>?_) (fun z h=>?_)
      ·refine Tr.block (sr ((md rfl (md rfl (nt ((sr ((Rn.fldP (o':=0) trivial rfl rfl (Rn.load (v:=.f (.lst 1 (List.map (eI .i64) row16))) trivial rfl (Ql rfl) rfl rfl ?_))))))))))
       refine Rn.weak (by show WeakSt Γ _ ⟨look [(2,.ptr (Γ.n0 + 2) 0),(4,.ptr (Γ.n0 + 4) 0),(7,.ptr (Γ.n0 + 7) 0),(8,(i_ x24)),(40,(i_ a1.States)),(41,(i_ x24)),(42,(b_ (decide (x24 < a1.States)))),(43,(i_ x24)),(44,.ptr (Γ.n0 + 7) 0),(45,(l_ row16))],Qp Γ.n0 (bxs [(2,.cells ([.f (.lst 1 (List.map (eI .i64) a1.Alphabet)),(i_ a1.States),.f (.lst 1 (List.map (eI .i64) a1.Marked)),.f (.lst 3 (List.map Qc a1.Edges))])),(4,.cells ([.nils 1,(i_ 0),.nils 1,.nils 3])),(7,.cells ([.f (.lst 1 (List.map (eI .i64) row16)),(i_ a1.States),.f (.lst 1 (List.map (eI .i64) a1.Marked)),.own 3 (List.map Qc r25)]))]) M,Γ.n0 + 74⟩; exact Qi [] ⟨(kPtr rfl),(kPtr rfl),(kPtr rfl),(sm rfl),(sm rfl),(sm rfl),(sm rfl),(sm rfl),(kPtr rfl),fToD,trivial⟩ ⟨⟨_,rfl,rfl,(.same rfl)⟩,⟨_,rfl,rfl,(.same rfl)⟩,⟨_,rfl,rfl,(.same rfl)⟩,trivial⟩ rfl) ?_
       refine Rn.lenD trivial rfl (md rfl (nt ((Tr.block ?_))))
       refine Tr.loop (mk:=fun ((x28,r29) : Int × (List Qe))=>⟨look [(2,.ptr (Γ.n0 + 2) 0),(4,.ptr (Γ.n0 + 4) 0),(7,.ptr (Γ.n0 + 7) 0),(8,(i_ x24)),(40,(i_ a1.States)),(41,(i_ x24)),(45,(l_ row16)),(46,(i_ (row16.length : Int))),(47,(i_ x28))],Qp Γ.n0 (bxs [(2,.cells ([.f (.lst 1 (List.map (eI .i64) a1.Alphabet)),(i_ a1.States),.f (.lst 1 (List.map (eI .i64) a1.Marked)),.f (.lst 3 (List.map Qc a1.Edges))])),(4,.cells ([.nils 1,(i_ 0),.nils 1,.nils 3])),(7,.cells ([.f (.lst 1 (List.map (eI .i64) row16)),(i_ a1.States),.f (.lst 1 (List.map (eI .i64) a1.Marked)),.own 3 (List.map Qc r29)]))]) M,Γ.n0 + 74⟩) h (by exact Qj ⟨(kPtr rfl),(kPtr rfl),(kPtr rfl),(sm rfl),(sm rfl),(sm rfl),(sm rfl),(sm rfl),(sm rfl),trivial⟩ ⟨⟨_,rfl,rfl,(.same rfl)⟩,⟨_,rfl,rfl,(.same rfl)⟩,⟨_,rfl,rfl,(.same rfl)⟩,trivial⟩ rfl) (fun k30 z h=>?_)
       ·obtain ⟨x28,r29⟩:=z
        replace h : _ = some _:=h
        refine sr ((Rn.bin trivial rfl rfl rfl (nt ((Tr.seq ?_)))))
        refine Tr.cond rfl (fun hb31=>?_) (fun hb31=>?_)
        ·replace h:=ifT hb31 h
         refine Tr.skip (toN ?_)
         refine Tr.cutB (fun (r39 : List Qe)=>⟨look [(2,.ptr (Γ.n0 + 2) 0),(4,.ptr (Γ.n0 + 4) 0),(7,.ptr (Γ.n0 + 7) 0),(8,(i_ x24)),(40,(i_ a1.States)),(41,(i_ x24)),(45,(l_ row16)),(46,(i_ (row16.length : Int))),(47,(i_ x28))],Qp Γ.n0 (bxs [(2,.cells ([.f (.lst 1 (List.map (eI .i64) a1.Alphabet)),(i_ a1.States),.f (.lst 1 (List.map (eI .i64) a1.Marked)),.f (.lst 3 (List.map Qc a1.Edges))])),(4,.cells ([.nils 1,(i_ 0),.nils 1,.nils 3])),(7,.cells ([.f (.lst 1 (List.map (eI .i64) row16)),(i_ a1.States),.f (.lst 1 (List.map (eI .i64) a1.Marked)),.own 3 (List.map Qc r39)]))]) M,Γ.n0 + 74⟩) h (fun z h=>?_) (fun z h=>?_)
         ·refine Tr.block (Tr.seq (Tr.rgn ?_))
          obtain ⟨x32,h33,h⟩:=bnd h
          refine Rn.idxD (e:=(eI .i64)) trivial rfl rfl h33 (Rn.loadC (x:=.int .i64 x32) trivial rfl (md rfl (nt ((sr ((Rn.fldP (o':=0) trivial rfl rfl (Rn.load (v:=.f (.lst 1 (List.map (eI .i64) a1.Alphabet))) trivial rfl (Ql rfl) rfl rfl (md rfl ?_)))))))))
          obtain ⟨x35,h34,h⟩:=bnd h
          refine Rn.call (args:=[.f (.lst 1 (List.map (eI .i64) a1.Alphabet)),(i_ x32)]) trivial rfl (fun M2 nb2=>ACalls.weak (args':=[(l_ a1.Alphabet),(i_ x32)]) (H_slices_Contains_int _ _ _ h34 M2 nb2) (.cons fToD (.cons (sm rfl) .nil)) rfl) pc9 ?_
          refine Rn.un trivial rfl rfl (Rn.nil (toN ?_))
          refine Tr.cond rfl (fun hb36=>?_) (fun hb36=>?_)
          ·have hb36:=nT' hb36
           replace h:=bF hb36 h
           refine Tr.rgn (Rn.fldP (o':=3) trivial rfl rfl (Rn.loadT (cs':=[.f (.lst 1 (List.map (eI .i64) row16)),(i_ a1.States),.f (.lst 1 (List.map (eI .i64) a1.Marked)),.d (.lst 3 (List.map Qc r29))]) trivial rfl rfl rfl rfl (md rfl (md rfl (md rfl (Rn.build (v:=.agg [(i_ x24),(i_ x32),(i_ x24)]) trivial rfl (Rn.bslice (xs:=[.agg [(i_ x24),(i_ x32),(i_ x24)]]) (cs:=[(i_ x24),(i_ x32),(i_ x24)]) trivial rfl rfl rfl rfl ?_)))))))
           obtain ⟨x37,h38,h⟩:=bnd h
           refine Rn.app (e:=Qc) trivial rfl rfl rfl (Qcb rfl rfl rfl) h38 rfl (Rn.fldP (o':=3) trivial rfl rfl (Rn.storeO (cs':=[.f (.lst 1 (List.map (eI .i64) row16)),(i_ a1.States),.f (.lst 1 (List.map (eI .i64) a1.Marked)),.own 3 (List.map Qc x37)]) trivial rfl rfl rfl rfl rfl (Rn.nil ?_)))
           replace h:=si h; subst h
           exact Qi [62] ⟨(kPtr rfl),(kPtr rfl),(kPtr rfl),(sm rfl),(sm rfl),(sm rfl),(sm rfl),(sm rfl),(sm rfl),trivial⟩ ⟨⟨_,rfl,rfl,(.same rfl)⟩,⟨_,rfl,rfl,(.same rfl)⟩,⟨_,rfl,rfl,(.same rfl)⟩,trivial⟩ rfl
          ·have hb36:=nF' hb36
           replace h:=bT hb36 h
           refine Tr.skip ?_
           replace h:=si h; subst h
           exact Qi [] ⟨(kPtr rfl),(kPtr rfl),(kPtr rfl),(sm rfl),(sm rfl),(sm rfl),(sm rfl),(sm rfl),(sm rfl),trivial⟩ ⟨⟨_,rfl,rfl,(.same rfl)⟩,⟨_,rfl,rfl,(.same rfl)⟩,⟨_,rfl,rfl,(.same rfl)⟩,trivial⟩ rfl
         ·obtain ⟨r39,rfl⟩ : ∃ x,x = z:=⟨_,rfl⟩
          refine Tr.rgn (Rn.bin trivial rfl rfl rfl (md rfl (Rn.nil ?_)))
          exact ⟨_,h,(by exact Qj ⟨(kPtr rfl),(kPtr rfl),(kPtr rfl),(sm rfl),(sm rfl),(sm rfl),(sm rfl),(sm rfl),(sm rfl),trivial⟩ ⟨⟨_,rfl,rfl,(.same rfl)⟩,⟨_,rfl,rfl,(.same rfl)⟩,⟨_,rfl,rfl,(.same rfl)⟩,trivial⟩ rfl)⟩
        ·replace h:=ifF hb31 h
         refine Tr.exit ?_
         replace h:=si h; subst h
         exact Qi [] ⟨(kPtr rfl),(kPtr rfl),(kPtr rfl),(sm rfl),(sm rfl),trivial⟩ ⟨⟨_,rfl,rfl,(.same rfl)⟩,⟨_,rfl,rfl,(.same rfl)⟩,⟨_,rfl,rfl,(.same rfl)⟩,trivial⟩ rfl
      ·obtain ⟨r40,rfl⟩ : ∃ x,x = z:=⟨_,rfl⟩
       refine Tr.rgn (Rn.bin trivial rfl rfl rfl (md rfl (Rn.nil ?_)))
       exact ⟨_,h,(by exact Qj ⟨(kPtr rfl),(kPtr rfl),(kPtr rfl),(sm rfl),(sm rfl),trivial⟩ ⟨⟨_,rfl,rfl,(.same rfl)⟩,⟨_,rfl,rfl,(.same rfl)⟩,⟨_,rfl,rfl,(.same rfl)⟩,trivial⟩ rfl)⟩
     ·replace h:=ifF hb27 h
      refine Tr.exit ?_
      replace h:=si h; subst h
      exact Qi [] ⟨(kPtr rfl),(kPtr rfl),trivial⟩ ⟨⟨_,rfl,rfl,(.same rfl)⟩,⟨_,rfl,rfl,(.same rfl)⟩,⟨_,rfl,rfl,(.same rfl)⟩,trivial⟩ rfl
   ·obtain ⟨r41,rfl⟩ : ∃ x,x = z:=⟨_,rfl⟩
    obtain ⟨row42,hs43,h⟩:=bnd h
    obtain ⟨hl44,hn45,hr46⟩:=H_slices_SortFunc_Edge _ _ hs43
    refine Tr.seqW ⟨look [(4,.ptr (Γ.n0 + 4) 0),(7,.ptr (Γ.n0 + 7) 0)],Qp Γ.n0 (bxs [(2,.cells ([.f (.lst 1 (List.map (eI .i64) a1.Alphabet)),(i_ a1.States),.f (.lst 1 (List.map (eI .i64) a1.Marked)),.f (.lst 3 (List.map Qc a1.Edges))])),(4,.cells ([.nils 1,(i_ 0),.nils 1,.nils 3])),(7,.cells ([.f (.lst 1 (List.map (eI .i64) row16)),(i_ a1.States),.f (.lst 1 (List.map (eI .i64) a1.Marked)),.f (.lst 3 (List.map Qc row42))]))]) M,Γ.n0 + 74⟩ ?_ ?_
    ·by_cases hx47 : r41 = []
     ·obtain ⟨hyx,hn45b⟩:=hn45 hx47
      replace hyx:=hyx.symm
      subst hyx
      replace hn45:=And.intro trivial hn45b
      refine Tr.rgn (Rn.fldP (o':=3) trivial rfl rfl (Rn.load (v:=.d (.lst 3 (List.map Qc r41))) trivial rfl (Ql rfl) rfl rfl (Rn.call (args:=[.d (.lst 3 (List.map Qc r41)),.clo 37 []]) trivial rfl (hn45.2) pc9 ?_)))
      refine Rn.nil ⟨rfl,(by exact Qi [] ⟨(kPtr rfl),(kPtr rfl),trivial⟩ ⟨⟨_,rfl,rfl,(.same rfl)⟩,⟨_,rfl,rfl,(.same rfl)⟩,⟨_,rfl,rfl,(.cons (sm rfl) (.cons (sm rfl) (.cons (sm rfl) (.cons (Qbj2 hx47) .nil))))⟩,trivial⟩ rfl)⟩
     ·refine Tr.weak (by show WeakSt Γ _ ⟨look [(4,.ptr (Γ.n0 + 4) 0),(7,.ptr (Γ.n0 + 7) 0)],Qp Γ.n0 (bxs [(2,.cells ([.f (.lst 1 (List.map (eI .i64) a1.Alphabet)),(i_ a1.States),.f (.lst 1 (List.map (eI .i64) a1.Marked)),.f (.lst 3 (List.map Qc a1.Edges))])),(4,.cells ([.nils 1,(i_ 0),.nils 1,.nils 3])),(7,.cells ([.f (.lst 1 (List.map (eI .i64) row16)),(i_ a1.States),.f (.lst 1 (List.map (eI .i64) a1.Marked)),.own 3 (List.map Qc r41)]))]) M,Γ.n0 + 74⟩; exact Qi [] ⟨(kPtr rfl),(kPtr rfl),trivial⟩ ⟨⟨_,rfl,rfl,(.same rfl)⟩,⟨_,rfl,rfl,(.same rfl)⟩,⟨_,rfl,rfl,(.same rfl)⟩,trivial⟩ rfl) ?_
      refine Qbft hG hM0 7 3 69 hx47 (fun _=>rfl) rfl rfl rfl rfl ⟨rfl,rfl,trivial⟩ ⟨⟨rfl,rfl,rfl,rfl,trivial⟩,⟨rfl,rfl,rfl,rfl,trivial⟩,⟨rfl,rfl,rfl,rfl,trivial⟩,trivial⟩ (fun c48 hc49 hc50=>?_)
      refine Tr.rgn (Rn.fldP (o':=3) trivial rfl rfl (Rn.load (v:=.sl 3 (Γ.n0 + 69) 0 r41.length c48) trivial rfl (Ql rfl) rfl rfl ?_))
      refine Rn.callRow (t:=69) (cs:=Qbj (List.map Qc r41) ((c48 - r41.length) * 3)) (cs':=Qbj (List.map Qc row42) ((c48 - r41.length) * 3)) trivial rfl rfl (fun M2 hM2=>hr46 hc50 _ _ _ _ hM2) rfl ?_
      refine Rn.weak (by show WeakSt Γ _ ⟨look [(4,.ptr (Γ.n0 + 4) 0),(7,.ptr (Γ.n0 + 7) 0),(67,.ptr (Γ.n0 + 7) 3),(68,.f (.lst 3 (List.map Qc row42))),(69,.tup [])],Qp Γ.n0 (bxs [(2,.cells ([.f (.lst 1 (List.map (eI .i64) a1.Alphabet)),(i_ a1.States),.f (.lst 1 (List.map (eI .i64) a1.Marked)),.f (.lst 3 (List.map Qc a1.Edges))])),(4,.cells ([.nils 1,(i_ 0),.nils 1,.nils 3])),(7,.cells ([.f (.lst 1 (List.map (eI .i64) row16)),(i_ a1.States),.f (.lst 1 (List.map (eI .i64) a1.Marked)),.f (.lst 3 (List.map Qc row42))]))]) M,Γ.n0 + 74⟩; exact Qpa 69 _ rfl Qbir ⟨(fPtr rfl),(fPtr rfl),(fPtr rfl),(Qbg9 (fun _=>rfl) (fun _=>rfl) hl44 hc49),(.same rfl),trivial⟩ ⟨⟨_,rfl,rfl,(.cons (.same rfl) (.cons (.same rfl) (.cons (.same rfl) (.cons (.same rfl) .nil))))⟩,⟨_,rfl,rfl,(.cons (.same rfl) (.cons (.same rfl) (.cons (.same rfl) (.cons (.same rfl) .nil))))⟩,⟨_,rfl,rfl,(.cons (.same rfl) (.cons (.same rfl) (.cons (.same rfl) (.cons (Qbg9 (fun _=>rfl) (fun _=>rfl) hl44 hc49) .nil))))⟩,trivial⟩ rfl) ?_
      refine Rn.nil ⟨rfl,(by exact Qi [] ⟨(kPtr rfl),(kPtr rfl),trivial⟩ ⟨⟨_,rfl,rfl,(.same rfl)⟩,⟨_,rfl,rfl,(.same rfl)⟩,⟨_,rfl,rfl,(.same rfl)⟩,trivial⟩ rfl)⟩
    ·refine sr ((Rn.load (v:=.agg [.f (.lst 1 (List.map (eI .i64) row16)),(i_ a1.States),.f (.lst 1 (List.map (eI .i64) a1.Marked)),.f (.lst 3 (List.map Qc row42))]) trivial rfl (Ql rfl) rfl rfl ?_))
     obtain ⟨⟨r52,r53⟩,h51,h⟩:=bnd h
     refine Rn.call (args:=[.agg [.f (.lst 1 (List.map (eI .i64) row16)),(i_ a1.States),.f (.lst 1 (List.map (eI .i64) a1.Marked)),.f (.lst 3 (List.map Qc row42))]]) trivial rfl (fun M2 nb2=>ACalls.weak (args':=[.agg [(l_ row16),(i_ a1.States),(l_ a1.Marked),.d (.lst 3 (List.map Qc row42))]]) (H_automaton_Canonical _ _ h51 M2 nb2) (.cons (WkV.agg (.cons fToD (.cons (sm rfl) (.cons fToD (.cons fToD .nil))))) .nil) rfl) pc9 ?_
     refine Rn.ext (v:=(Qa r52)) (vs:=[(Qa r52),(i_ r53)]) trivial rfl rfl rfl (Rn.ext (v:=(i_ r53)) (vs:=[(Qa r52),(i_ r53)]) trivial rfl rfl rfl (Rn.storeT (v:=(Qa r52)) (ds:=(Qd r52)) (cs':=(Qd r52)) trivial rfl rfl rfl rfl rfl rfl rfl (md rfl (nt ((Tr.ret ?_))))))
     replace h:=si h; subst h
     exact ⟨.inr rfl,.tup [(Qa r52),(i_ r53)],res2 (Qg8 rfl rfl rfl rfl) rfl,(WkV.tup (.cons (.same rfl) (.cons (.same rfl) .nil))).rd,⟨⟨trivial,trivial,trivial,trivial,trivial⟩,trivial,trivial⟩,fun k hk=>Qf hk⟩
theorem Qod {P : Program} {c : Nat} (hcf : Qt P c = some Qfk) (fuel : Nat) : Qcn P c (Qr fuel):=by
 intro a1 b2 r h
 refine Qcy hcf rfl fun Γ M hP hnt hM=>?_
 subst hP
 refine Tr.init [(0,(l_ a1)),(1,(l_ b2))] rfl ?_
 unfold Qr at h
 unfold Qfk
 refine sr ((md rfl (nt ((Tr.seq (sr ((md rfl (Rn.lenD trivial rfl (md rfl (Rn.lenD trivial rfl (Rn.bin trivial rfl rfl rfl (Rn.nil (toN ?_))))))))))))))
 refine Tr.cond rfl (fun hb3=>?_) (fun hb3=>?_)
 ·replace h:=bT hb3 h
  refine sr ((md rfl (nt ((Tr.ret ?_)))))
  replace h:=si h; subst h
  exact ⟨.inr rfl,(b_ false),rfl,fun _ _ _ _ h=>h,trivial,fun k hk=>Qf hk⟩
 ·replace h:=bF hb3 h
  refine Tr.skip (toN (Tr.seq (sr ((md rfl (nt ((Tr.block ?_))))))))
  refine Tr.loop (mk:=fun (i4 : Int)=>⟨look [(0,(l_ a1)),(1,(l_ b2)),(5,(i_ i4))],Qp Γ.n0 (bxs []) M,Γ.n0 + 26⟩) h (by exact Qj ⟨(sm rfl),(sm rfl),(sm rfl),trivial⟩ trivial rfl) (fun k5 z h=>?_)
  ·obtain ⟨i4,rfl⟩ : ∃ x,x = z:=⟨_,rfl⟩
   replace h : _ = some _:=h
   refine Tr.seq (sr ((md rfl (md rfl (Rn.lenD trivial rfl (Rn.bin trivial rfl rfl rfl (Rn.nil (toN ?_))))))))
   refine Tr.cond rfl (fun hb6=>?_) (fun hb6=>?_)
   ·replace h:=ifT hb6 h
    refine Tr.skip (toN (Tr.seq (Tr.block (Tr.seq ?_))))
    refine Tr.rgnD (by decide) ?_
    refine md rfl (md rfl ?_)
    obtain ⟨x7,h8,h⟩:=bnd h
    refine Rn.idxD (e:=(eI .i64)) trivial rfl rfl h8 (Rn.loadC (x:=.int .i64 x7) trivial rfl (md rfl (md rfl ?_)))
    obtain ⟨x9,h10,h⟩:=bnd h
    refine Rn.idxD (e:=(eI .i64)) trivial rfl rfl h10 (Rn.loadC (x:=.int .i64 x9) trivial rfl (Rn.bin trivial rfl rfl rfl ?_))
    refine Rn.nil ⟨rfl,?_⟩
    refine toN ?_
    refine Tr.cond rfl (fun hb11=>?_) (fun hb11=>?_)
    ·replace h:=bT hb11 h
     refine sr ((md rfl (nt ((Tr.ret ?_)))))
     replace h:=si h; subst h
     exact ⟨.inr rfl,(b_ false),rfl,fun _ _ _ _ h=>h,trivial,fun k hk=>Qf hk⟩
    ·replace h:=bF hb11 h
     refine Tr.skip (toN (Tr.rgn (md rfl (Rn.bin trivial rfl rfl rfl (md rfl (Rn.nil ?_))))))
     exact ⟨_,h,(by exact Qj ⟨(sm rfl),(sm rfl),(sm rfl),trivial⟩ trivial rfl)⟩
   ·replace h:=ifF hb6 h
    refine Tr.exit (toN (sr ((md rfl (nt ((Tr.ret ?_)))))))
    replace h:=si h; subst h
    exact ⟨.inr rfl,(b_ true),rfl,fun _ _ _ _ h=>h,trivial,fun k hk=>Qf hk⟩
theorem Qu5 {P : Program} {c : Nat} {Qr : (List Int) → (List Int) → Option Bool}
    (H_overseerref03_SameInts : Qcn P 19 Qr) (hcf : Qt P c = some Qhh) (fuel : Nat) : Qhg P c (Qcg Qr fuel):=by
 intro a1 b2 r h
 refine Qcy hcf rfl fun Γ M hP hnt hM=>?_
 subst hP
 refine Tr.init [(0,(Qa a1)),(1,(Qa b2))] rfl ?_
 unfold Qcg at h
 unfold Qhh
 refine sr ((Rn.box (v:=(Qa a1)) (cs:=(Qd a1)) trivial rfl rfl rfl rfl rfl (Rn.box (v:=(Qa b2)) (cs:=(Qd b2)) trivial rfl rfl rfl rfl rfl (md rfl (nt ((Tr.seq ?_)))))))
 refine Tr.cutB (fun (x10 : Bool)=>⟨look [(2,.ptr (Γ.n0 + 2) 0),(3,.ptr (Γ.n0 + 3) 0),(35,(b_ x10))],Qp Γ.n0 (bxs [(2,.cells ((Qd a1))),(3,.cells ((Qd b2)))]) M,Γ.n0 + 54⟩) h (fun z h=>?_) (fun z h=>?_)
 ·refine Tr.rgn (Rn.fldP (o':=0) trivial rfl rfl (Rn.load (v:=(l_ a1.Alphabet)) trivial rfl (Ql rfl) rfl rfl (Rn.fldP (o':=0) trivial rfl rfl (Rn.load (v:=(l_ b2.Alphabet)) trivial rfl (Ql rfl) rfl rfl ?_))))
  obtain ⟨x4,h3,h⟩:=bnd h
  refine Rn.call (args:=[(l_ a1.Alphabet),(l_ b2.Alphabet)]) trivial rfl (H_overseerref03_SameInts _ _ _ h3) pc9 (Rn.un trivial rfl rfl (md rfl ?_))
  refine Qc5 x4 (fun hb5=>?_) (fun hb5=>?_)
  ·replace h:=bT hb5 h
   refine Rn.fldP (o':=1) (gw rfl (nT hb5)) rfl rfl (Rn.load (v:=(i_ a1.States)) (gw rfl (nT hb5)) rfl (Ql rfl) rfl rfl (Rn.fldP (o':=1) (gw rfl (nT hb5)) rfl rfl (Rn.load (v:=(i_ b2.States)) (gw rfl (nT hb5)) rfl (Ql rfl) rfl rfl (Rn.bin (gw rfl (nT hb5)) rfl rfl rfl (Rn.pickF (v:=(b_ (a1.States != b2.States))) trivial rfl (nT hb5) rfl (md rfl ?_))))))
   refine Qc5 (a1.States != b2.States) (fun hb6=>?_) (fun hb6=>?_)
   ·replace h:=bT hb6 h
    refine Rn.sk (nw rfl hb6) (Rn.sk (nw rfl hb6) (Rn.sk (nw rfl hb6) (Rn.sk (nw rfl hb6) (Rn.sk (nw rfl hb6) (Rn.sk (nw rfl hb6) (Rn.pickT (v:=(b_ true)) trivial rfl hb6 rfl (md rfl (Rn.sk (nw (b:=true) rfl rfl) (Rn.sk (nw (b:=true) rfl rfl) (Rn.sk (nw (b:=true) rfl rfl) (Rn.sk (nw (b:=true) rfl rfl) (Rn.sk (nw (b:=true) rfl rfl) (Rn.sk (nw (b:=true) rfl rfl) (Rn.sk (nw (b:=true) rfl rfl) (Rn.pickT (v:=(b_ true)) trivial rfl rfl rfl (Rn.nil ?_))))))))))))))))
    replace h:=si h; subst h
    exact Qi [] ⟨(kPtr rfl),(kPtr rfl),(sm rfl),trivial⟩ ⟨⟨_,rfl,rfl,(.same rfl)⟩,⟨_,rfl,rfl,(.same rfl)⟩,trivial⟩ rfl
   ·replace h:=bF hb6 h
    refine Rn.fldP (o':=2) (gw rfl hb6) rfl rfl (Rn.load (v:=(l_ a1.Marked)) (gw rfl hb6) rfl (Ql rfl) rfl rfl (Rn.fldP (o':=2) (gw rfl hb6) rfl rfl (Rn.load (v:=(l_ b2.Marked)) (gw rfl hb6) rfl (Ql rfl) rfl rfl ?_)))
    obtain ⟨x8,h7,h⟩:=bnd h
    refine Rn.call (args:=[(l_ a1.Marked),(l_ b2.Marked)]) (gw rfl hb6) rfl (H_overseerref03_SameInts _ _ _ h7) pc9 (Rn.un (gw rfl hb6) rfl rfl (Rn.pickF (v:=(b_ (!x8))) trivial rfl hb6 rfl (md rfl ?_)))
    refine Qc5 x8 (fun hb9=>?_) (fun hb9=>?_)
    ·replace h:=bT hb9 h
     refine Rn.fldP (o':=3) (gw rfl (nT hb9)) rfl rfl (Rn.load (v:=.d (.lst 3 (List.map Qc a1.Edges))) (gw rfl (nT hb9)) rfl (Ql rfl) rfl rfl (Rn.lenD (gw rfl (nT hb9)) rfl (Rn.fldP (o':=3) (gw rfl (nT hb9)) rfl rfl (Rn.load (v:=.d (.lst 3 (List.map Qc b2.Edges))) (gw rfl (nT hb9)) rfl (Ql rfl) rfl rfl (Rn.lenD (gw rfl (nT hb9)) rfl (Rn.bin (gw rfl (nT hb9)) rfl rfl rfl (Rn.pickF (v:=(b_ ((a1.Edges.length : Int) != (b2.Edges.length : Int)))) trivial rfl (nT hb9) rfl (Rn.nil ?_))))))))
     replace h:=si h; subst h
     exact Qi [] ⟨(kPtr rfl),(kPtr rfl),(sm rfl),trivial⟩ ⟨⟨_,rfl,rfl,(.same rfl)⟩,⟨_,rfl,rfl,(.same rfl)⟩,trivial⟩ rfl
    ·replace h:=bF hb9 h
     refine Rn.sk (nw rfl (nF hb9)) (Rn.sk (nw rfl (nF hb9)) (Rn.sk (nw rfl (nF hb9)) (Rn.sk (nw rfl (nF hb9)) (Rn.sk (nw rfl (nF hb9)) (Rn.sk (nw rfl (nF hb9)) (Rn.sk (nw rfl (nF hb9)) (Rn.pickT (v:=(b_ true)) trivial rfl (nF hb9) rfl (Rn.nil ?_))))))))
     replace h:=si h; subst h
     exact Qi [] ⟨(kPtr rfl),(kPtr rfl),(sm rfl),trivial⟩ ⟨⟨_,rfl,rfl,(.same rfl)⟩,⟨_,rfl,rfl,(.same rfl)⟩,trivial⟩ rfl
  ·replace h:=bF hb5 h
   refine Rn.sk (nw rfl (nF hb5)) (Rn.sk (nw rfl (nF hb5)) (Rn.sk (nw rfl (nF hb5)) (Rn.sk (nw rfl (nF hb5)) (Rn.sk (nw rfl (nF hb5)) (Rn.pickT (v:=(b_ true)) trivial rfl (nF hb5) rfl (md rfl (Rn.sk (nw (b:=true) rfl rfl) (Rn.sk (nw (b:=true) rfl rfl) (Rn.sk (nw (b:=true) rfl rfl) (Rn.sk (nw (b:=true) rfl rfl) (Rn.sk (nw (b:=true) rfl rfl) (Rn.sk (nw (b:=true) rfl rfl) (Rn.pickT (v:=(b_ true)) trivial rfl rfl rfl (md rfl (Rn.sk (nw (b:=true) rfl rfl) (Rn.sk (nw (b:=true) rfl rfl) (Rn.sk (nw (b:=true) rfl rfl) (Rn.sk (nw (b:=true) rfl rfl) (Rn.sk (nw (b:=true) rfl rfl) (Rn.sk (nw (b:=true) rfl rfl) (Rn.sk (nw (b:=true) rfl rfl) (Rn.pickT (v:=(b_ true)) trivial rfl rfl rfl (Rn.nil ?_)))))))))))))))))))))))
   replace h:=si h; subst h
   exact Qi [] ⟨(kPtr rfl),(kPtr rfl),(sm rfl),trivial⟩ ⟨⟨_,rfl,rfl,(.same rfl)⟩,⟨_,rfl,rfl,(.same rfl)⟩,trivial⟩ rfl
 ·obtain ⟨x10,rfl⟩ : ∃ x,x = z:=⟨_,rfl⟩
  refine Tr.cond rfl (fun hb11=>?_) (fun hb11=>?_)
  ·replace h:=bT hb11 h
   refine sr ((md rfl (nt ((Tr.ret ?_)))))
   replace h:=si h; subst h
   exact ⟨.inr rfl,(b_ false),rfl,fun _ _ _ _ h=>h,trivial,fun k hk=>Qf hk⟩
  ·replace h:=bF hb11 h
   refine Tr.skip (toN (Tr.seq (sr ((md rfl (nt ((Tr.block ?_))))))))
   refine Tr.loop (mk:=fun (i12 : Int)=>⟨look [(2,.ptr (Γ.n0 + 2) 0),(3,.ptr (Γ.n0 + 3) 0),(5,(i_ i12))],Qp Γ.n0 (bxs [(2,.cells ((Qd a1))),(3,.cells ((Qd b2)))]) M,Γ.n0 + 54⟩) h (by exact Qj ⟨(kPtr rfl),(kPtr rfl),(sm rfl),trivial⟩ ⟨⟨_,rfl,rfl,(.same rfl)⟩,⟨_,rfl,rfl,(.same rfl)⟩,trivial⟩ rfl) (fun k13 z h=>?_)
   ·obtain ⟨i12,rfl⟩ : ∃ x,x = z:=⟨_,rfl⟩
    replace h : _ = some _:=h
    refine Tr.seq (sr ((md rfl (Rn.fldP (o':=3) trivial rfl rfl (Rn.load (v:=.d (.lst 3 (List.map Qc a1.Edges))) trivial rfl (Ql rfl) rfl rfl (Rn.lenD trivial rfl (Rn.bin trivial rfl rfl rfl (Rn.nil (toN ?_)))))))))
    refine Tr.cond rfl (fun hb14=>?_) (fun hb14=>?_)
    ·replace h:=ifT hb14 h
     refine Tr.skip (toN (Tr.seq (Tr.block (Tr.seq ?_))))
     refine Tr.rgnD (by decide) ?_
     refine Rn.fldP (o':=3) trivial rfl rfl (Rn.load (v:=.d (.lst 3 (List.map Qc a1.Edges))) trivial rfl (Ql rfl) rfl rfl (md rfl ?_))
     obtain ⟨x15,h16,h⟩:=bnd h
     refine Rn.idxD (e:=Qc) trivial rfl rfl h16 (Rn.loadCA (vs:=(Qbg x15)) trivial rfl rfl rfl (Rn.fldP (o':=3) trivial rfl rfl (Rn.load (v:=.d (.lst 3 (List.map Qc b2.Edges))) trivial rfl (Ql rfl) rfl rfl (md rfl ?_))))
     obtain ⟨x17,h18,h⟩:=bnd h
     refine Rn.idxD (e:=Qc) trivial rfl rfl h18 (Rn.loadCA (vs:=(Qbg x17)) trivial rfl rfl rfl (Rn.eqa (r:=((x15.From == x17.From) && ((x15.Event == x17.Event) && ((x15.To == x17.To) && true)))) trivial rfl rfl rfl ?_))
     refine Rn.nil ⟨rfl,?_⟩
     refine toN ?_
     refine Tr.cond rfl (fun hb19=>?_) (fun hb19=>?_)
     ·have hb19:=nT' hb19
      replace h:=bF hb19 h
      refine sr ((md rfl (nt ((Tr.ret ?_)))))
      replace h:=si h; subst h
      exact ⟨.inr rfl,(b_ false),rfl,fun _ _ _ _ h=>h,trivial,fun k hk=>Qf hk⟩
     ·have hb19:=nF' hb19
      replace h:=bT hb19 h
      refine Tr.skip (toN (Tr.rgn (md rfl (Rn.bin trivial rfl rfl rfl (md rfl (Rn.nil ?_))))))
      exact ⟨_,h,(by exact Qj ⟨(kPtr rfl),(kPtr rfl),(sm rfl),trivial⟩ ⟨⟨_,rfl,rfl,(.same rfl)⟩,⟨_,rfl,rfl,(.same rfl)⟩,trivial⟩ rfl)⟩
    ·replace h:=ifF hb14 h
     refine Tr.exit (toN (sr ((md rfl (nt ((Tr.ret ?_)))))))
     replace h:=si h; subst h
     exact ⟨.inr rfl,(b_ true),rfl,fun _ _ _ _ h=>h,trivial,fun k hk=>Qf hk⟩
theorem Qmu {P : Program} {c : Nat} {Qr : (List Int) → (List Int) → Option Bool}
    (H_overseerref03_SameInts : Qcn P 19 Qr) (hcf : Qt P c = some Qe6) (fuel : Nat) : Qe5 P c (Qbo Qr fuel):=by
 intro a1 b2 r h
 refine Qcy hcf rfl fun Γ M hP hnt hM=>?_
 subst hP
 refine Tr.init [(0,.d (.lst 1 (List.map (eL 1 (eI .i64)) a1))),(1,.d (.lst 1 (List.map (eL 1 (eI .i64)) b2)))] rfl ?_
 unfold Qbo at h
 unfold Qe6
 refine sr ((md rfl (nt ((Tr.seq (sr ((md rfl (Rn.lenD trivial rfl (md rfl (Rn.lenD trivial rfl (Rn.bin trivial rfl rfl rfl (Rn.nil (toN ?_))))))))))))))
 refine Tr.cond rfl (fun hb3=>?_) (fun hb3=>?_)
 ·replace h:=bT hb3 h
  refine sr ((md rfl (nt ((Tr.ret ?_)))))
  replace h:=si h; subst h
  exact ⟨.inr rfl,(b_ false),rfl,fun _ _ _ _ h=>h,trivial,fun k hk=>Qf hk⟩
 ·replace h:=bF hb3 h
  refine Tr.skip (toN (Tr.seq (sr ((md rfl (nt ((Tr.block ?_))))))))
  refine Tr.loop (mk:=fun (i4 : Int)=>⟨look [(0,.d (.lst 1 (List.map (eL 1 (eI .i64)) a1))),(1,.d (.lst 1 (List.map (eL 1 (eI .i64)) b2))),(5,(i_ i4))],Qp Γ.n0 (bxs []) M,Γ.n0 + 27⟩) h (by exact Qj ⟨(sm rfl),(sm rfl),(sm rfl),trivial⟩ trivial rfl) (fun k5 z h=>?_)
  ·obtain ⟨i4,rfl⟩ : ∃ x,x = z:=⟨_,rfl⟩
   replace h : _ = some _:=h
   refine Tr.seq (sr ((md rfl (md rfl (Rn.lenD trivial rfl (Rn.bin trivial rfl rfl rfl (Rn.nil (toN ?_))))))))
   refine Tr.cond rfl (fun hb6=>?_) (fun hb6=>?_)
   ·replace h:=ifT hb6 h
    refine Tr.skip (toN (Tr.seq (Tr.block (Tr.seq ?_))))
    refine Tr.rgnD (by decide) ?_
    refine md rfl (md rfl ?_)
    obtain ⟨x7,h8,h⟩:=bnd h
    refine Rn.idxD (e:=(eL 1 (eI .i64))) trivial rfl rfl h8 (Rn.loadC (x:=.lst 1 (List.map (eI .i64) x7)) trivial rfl (md rfl (md rfl ?_)))
    obtain ⟨x9,h10,h⟩:=bnd h
    refine Rn.idxD (e:=(eL 1 (eI .i64))) trivial rfl rfl h10 (Rn.loadC (x:=.lst 1 (List.map (eI .i64) x9)) trivial rfl ?_)
    obtain ⟨x12,h11,h⟩:=bnd h
    refine Rn.call (args:=[(l_ x7),(l_ x9)]) trivial rfl (H_overseerref03_SameInts _ _ _ h11) pc0 (Rn.un trivial rfl rfl ?_)
    refine Rn.nil ⟨rfl,?_⟩
    refine toN ?_
    refine Tr.cond rfl (fun hb13=>?_) (fun hb13=>?_)
    ·have hb13:=nT' hb13
     replace h:=bF hb13 h
     refine sr ((md rfl (nt ((Tr.ret ?_)))))
     replace h:=si h; subst h
     exact ⟨.inr rfl,(b_ false),rfl,fun _ _ _ _ h=>h,trivial,fun k hk=>Qf hk⟩
    ·have hb13:=nF' hb13
     replace h:=bT hb13 h
     refine Tr.skip (toN (Tr.rgn (md rfl (Rn.bin trivial rfl rfl rfl (md rfl (Rn.nil ?_))))))
     exact ⟨_,h,(by exact Qj ⟨(sm rfl),(sm rfl),(sm rfl),trivial⟩ trivial rfl)⟩
   ·replace h:=ifF hb6 h
    refine Tr.exit (toN (sr ((md rfl (nt ((Tr.ret ?_)))))))
    replace h:=si h; subst h
    exact ⟨.inr rfl,(b_ true),rfl,fun _ _ _ _ h=>h,trivial,fun k hk=>Qf hk⟩
theorem Qre {P : Program} {c : Nat} {Qcf : Qb → (List Int) → Option (Qb × Int)} {Qcg : Qb → Qb → Option Bool} {Qce : Qb → (List Int) → Option (Qb × (List (List Int)) × Int)} {Qbb : Qb → (List Int) → (List Int) → Bool → Option ((List Int) × Bool × Int)} {Qr : (List Int) → (List Int) → Option Bool} {Qbw : Option Qb} {Qbo : (List (List Int)) → (List (List Int)) → Option Bool}
    (H_projection_Inverse : Qhe P 11 Qcf)
    (H_overseerref03_Same : Qhg P 12 Qcg)
    (H_projection_Project : Qhc P 14 Qce)
    (H_projection_Lift : Qg3 P 16 Qbb)
    (H_overseerref03_SameInts : Qcn P 19 Qr)
    (H_overseerlaw07_example : Qfr P 26 Qbw)
    (H_overseerlaw03_SameWords : Qe5 P 27 Qbo) (hcf : Qt P c = some Qgr) : Qgq P c (Qby Qcf Qcg Qce Qbb Qr Qbw Qbo):=by
 intro  r h
 refine Qcy hcf rfl fun Γ M hP hnt hM=>?_
 subst hP
 refine Tr.init [] rfl ?_
 unfold Qby at h
 unfold Qgr
 refine sr ((md rfl (nt ((Tr.seq (Tr.rgn ?_))))))
 obtain ⟨x2,h1,h⟩:=bnd h
 refine Rn.call (args:=[]) trivial rfl (H_overseerlaw07_example _ h1) pc9 (Rn.alloc trivial rfl (Rn.storeT (v:=(Qa x2)) (ds:=(Qd x2)) (cs':=(Qd x2)) trivial rfl rfl rfl rfl rfl rfl rfl (nt ((sr ((Rn.load (v:=(Qa x2)) trivial rfl (Ql rfl) rfl rfl (Rn.bslice (xs:=[(i_ 1)]) (cs:=[(i_ 1)]) trivial rfl rfl rfl rfl ?_))))))))
 refine Rn.weak (by show WeakSt Γ _ ⟨look [(0,(b_ false)),(1,.ptr (Γ.n0 + 1) 0),(10,(Qa x2)),(12,(Qa x2)),(13,(l_ [1]))],Qp Γ.n0 (bxs [(1,.cells ((Qd x2)))]) M,Γ.n0 + 74⟩; exact Qch 13 [.int .i64 1] rfl rfl ⟨(.same rfl),(fPtr rfl),(.same rfl),(.same rfl),(fSl rfl rfl),trivial⟩ ⟨⟨_,rfl,rfl,(.same rfl)⟩,trivial⟩ rfl) ?_
 obtain ⟨⟨r4,r5,r6⟩,h3,h⟩:=bnd h
 refine Rn.call (args:=[(Qa x2),(l_ [1])]) trivial rfl (H_projection_Project _ _ _ h3) pc9 (Rn.mov (v:=.tup [(Qa r4),.d (.lst 1 (List.map (eL 1 (eI .i64)) r5)),(i_ r6)]) trivial rfl (Rn.ext (v:=(Qa r4)) (vs:=[(Qa r4),.d (.lst 1 (List.map (eL 1 (eI .i64)) r5)),(i_ r6)]) trivial rfl rfl rfl (Rn.extTD (vs:=[(Qa r4),.d (.lst 1 (List.map (eL 1 (eI .i64)) r5)),(i_ r6)]) trivial rfl rfl rfl (Rn.ext (v:=(i_ r6)) (vs:=[(Qa r4),.d (.lst 1 (List.map (eL 1 (eI .i64)) r5)),(i_ r6)]) trivial rfl rfl rfl (Rn.alloc trivial rfl (Rn.storeT (v:=(Qa r4)) (ds:=(Qd r4)) (cs':=(Qd r4)) trivial rfl rfl rfl rfl rfl rfl rfl (Rn.movTD trivial rfl (md rfl (nt ((sr ((Rn.load (v:=(Qa x2)) trivial rfl (Ql rfl) rfl rfl (Rn.bslice (xs:=[(i_ 1)]) (cs:=[(i_ 1)]) trivial rfl rfl rfl rfl (Rn.bslice (xs:=[(i_ 1)]) (cs:=[(i_ 1)]) trivial rfl rfl rfl rfl ?_)))))))))))))))
 refine Rn.weak (by show WeakSt Γ _ ⟨look [(0,(b_ false)),(1,.ptr (Γ.n0 + 1) 0),(2,.ptr (Γ.n0 + 2) 0),(3,.d (.lst 1 (List.map (eL 1 (eI .i64)) r5))),(4,(i_ r6)),(10,(Qa x2)),(11,.tup [(Qa r4),.d (.lst 1 (List.map (eL 1 (eI .i64)) r5)),(i_ r6)]),(12,(Qa x2)),(13,(l_ [1])),(14,.tup [(Qa r4),.own 1 (List.map (eL 1 (eI .i64)) r5),(i_ r6)]),(15,(Qa r4)),(16,.d (.lst 1 (List.map (eL 1 (eI .i64)) r5))),(17,(i_ r6)),(19,(Qa x2)),(20,(l_ [1])),(21,.sl 1 (Γ.n0 + 21) 0 1 1)],Qp Γ.n0 (bxs [(1,.cells ((Qd x2))),(2,.cells ((Qd r4))),(21,.cells ([(i_ 1)]))]) M,Γ.n0 + 74⟩; exact Qch 20 [.int .i64 1] rfl rfl ⟨(.same rfl),(fPtr rfl),(fPtr rfl),(.same rfl),(.same rfl),(.same rfl),(.same rfl),(.same rfl),(.same rfl),(.same rfl),(.same rfl),(.same rfl),(.same rfl),(.same rfl),(fSl rfl rfl),(fSlO rfl),trivial⟩ ⟨⟨_,rfl,rfl,(.same rfl)⟩,⟨_,rfl,rfl,(.same rfl)⟩,⟨_,rfl,rfl,(.same rfl)⟩,trivial⟩ rfl) ?_
 refine Rn.weak (by show WeakSt Γ _ ⟨look [(0,(b_ false)),(1,.ptr (Γ.n0 + 1) 0),(2,.ptr (Γ.n0 + 2) 0),(3,.d (.lst 1 (List.map (eL 1 (eI .i64)) r5))),(4,(i_ r6)),(10,(Qa x2)),(11,.tup [(Qa r4),.d (.lst 1 (List.map (eL 1 (eI .i64)) r5)),(i_ r6)]),(12,(Qa x2)),(13,(l_ [1])),(14,.tup [(Qa r4),.own 1 (List.map (eL 1 (eI .i64)) r5),(i_ r6)]),(15,(Qa r4)),(16,.d (.lst 1 (List.map (eL 1 (eI .i64)) r5))),(17,(i_ r6)),(19,(Qa x2)),(20,(l_ [1])),(21,(l_ [1]))],Qp Γ.n0 (bxs [(1,.cells ((Qd x2))),(2,.cells ((Qd r4)))]) M,Γ.n0 + 74⟩; exact Qch 21 [.int .i64 1] rfl rfl ⟨(.same rfl),(fPtr rfl),(fPtr rfl),(.same rfl),(.same rfl),(.same rfl),(.same rfl),(.same rfl),(.same rfl),(.same rfl),(.same rfl),(.same rfl),(.same rfl),(.same rfl),(.same rfl),(fSl rfl rfl),trivial⟩ ⟨⟨_,rfl,rfl,(.same rfl)⟩,⟨_,rfl,rfl,(.same rfl)⟩,trivial⟩ rfl) ?_
 obtain ⟨⟨r8,r9,r10⟩,h7,h⟩:=bnd h
 refine Rn.call (args:=[(Qa x2),(l_ [1]),(l_ [1]),(b_ true)]) trivial rfl (H_projection_Lift _ _ _ _ _ h7) pc9 (Rn.mov (v:=.tup [(l_ r8),(b_ r9),(i_ r10)]) trivial rfl (Rn.extTD (vs:=[(l_ r8),(b_ r9),(i_ r10)]) trivial rfl rfl rfl (Rn.ext (v:=(b_ r9)) (vs:=[(l_ r8),(b_ r9),(i_ r10)]) trivial rfl rfl rfl (Rn.ext (v:=(i_ r10)) (vs:=[(l_ r8),(b_ r9),(i_ r10)]) trivial rfl rfl rfl (Rn.movTD trivial rfl (md rfl (md rfl (nt ((sr ((Rn.bslice (xs:=[(i_ 1)]) (cs:=[(i_ 1)]) trivial rfl rfl rfl rfl (Rn.buildT (v:=.agg [.sl 1 (Γ.n0 + 27) 0 1 1,(i_ 1),.nils 1,.nils 3]) trivial rfl (Rn.bslice (xs:=[(i_ 0),(i_ 1)]) (cs:=[(i_ 0),(i_ 1)]) trivial rfl rfl rfl rfl ?_))))))))))))))
 refine Rn.weak (by show WeakSt Γ _ ⟨look [(0,(b_ false)),(1,.ptr (Γ.n0 + 1) 0),(2,.ptr (Γ.n0 + 2) 0),(3,.d (.lst 1 (List.map (eL 1 (eI .i64)) r5))),(4,(i_ r6)),(5,(l_ r8)),(6,(b_ r9)),(7,(i_ r10)),(10,(Qa x2)),(11,.tup [(Qa r4),.d (.lst 1 (List.map (eL 1 (eI .i64)) r5)),(i_ r6)]),(12,(Qa x2)),(13,(l_ [1])),(14,.tup [(Qa r4),.own 1 (List.map (eL 1 (eI .i64)) r5),(i_ r6)]),(15,(Qa r4)),(16,.d (.lst 1 (List.map (eL 1 (eI .i64)) r5))),(17,(i_ r6)),(18,.tup [(l_ r8),(b_ r9),(i_ r10)]),(19,(Qa x2)),(20,(l_ [1])),(21,(l_ [1])),(22,.tup [(l_ r8),(b_ r9),(i_ r10)]),(23,(l_ r8)),(24,(b_ r9)),(25,(i_ r10)),(27,(l_ [1])),(28,.agg [(l_ [1]),(i_ 1),.nils 1,.nils 3]),(29,.sl 1 (Γ.n0 + 29) 0 2 2)],Qp Γ.n0 (bxs [(1,.cells ((Qd x2))),(2,.cells ((Qd r4))),(29,.cells ([(i_ 0),(i_ 1)]))]) M,Γ.n0 + 74⟩; exact Qch 27 [.int .i64 1] rfl rfl ⟨(.same rfl),(fPtr rfl),(fPtr rfl),(.same rfl),(.same rfl),(.same rfl),(.same rfl),(.same rfl),(.same rfl),(.same rfl),(.same rfl),(.same rfl),(.same rfl),(.same rfl),(.same rfl),(.same rfl),(.same rfl),(.same rfl),(.same rfl),(.same rfl),(.same rfl),(.same rfl),(.same rfl),(.same rfl),(fSl rfl rfl),(WkV.agg (.cons (fSl rfl rfl) (.cons (.same rfl) (.cons (.same rfl) (.cons (.same rfl) .nil))))),(fSlO rfl),trivial⟩ ⟨⟨_,rfl,rfl,(.same rfl)⟩,⟨_,rfl,rfl,(.same rfl)⟩,⟨_,rfl,rfl,(.same rfl)⟩,trivial⟩ rfl) ?_
 refine Rn.weak (by show WeakSt Γ _ ⟨look [(0,(b_ false)),(1,.ptr (Γ.n0 + 1) 0),(2,.ptr (Γ.n0 + 2) 0),(3,.d (.lst 1 (List.map (eL 1 (eI .i64)) r5))),(4,(i_ r6)),(5,(l_ r8)),(6,(b_ r9)),(7,(i_ r10)),(10,(Qa x2)),(11,.tup [(Qa r4),.d (.lst 1 (List.map (eL 1 (eI .i64)) r5)),(i_ r6)]),(12,(Qa x2)),(13,(l_ [1])),(14,.tup [(Qa r4),.own 1 (List.map (eL 1 (eI .i64)) r5),(i_ r6)]),(15,(Qa r4)),(16,.d (.lst 1 (List.map (eL 1 (eI .i64)) r5))),(17,(i_ r6)),(18,.tup [(l_ r8),(b_ r9),(i_ r10)]),(19,(Qa x2)),(20,(l_ [1])),(21,(l_ [1])),(22,.tup [(l_ r8),(b_ r9),(i_ r10)]),(23,(l_ r8)),(24,(b_ r9)),(25,(i_ r10)),(27,(l_ [1])),(28,.agg [(l_ [1]),(i_ 1),.nils 1,.nils 3]),(29,(l_ [0,1]))],Qp Γ.n0 (bxs [(1,.cells ((Qd x2))),(2,.cells ((Qd r4)))]) M,Γ.n0 + 74⟩; exact Qch 29 [.int .i64 0,.int .i64 1] rfl rfl ⟨(.same rfl),(fPtr rfl),(fPtr rfl),(.same rfl),(.same rfl),(.same rfl),(.same rfl),(.same rfl),(.same rfl),(.same rfl),(.same rfl),(.same rfl),(.same rfl),(.same rfl),(.same rfl),(.same rfl),(.same rfl),(.same rfl),(.same rfl),(.same rfl),(.same rfl),(.same rfl),(.same rfl),(.same rfl),(.same rfl),(.same rfl),(fSl rfl rfl),trivial⟩ ⟨⟨_,rfl,rfl,(.same rfl)⟩,⟨_,rfl,rfl,(.same rfl)⟩,trivial⟩ rfl) ?_
 obtain ⟨⟨r12,r13⟩,h11,h⟩:=bnd h
 refine Rn.call (args:=[.agg [(l_ [1]),(i_ 1),.nils 1,.nils 3],(l_ [0,1])]) trivial rfl (fun M2 nb2=>ACalls.weak (args':=[.agg [(l_ [1]),(i_ 1),(l_ []),.d (.lst 3 (List.map Qc []))],(l_ [0,1])]) (H_projection_Inverse _ _ _ h11 M2 nb2) (.cons (WkV.agg (.cons (sm rfl) (.cons (sm rfl) (.cons (WkV.nilsD _) (.cons (WkV.nilsD _) .nil))))) (.cons (sm rfl) .nil)) rfl) pc9 ?_
 refine Rn.mov (v:=.tup [(Qa r12),(i_ r13)]) trivial rfl (Rn.ext (v:=(Qa r12)) (vs:=[(Qa r12),(i_ r13)]) trivial rfl rfl rfl (Rn.ext (v:=(i_ r13)) (vs:=[(Qa r12),(i_ r13)]) trivial rfl rfl rfl (Rn.alloc trivial rfl (Rn.storeT (v:=(Qa r12)) (ds:=(Qd r12)) (cs':=(Qd r12)) trivial rfl rfl rfl rfl rfl rfl rfl (md rfl (Rn.nil (toN ?_)))))))
 refine Tr.cutB (fun (x27 : Bool)=>⟨look [(0,(b_ x27))],Qp Γ.n0 (bxs [(1,.cells ((Qd x2))),(2,.cells ((Qd r4))),(8,.cells ((Qd r12)))]) M,Γ.n0 + 74⟩) h (fun z h=>?_) (fun z h=>?_)
 ·refine Tr.rgn (md rfl (Rn.bin trivial rfl rfl rfl (md rfl ?_)))
  refine Qc5 (r6 == 0) (fun hb14=>?_) (fun hb14=>?_)
  ·replace h:=bT hb14 h
   refine Rn.load (v:=(Qa r4)) (gw rfl hb14) rfl (Ql rfl) rfl rfl (Rn.bslice (xs:=[(i_ 1)]) (cs:=[(i_ 1)]) (gw rfl hb14) rfl rfl rfl rfl (Rn.bslice (xs:=[(i_ 1)]) (cs:=[(i_ 1)]) (gw rfl hb14) rfl rfl rfl rfl (Rn.build (v:=.agg [(i_ 0),(i_ 1),(i_ 1)]) (gw rfl hb14) rfl (Rn.build (v:=.agg [(i_ 1),(i_ 1),(i_ 1)]) (gw rfl hb14) rfl (Rn.bslice (xs:=[.agg [(i_ 0),(i_ 1),(i_ 1)],.agg [(i_ 1),(i_ 1),(i_ 1)]]) (cs:=[(i_ 0),(i_ 1),(i_ 1),(i_ 1),(i_ 1),(i_ 1)]) (gw rfl hb14) rfl rfl rfl rfl (Rn.buildT (v:=.agg [.sl 1 (Γ.n0 + 37) 0 1 1,(i_ 2),.sl 1 (Γ.n0 + 38) 0 1 1,.sl 3 (Γ.n0 + 41) 0 2 2]) (gw rfl hb14) rfl ?_))))))
   refine Rn.weak (by show WeakSt Γ _ ⟨look [(0,(b_ false)),(1,.ptr (Γ.n0 + 1) 0),(2,.ptr (Γ.n0 + 2) 0),(3,.d (.lst 1 (List.map (eL 1 (eI .i64)) r5))),(4,(i_ r6)),(5,(l_ r8)),(6,(b_ r9)),(7,(i_ r10)),(8,.ptr (Γ.n0 + 8) 0),(9,(i_ r13)),(10,(Qa x2)),(11,.tup [(Qa r4),.d (.lst 1 (List.map (eL 1 (eI .i64)) r5)),(i_ r6)]),(12,(Qa x2)),(13,(l_ [1])),(14,.tup [(Qa r4),.own 1 (List.map (eL 1 (eI .i64)) r5),(i_ r6)]),(15,(Qa r4)),(16,.d (.lst 1 (List.map (eL 1 (eI .i64)) r5))),(17,(i_ r6)),(18,.tup [(l_ r8),(b_ r9),(i_ r10)]),(19,(Qa x2)),(20,(l_ [1])),(21,(l_ [1])),(22,.tup [(l_ r8),(b_ r9),(i_ r10)]),(23,(l_ r8)),(24,(b_ r9)),(25,(i_ r10)),(26,.tup [(Qa r12),(i_ r13)]),(27,(l_ [1])),(28,.agg [(l_ [1]),(i_ 1),.nils 1,.nils 3]),(29,(l_ [0,1])),(30,.tup [(Qa r12),(i_ r13)]),(31,(Qa r12)),(32,(i_ r13)),(33,(i_ r6)),(34,(b_ (r6 == 0))),(35,(b_ (r6 == 0))),(36,(Qa r4)),(37,(l_ [1])),(38,.sl 1 (Γ.n0 + 38) 0 1 1),(39,.agg [(i_ 0),(i_ 1),(i_ 1)]),(40,.agg [(i_ 1),(i_ 1),(i_ 1)]),(41,.sl 3 (Γ.n0 + 41) 0 2 2),(42,.agg [(l_ [1]),(i_ 2),.sl 1 (Γ.n0 + 38) 0 1 1,.sl 3 (Γ.n0 + 41) 0 2 2])],Qp Γ.n0 (bxs [(1,.cells ((Qd x2))),(2,.cells ((Qd r4))),(8,.cells ((Qd r12))),(38,.cells ([(i_ 1)])),(41,.cells ([(i_ 0),(i_ 1),(i_ 1),(i_ 1),(i_ 1),(i_ 1)]))]) M,Γ.n0 + 74⟩; exact Qch 37 [.int .i64 1] rfl rfl ⟨(.same rfl),(fPtr rfl),(fPtr rfl),(.same rfl),(.same rfl),(.same rfl),(.same rfl),(.same rfl),(fPtr rfl),(.same rfl),(.same rfl),(.same rfl),(.same rfl),(.same rfl),(.same rfl),(.same rfl),(.same rfl),(.same rfl),(.same rfl),(.same rfl),(.same rfl),(.same rfl),(.same rfl),(.same rfl),(.same rfl),(.same rfl),(.same rfl),(.same rfl),(.same rfl),(.same rfl),(.same rfl),(.same rfl),(.same rfl),(.same rfl),(.same rfl),(.same rfl),(.same rfl),(fSl rfl rfl),(fSlO rfl),(.same rfl),(.same rfl),(fSlO rfl),(WkV.agg (.cons (fSl rfl rfl) (.cons (.same rfl) (.cons (fSlO rfl) (.cons (fSlO rfl) .nil))))),trivial⟩ ⟨⟨_,rfl,rfl,(.same rfl)⟩,⟨_,rfl,rfl,(.same rfl)⟩,⟨_,rfl,rfl,(.same rfl)⟩,⟨_,rfl,rfl,(.same rfl)⟩,⟨_,rfl,rfl,(.same rfl)⟩,trivial⟩ rfl) ?_
   refine Rn.weak (by show WeakSt Γ _ ⟨look [(0,(b_ false)),(1,.ptr (Γ.n0 + 1) 0),(2,.ptr (Γ.n0 + 2) 0),(3,.d (.lst 1 (List.map (eL 1 (eI .i64)) r5))),(4,(i_ r6)),(5,(l_ r8)),(6,(b_ r9)),(7,(i_ r10)),(8,.ptr (Γ.n0 + 8) 0),(9,(i_ r13)),(10,(Qa x2)),(11,.tup [(Qa r4),.d (.lst 1 (List.map (eL 1 (eI .i64)) r5)),(i_ r6)]),(12,(Qa x2)),(13,(l_ [1])),(14,.tup [(Qa r4),.own 1 (List.map (eL 1 (eI .i64)) r5),(i_ r6)]),(15,(Qa r4)),(16,.d (.lst 1 (List.map (eL 1 (eI .i64)) r5))),(17,(i_ r6)),(18,.tup [(l_ r8),(b_ r9),(i_ r10)]),(19,(Qa x2)),(20,(l_ [1])),(21,(l_ [1])),(22,.tup [(l_ r8),(b_ r9),(i_ r10)]),(23,(l_ r8)),(24,(b_ r9)),(25,(i_ r10)),(26,.tup [(Qa r12),(i_ r13)]),(27,(l_ [1])),(28,.agg [(l_ [1]),(i_ 1),.nils 1,.nils 3]),(29,(l_ [0,1])),(30,.tup [(Qa r12),(i_ r13)]),(31,(Qa r12)),(32,(i_ r13)),(33,(i_ r6)),(34,(b_ (r6 == 0))),(35,(b_ (r6 == 0))),(36,(Qa r4)),(37,(l_ [1])),(38,(l_ [1])),(39,.agg [(i_ 0),(i_ 1),(i_ 1)]),(40,.agg [(i_ 1),(i_ 1),(i_ 1)]),(41,.sl 3 (Γ.n0 + 41) 0 2 2),(42,.agg [(l_ [1]),(i_ 2),(l_ [1]),.sl 3 (Γ.n0 + 41) 0 2 2])],Qp Γ.n0 (bxs [(1,.cells ((Qd x2))),(2,.cells ((Qd r4))),(8,.cells ((Qd r12))),(41,.cells ([(i_ 0),(i_ 1),(i_ 1),(i_ 1),(i_ 1),(i_ 1)]))]) M,Γ.n0 + 74⟩; exact Qch 38 [.int .i64 1] rfl rfl ⟨(.same rfl),(fPtr rfl),(fPtr rfl),(.same rfl),(.same rfl),(.same rfl),(.same rfl),(.same rfl),(fPtr rfl),(.same rfl),(.same rfl),(.same rfl),(.same rfl),(.same rfl),(.same rfl),(.same rfl),(.same rfl),(.same rfl),(.same rfl),(.same rfl),(.same rfl),(.same rfl),(.same rfl),(.same rfl),(.same rfl),(.same rfl),(.same rfl),(.same rfl),(.same rfl),(.same rfl),(.same rfl),(.same rfl),(.same rfl),(.same rfl),(.same rfl),(.same rfl),(.same rfl),(.same rfl),(fSl rfl rfl),(.same rfl),(.same rfl),(fSlO rfl),(WkV.agg (.cons (.same rfl) (.cons (.same rfl) (.cons (fSl rfl rfl) (.cons (fSlO rfl) .nil))))),trivial⟩ ⟨⟨_,rfl,rfl,(.same rfl)⟩,⟨_,rfl,rfl,(.same rfl)⟩,⟨_,rfl,rfl,(.same rfl)⟩,⟨_,rfl,rfl,(.same rfl)⟩,trivial⟩ rfl) ?_
   refine Rn.weak (by show WeakSt Γ _ ⟨look [(0,(b_ false)),(1,.ptr (Γ.n0 + 1) 0),(2,.ptr (Γ.n0 + 2) 0),(3,.d (.lst 1 (List.map (eL 1 (eI .i64)) r5))),(4,(i_ r6)),(5,(l_ r8)),(6,(b_ r9)),(7,(i_ r10)),(8,.ptr (Γ.n0 + 8) 0),(9,(i_ r13)),(10,(Qa x2)),(11,.tup [(Qa r4),.d (.lst 1 (List.map (eL 1 (eI .i64)) r5)),(i_ r6)]),(12,(Qa x2)),(13,(l_ [1])),(14,.tup [(Qa r4),.own 1 (List.map (eL 1 (eI .i64)) r5),(i_ r6)]),(15,(Qa r4)),(16,.d (.lst 1 (List.map (eL 1 (eI .i64)) r5))),(17,(i_ r6)),(18,.tup [(l_ r8),(b_ r9),(i_ r10)]),(19,(Qa x2)),(20,(l_ [1])),(21,(l_ [1])),(22,.tup [(l_ r8),(b_ r9),(i_ r10)]),(23,(l_ r8)),(24,(b_ r9)),(25,(i_ r10)),(26,.tup [(Qa r12),(i_ r13)]),(27,(l_ [1])),(28,.agg [(l_ [1]),(i_ 1),.nils 1,.nils 3]),(29,(l_ [0,1])),(30,.tup [(Qa r12),(i_ r13)]),(31,(Qa r12)),(32,(i_ r13)),(33,(i_ r6)),(34,(b_ (r6 == 0))),(35,(b_ (r6 == 0))),(36,(Qa r4)),(37,(l_ [1])),(38,(l_ [1])),(39,.agg [(i_ 0),(i_ 1),(i_ 1)]),(40,.agg [(i_ 1),(i_ 1),(i_ 1)]),(41,.d (.lst 3 (List.map Qc [(Qe.mk 0 1 1),(Qe.mk 1 1 1)]))),(42,.agg [(l_ [1]),(i_ 2),(l_ [1]),.d (.lst 3 (List.map Qc [(Qe.mk 0 1 1),(Qe.mk 1 1 1)]))])],Qp Γ.n0 (bxs [(1,.cells ((Qd x2))),(2,.cells ((Qd r4))),(8,.cells ((Qd r12)))]) M,Γ.n0 + 74⟩; exact Qch 41 [.int .i64 0,.int .i64 1,.int .i64 1,.int .i64 1,.int .i64 1,.int .i64 1] rfl rfl ⟨(.same rfl),(fPtr rfl),(fPtr rfl),(.same rfl),(.same rfl),(.same rfl),(.same rfl),(.same rfl),(fPtr rfl),(.same rfl),(.same rfl),(.same rfl),(.same rfl),(.same rfl),(.same rfl),(.same rfl),(.same rfl),(.same rfl),(.same rfl),(.same rfl),(.same rfl),(.same rfl),(.same rfl),(.same rfl),(.same rfl),(.same rfl),(.same rfl),(.same rfl),(.same rfl),(.same rfl),(.same rfl),(.same rfl),(.same rfl),(.same rfl),(.same rfl),(.same rfl),(.same rfl),(.same rfl),(.same rfl),(.same rfl),(.same rfl),(fSl rfl rfl),(WkV.agg (.cons (.same rfl) (.cons (.same rfl) (.cons (.same rfl) (.cons (fSl rfl rfl) .nil))))),trivial⟩ ⟨⟨_,rfl,rfl,(.same rfl)⟩,⟨_,rfl,rfl,(.same rfl)⟩,⟨_,rfl,rfl,(.same rfl)⟩,trivial⟩ rfl) ?_
   obtain ⟨x16,h15,h⟩:=bnd h
   refine Rn.call (args:=[(Qa r4),.agg [(l_ [1]),(i_ 2),(l_ [1]),.d (.lst 3 (List.map Qc [(Qe.mk 0 1 1),(Qe.mk 1 1 1)]))]]) (gw rfl hb14) rfl (H_overseerref03_Same _ _ _ h15) pc9 (Rn.pickT (v:=(b_ x16)) trivial rfl hb14 rfl (md rfl ?_))
   refine Qc5 x16 (fun hb17=>?_) (fun hb17=>?_)
   ·replace h:=bT hb17 h
    refine Rn.movD (gw rfl hb17) rfl (Rn.bslice (xs:=[(i_ 0),(i_ 1)]) (cs:=[(i_ 0),(i_ 1)]) (gw rfl hb17) rfl rfl rfl rfl (Rn.bslice (xs:=[(i_ 0),(i_ 1),(i_ 2)]) (cs:=[(i_ 0),(i_ 1),(i_ 2)]) (gw rfl hb17) rfl rfl rfl rfl (Rn.bslice (xs:=[.sl 1 (Γ.n0 + 47) 0 2 2,.sl 1 (Γ.n0 + 48) 0 3 3]) (cs:=[.sl 1 (Γ.n0 + 47) 0 2 2,.sl 1 (Γ.n0 + 48) 0 3 3]) (gw rfl hb17) rfl rfl rfl rfl ?_)))
    refine Rn.weak (by show WeakSt Γ _ ⟨look [(0,(b_ false)),(1,.ptr (Γ.n0 + 1) 0),(2,.ptr (Γ.n0 + 2) 0),(3,.d (.lst 1 (List.map (eL 1 (eI .i64)) r5))),(4,(i_ r6)),(5,(l_ r8)),(6,(b_ r9)),(7,(i_ r10)),(8,.ptr (Γ.n0 + 8) 0),(9,(i_ r13)),(10,(Qa x2)),(11,.tup [(Qa r4),.d (.lst 1 (List.map (eL 1 (eI .i64)) r5)),(i_ r6)]),(12,(Qa x2)),(13,(l_ [1])),(14,.tup [(Qa r4),.own 1 (List.map (eL 1 (eI .i64)) r5),(i_ r6)]),(15,(Qa r4)),(16,.d (.lst 1 (List.map (eL 1 (eI .i64)) r5))),(17,(i_ r6)),(18,.tup [(l_ r8),(b_ r9),(i_ r10)]),(19,(Qa x2)),(20,(l_ [1])),(21,(l_ [1])),(22,.tup [(l_ r8),(b_ r9),(i_ r10)]),(23,(l_ r8)),(24,(b_ r9)),(25,(i_ r10)),(26,.tup [(Qa r12),(i_ r13)]),(27,(l_ [1])),(28,.agg [(l_ [1]),(i_ 1),.nils 1,.nils 3]),(29,(l_ [0,1])),(30,.tup [(Qa r12),(i_ r13)]),(31,(Qa r12)),(32,(i_ r13)),(33,(i_ r6)),(34,(b_ (r6 == 0))),(35,(b_ (r6 == 0))),(36,(Qa r4)),(37,(l_ [1])),(38,(l_ [1])),(39,.agg [(i_ 0),(i_ 1),(i_ 1)]),(40,.agg [(i_ 1),(i_ 1),(i_ 1)]),(41,.d (.lst 3 (List.map Qc [(Qe.mk 0 1 1),(Qe.mk 1 1 1)]))),(42,.agg [(l_ [1]),(i_ 2),(l_ [1]),.d (.lst 3 (List.map Qc [(Qe.mk 0 1 1),(Qe.mk 1 1 1)]))]),(43,(b_ x16)),(44,(b_ x16)),(45,(b_ x16)),(46,.d (.lst 1 (List.map (eL 1 (eI .i64)) r5))),(47,(l_ [0,1])),(48,.sl 1 (Γ.n0 + 48) 0 3 3),(49,.sl 1 (Γ.n0 + 49) 0 2 2)],Qp Γ.n0 (bxs [(1,.cells ((Qd x2))),(2,.cells ((Qd r4))),(8,.cells ((Qd r12))),(48,.cells ([(i_ 0),(i_ 1),(i_ 2)])),(49,.cells ([(l_ [0,1]),.sl 1 (Γ.n0 + 48) 0 3 3]))]) M,Γ.n0 + 74⟩; exact Qch 47 [.int .i64 0,.int .i64 1] rfl rfl ⟨(.same rfl),(fPtr rfl),(fPtr rfl),(.same rfl),(.same rfl),(.same rfl),(.same rfl),(.same rfl),(fPtr rfl),(.same rfl),(.same rfl),(.same rfl),(.same rfl),(.same rfl),(.same rfl),(.same rfl),(.same rfl),(.same rfl),(.same rfl),(.same rfl),(.same rfl),(.same rfl),(.same rfl),(.same rfl),(.same rfl),(.same rfl),(.same rfl),(.same rfl),(.same rfl),(.same rfl),(.same rfl),(.same rfl),(.same rfl),(.same rfl),(.same rfl),(.same rfl),(.same rfl),(.same rfl),(.same rfl),(.same rfl),(.same rfl),(.same rfl),(.same rfl),(.same rfl),(.same rfl),(.same rfl),(.same rfl),(fSl rfl rfl),(fSlO rfl),(fSlO rfl),trivial⟩ ⟨⟨_,rfl,rfl,(.same rfl)⟩,⟨_,rfl,rfl,(.same rfl)⟩,⟨_,rfl,rfl,(.same rfl)⟩,⟨_,rfl,rfl,(.same rfl)⟩,⟨_,rfl,rfl,(.cons (fSl rfl rfl) (.cons (fSlO rfl) .nil))⟩,trivial⟩ rfl) ?_
    refine Rn.weak (by show WeakSt Γ _ ⟨look [(0,(b_ false)),(1,.ptr (Γ.n0 + 1) 0),(2,.ptr (Γ.n0 + 2) 0),(3,.d (.lst 1 (List.map (eL 1 (eI .i64)) r5))),(4,(i_ r6)),(5,(l_ r8)),(6,(b_ r9)),(7,(i_ r10)),(8,.ptr (Γ.n0 + 8) 0),(9,(i_ r13)),(10,(Qa x2)),(11,.tup [(Qa r4),.d (.lst 1 (List.map (eL 1 (eI .i64)) r5)),(i_ r6)]),(12,(Qa x2)),(13,(l_ [1])),(14,.tup [(Qa r4),.own 1 (List.map (eL 1 (eI .i64)) r5),(i_ r6)]),(15,(Qa r4)),(16,.d (.lst 1 (List.map (eL 1 (eI .i64)) r5))),(17,(i_ r6)),(18,.tup [(l_ r8),(b_ r9),(i_ r10)]),(19,(Qa x2)),(20,(l_ [1])),(21,(l_ [1])),(22,.tup [(l_ r8),(b_ r9),(i_ r10)]),(23,(l_ r8)),(24,(b_ r9)),(25,(i_ r10)),(26,.tup [(Qa r12),(i_ r13)]),(27,(l_ [1])),(28,.agg [(l_ [1]),(i_ 1),.nils 1,.nils 3]),(29,(l_ [0,1])),(30,.tup [(Qa r12),(i_ r13)]),(31,(Qa r12)),(32,(i_ r13)),(33,(i_ r6)),(34,(b_ (r6 == 0))),(35,(b_ (r6 == 0))),(36,(Qa r4)),(37,(l_ [1])),(38,(l_ [1])),(39,.agg [(i_ 0),(i_ 1),(i_ 1)]),(40,.agg [(i_ 1),(i_ 1),(i_ 1)]),(41,.d (.lst 3 (List.map Qc [(Qe.mk 0 1 1),(Qe.mk 1 1 1)]))),(42,.agg [(l_ [1]),(i_ 2),(l_ [1]),.d (.lst 3 (List.map Qc [(Qe.mk 0 1 1),(Qe.mk 1 1 1)]))]),(43,(b_ x16)),(44,(b_ x16)),(45,(b_ x16)),(46,.d (.lst 1 (List.map (eL 1 (eI .i64)) r5))),(47,(l_ [0,1])),(48,(l_ [0,1,2])),(49,.sl 1 (Γ.n0 + 49) 0 2 2)],Qp Γ.n0 (bxs [(1,.cells ((Qd x2))),(2,.cells ((Qd r4))),(8,.cells ((Qd r12))),(49,.cells ([(l_ [0,1]),(l_ [0,1,2])]))]) M,Γ.n0 + 74⟩; exact Qch 48 [.int .i64 0,.int .i64 1,.int .i64 2] rfl rfl ⟨(.same rfl),(fPtr rfl),(fPtr rfl),(.same rfl),(.same rfl),(.same rfl),(.same rfl),(.same rfl),(fPtr rfl),(.same rfl),(.same rfl),(.same rfl),(.same rfl),(.same rfl),(.same rfl),(.same rfl),(.same rfl),(.same rfl),(.same rfl),(.same rfl),(.same rfl),(.same rfl),(.same rfl),(.same rfl),(.same rfl),(.same rfl),(.same rfl),(.same rfl),(.same rfl),(.same rfl),(.same rfl),(.same rfl),(.same rfl),(.same rfl),(.same rfl),(.same rfl),(.same rfl),(.same rfl),(.same rfl),(.same rfl),(.same rfl),(.same rfl),(.same rfl),(.same rfl),(.same rfl),(.same rfl),(.same rfl),(.same rfl),(fSl rfl rfl),(fSlO rfl),trivial⟩ ⟨⟨_,rfl,rfl,(.same rfl)⟩,⟨_,rfl,rfl,(.same rfl)⟩,⟨_,rfl,rfl,(.same rfl)⟩,⟨_,rfl,rfl,(.cons (.same rfl) (.cons (fSl rfl rfl) .nil))⟩,trivial⟩ rfl) ?_
    refine Rn.weak (by show WeakSt Γ _ ⟨look [(0,(b_ false)),(1,.ptr (Γ.n0 + 1) 0),(2,.ptr (Γ.n0 + 2) 0),(3,.d (.lst 1 (List.map (eL 1 (eI .i64)) r5))),(4,(i_ r6)),(5,(l_ r8)),(6,(b_ r9)),(7,(i_ r10)),(8,.ptr (Γ.n0 + 8) 0),(9,(i_ r13)),(10,(Qa x2)),(11,.tup [(Qa r4),.d (.lst 1 (List.map (eL 1 (eI .i64)) r5)),(i_ r6)]),(12,(Qa x2)),(13,(l_ [1])),(14,.tup [(Qa r4),.own 1 (List.map (eL 1 (eI .i64)) r5),(i_ r6)]),(15,(Qa r4)),(16,.d (.lst 1 (List.map (eL 1 (eI .i64)) r5))),(17,(i_ r6)),(18,.tup [(l_ r8),(b_ r9),(i_ r10)]),(19,(Qa x2)),(20,(l_ [1])),(21,(l_ [1])),(22,.tup [(l_ r8),(b_ r9),(i_ r10)]),(23,(l_ r8)),(24,(b_ r9)),(25,(i_ r10)),(26,.tup [(Qa r12),(i_ r13)]),(27,(l_ [1])),(28,.agg [(l_ [1]),(i_ 1),.nils 1,.nils 3]),(29,(l_ [0,1])),(30,.tup [(Qa r12),(i_ r13)]),(31,(Qa r12)),(32,(i_ r13)),(33,(i_ r6)),(34,(b_ (r6 == 0))),(35,(b_ (r6 == 0))),(36,(Qa r4)),(37,(l_ [1])),(38,(l_ [1])),(39,.agg [(i_ 0),(i_ 1),(i_ 1)]),(40,.agg [(i_ 1),(i_ 1),(i_ 1)]),(41,.d (.lst 3 (List.map Qc [(Qe.mk 0 1 1),(Qe.mk 1 1 1)]))),(42,.agg [(l_ [1]),(i_ 2),(l_ [1]),.d (.lst 3 (List.map Qc [(Qe.mk 0 1 1),(Qe.mk 1 1 1)]))]),(43,(b_ x16)),(44,(b_ x16)),(45,(b_ x16)),(46,.d (.lst 1 (List.map (eL 1 (eI .i64)) r5))),(47,(l_ [0,1])),(48,(l_ [0,1,2])),(49,.d (.lst 1 (List.map (eL 1 (eI .i64)) ([[0,1],[0,1,2]]))))],Qp Γ.n0 (bxs [(1,.cells ((Qd x2))),(2,.cells ((Qd r4))),(8,.cells ((Qd r12)))]) M,Γ.n0 + 74⟩; exact Qch 49 [.lst 1 (List.map (eI .i64) [0,1]),.lst 1 (List.map (eI .i64) [0,1,2])] rfl rfl ⟨(.same rfl),(fPtr rfl),(fPtr rfl),(.same rfl),(.same rfl),(.same rfl),(.same rfl),(.same rfl),(fPtr rfl),(.same rfl),(.same rfl),(.same rfl),(.same rfl),(.same rfl),(.same rfl),(.same rfl),(.same rfl),(.same rfl),(.same rfl),(.same rfl),(.same rfl),(.same rfl),(.same rfl),(.same rfl),(.same rfl),(.same rfl),(.same rfl),(.same rfl),(.same rfl),(.same rfl),(.same rfl),(.same rfl),(.same rfl),(.same rfl),(.same rfl),(.same rfl),(.same rfl),(.same rfl),(.same rfl),(.same rfl),(.same rfl),(.same rfl),(.same rfl),(.same rfl),(.same rfl),(.same rfl),(.same rfl),(.same rfl),(.same rfl),(fSl rfl rfl),trivial⟩ ⟨⟨_,rfl,rfl,(.same rfl)⟩,⟨_,rfl,rfl,(.same rfl)⟩,⟨_,rfl,rfl,(.same rfl)⟩,trivial⟩ rfl) ?_
    obtain ⟨x19,h18,h⟩:=bnd h
    refine Rn.call (args:=[.d (.lst 1 (List.map (eL 1 (eI .i64)) r5)),.d (.lst 1 (List.map (eL 1 (eI .i64)) ([[0,1],[0,1,2]])))]) (gw rfl hb17) rfl (H_overseerlaw03_SameWords _ _ _ h18) pc9 (Rn.pickT (v:=(b_ x19)) trivial rfl hb17 rfl (md rfl ?_))
    refine Qc5 x19 (fun hb20=>?_) (fun hb20=>?_)
    ·replace h:=bT hb20 h
     refine Rn.movD (gw rfl hb20) rfl (Rn.bin (gw rfl hb20) rfl rfl rfl (Rn.pickT (v:=(b_ (r10 == 0))) trivial rfl hb20 rfl (md rfl ?_)))
     refine Qc5 (r10 == 0) (fun hb21=>?_) (fun hb21=>?_)
     ·replace h:=bT hb21 h
      refine Rn.movD (gw rfl hb21) rfl (Rn.pickT (v:=(b_ r9)) trivial rfl hb21 rfl (md rfl ?_))
      refine Qc5 r9 (fun hb22=>?_) (fun hb22=>?_)
      ·replace h:=bT hb22 h
       refine Rn.movD (gw rfl hb22) rfl (Rn.bslice (xs:=[(i_ 0),(i_ 1)]) (cs:=[(i_ 0),(i_ 1)]) (gw rfl hb22) rfl rfl rfl rfl ?_)
       refine Rn.weak (by show WeakSt Γ _ ⟨look [(0,(b_ false)),(1,.ptr (Γ.n0 + 1) 0),(2,.ptr (Γ.n0 + 2) 0),(3,.d (.lst 1 (List.map (eL 1 (eI .i64)) r5))),(4,(i_ r6)),(5,(l_ r8)),(6,(b_ r9)),(7,(i_ r10)),(8,.ptr (Γ.n0 + 8) 0),(9,(i_ r13)),(10,(Qa x2)),(11,.tup [(Qa r4),.d (.lst 1 (List.map (eL 1 (eI .i64)) r5)),(i_ r6)]),(12,(Qa x2)),(13,(l_ [1])),(14,.tup [(Qa r4),.own 1 (List.map (eL 1 (eI .i64)) r5),(i_ r6)]),(15,(Qa r4)),(16,.d (.lst 1 (List.map (eL 1 (eI .i64)) r5))),(17,(i_ r6)),(18,.tup [(l_ r8),(b_ r9),(i_ r10)]),(19,(Qa x2)),(20,(l_ [1])),(21,(l_ [1])),(22,.tup [(l_ r8),(b_ r9),(i_ r10)]),(23,(l_ r8)),(24,(b_ r9)),(25,(i_ r10)),(26,.tup [(Qa r12),(i_ r13)]),(27,(l_ [1])),(28,.agg [(l_ [1]),(i_ 1),.nils 1,.nils 3]),(29,(l_ [0,1])),(30,.tup [(Qa r12),(i_ r13)]),(31,(Qa r12)),(32,(i_ r13)),(33,(i_ r6)),(34,(b_ (r6 == 0))),(35,(b_ (r6 == 0))),(36,(Qa r4)),(37,(l_ [1])),(38,(l_ [1])),(39,.agg [(i_ 0),(i_ 1),(i_ 1)]),(40,.agg [(i_ 1),(i_ 1),(i_ 1)]),(41,.d (.lst 3 (List.map Qc [(Qe.mk 0 1 1),(Qe.mk 1 1 1)]))),(42,.agg [(l_ [1]),(i_ 2),(l_ [1]),.d (.lst 3 (List.map Qc [(Qe.mk 0 1 1),(Qe.mk 1 1 1)]))]),(43,(b_ x16)),(44,(b_ x16)),(45,(b_ x16)),(46,.d (.lst 1 (List.map (eL 1 (eI .i64)) r5))),(47,(l_ [0,1])),(48,(l_ [0,1,2])),(49,.d (.lst 1 (List.map (eL 1 (eI .i64)) ([[0,1],[0,1,2]])))),(50,(b_ x19)),(51,(b_ x19)),(52,(b_ x19)),(53,(i_ r10)),(54,(b_ (r10 == 0))),(55,(b_ (r10 == 0))),(56,(b_ (r10 == 0))),(57,(b_ r9)),(58,(b_ r9)),(59,(b_ r9)),(60,(l_ r8)),(61,(l_ [0,1]))],Qp Γ.n0 (bxs [(1,.cells ((Qd x2))),(2,.cells ((Qd r4))),(8,.cells ((Qd r12)))]) M,Γ.n0 + 74⟩; exact Qch 61 [.int .i64 0,.int .i64 1] rfl rfl ⟨(.same rfl),(fPtr rfl),(fPtr rfl),(.same rfl),(.same rfl),(.same rfl),(.same rfl),(.same rfl),(fPtr rfl),(.same rfl),(.same rfl),(.same rfl),(.same rfl),(.same rfl),(.same rfl),(.same rfl),(.same rfl),(.same rfl),(.same rfl),(.same rfl),(.same rfl),(.same rfl),(.same rfl),(.same rfl),(.same rfl),(.same rfl),(.same rfl),(.same rfl),(.same rfl),(.same rfl),(.same rfl),(.same rfl),(.same rfl),(.same rfl),(.same rfl),(.same rfl),(.same rfl),(.same rfl),(.same rfl),(.same rfl),(.same rfl),(.same rfl),(.same rfl),(.same rfl),(.same rfl),(.same rfl),(.same rfl),(.same rfl),(.same rfl),(.same rfl),(.same rfl),(.same rfl),(.same rfl),(.same rfl),(.same rfl),(.same rfl),(.same rfl),(.same rfl),(.same rfl),(.same rfl),(.same rfl),(fSl rfl rfl),trivial⟩ ⟨⟨_,rfl,rfl,(.same rfl)⟩,⟨_,rfl,rfl,(.same rfl)⟩,⟨_,rfl,rfl,(.same rfl)⟩,trivial⟩ rfl) ?_
       obtain ⟨x24,h23,h⟩:=bnd h
       refine Rn.call (args:=[(l_ r8),(l_ [0,1])]) (gw rfl hb22) rfl (H_overseerref03_SameInts _ _ _ h23) pc9 (Rn.pickT (v:=(b_ x24)) trivial rfl hb22 rfl (md rfl ?_))
       refine Qc5 x24 (fun hb25=>?_) (fun hb25=>?_)
       ·replace h:=bT hb25 h
        refine Rn.movD (gw rfl hb25) rfl (Rn.bin (gw rfl hb25) rfl rfl rfl (Rn.pickT (v:=(b_ (r13 == 0))) trivial rfl hb25 rfl (md rfl ?_)))
        refine Qc5 (r13 == 0) (fun hb26=>?_) (fun hb26=>?_)
        ·replace h:=bT hb26 h
         refine Rn.fldP (o':=3) (gw rfl hb26) rfl rfl (Rn.load (v:=.d (.lst 3 (List.map Qc r12.Edges))) (gw rfl hb26) rfl (Ql rfl) rfl rfl (Rn.lenD (gw rfl hb26) rfl (Rn.bin (gw rfl hb26) rfl rfl rfl (Rn.pickT (v:=(b_ ((r12.Edges.length : Int) == 1))) trivial rfl hb26 rfl (md rfl (Rn.nil ?_))))))
         replace h:=si h; subst h
         exact Qi [] ⟨(sm rfl),trivial⟩ ⟨⟨_,rfl,rfl,(.same rfl)⟩,⟨_,rfl,rfl,(.same rfl)⟩,⟨_,rfl,rfl,(.same rfl)⟩,trivial⟩ rfl
        ·replace h:=bF hb26 h
         refine Rn.sk (nw rfl hb26) (Rn.sk (nw rfl hb26) (Rn.sk (nw rfl hb26) (Rn.sk (nw rfl hb26) (Rn.pickF (v:=(b_ false)) trivial rfl hb26 rfl (md rfl (Rn.nil ?_))))))
         replace h:=si h; subst h
         exact Qi [] ⟨(sm rfl),trivial⟩ ⟨⟨_,rfl,rfl,(.same rfl)⟩,⟨_,rfl,rfl,(.same rfl)⟩,⟨_,rfl,rfl,(.same rfl)⟩,trivial⟩ rfl
       ·replace h:=bF hb25 h
        refine Rn.sk (nw rfl hb25) (Rn.sk (nw rfl hb25) (Rn.pickF (v:=(b_ false)) trivial rfl hb25 rfl (md rfl (Rn.sk (nw (b:=false) rfl rfl) (Rn.sk (nw (b:=false) rfl rfl) (Rn.sk (nw (b:=false) rfl rfl) (Rn.sk (nw (b:=false) rfl rfl) (Rn.pickF (v:=(b_ false)) trivial rfl rfl rfl (md rfl (Rn.nil ?_))))))))))
        replace h:=si h; subst h
        exact Qi [] ⟨(sm rfl),trivial⟩ ⟨⟨_,rfl,rfl,(.same rfl)⟩,⟨_,rfl,rfl,(.same rfl)⟩,⟨_,rfl,rfl,(.same rfl)⟩,trivial⟩ rfl
      ·replace h:=bF hb22 h
       refine Rn.sk (nw rfl hb22) (Rn.sk (nw rfl hb22) (Rn.sk (nw rfl hb22) (Rn.pickF (v:=(b_ false)) trivial rfl hb22 rfl (md rfl (Rn.sk (nw (b:=false) rfl rfl) (Rn.sk (nw (b:=false) rfl rfl) (Rn.pickF (v:=(b_ false)) trivial rfl rfl rfl (md rfl (Rn.sk (nw (b:=false) rfl rfl) (Rn.sk (nw (b:=false) rfl rfl) (Rn.sk (nw (b:=false) rfl rfl) (Rn.sk (nw (b:=false) rfl rfl) (Rn.pickF (v:=(b_ false)) trivial rfl rfl rfl (md rfl (Rn.nil ?_)))))))))))))))
       replace h:=si h; subst h
       exact Qi [] ⟨(sm rfl),trivial⟩ ⟨⟨_,rfl,rfl,(.same rfl)⟩,⟨_,rfl,rfl,(.same rfl)⟩,⟨_,rfl,rfl,(.same rfl)⟩,trivial⟩ rfl
     ·replace h:=bF hb21 h
      refine Rn.sk (nw rfl hb21) (Rn.pickF (v:=(b_ false)) trivial rfl hb21 rfl (md rfl (Rn.sk (nw (b:=false) rfl rfl) (Rn.sk (nw (b:=false) rfl rfl) (Rn.sk (nw (b:=false) rfl rfl) (Rn.pickF (v:=(b_ false)) trivial rfl rfl rfl (md rfl (Rn.sk (nw (b:=false) rfl rfl) (Rn.sk (nw (b:=false) rfl rfl) (Rn.pickF (v:=(b_ false)) trivial rfl rfl rfl (md rfl (Rn.sk (nw (b:=false) rfl rfl) (Rn.sk (nw (b:=false) rfl rfl) (Rn.sk (nw (b:=false) rfl rfl) (Rn.sk (nw (b:=false) rfl rfl) (Rn.pickF (v:=(b_ false)) trivial rfl rfl rfl (md rfl (Rn.nil ?_))))))))))))))))))
      replace h:=si h; subst h
      exact Qi [] ⟨(sm rfl),trivial⟩ ⟨⟨_,rfl,rfl,(.same rfl)⟩,⟨_,rfl,rfl,(.same rfl)⟩,⟨_,rfl,rfl,(.same rfl)⟩,trivial⟩ rfl
    ·replace h:=bF hb20 h
     refine Rn.sk (nw rfl hb20) (Rn.sk (nw rfl hb20) (Rn.pickF (v:=(b_ false)) trivial rfl hb20 rfl (md rfl (Rn.sk (nw (b:=false) rfl rfl) (Rn.pickF (v:=(b_ false)) trivial rfl rfl rfl (md rfl (Rn.sk (nw (b:=false) rfl rfl) (Rn.sk (nw (b:=false) rfl rfl) (Rn.sk (nw (b:=false) rfl rfl) (Rn.pickF (v:=(b_ false)) trivial rfl rfl rfl (md rfl (Rn.sk (nw (b:=false) rfl rfl) (Rn.sk (nw (b:=false) rfl rfl) (Rn.pickF (v:=(b_ false)) trivial rfl rfl rfl (md rfl (Rn.sk (nw (b:=false) rfl rfl) (Rn.sk (nw (b:=false) rfl rfl) (Rn.sk (nw (b:=false) rfl rfl) (Rn.sk (nw (b:=false) rfl rfl) (Rn.pickF (v:=(b_ false)) trivial rfl rfl rfl (md rfl (Rn.nil ?_))))))))))))))))))))))
     replace h:=si h; subst h
     exact Qi [] ⟨(sm rfl),trivial⟩ ⟨⟨_,rfl,rfl,(.same rfl)⟩,⟨_,rfl,rfl,(.same rfl)⟩,⟨_,rfl,rfl,(.same rfl)⟩,trivial⟩ rfl
   ·replace h:=bF hb17 h
    refine Rn.sk (nw rfl hb17) (Rn.sk (nw rfl hb17) (Rn.sk (nw rfl hb17) (Rn.sk (nw rfl hb17) (Rn.sk (nw rfl hb17) (Rn.pickF (v:=(b_ false)) trivial rfl hb17 rfl (md rfl (Rn.sk (nw (b:=false) rfl rfl) (Rn.sk (nw (b:=false) rfl rfl) (Rn.pickF (v:=(b_ false)) trivial rfl rfl rfl (md rfl (Rn.sk (nw (b:=false) rfl rfl) (Rn.pickF (v:=(b_ false)) trivial rfl rfl rfl (md rfl (Rn.sk (nw (b:=false) rfl rfl) (Rn.sk (nw (b:=false) rfl rfl) (Rn.sk (nw (b:=false) rfl rfl) (Rn.pickF (v:=(b_ false)) trivial rfl rfl rfl (md rfl (Rn.sk (nw (b:=false) rfl rfl) (Rn.sk (nw (b:=false) rfl rfl) (Rn.pickF (v:=(b_ false)) trivial rfl rfl rfl (md rfl (Rn.sk (nw (b:=false) rfl rfl) (Rn.sk (nw (b:=false) rfl rfl) (Rn.sk (nw (b:=false) rfl rfl) (Rn.sk (nw (b:=false) rfl rfl) (Rn.pickF (v:=(b_ false)) trivial rfl rfl rfl (md rfl (Rn.nil ?_)))))))))))))))))))))))))))))
    replace h:=si h; subst h
    exact Qi [] ⟨(sm rfl),trivial⟩ ⟨⟨_,rfl,rfl,(.same rfl)⟩,⟨_,rfl,rfl,(.same rfl)⟩,⟨_,rfl,rfl,(.same rfl)⟩,trivial⟩ rfl
  ·replace h:=bF hb14 h
   refine Rn.sk (nw rfl hb14) (Rn.sk (nw rfl hb14) (Rn.sk (nw rfl hb14) (Rn.sk (nw rfl hb14) (Rn.sk (nw rfl hb14) (Rn.sk (nw rfl hb14) (Rn.sk (nw rfl hb14) (Rn.sk (nw rfl hb14) (Rn.pickF (v:=(b_ false)) trivial rfl hb14 rfl (md rfl (Rn.sk (nw (b:=false) rfl rfl) (Rn.sk (nw (b:=false) rfl rfl) (Rn.sk (nw (b:=false) rfl rfl) (Rn.sk (nw (b:=false) rfl rfl) (Rn.sk (nw (b:=false) rfl rfl) (Rn.pickF (v:=(b_ false)) trivial rfl rfl rfl (md rfl (Rn.sk (nw (b:=false) rfl rfl) (Rn.sk (nw (b:=false) rfl rfl) (Rn.pickF (v:=(b_ false)) trivial rfl rfl rfl (md rfl (Rn.sk (nw (b:=false) rfl rfl) (Rn.pickF (v:=(b_ false)) trivial rfl rfl rfl (md rfl (Rn.sk (nw (b:=false) rfl rfl) (Rn.sk (nw (b:=false) rfl rfl) (Rn.sk (nw (b:=false) rfl rfl) (Rn.pickF (v:=(b_ false)) trivial rfl rfl rfl (md rfl (Rn.sk (nw (b:=false) rfl rfl) (Rn.sk (nw (b:=false) rfl rfl) (Rn.pickF (v:=(b_ false)) trivial rfl rfl rfl (md rfl (Rn.sk (nw (b:=false) rfl rfl) (Rn.sk (nw (b:=false) rfl rfl) (Rn.sk (nw (b:=false) rfl rfl) (Rn.sk (nw (b:=false) rfl rfl) (Rn.pickF (v:=(b_ false)) trivial rfl rfl rfl (md rfl (Rn.nil ?_)))))))))))))))))))))))))))))))))))))))
   replace h:=si h; subst h
   exact Qi [] ⟨(sm rfl),trivial⟩ ⟨⟨_,rfl,rfl,(.same rfl)⟩,⟨_,rfl,rfl,(.same rfl)⟩,⟨_,rfl,rfl,(.same rfl)⟩,trivial⟩ rfl
 ·obtain ⟨x27,rfl⟩ : ∃ x,x = z:=⟨_,rfl⟩
  refine Tr.ret ?_
  replace h:=si h; subst h
  exact ⟨.inr rfl,(b_ x27),rfl,fun _ _ _ _ h=>h,trivial,fun k hk=>Qf hk⟩
theorem Qlq {P : Program} {c : Nat} (hcf : Qt P c = some Qeu) (fuel : Nat) : Qet P c (Qbd fuel):=by
 intro s1 r h
 refine Qcy hcf rfl fun Γ M hP hnt hM=>?_
 subst hP
 refine Tr.init [(0,.d (.int .u8 s1))] rfl ?_
 unfold Qbd at h
 unfold Qeu
 refine sr ((Rn.movTC (v:=.nils 1) trivial (nt ((sr ((Rn.movTC (v:=.nils 1) trivial (Rn.nil (toN ?_)))))))))
 refine Tr.cutB (fun (out12 : List Int)=>⟨look [(3,.own 1 (List.map (eI .i64) out12))],Qp Γ.n0 (bxs []) M,Γ.n0 + 19⟩) h (fun z h=>?_) (fun z h=>?_)
 ·refine sr ((md rfl (nt ((Tr.block ?_)))))
  refine Tr.loop (mk:=fun ((out2,i3) : (List Int) × Int)=>⟨look [(0,.d (.int .u8 s1)),(3,.own 1 (List.map (eI .i64) out2)),(4,(i_ i3))],Qp Γ.n0 (bxs []) M,Γ.n0 + 19⟩) h (by exact Qj ⟨(sm rfl),(WkV.nilsO _),(sm rfl),trivial⟩ trivial rfl) (fun k4 z h=>?_)
  ·obtain ⟨out2,i3⟩:=z
   replace h : _ = some _:=h
   refine Tr.seq (sr ((md rfl (Rn.bin trivial rfl rfl rfl (Rn.nil (toN ?_))))))
   refine Tr.cond rfl (fun hb5=>?_) (fun hb5=>?_)
   ·replace h:=ifT hb5 h
    refine Tr.skip (toN ?_)
    refine Tr.cutB (fun (out11 : List Int)=>⟨look [(0,.d (.int .u8 s1)),(3,.own 1 (List.map (eI .i64) out11)),(4,(i_ i3))],Qp Γ.n0 (bxs []) M,Γ.n0 + 19⟩) h (fun z h=>?_) (fun z h=>?_)
    ·refine Tr.block (sr ((md rfl (md rfl ?_))))
     obtain ⟨s6,h7,h⟩:=bnd h
     refine Rn.bin trivial rfl rfl (Qbfj h7) (Rn.bin trivial rfl rfl rfl (Rn.bin trivial rfl rfl rfl (Rn.nil (toN ?_))))
     refine Tr.cond rfl (fun hb8=>?_) (fun hb8=>?_)
     ·replace h:=bT hb8 h
      refine Tr.rgn (Rn.movTO trivial rfl (md rfl (Rn.bslice (xs:=[(i_ i3)]) (cs:=[(i_ i3)]) trivial rfl rfl rfl rfl ?_)))
      obtain ⟨x9,h10,h⟩:=bnd h
      refine Rn.app (e:=(eI .i64)) trivial rfl rfl rfl (Qcb rfl rfl rfl) h10 rfl (Rn.movTO trivial rfl (Rn.nil ?_))
      replace h:=si h; subst h
      exact Qi [16] ⟨(sm rfl),(sm rfl),(sm rfl),trivial⟩ trivial rfl
     ·replace h:=bF hb8 h
      refine Tr.skip ?_
      replace h:=si h; subst h
      exact Qi [] ⟨(sm rfl),(sm rfl),(sm rfl),trivial⟩ trivial rfl
    ·obtain ⟨out11,rfl⟩ : ∃ x,x = z:=⟨_,rfl⟩
     refine Tr.rgn (md rfl (Rn.bin trivial rfl rfl rfl (md rfl (Rn.nil ?_))))
     exact ⟨_,h,(by exact Qj ⟨(sm rfl),(sm rfl),(sm rfl),trivial⟩ trivial rfl)⟩
   ·replace h:=ifF hb5 h
    refine Tr.exit ?_
    replace h:=si h; subst h
    exact Qi [] ⟨(sm rfl),trivial⟩ trivial rfl
 ·obtain ⟨out12,rfl⟩ : ∃ x,x = z:=⟨_,rfl⟩
  refine sr ((Rn.movTO trivial rfl (Rn.movTO trivial rfl (nt ((Tr.ret ?_))))))
  replace h:=si h; subst h
  exact ⟨.inr rfl,(.own 1 (List.map (eI .i64) out12)),rfl,fun _ _ _ _ h=>h,trivial,fun k hk=>Qf hk⟩
theorem Qrf {P : Program} {c : Nat} (hcf : Qt P c = some Qgs) : Qey P c (Q0):=by
 intro alphabet1 r h
 refine Qcy hcf rfl fun Γ M hP hnt hM=>?_
 subst hP
 refine Tr.init [(0,(l_ alphabet1))] rfl ?_
 unfold Q0 at h
 unfold Qgs
 refine sr ((Rn.alloc trivial rfl (nt ((sr ((Rn.bslice (xs:=[]) (cs:=[]) trivial rfl rfl rfl rfl (md rfl ?_))))))))
 obtain ⟨x2,h3,h⟩:=bnd h
 refine Rn.app0 (e:=(eI .i64)) trivial rfl rfl rfl rfl Qyo h3 rfl (Rn.buildT (v:=.agg [.own 1 (List.map (eI .i64) x2),(i_ 0),.nils 1,.nils 3]) trivial rfl (Rn.storeT (v:=.agg [.own 1 (List.map (eI .i64) x2),(i_ 0),.nils 1,.nils 3]) (ds:=[.own 1 (List.map (eI .i64) x2),(i_ 0),.nils 1,.nils 3]) (cs':=[.own 1 (List.map (eI .i64) x2),(i_ 0),.nils 1,.nils 3]) trivial rfl rfl rfl rfl rfl rfl rfl (nt ((Tr.ret ?_)))))
 replace h:=si h; subst h
 exact ⟨.inr rfl,(.agg [(l_ x2),(i_ 0),.nils 1,.nils 3]),Qg8 rfl rfl rfl rfl,fun _ _ _ _ h=>h,⟨trivial,trivial,trivial,trivial,trivial⟩,fun k hk=>Qf hk⟩
theorem Qu6 {P : Program} {c : Nat} (hcf : Qt P c = some Qhi) (fuel : Nat) : Qea P c (Qv fuel):=by
 intro a1 state2 event3 r h
 refine Qcy hcf rfl fun Γ M hP hnt hM=>?_
 subst hP
 refine Tr.init [(0,(Qa a1)),(1,(i_ state2)),(2,(i_ event3))] rfl ?_
 unfold Qv at h
 unfold Qhi
 refine sr ((Rn.box (v:=(Qa a1)) (cs:=(Qd a1)) trivial rfl rfl rfl rfl rfl (md rfl (nt ((Tr.seq (sr ((md rfl (nt ((Tr.block ?_))))))))))))
 refine Tr.loop (mk:=fun (i4 : Int)=>⟨look [(1,(i_ state2)),(2,(i_ event3)),(3,.ptr (Γ.n0 + 3) 0),(7,(i_ i4))],Qp Γ.n0 (bxs [(3,.cells ((Qd a1)))]) M,Γ.n0 + 39⟩) h (by exact Qj ⟨(sm rfl),(sm rfl),(kPtr rfl),(sm rfl),trivial⟩ ⟨⟨_,rfl,rfl,(.same rfl)⟩,trivial⟩ rfl) (fun k5 z h=>?_)
 ·obtain ⟨i4,rfl⟩ : ∃ x,x = z:=⟨_,rfl⟩
  replace h : _ = some _:=h
  refine Tr.seq (sr ((md rfl (Rn.fldP (o':=3) trivial rfl rfl (Rn.load (v:=.d (.lst 3 (List.map Qc a1.Edges))) trivial rfl (Ql rfl) rfl rfl (Rn.lenD trivial rfl (Rn.bin trivial rfl rfl rfl (Rn.nil (toN ?_)))))))))
  refine Tr.cond rfl (fun hb6=>?_) (fun hb6=>?_)
  ·replace h:=ifT hb6 h
   refine Tr.skip (toN (Tr.seq (Tr.block ?_)))
   refine Tr.cutB (fun (x12 : Bool)=>⟨look [(1,(i_ state2)),(2,(i_ event3)),(3,.ptr (Γ.n0 + 3) 0),(7,(i_ i4)),(32,(b_ x12))],Qp Γ.n0 (bxs [(3,.cells ((Qd a1)))]) M,Γ.n0 + 39⟩) h (fun z h=>?_) (fun z h=>?_)
   ·refine Tr.rgn (Rn.fldP (o':=3) trivial rfl rfl (Rn.load (v:=.d (.lst 3 (List.map Qc a1.Edges))) trivial rfl (Ql rfl) rfl rfl (md rfl ?_)))
    obtain ⟨x7,h8,h⟩:=bnd h
    refine Rn.idxD (e:=Qc) trivial rfl rfl h8 (Rn.fldC trivial rfl (Rn.loadC (x:=.int .i64 x7.From) trivial rfl (md rfl (Rn.bin trivial rfl rfl rfl (md rfl ?_)))))
    refine Qc5 (x7.From == state2) (fun hb9=>?_) (fun hb9=>?_)
    ·replace h:=bT hb9 h
     refine Rn.fldP (o':=3) (gw rfl hb9) rfl rfl (Rn.load (v:=.d (.lst 3 (List.map Qc a1.Edges))) (gw rfl hb9) rfl (Ql rfl) rfl rfl (Rn.movD (gw rfl hb9) rfl ?_))
     obtain ⟨x10,h11,h⟩:=bnd h
     refine Rn.idxD (e:=Qc) (gw rfl hb9) rfl rfl h11 (Rn.fldC (gw rfl hb9) rfl (Rn.loadC (x:=.int .i64 x10.Event) (gw rfl hb9) rfl (Rn.movD (gw rfl hb9) rfl (Rn.bin (gw rfl hb9) rfl rfl rfl (Rn.pickT (v:=(b_ (x10.Event == event3))) trivial rfl hb9 rfl (Rn.nil ?_))))))
     replace h:=si h; subst h
     exact Qi [] ⟨(sm rfl),(sm rfl),(kPtr rfl),(sm rfl),(sm rfl),trivial⟩ ⟨⟨_,rfl,rfl,(.same rfl)⟩,trivial⟩ rfl
    ·replace h:=bF hb9 h
     refine Rn.sk (nw rfl hb9) (Rn.sk (nw rfl hb9) (Rn.sk (nw rfl hb9) (Rn.sk (nw rfl hb9) (Rn.sk (nw rfl hb9) (Rn.sk (nw rfl hb9) (Rn.sk (nw rfl hb9) (Rn.sk (nw rfl hb9) (Rn.pickF (v:=(b_ false)) trivial rfl hb9 rfl (Rn.nil ?_)))))))))
     replace h:=si h; subst h
     exact Qi [] ⟨(sm rfl),(sm rfl),(kPtr rfl),(sm rfl),(sm rfl),trivial⟩ ⟨⟨_,rfl,rfl,(.same rfl)⟩,trivial⟩ rfl
   ·obtain ⟨x12,rfl⟩ : ∃ x,x = z:=⟨_,rfl⟩
    refine Tr.cond rfl (fun hb13=>?_) (fun hb13=>?_)
    ·replace h:=bT hb13 h
     refine sr ((Rn.fldP (o':=3) trivial rfl rfl (Rn.load (v:=.d (.lst 3 (List.map Qc a1.Edges))) trivial rfl (Ql rfl) rfl rfl (md rfl ?_))))
     obtain ⟨x14,h15,h⟩:=bnd h
     refine Rn.idxD (e:=Qc) trivial rfl rfl h15 (Rn.fldC trivial rfl (Rn.loadC (x:=.int .i64 x14.To) trivial rfl (md rfl (nt ((Tr.ret ?_))))))
     replace h:=si h; subst h
     exact ⟨.inr rfl,(i_ x14.To),rfl,fun _ _ _ _ h=>h,trivial,fun k hk=>Qf hk⟩
    ·replace h:=bF hb13 h
     refine Tr.skip (toN (Tr.rgn (md rfl (Rn.bin trivial rfl rfl rfl (md rfl (Rn.nil ?_))))))
     exact ⟨_,h,(by exact Qj ⟨(sm rfl),(sm rfl),(kPtr rfl),(sm rfl),trivial⟩ ⟨⟨_,rfl,rfl,(.same rfl)⟩,trivial⟩ rfl)⟩
  ·replace h:=ifF hb6 h
   refine Tr.exit (toN (sr ((md rfl (nt ((Tr.ret ?_)))))))
   replace h:=si h; subst h
   exact ⟨.inr rfl,(i_ (-1)),rfl,fun _ _ _ _ h=>h,trivial,fun k hk=>Qf hk⟩
theorem Qx3 {P : Program} {c : Nat} (hcf : Qt P c = some Qh1) (fuel : Nat) : Qft P c (Q9 fuel):=by
 intro l1 n2 r h
 refine Qcy hcf rfl fun Γ M hP hnt hM=>?_
 subst hP
 refine Tr.init [(0,(l_ l1)),(1,(i_ n2))] rfl ?_
 unfold Q9 at h
 unfold Qh1
 refine sr ((md rfl (nt ((Tr.seq (sr ((md rfl (nt ((Tr.block ?_)))))))))))
 refine Tr.loop (mk:=fun (i3 : Int)=>⟨look [(0,(l_ l1)),(1,(i_ n2)),(5,(i_ i3))],Qp Γ.n0 (bxs []) M,Γ.n0 + 18⟩) h (by exact Qj ⟨(sm rfl),(sm rfl),(sm rfl),trivial⟩ trivial rfl) (fun k4 z h=>?_)
 ·obtain ⟨i3,rfl⟩ : ∃ x,x = z:=⟨_,rfl⟩
  replace h : _ = some _:=h
  refine Tr.seq (sr ((md rfl (md rfl (Rn.lenD trivial rfl (Rn.bin trivial rfl rfl rfl (Rn.nil (toN ?_))))))))
  refine Tr.cond rfl (fun hb5=>?_) (fun hb5=>?_)
  ·replace h:=ifT hb5 h
   refine Tr.skip (toN (Tr.seq (Tr.block (sr ((md rfl (md rfl ?_)))))))
   obtain ⟨x6,h7,h⟩:=bnd h
   refine Rn.idxD (e:=(eI .i64)) trivial rfl rfl h7 (Rn.loadC (x:=.int .i64 x6) trivial rfl (md rfl (Rn.bin trivial rfl rfl rfl (Rn.nil (toN ?_)))))
   refine Tr.cond rfl (fun hb8=>?_) (fun hb8=>?_)
   ·replace h:=bT hb8 h
    refine sr ((md rfl (nt ((Tr.ret ?_)))))
    replace h:=si h; subst h
    exact ⟨.inr rfl,(b_ true),rfl,fun _ _ _ _ h=>h,trivial,fun k hk=>Qf hk⟩
   ·replace h:=bF hb8 h
    refine Tr.skip (toN (Tr.rgn (md rfl (Rn.bin trivial rfl rfl rfl (md rfl (Rn.nil ?_))))))
    exact ⟨_,h,(by exact Qj ⟨(sm rfl),(sm rfl),(sm rfl),trivial⟩ trivial rfl)⟩
  ·replace h:=ifF hb5 h
   refine Tr.exit (toN (sr ((md rfl (nt ((Tr.ret ?_)))))))
   replace h:=si h; subst h
   exact ⟨.inr rfl,(b_ false),rfl,fun _ _ _ _ h=>h,trivial,fun k hk=>Qf hk⟩
theorem Qrg {P : Program} {c : Nat} {Qv : Qb → Int → Int → Option Int} {Q9 : (List Int) → Int → Option Bool}
    (H_overseerref03_Step : Qea P 40 Qv)
    (H_overseerref03_has : Qft P 48 Q9) (hcf : Qt P c = some Qgu) (fuel : Nat) : Qgt P c (Qbz Qv Q9 fuel):=by
 intro a1 r h
 refine Qcy hcf rfl fun Γ M hP hnt hM=>?_
 subst hP
 refine Tr.init [(0,(Qa a1))] rfl ?_
 unfold Qbz at h
 unfold Qgu
 refine sr ((Rn.box (v:=(Qa a1)) (cs:=(Qd a1)) trivial rfl rfl rfl rfl rfl (Rn.movTC (v:=.nils 1) trivial (nt ((sr ((Rn.movTC (v:=.nils 1) trivial (Rn.nil (toN ?_))))))))))
 refine Tr.cutB (fun (out5 : List Int)=>⟨look [(1,.ptr (Γ.n0 + 1) 0),(3,.own 1 (List.map (eI .i64) out5))],Qp Γ.n0 (bxs [(1,.cells ((Qd a1)))]) M,Γ.n0 + 50⟩) h (fun z h=>?_) (fun z h=>?_)
 ·refine sr ((Rn.fldP (o':=1) trivial rfl rfl (Rn.load (v:=(i_ a1.States)) trivial rfl (Ql rfl) rfl rfl (Rn.bin trivial rfl rfl rfl (Rn.nil (toN ?_))))))
  refine Tr.cond rfl (fun hb2=>?_) (fun hb2=>?_)
  ·replace h:=ifT hb2 h
   refine Tr.rgn (Rn.movTF (v:=.nils 1) trivial rfl rfl (Rn.bslice (xs:=[(i_ 0)]) (cs:=[(i_ 0)]) trivial rfl rfl rfl rfl ?_))
   refine Rn.weak (by show WeakSt Γ _ ⟨look [(0,(Qa a1)),(1,.ptr (Γ.n0 + 1) 0),(2,.nils 1),(3,.nils 1),(7,.ptr (Γ.n0 + 1) 1),(8,(i_ a1.States)),(9,(b_ (decide (a1.States > 0)))),(10,.own 1 (List.map (eI .i64) [])),(11,.sl 1 (Γ.n0 + 11) 0 1 1)],Qp Γ.n0 (bxs [(1,.cells ((Qd a1))),(11,.cells ([(i_ 0)]))]) M,Γ.n0 + 50⟩; exact Qi [] ⟨(sm rfl),(kPtr rfl),(sm rfl),(sm rfl),(kPtr rfl),(sm rfl),(sm rfl),(WkV.nilsO _),(kSl rfl),trivial⟩ ⟨⟨_,rfl,rfl,(.same rfl)⟩,⟨_,rfl,rfl,(.same rfl)⟩,trivial⟩ rfl) ?_
   obtain ⟨x3,h4,h⟩:=bnd h
   refine Rn.app (e:=(eI .i64)) trivial rfl rfl rfl (Qcb rfl rfl rfl) h4 rfl (Rn.movTO trivial rfl (Rn.nil ?_))
   replace h:=si h; subst h
   exact Qi [11] ⟨(kPtr rfl),(sm rfl),trivial⟩ ⟨⟨_,rfl,rfl,(.same rfl)⟩,trivial⟩ rfl
  ·replace h:=ifF hb2 h
   refine Tr.skip ?_
   replace h:=si h; subst h
   exact Qi [] ⟨(kPtr rfl),(WkV.nilsO _),trivial⟩ ⟨⟨_,rfl,rfl,(.same rfl)⟩,trivial⟩ rfl
 ·obtain ⟨out5,rfl⟩ : ∃ x,x = z:=⟨_,rfl⟩
  refine Tr.cutB (fun (out29 : List Int)=>⟨look [(3,.own 1 (List.map (eI .i64) out29))],Qp Γ.n0 (bxs [(1,.cells ((Qd a1)))]) M,Γ.n0 + 50⟩) h (fun z h=>?_) (fun z h=>?_)
  ·refine sr ((md rfl (nt ((Tr.block ?_)))))
   refine Tr.loop (mk:=fun ((out6,i7) : (List Int) × Int)=>⟨look [(1,.ptr (Γ.n0 + 1) 0),(3,.own 1 (List.map (eI .i64) out6)),(4,(i_ i7))],Qp Γ.n0 (bxs [(1,.cells ((Qd a1)))]) M,Γ.n0 + 50⟩) h (by exact Qj ⟨(kPtr rfl),(sm rfl),(sm rfl),trivial⟩ ⟨⟨_,rfl,rfl,(.same rfl)⟩,trivial⟩ rfl) (fun k8 z h=>?_)
   ·obtain ⟨out6,i7⟩:=z
    replace h : _ = some _:=h
    refine Tr.seq (sr ((md rfl (Rn.mov (v:=(l_ out6)) trivial rfl (Rn.lenD trivial rfl (Rn.bin trivial rfl rfl rfl (Rn.nil (toN ?_))))))))
    refine Tr.cond rfl (fun hb9=>?_) (fun hb9=>?_)
    ·replace h:=ifT hb9 h
     refine Tr.skip (toN ?_)
     refine Tr.cutB (fun (out28 : List Int)=>⟨look [(1,.ptr (Γ.n0 + 1) 0),(3,.own 1 (List.map (eI .i64) out28)),(4,(i_ i7))],Qp Γ.n0 (bxs [(1,.cells ((Qd a1)))]) M,Γ.n0 + 50⟩) h (fun z h=>?_) (fun z h=>?_)
     ·refine Tr.block (sr ((md rfl (nt ((Tr.block ?_))))))
      refine Tr.loop (mk:=fun ((out10,k11) : (List Int) × Int)=>⟨look [(1,.ptr (Γ.n0 + 1) 0),(3,.own 1 (List.map (eI .i64) out10)),(4,(i_ i7)),(5,(i_ k11))],Qp Γ.n0 (bxs [(1,.cells ((Qd a1)))]) M,Γ.n0 + 50⟩) h (by exact Qj ⟨(kPtr rfl),(sm rfl),(sm rfl),(sm rfl),trivial⟩ ⟨⟨_,rfl,rfl,(.same rfl)⟩,trivial⟩ rfl) (fun k12 z h=>?_)
      ·obtain ⟨out10,k11⟩:=z
       replace h : _ = some _:=h
       refine Tr.seq (sr ((md rfl (Rn.fldP (o':=0) trivial rfl rfl (Rn.load (v:=(l_ a1.Alphabet)) trivial rfl (Ql rfl) rfl rfl (Rn.lenD trivial rfl (Rn.bin trivial rfl rfl rfl (Rn.nil (toN ?_)))))))))
       refine Tr.cond rfl (fun hb13=>?_) (fun hb13=>?_)
       ·replace h:=ifT hb13 h
        refine Tr.skip (toN ?_)
        refine Tr.cutB (fun (out27 : List Int)=>⟨look [(1,.ptr (Γ.n0 + 1) 0),(3,.own 1 (List.map (eI .i64) out27)),(4,(i_ i7)),(5,(i_ k11))],Qp Γ.n0 (bxs [(1,.cells ((Qd a1)))]) M,Γ.n0 + 50⟩) h (fun z h=>?_) (fun z h=>?_)
        ·refine Tr.block (Tr.seq ?_)
         refine Tr.rgnD (by decide) ?_
         refine Rn.load (v:=(Qa a1)) trivial rfl (Ql rfl) rfl rfl (Rn.mov (v:=(l_ out10)) trivial rfl (md rfl ?_))
         obtain ⟨x14,h15,h⟩:=bnd h
         refine Rn.idxD (e:=(eI .i64)) trivial rfl rfl h15 (Rn.loadC (x:=.int .i64 x14) trivial rfl (Rn.fldP (o':=0) trivial rfl rfl (Rn.load (v:=(l_ a1.Alphabet)) trivial rfl (Ql rfl) rfl rfl (md rfl ?_))))
         obtain ⟨x16,h17,h⟩:=bnd h
         refine Rn.idxD (e:=(eI .i64)) trivial rfl rfl h17 (Rn.loadC (x:=.int .i64 x16) trivial rfl ?_)
         obtain ⟨x19,h18,h⟩:=bnd h
         refine Rn.call (args:=[(Qa a1),(i_ x14),(i_ x16)]) trivial rfl (H_overseerref03_Step _ _ _ _ h18) pc0 (md rfl ?_)
         refine Rn.nil ⟨rfl,?_⟩
         refine toN ?_
         refine Tr.cutB (fun (x23 : Bool)=>⟨look [(1,.ptr (Γ.n0 + 1) 0),(3,.own 1 (List.map (eI .i64) out10)),(4,(i_ i7)),(5,(i_ k11)),(6,(i_ x19)),(44,(b_ x23))],Qp Γ.n0 (bxs [(1,.cells ((Qd a1)))]) M,Γ.n0 + 50⟩) h (fun z h=>?_) (fun z h=>?_)
         ·refine Tr.rgn (md rfl (Rn.bin trivial rfl rfl rfl (md rfl ?_)))
          refine Qc5 (decide (x19 ≥ 0)) (fun hb20=>?_) (fun hb20=>?_)
          ·replace h:=ifT hb20 h
           refine Rn.mov (v:=(l_ out10)) (gw rfl hb20) rfl (Rn.movD (gw rfl hb20) rfl ?_)
           obtain ⟨x22,h21,h⟩:=bnd h
           refine Rn.call (args:=[(l_ out10),(i_ x19)]) (gw rfl hb20) rfl (H_overseerref03_has _ _ _ h21) pc9 (Rn.un (gw rfl hb20) rfl rfl (Rn.pickT (v:=(b_ (!x22))) trivial rfl hb20 rfl (Rn.nil ?_)))
           replace h:=si h; subst h
           exact Qi [] ⟨(kPtr rfl),(sm rfl),(sm rfl),(sm rfl),(sm rfl),(sm rfl),trivial⟩ ⟨⟨_,rfl,rfl,(.same rfl)⟩,trivial⟩ rfl
          ·replace h:=ifF hb20 h
           refine Rn.sk (nw rfl hb20) (Rn.sk (nw rfl hb20) (Rn.sk (nw rfl hb20) (Rn.sk (nw rfl hb20) (Rn.pickF (v:=(b_ false)) trivial rfl hb20 rfl (Rn.nil ?_)))))
           replace h:=si h; subst h
           exact Qi [] ⟨(kPtr rfl),(sm rfl),(sm rfl),(sm rfl),(sm rfl),(sm rfl),trivial⟩ ⟨⟨_,rfl,rfl,(.same rfl)⟩,trivial⟩ rfl
         ·obtain ⟨x23,rfl⟩ : ∃ x,x = z:=⟨_,rfl⟩
          refine Tr.cond rfl (fun hb24=>?_) (fun hb24=>?_)
          ·replace h:=bT hb24 h
           refine Tr.rgn (Rn.movTO trivial rfl (md rfl (Rn.bslice (xs:=[(i_ x19)]) (cs:=[(i_ x19)]) trivial rfl rfl rfl rfl ?_)))
           obtain ⟨x25,h26,h⟩:=bnd h
           refine Rn.app (e:=(eI .i64)) trivial rfl rfl rfl (Qcb rfl rfl rfl) h26 rfl (Rn.movTO trivial rfl (Rn.nil ?_))
           replace h:=si h; subst h
           exact Qi [47] ⟨(kPtr rfl),(sm rfl),(sm rfl),(sm rfl),trivial⟩ ⟨⟨_,rfl,rfl,(.same rfl)⟩,trivial⟩ rfl
          ·replace h:=bF hb24 h
           refine Tr.skip ?_
           replace h:=si h; subst h
           exact Qi [] ⟨(kPtr rfl),(sm rfl),(sm rfl),(sm rfl),trivial⟩ ⟨⟨_,rfl,rfl,(.same rfl)⟩,trivial⟩ rfl
        ·obtain ⟨out27,rfl⟩ : ∃ x,x = z:=⟨_,rfl⟩
         refine Tr.rgn (md rfl (Rn.bin trivial rfl rfl rfl (md rfl (Rn.nil ?_))))
         exact ⟨_,h,(by exact Qj ⟨(kPtr rfl),(sm rfl),(sm rfl),(sm rfl),trivial⟩ ⟨⟨_,rfl,rfl,(.same rfl)⟩,trivial⟩ rfl)⟩
       ·replace h:=ifF hb13 h
        refine Tr.exit ?_
        replace h:=si h; subst h
        exact Qi [] ⟨(kPtr rfl),(sm rfl),(sm rfl),trivial⟩ ⟨⟨_,rfl,rfl,(.same rfl)⟩,trivial⟩ rfl
     ·obtain ⟨out28,rfl⟩ : ∃ x,x = z:=⟨_,rfl⟩
      refine Tr.rgn (md rfl (Rn.bin trivial rfl rfl rfl (md rfl (Rn.nil ?_))))
      exact ⟨_,h,(by exact Qj ⟨(kPtr rfl),(sm rfl),(sm rfl),trivial⟩ ⟨⟨_,rfl,rfl,(.same rfl)⟩,trivial⟩ rfl)⟩
    ·replace h:=ifF hb9 h
     refine Tr.exit ?_
     replace h:=si h; subst h
     exact Qi [] ⟨(sm rfl),trivial⟩ ⟨⟨_,rfl,rfl,(.same rfl)⟩,trivial⟩ rfl
  ·obtain ⟨out29,rfl⟩ : ∃ x,x = z:=⟨_,rfl⟩
   refine sr ((Rn.movTO trivial rfl (Rn.movTO trivial rfl (nt ((Tr.ret ?_))))))
   replace h:=si h; subst h
   exact ⟨.inr rfl,(.own 1 (List.map (eI .i64) out29)),rfl,fun _ _ _ _ h=>h,trivial,fun k hk=>Qf hk⟩
theorem Qrh {P : Program} {c : Nat} (hcf : Qt P c = some Qgw) (fuel : Nat) : Qgv P c (Qb0 fuel):=by
 intro l1 n2 r h
 refine Qcy hcf rfl fun Γ M hP hnt hM=>?_
 subst hP
 refine Tr.init [(0,(l_ l1)),(1,(i_ n2))] rfl ?_
 unfold Qb0 at h
 unfold Qgw
 refine sr ((md rfl (nt ((Tr.seq (sr ((md rfl (nt ((Tr.block ?_)))))))))))
 refine Tr.loop (mk:=fun (i3 : Int)=>⟨look [(0,(l_ l1)),(1,(i_ n2)),(5,(i_ i3))],Qp Γ.n0 (bxs []) M,Γ.n0 + 19⟩) h (by exact Qj ⟨(sm rfl),(sm rfl),(sm rfl),trivial⟩ trivial rfl) (fun k4 z h=>?_)
 ·obtain ⟨i3,rfl⟩ : ∃ x,x = z:=⟨_,rfl⟩
  replace h : _ = some _:=h
  refine Tr.seq (sr ((md rfl (md rfl (Rn.lenD trivial rfl (Rn.bin trivial rfl rfl rfl (Rn.nil (toN ?_))))))))
  refine Tr.cond rfl (fun hb5=>?_) (fun hb5=>?_)
  ·replace h:=ifT hb5 h
   refine Tr.skip (toN (Tr.seq (Tr.block (sr ((md rfl (md rfl ?_)))))))
   obtain ⟨x6,h7,h⟩:=bnd h
   refine Rn.idxD (e:=(eI .i64)) trivial rfl rfl h7 (Rn.loadC (x:=.int .i64 x6) trivial rfl (md rfl (Rn.bin trivial rfl rfl rfl (Rn.nil (toN ?_)))))
   refine Tr.cond rfl (fun hb8=>?_) (fun hb8=>?_)
   ·replace h:=bT hb8 h
    refine sr ((md rfl (md rfl (nt ((Tr.ret ?_))))))
    replace h:=si h; subst h
    exact ⟨.inr rfl,(i_ i3),rfl,fun _ _ _ _ h=>h,trivial,fun k hk=>Qf hk⟩
   ·replace h:=bF hb8 h
    refine Tr.skip (toN (Tr.rgn (md rfl (Rn.bin trivial rfl rfl rfl (md rfl (Rn.nil ?_))))))
    exact ⟨_,h,(by exact Qj ⟨(sm rfl),(sm rfl),(sm rfl),trivial⟩ trivial rfl)⟩
  ·replace h:=ifF hb5 h
   refine Tr.exit (toN (sr ((md rfl (nt ((Tr.ret ?_)))))))
   replace h:=si h; subst h
   exact ⟨.inr rfl,(i_ (-1)),rfl,fun _ _ _ _ h=>h,trivial,fun k hk=>Qf hk⟩
theorem Qmv {P : Program} {c : Nat} {Q0 : (List Int) → Option Qb} {Qv : Qb → Int → Int → Option Int} {Q9 : (List Int) → Int → Option Bool} {Qbz : Qb → Option ((List Int))} {Qb0 : (List Int) → Int → Option Int}
    (H_overseerref03_Empty : Qey P 28 Q0)
    (H_overseerref03_Step : Qea P 40 Qv)
    (H_overseerref03_has : Qft P 48 Q9)
    (H_overseerref03_Found : Qgt P 51 Qbz)
    (H_overseerref03_index : Qgv P 52 Qb0) (hcf : Qt P c = some Qe8) (fuel : Nat) : Qe7 P c (Qbf Q0 Qv Q9 Qbz Qb0 fuel):=by
 intro a1 r h
 refine Qcy hcf rfl fun Γ M hP hnt hM=>?_
 subst hP
 refine Tr.init [(0,(Qa a1))] rfl ?_
 unfold Qbf at h
 unfold Qe8
 refine sr ((Rn.box (v:=(Qa a1)) (cs:=(Qd a1)) trivial rfl rfl rfl rfl rfl (Rn.alloc trivial rfl (nt ((sr ((Rn.load (v:=(Qa a1)) trivial rfl (Ql rfl) rfl rfl ?_))))))))
 obtain ⟨x3,h2,h⟩:=bnd h
 refine Rn.call (args:=[(Qa a1)]) trivial rfl (H_overseerref03_Found _ _ h2) pc9 (Rn.movTO trivial rfl (nt ((sr ((Rn.fldP (o':=0) trivial rfl rfl (Rn.load (v:=(l_ a1.Alphabet)) trivial rfl (Ql rfl) rfl rfl ?_)))))))
 obtain ⟨x5,h4,h⟩:=bnd h
 refine Rn.call (args:=[(l_ a1.Alphabet)]) trivial rfl (H_overseerref03_Empty _ _ h4) pc9 (Rn.alloc trivial rfl (Rn.storeT (v:=.agg [(l_ x5.Alphabet),(i_ x5.States),.nils 1,.nils 3]) (ds:=[(l_ x5.Alphabet),(i_ x5.States),.nils 1,.nils 3]) (cs':=[(l_ x5.Alphabet),(i_ x5.States),.nils 1,.nils 3]) trivial rfl rfl rfl rfl rfl rfl rfl (nt ((sr ((Rn.mov (v:=(l_ x3)) trivial rfl (Rn.lenD trivial rfl (Rn.fldP (o':=1) trivial rfl rfl (Rn.store (v:=(i_ (x3.length : Int))) (cs':=[(l_ x5.Alphabet),(i_ (x3.length : Int)),.nils 1,.nils 3]) trivial rfl rfl rfl rfl rfl rfl (Rn.nil (toN ?_))))))))))))
 refine Tr.cutB (fun ((c42,c43,c44,out45,out46) : (List Int) × (List Int) × (List Qe) × (List Int) × (List Qe))=>⟨look [(2,.ptr (Γ.n0 + 2) 0),(4,.ptr (Γ.n0 + 4) 0)],Qp Γ.n0 (bxs [(1,.cells ((Qd a1))),(2,.cells ([.own 1 (List.map (eI .i64) c42),(i_ 0),.own 1 (List.map (eI .i64) c43),.own 3 (List.map Qc c44)])),(4,.cells ([(l_ x5.Alphabet),(i_ (x3.length : Int)),.own 1 (List.map (eI .i64) out45),.own 3 (List.map Qc out46)]))]) M,Γ.n0 + 71⟩) h (fun z h=>?_) (fun z h=>?_)
 ·refine sr ((md rfl (nt ((Tr.block ?_)))))
  refine Tr.loop (mk:=fun ((i6,c7,c8,c9,out10,out11) : Int × (List Int) × (List Int) × (List Qe) × (List Int) × (List Qe))=>⟨look [(1,.ptr (Γ.n0 + 1) 0),(2,.ptr (Γ.n0 + 2) 0),(3,.own 1 (List.map (eI .i64) x3)),(4,.ptr (Γ.n0 + 4) 0),(5,(i_ i6))],Qp Γ.n0 (bxs [(1,.cells ((Qd a1))),(2,.cells ([.own 1 (List.map (eI .i64) c7),(i_ 0),.own 1 (List.map (eI .i64) c8),.own 3 (List.map Qc c9)])),(4,.cells ([(l_ x5.Alphabet),(i_ (x3.length : Int)),.own 1 (List.map (eI .i64) out10),.own 3 (List.map Qc out11)]))]) M,Γ.n0 + 71⟩) h (by exact Qj ⟨(kPtr rfl),(kPtr rfl),(sm rfl),(kPtr rfl),(sm rfl),trivial⟩ ⟨⟨_,rfl,rfl,(.same rfl)⟩,⟨_,rfl,rfl,(.cons (WkV.nilsO _) (.cons (sm rfl) (.cons (WkV.nilsO _) (.cons (WkV.nilsO _) .nil))))⟩,⟨_,rfl,rfl,(.cons (sm rfl) (.cons (sm rfl) (.cons (WkV.nilsO _) (.cons (WkV.nilsO _) .nil))))⟩,trivial⟩ rfl) (fun k12 z h=>?_)
  ·obtain ⟨i6,c7,c8,c9,out10,out11⟩:=z
   replace h : _ = some _:=h
   refine Tr.seq (sr ((md rfl (Rn.mov (v:=(l_ x3)) trivial rfl (Rn.lenD trivial rfl (Rn.bin trivial rfl rfl rfl (Rn.nil (toN ?_))))))))
   refine Tr.cond rfl (fun hb13=>?_) (fun hb13=>?_)
   ·replace h:=ifT hb13 h
    refine Tr.skip (toN ?_)
    refine Tr.cutB (fun ((out40,out41) : (List Int) × (List Qe))=>⟨look [(1,.ptr (Γ.n0 + 1) 0),(2,.ptr (Γ.n0 + 2) 0),(3,.own 1 (List.map (eI .i64) x3)),(4,.ptr (Γ.n0 + 4) 0),(5,(i_ i6))],Qp Γ.n0 (bxs [(1,.cells ((Qd a1))),(2,.cells ([.own 1 (List.map (eI .i64) c7),(i_ 0),.own 1 (List.map (eI .i64) c8),.own 3 (List.map Qc c9)])),(4,.cells ([(l_ x5.Alphabet),(i_ (x3.length : Int)),.own 1 (List.map (eI .i64) out40),.own 3 (List.map Qc out41)]))]) M,Γ.n0 + 71⟩) h (fun z h=>?_) (fun z h=>?_)
    ·refine Tr.block ?_
     refine Tr.cutB (fun (out21 : List Int)=>⟨look [(1,.ptr (Γ.n0 + 1) 0),(2,.ptr (Γ.n0 + 2) 0),(3,.own 1 (List.map (eI .i64) x3)),(4,.ptr (Γ.n0 + 4) 0),(5,(i_ i6))],Qp Γ.n0 (bxs [(1,.cells ((Qd a1))),(2,.cells ([.own 1 (List.map (eI .i64) c7),(i_ 0),.own 1 (List.map (eI .i64) c8),.own 3 (List.map Qc c9)])),(4,.cells ([(l_ x5.Alphabet),(i_ (x3.length : Int)),.own 1 (List.map (eI .i64) out21),.own 3 (List.map Qc out11)]))]) M,Γ.n0 + 71⟩) h (fun z h=>?_) (fun z h=>?_)
     ·refine Tr.seq ?_
      refine Tr.rgnD (by decide) ?_
      refine Rn.fldP (o':=2) trivial rfl rfl (Rn.load (v:=(l_ a1.Marked)) trivial rfl (Ql rfl) rfl rfl (Rn.mov (v:=(l_ x3)) trivial rfl (md rfl ?_)))
      obtain ⟨x14,h15,h⟩:=bnd h
      refine Rn.idxD (e:=(eI .i64)) trivial rfl rfl h15 (Rn.loadC (x:=.int .i64 x14) trivial rfl ?_)
      obtain ⟨x17,h16,h⟩:=bnd h
      refine Rn.call (args:=[(l_ a1.Marked),(i_ x14)]) trivial rfl (H_overseerref03_has _ _ _ h16) pc0 ?_
      refine Rn.nil ⟨rfl,?_⟩
      refine toN ?_
      refine Tr.cond rfl (fun hb18=>?_) (fun hb18=>?_)
      ·replace h:=bT hb18 h
       refine Tr.rgn (Rn.fldP (o':=2) trivial rfl rfl (Rn.loadT (cs':=[(l_ x5.Alphabet),(i_ (x3.length : Int)),(l_ out10),.own 3 (List.map Qc out11)]) trivial rfl rfl rfl rfl (md rfl (Rn.bslice (xs:=[(i_ i6)]) (cs:=[(i_ i6)]) trivial rfl rfl rfl rfl ?_))))
       obtain ⟨x19,h20,h⟩:=bnd h
       refine Rn.app (e:=(eI .i64)) trivial rfl rfl rfl (Qcb rfl rfl rfl) h20 rfl (Rn.fldP (o':=2) trivial rfl rfl (Rn.storeO (cs':=[(l_ x5.Alphabet),(i_ (x3.length : Int)),.own 1 (List.map (eI .i64) x19),.own 3 (List.map Qc out11)]) trivial rfl rfl rfl rfl rfl (Rn.nil ?_)))
       replace h:=si h; subst h
       exact Qi [32] ⟨(kPtr rfl),(kPtr rfl),(sm rfl),(kPtr rfl),(sm rfl),trivial⟩ ⟨⟨_,rfl,rfl,(.same rfl)⟩,⟨_,rfl,rfl,(.same rfl)⟩,⟨_,rfl,rfl,(.same rfl)⟩,trivial⟩ rfl
      ·replace h:=bF hb18 h
       refine Tr.skip ?_
       replace h:=si h; subst h
       exact Qi [] ⟨(kPtr rfl),(kPtr rfl),(sm rfl),(kPtr rfl),(sm rfl),trivial⟩ ⟨⟨_,rfl,rfl,(.same rfl)⟩,⟨_,rfl,rfl,(.same rfl)⟩,⟨_,rfl,rfl,(.same rfl)⟩,trivial⟩ rfl
     ·obtain ⟨out21,rfl⟩ : ∃ x,x = z:=⟨_,rfl⟩
      refine sr ((md rfl (nt ((Tr.block ?_)))))
      refine Tr.loop (mk:=fun ((k22,out23) : Int × (List Qe))=>⟨look [(1,.ptr (Γ.n0 + 1) 0),(2,.ptr (Γ.n0 + 2) 0),(3,.own 1 (List.map (eI .i64) x3)),(4,.ptr (Γ.n0 + 4) 0),(5,(i_ i6)),(6,(i_ k22))],Qp Γ.n0 (bxs [(1,.cells ((Qd a1))),(2,.cells ([.own 1 (List.map (eI .i64) c7),(i_ 0),.own 1 (List.map (eI .i64) c8),.own 3 (List.map Qc c9)])),(4,.cells ([(l_ x5.Alphabet),(i_ (x3.length : Int)),.own 1 (List.map (eI .i64) out21),.own 3 (List.map Qc out23)]))]) M,Γ.n0 + 71⟩) h (by exact Qj ⟨(kPtr rfl),(kPtr rfl),(sm rfl),(kPtr rfl),(sm rfl),(sm rfl),trivial⟩ ⟨⟨_,rfl,rfl,(.same rfl)⟩,⟨_,rfl,rfl,(.same rfl)⟩,⟨_,rfl,rfl,(.same rfl)⟩,trivial⟩ rfl) (fun k24 z h=>?_)
      ·obtain ⟨k22,out23⟩:=z
       replace h : _ = some _:=h
       refine Tr.seq (sr ((md rfl (Rn.fldP (o':=0) trivial rfl rfl (Rn.load (v:=(l_ a1.Alphabet)) trivial rfl (Ql rfl) rfl rfl (Rn.lenD trivial rfl (Rn.bin trivial rfl rfl rfl (Rn.nil (toN ?_)))))))))
       refine Tr.cond rfl (fun hb25=>?_) (fun hb25=>?_)
       ·replace h:=ifT hb25 h
        refine Tr.skip (toN ?_)
        refine Tr.cutB (fun (out39 : List Qe)=>⟨look [(1,.ptr (Γ.n0 + 1) 0),(2,.ptr (Γ.n0 + 2) 0),(3,.own 1 (List.map (eI .i64) x3)),(4,.ptr (Γ.n0 + 4) 0),(5,(i_ i6)),(6,(i_ k22))],Qp Γ.n0 (bxs [(1,.cells ((Qd a1))),(2,.cells ([.own 1 (List.map (eI .i64) c7),(i_ 0),.own 1 (List.map (eI .i64) c8),.own 3 (List.map Qc c9)])),(4,.cells ([(l_ x5.Alphabet),(i_ (x3.length : Int)),.own 1 (List.map (eI .i64) out21),.own 3 (List.map Qc out39)]))]) M,Γ.n0 + 71⟩) h (fun z h=>?_) (fun z h=>?_)
        ·refine Tr.block (Tr.seq ?_)
         refine Tr.rgnD (by decide) ?_
         refine Rn.load (v:=(Qa a1)) trivial rfl (Ql rfl) rfl rfl (Rn.mov (v:=(l_ x3)) trivial rfl (md rfl ?_))
         obtain ⟨x26,h27,h⟩:=bnd h
         refine Rn.idxD (e:=(eI .i64)) trivial rfl rfl h27 (Rn.loadC (x:=.int .i64 x26) trivial rfl (Rn.fldP (o':=0) trivial rfl rfl (Rn.load (v:=(l_ a1.Alphabet)) trivial rfl (Ql rfl) rfl rfl (md rfl ?_))))
         obtain ⟨x28,h29,h⟩:=bnd h
         refine Rn.idxD (e:=(eI .i64)) trivial rfl rfl h29 (Rn.loadC (x:=.int .i64 x28) trivial rfl ?_)
         obtain ⟨x31,h30,h⟩:=bnd h
         refine Rn.call (args:=[(Qa a1),(i_ x26),(i_ x28)]) trivial rfl (H_overseerref03_Step _ _ _ _ h30) pc0 (md rfl ?_)
         refine Rn.nil ⟨rfl,?_⟩
         refine toN (sr ((md rfl (Rn.bin trivial rfl rfl rfl (Rn.nil (toN ?_))))))
         refine Tr.cond rfl (fun hb32=>?_) (fun hb32=>?_)
         ·replace h:=ifT hb32 h
          refine Tr.rgnD (by decide) ?_
          refine Rn.fldP (o':=3) trivial rfl rfl (Rn.loadT (cs':=[(l_ x5.Alphabet),(i_ (x3.length : Int)),.own 1 (List.map (eI .i64) out21),.d (.lst 3 (List.map Qc out23))]) trivial rfl rfl rfl rfl (md rfl (Rn.fldP (o':=0) trivial rfl rfl (Rn.load (v:=(l_ a1.Alphabet)) trivial rfl (Ql rfl) rfl rfl (md rfl ?_)))))
          obtain ⟨x33,h34,h⟩:=bnd h
          refine Rn.idxD (e:=(eI .i64)) trivial rfl rfl h34 (Rn.loadC (x:=.int .i64 x33) trivial rfl (Rn.mov (v:=(l_ x3)) trivial rfl (md rfl ?_)))
          obtain ⟨x36,h35,h⟩:=bnd h
          refine Rn.call (args:=[(l_ x3),(i_ x31)]) trivial rfl (H_overseerref03_index _ _ _ h35) pc2 (Rn.build (v:=.agg [(i_ i6),(i_ x33),(i_ x36)]) trivial rfl (Rn.bslice (xs:=[.agg [(i_ i6),(i_ x33),(i_ x36)]]) (cs:=[(i_ i6),(i_ x33),(i_ x36)]) trivial rfl rfl rfl rfl ?_))
          obtain ⟨x37,h38,h⟩:=bnd h
          refine Rn.app (e:=Qc) trivial rfl rfl rfl (Qcb rfl rfl rfl) h38 rfl (Rn.fldP (o':=3) trivial rfl rfl (Rn.storeO (cs':=[(l_ x5.Alphabet),(i_ (x3.length : Int)),.own 1 (List.map (eI .i64) out21),.own 3 (List.map Qc x37)]) trivial rfl rfl rfl rfl rfl ?_))
          refine Rn.nil ⟨rfl,?_⟩
          replace h:=si h; subst h
          exact Qi [67] ⟨(kPtr rfl),(kPtr rfl),(sm rfl),(kPtr rfl),(sm rfl),(sm rfl),trivial⟩ ⟨⟨_,rfl,rfl,(.same rfl)⟩,⟨_,rfl,rfl,(.same rfl)⟩,⟨_,rfl,rfl,(.same rfl)⟩,trivial⟩ rfl
         ·replace h:=ifF hb32 h
          refine Tr.skip ?_
          replace h:=si h; subst h
          exact Qi [] ⟨(kPtr rfl),(kPtr rfl),(sm rfl),(kPtr rfl),(sm rfl),(sm rfl),trivial⟩ ⟨⟨_,rfl,rfl,(.same rfl)⟩,⟨_,rfl,rfl,(.same rfl)⟩,⟨_,rfl,rfl,(.same rfl)⟩,trivial⟩ rfl
        ·obtain ⟨out39,rfl⟩ : ∃ x,x = z:=⟨_,rfl⟩
         refine Tr.rgn (md rfl (Rn.bin trivial rfl rfl rfl (md rfl (Rn.nil ?_))))
         exact ⟨_,h,(by exact Qj ⟨(kPtr rfl),(kPtr rfl),(sm rfl),(kPtr rfl),(sm rfl),(sm rfl),trivial⟩ ⟨⟨_,rfl,rfl,(.same rfl)⟩,⟨_,rfl,rfl,(.same rfl)⟩,⟨_,rfl,rfl,(.same rfl)⟩,trivial⟩ rfl)⟩
       ·replace h:=ifF hb25 h
        refine Tr.exit ?_
        replace h:=si h; subst h
        exact Qi [] ⟨(kPtr rfl),(kPtr rfl),(sm rfl),(kPtr rfl),(sm rfl),trivial⟩ ⟨⟨_,rfl,rfl,(.same rfl)⟩,⟨_,rfl,rfl,(.same rfl)⟩,⟨_,rfl,rfl,(.same rfl)⟩,trivial⟩ rfl
    ·obtain ⟨out40,out41⟩:=z
     refine Tr.rgn (md rfl (Rn.bin trivial rfl rfl rfl (md rfl (Rn.nil ?_))))
     exact ⟨_,h,(by exact Qj ⟨(kPtr rfl),(kPtr rfl),(sm rfl),(kPtr rfl),(sm rfl),trivial⟩ ⟨⟨_,rfl,rfl,(.same rfl)⟩,⟨_,rfl,rfl,(.same rfl)⟩,⟨_,rfl,rfl,(.same rfl)⟩,trivial⟩ rfl)⟩
   ·replace h:=ifF hb13 h
    refine Tr.exit ?_
    replace h:=si h; subst h
    exact Qi [] ⟨(kPtr rfl),(kPtr rfl),trivial⟩ ⟨⟨_,rfl,rfl,(.same rfl)⟩,⟨_,rfl,rfl,(.same rfl)⟩,⟨_,rfl,rfl,(.same rfl)⟩,trivial⟩ rfl
 ·obtain ⟨c42,c43,c44,out45,out46⟩:=z
  refine sr ((Rn.load (v:=.agg [(l_ x5.Alphabet),(i_ (x3.length : Int)),(l_ out45),.d (.lst 3 (List.map Qc out46))]) trivial rfl (Ql rfl) rfl rfl (Rn.storeT (v:=.agg [(l_ x5.Alphabet),(i_ (x3.length : Int)),(l_ out45),.d (.lst 3 (List.map Qc out46))]) (ds:=[(l_ x5.Alphabet),(i_ (x3.length : Int)),(l_ out45),.d (.lst 3 (List.map Qc out46))]) (cs':=[(l_ x5.Alphabet),(i_ (x3.length : Int)),(l_ out45),.d (.lst 3 (List.map Qc out46))]) trivial rfl rfl rfl rfl rfl rfl rfl (nt ((Tr.ret ?_))))))
  replace h:=si h; subst h
  exact ⟨.inr rfl,(.agg [(l_ x5.Alphabet),(i_ (x3.length : Int)),(l_ out45),.d (.lst 3 (List.map Qc out46))]),Qg8 rfl rfl rfl rfl,fun _ _ _ _ h=>h,⟨trivial,trivial,trivial,trivial,trivial⟩,fun k hk=>Qf hk⟩
theorem Qu7 {P : Program} {c : Nat} {Q0 : (List Int) → Option Qb} {Qbf : Qb → Option Qb}
    (H_overseerref03_Empty : Qey P 28 Q0)
    (H_overseerref03_Canonical : Qe7 P 29 Qbf) (hcf : Qt P c = some Qhk) (fuel : Nat) : Qhj P c (Qb3 Q0 Qbf fuel):=by
 intro alphabet1 g2 r h
 refine Qcy hcf rfl fun Γ M hP hnt hM=>?_
 subst hP
 refine Tr.init [(0,(l_ alphabet1)),(1,.agg [.d (.int .u8 g2.States),.d (.int .u8 g2.Marks),.d (.int .u8 g2.To.1.1),.d (.int .u8 g2.To.1.2.1),.d (.int .u8 g2.To.1.2.2.1),.d (.int .u8 g2.To.1.2.2.2.1),.d (.int .u8 g2.To.1.2.2.2.2),.d (.int .u8 g2.To.2.1.1),.d (.int .u8 g2.To.2.1.2.1),.d (.int .u8 g2.To.2.1.2.2.1),.d (.int .u8 g2.To.2.1.2.2.2.1),.d (.int .u8 g2.To.2.1.2.2.2.2),.d (.int .u8 g2.To.2.2.1.1),.d (.int .u8 g2.To.2.2.1.2.1),.d (.int .u8 g2.To.2.2.1.2.2.1),.d (.int .u8 g2.To.2.2.1.2.2.2.1),.d (.int .u8 g2.To.2.2.1.2.2.2.2),.d (.int .u8 g2.To.2.2.2.1.1),.d (.int .u8 g2.To.2.2.2.1.2.1),.d (.int .u8 g2.To.2.2.2.1.2.2.1),.d (.int .u8 g2.To.2.2.2.1.2.2.2.1),.d (.int .u8 g2.To.2.2.2.1.2.2.2.2),.d (.int .u8 g2.To.2.2.2.2.1),.d (.int .u8 g2.To.2.2.2.2.2.1),.d (.int .u8 g2.To.2.2.2.2.2.2.1),.d (.int .u8 g2.To.2.2.2.2.2.2.2.1),.d (.int .u8 g2.To.2.2.2.2.2.2.2.2)])] rfl ?_
 unfold Qb3 at h
 unfold Qhk
 refine sr ((Rn.box (v:=.agg [.d (.int .u8 g2.States),.d (.int .u8 g2.Marks),.d (.int .u8 g2.To.1.1),.d (.int .u8 g2.To.1.2.1),.d (.int .u8 g2.To.1.2.2.1),.d (.int .u8 g2.To.1.2.2.2.1),.d (.int .u8 g2.To.1.2.2.2.2),.d (.int .u8 g2.To.2.1.1),.d (.int .u8 g2.To.2.1.2.1),.d (.int .u8 g2.To.2.1.2.2.1),.d (.int .u8 g2.To.2.1.2.2.2.1),.d (.int .u8 g2.To.2.1.2.2.2.2),.d (.int .u8 g2.To.2.2.1.1),.d (.int .u8 g2.To.2.2.1.2.1),.d (.int .u8 g2.To.2.2.1.2.2.1),.d (.int .u8 g2.To.2.2.1.2.2.2.1),.d (.int .u8 g2.To.2.2.1.2.2.2.2),.d (.int .u8 g2.To.2.2.2.1.1),.d (.int .u8 g2.To.2.2.2.1.2.1),.d (.int .u8 g2.To.2.2.2.1.2.2.1),.d (.int .u8 g2.To.2.2.2.1.2.2.2.1),.d (.int .u8 g2.To.2.2.2.1.2.2.2.2),.d (.int .u8 g2.To.2.2.2.2.1),.d (.int .u8 g2.To.2.2.2.2.2.1),.d (.int .u8 g2.To.2.2.2.2.2.2.1),.d (.int .u8 g2.To.2.2.2.2.2.2.2.1),.d (.int .u8 g2.To.2.2.2.2.2.2.2.2)]) (cs:=[.d (.int .u8 g2.States),.d (.int .u8 g2.Marks),.d (.int .u8 g2.To.1.1),.d (.int .u8 g2.To.1.2.1),.d (.int .u8 g2.To.1.2.2.1),.d (.int .u8 g2.To.1.2.2.2.1),.d (.int .u8 g2.To.1.2.2.2.2),.d (.int .u8 g2.To.2.1.1),.d (.int .u8 g2.To.2.1.2.1),.d (.int .u8 g2.To.2.1.2.2.1),.d (.int .u8 g2.To.2.1.2.2.2.1),.d (.int .u8 g2.To.2.1.2.2.2.2),.d (.int .u8 g2.To.2.2.1.1),.d (.int .u8 g2.To.2.2.1.2.1),.d (.int .u8 g2.To.2.2.1.2.2.1),.d (.int .u8 g2.To.2.2.1.2.2.2.1),.d (.int .u8 g2.To.2.2.1.2.2.2.2),.d (.int .u8 g2.To.2.2.2.1.1),.d (.int .u8 g2.To.2.2.2.1.2.1),.d (.int .u8 g2.To.2.2.2.1.2.2.1),.d (.int .u8 g2.To.2.2.2.1.2.2.2.1),.d (.int .u8 g2.To.2.2.2.1.2.2.2.2),.d (.int .u8 g2.To.2.2.2.2.1),.d (.int .u8 g2.To.2.2.2.2.2.1),.d (.int .u8 g2.To.2.2.2.2.2.2.1),.d (.int .u8 g2.To.2.2.2.2.2.2.2.1),.d (.int .u8 g2.To.2.2.2.2.2.2.2.2)]) trivial rfl rfl rfl rfl rfl (Rn.alloc trivial rfl (nt ((Tr.seq (sr ((Rn.fldP (o':=0) trivial rfl rfl (Rn.load (v:=.d (.int .u8 g2.States)) trivial rfl (Ql rfl) rfl rfl (Rn.bin trivial rfl rfl rfl (Rn.nil (toN ?_)))))))))))))
 refine Tr.cond rfl (fun hb3=>?_) (fun hb3=>?_)
 ·replace h:=ifT hb3 h
  refine sr ((md rfl ?_))
  obtain ⟨x5,h4,h⟩:=bnd h
  refine Rn.call (args:=[(l_ alphabet1)]) trivial rfl (H_overseerref03_Empty _ _ h4) pc9 (Rn.storeT (v:=.agg [(l_ x5.Alphabet),(i_ x5.States),.nils 1,.nils 3]) (ds:=[(l_ x5.Alphabet),(i_ x5.States),.nils 1,.nils 3]) (cs':=[(l_ x5.Alphabet),(i_ x5.States),.nils 1,.nils 3]) trivial rfl rfl rfl rfl rfl rfl rfl (nt ((Tr.ret ?_))))
  replace h:=si h; subst h
  exact ⟨.inr rfl,(.agg [(l_ x5.Alphabet),(i_ x5.States),.nils 1,.nils 3]),Qg8 rfl rfl rfl rfl,(WkV.agg (.cons (.same rfl) (.cons (.same rfl) (.cons (WkV.nilsD _) (.cons (WkV.nilsD _) .nil))))).rd,⟨trivial,trivial,trivial,trivial,trivial⟩,fun k hk=>Qf hk⟩
 ·replace h:=ifF hb3 h
  refine Tr.skip (toN (sr ((md rfl ?_))))
  obtain ⟨x7,h6,h⟩:=bnd h
  refine Rn.call (args:=[(l_ alphabet1)]) trivial rfl (H_overseerref03_Empty _ _ h6) pc9 (Rn.alloc trivial rfl (Rn.storeT (v:=.agg [(l_ x7.Alphabet),(i_ x7.States),.nils 1,.nils 3]) (ds:=[(l_ x7.Alphabet),(i_ x7.States),.nils 1,.nils 3]) (cs':=[(l_ x7.Alphabet),(i_ x7.States),.nils 1,.nils 3]) trivial rfl rfl rfl rfl rfl rfl rfl (nt ((sr ((Rn.fldP (o':=0) trivial rfl rfl (Rn.load (v:=.d (.int .u8 g2.States)) trivial rfl (Ql rfl) rfl rfl (Rn.bin trivial rfl rfl rfl (Rn.conv trivial rfl (Rn.bin trivial rfl rfl rfl (Rn.fldP (o':=1) trivial rfl rfl (Rn.store (v:=(i_ (IntKind.wrap .i64 (1 + (IntKind.wrap .i64 (Int.tmod g2.States 5)))))) (cs':=[(l_ x7.Alphabet),(i_ (IntKind.wrap .i64 (1 + (IntKind.wrap .i64 (Int.tmod g2.States 5))))),.nils 1,.nils 3]) trivial rfl rfl rfl rfl rfl rfl (Rn.nil (toN ?_)))))))))))))))
  refine Tr.cutB (fun ((c43,c44,c45,a46,a47,a48) : (List Int) × (List Int) × (List Qe) × Int × (List Int) × (List Qe))=>⟨look [(4,.ptr (Γ.n0 + 4) 0),(5,.ptr (Γ.n0 + 5) 0)],Qp Γ.n0 (bxs [(3,.cells ([.d (.int .u8 g2.States),.d (.int .u8 g2.Marks),.d (.int .u8 g2.To.1.1),.d (.int .u8 g2.To.1.2.1),.d (.int .u8 g2.To.1.2.2.1),.d (.int .u8 g2.To.1.2.2.2.1),.d (.int .u8 g2.To.1.2.2.2.2),.d (.int .u8 g2.To.2.1.1),.d (.int .u8 g2.To.2.1.2.1),.d (.int .u8 g2.To.2.1.2.2.1),.d (.int .u8 g2.To.2.1.2.2.2.1),.d (.int .u8 g2.To.2.1.2.2.2.2),.d (.int .u8 g2.To.2.2.1.1),.d (.int .u8 g2.To.2.2.1.2.1),.d (.int .u8 g2.To.2.2.1.2.2.1),.d (.int .u8 g2.To.2.2.1.2.2.2.1),.d (.int .u8 g2.To.2.2.1.2.2.2.2),.d (.int .u8 g2.To.2.2.2.1.1),.d (.int .u8 g2.To.2.2.2.1.2.1),.d (.int .u8 g2.To.2.2.2.1.2.2.1),.d (.int .u8 g2.To.2.2.2.1.2.2.2.1),.d (.int .u8 g2.To.2.2.2.1.2.2.2.2),.d (.int .u8 g2.To.2.2.2.2.1),.d (.int .u8 g2.To.2.2.2.2.2.1),.d (.int .u8 g2.To.2.2.2.2.2.2.1),.d (.int .u8 g2.To.2.2.2.2.2.2.2.1),.d (.int .u8 g2.To.2.2.2.2.2.2.2.2)])),(4,.cells ([.own 1 (List.map (eI .i64) c43),(i_ 0),.own 1 (List.map (eI .i64) c44),.own 3 (List.map Qc c45)])),(5,.cells ([(l_ x7.Alphabet),(i_ a46),.own 1 (List.map (eI .i64) a47),.own 3 (List.map Qc a48)]))]) M,Γ.n0 + 79⟩) h (fun z h=>?_) (fun z h=>?_)
  ·refine sr ((md rfl (nt ((Tr.block ?_)))))
   refine Tr.loop (mk:=fun ((i8,c9,c10,c11,a12,a13,a14) : Int × (List Int) × (List Int) × (List Qe) × Int × (List Int) × (List Qe))=>⟨look [(0,(l_ alphabet1)),(3,.ptr (Γ.n0 + 3) 0),(4,.ptr (Γ.n0 + 4) 0),(5,.ptr (Γ.n0 + 5) 0),(6,(i_ i8))],Qp Γ.n0 (bxs [(3,.cells ([.d (.int .u8 g2.States),.d (.int .u8 g2.Marks),.d (.int .u8 g2.To.1.1),.d (.int .u8 g2.To.1.2.1),.d (.int .u8 g2.To.1.2.2.1),.d (.int .u8 g2.To.1.2.2.2.1),.d (.int .u8 g2.To.1.2.2.2.2),.d (.int .u8 g2.To.2.1.1),.d (.int .u8 g2.To.2.1.2.1),.d (.int .u8 g2.To.2.1.2.2.1),.d (.int .u8 g2.To.2.1.2.2.2.1),.d (.int .u8 g2.To.2.1.2.2.2.2),.d (.int .u8 g2.To.2.2.1.1),.d (.int .u8 g2.To.2.2.1.2.1),.d (.int .u8 g2.To.2.2.1.2.2.1),.d (.int .u8 g2.To.2.2.1.2.2.2.1),.d (.int .u8 g2.To.2.2.1.2.2.2.2),.d (.int .u8 g2.To.2.2.2.1.1),.d (.int .u8 g2.To.2.2.2.1.2.1),.d (.int .u8 g2.To.2.2.2.1.2.2.1),.d (.int .u8 g2.To.2.2.2.1.2.2.2.1),.d (.int .u8 g2.To.2.2.2.1.2.2.2.2),.d (.int .u8 g2.To.2.2.2.2.1),.d (.int .u8 g2.To.2.2.2.2.2.1),.d (.int .u8 g2.To.2.2.2.2.2.2.1),.d (.int .u8 g2.To.2.2.2.2.2.2.2.1),.d (.int .u8 g2.To.2.2.2.2.2.2.2.2)])),(4,.cells ([.own 1 (List.map (eI .i64) c9),(i_ 0),.own 1 (List.map (eI .i64) c10),.own 3 (List.map Qc c11)])),(5,.cells ([(l_ x7.Alphabet),(i_ a12),.own 1 (List.map (eI .i64) a13),.own 3 (List.map Qc a14)]))]) M,Γ.n0 + 79⟩) h (by exact Qj ⟨(sm rfl),(kPtr rfl),(kPtr rfl),(kPtr rfl),(sm rfl),trivial⟩ ⟨⟨_,rfl,rfl,(.same rfl)⟩,⟨_,rfl,rfl,(.cons (WkV.nilsO _) (.cons (sm rfl) (.cons (WkV.nilsO _) (.cons (WkV.nilsO _) .nil))))⟩,⟨_,rfl,rfl,(.cons (sm rfl) (.cons (sm rfl) (.cons (WkV.nilsO _) (.cons (WkV.nilsO _) .nil))))⟩,trivial⟩ rfl) (fun k15 z h=>?_)
   ·obtain ⟨i8,c9,c10,c11,a12,a13,a14⟩:=z
    replace h : _ = some _:=h
    refine Tr.seq (sr ((md rfl (Rn.fldP (o':=1) trivial rfl rfl (Rn.load (v:=(i_ a12)) trivial rfl (Ql rfl) rfl rfl (Rn.bin trivial rfl rfl rfl (Rn.nil (toN ?_))))))))
    refine Tr.cond rfl (fun hb16=>?_) (fun hb16=>?_)
    ·replace h:=ifT hb16 h
     refine Tr.skip (toN ?_)
     refine Tr.cutB (fun ((a41,a42) : (List Int) × (List Qe))=>⟨look [(0,(l_ alphabet1)),(3,.ptr (Γ.n0 + 3) 0),(4,.ptr (Γ.n0 + 4) 0),(5,.ptr (Γ.n0 + 5) 0),(6,(i_ i8))],Qp Γ.n0 (bxs [(3,.cells ([.d (.int .u8 g2.States),.d (.int .u8 g2.Marks),.d (.int .u8 g2.To.1.1),.d (.int .u8 g2.To.1.2.1),.d (.int .u8 g2.To.1.2.2.1),.d (.int .u8 g2.To.1.2.2.2.1),.d (.int .u8 g2.To.1.2.2.2.2),.d (.int .u8 g2.To.2.1.1),.d (.int .u8 g2.To.2.1.2.1),.d (.int .u8 g2.To.2.1.2.2.1),.d (.int .u8 g2.To.2.1.2.2.2.1),.d (.int .u8 g2.To.2.1.2.2.2.2),.d (.int .u8 g2.To.2.2.1.1),.d (.int .u8 g2.To.2.2.1.2.1),.d (.int .u8 g2.To.2.2.1.2.2.1),.d (.int .u8 g2.To.2.2.1.2.2.2.1),.d (.int .u8 g2.To.2.2.1.2.2.2.2),.d (.int .u8 g2.To.2.2.2.1.1),.d (.int .u8 g2.To.2.2.2.1.2.1),.d (.int .u8 g2.To.2.2.2.1.2.2.1),.d (.int .u8 g2.To.2.2.2.1.2.2.2.1),.d (.int .u8 g2.To.2.2.2.1.2.2.2.2),.d (.int .u8 g2.To.2.2.2.2.1),.d (.int .u8 g2.To.2.2.2.2.2.1),.d (.int .u8 g2.To.2.2.2.2.2.2.1),.d (.int .u8 g2.To.2.2.2.2.2.2.2.1),.d (.int .u8 g2.To.2.2.2.2.2.2.2.2)])),(4,.cells ([.own 1 (List.map (eI .i64) c9),(i_ 0),.own 1 (List.map (eI .i64) c10),.own 3 (List.map Qc c11)])),(5,.cells ([(l_ x7.Alphabet),(i_ a12),.own 1 (List.map (eI .i64) a41),.own 3 (List.map Qc a42)]))]) M,Γ.n0 + 79⟩) h (fun z h=>?_) (fun z h=>?_)
     ·refine Tr.block ?_
      refine Tr.cutB (fun (a22 : List Int)=>⟨look [(0,(l_ alphabet1)),(3,.ptr (Γ.n0 + 3) 0),(4,.ptr (Γ.n0 + 4) 0),(5,.ptr (Γ.n0 + 5) 0),(6,(i_ i8))],Qp Γ.n0 (bxs [(3,.cells ([.d (.int .u8 g2.States),.d (.int .u8 g2.Marks),.d (.int .u8 g2.To.1.1),.d (.int .u8 g2.To.1.2.1),.d (.int .u8 g2.To.1.2.2.1),.d (.int .u8 g2.To.1.2.2.2.1),.d (.int .u8 g2.To.1.2.2.2.2),.d (.int .u8 g2.To.2.1.1),.d (.int .u8 g2.To.2.1.2.1),.d (.int .u8 g2.To.2.1.2.2.1),.d (.int .u8 g2.To.2.1.2.2.2.1),.d (.int .u8 g2.To.2.1.2.2.2.2),.d (.int .u8 g2.To.2.2.1.1),.d (.int .u8 g2.To.2.2.1.2.1),.d (.int .u8 g2.To.2.2.1.2.2.1),.d (.int .u8 g2.To.2.2.1.2.2.2.1),.d (.int .u8 g2.To.2.2.1.2.2.2.2),.d (.int .u8 g2.To.2.2.2.1.1),.d (.int .u8 g2.To.2.2.2.1.2.1),.d (.int .u8 g2.To.2.2.2.1.2.2.1),.d (.int .u8 g2.To.2.2.2.1.2.2.2.1),.d (.int .u8 g2.To.2.2.2.1.2.2.2.2),.d (.int .u8 g2.To.2.2.2.2.1),.d (.int .u8 g2.To.2.2.2.2.2.1),.d (.int .u8 g2.To.2.2.2.2.2.2.1),.d (.int .u8 g2.To.2.2.2.2.2.2.2.1),.d (.int .u8 g2.To.2.2.2.2.2.2.2.2)])),(4,.cells ([.own 1 (List.map (eI .i64) c9),(i_ 0),.own 1 (List.map (eI .i64) c10),.own 3 (List.map Qc c11)])),(5,.cells ([(l_ x7.Alphabet),(i_ a12),.own 1 (List.map (eI .i64) a22),.own 3 (List.map Qc a14)]))]) M,Γ.n0 + 79⟩) h (fun z h=>?_) (fun z h=>?_)
      ·refine sr ((Rn.fldP (o':=1) trivial rfl rfl (Rn.load (v:=.d (.int .u8 g2.Marks)) trivial rfl (Ql rfl) rfl rfl (md rfl ?_))))
       obtain ⟨s17,h18,h⟩:=bnd h
       refine Rn.bin trivial rfl rfl (Qbfj h18) (Rn.bin trivial rfl rfl rfl (Rn.bin trivial rfl rfl rfl (Rn.nil (toN ?_))))
       refine Tr.cond rfl (fun hb19=>?_) (fun hb19=>?_)
       ·replace h:=bT hb19 h
        refine Tr.rgn (Rn.fldP (o':=2) trivial rfl rfl (Rn.loadT (cs':=[(l_ x7.Alphabet),(i_ a12),(l_ a13),.own 3 (List.map Qc a14)]) trivial rfl rfl rfl rfl (md rfl (Rn.bslice (xs:=[(i_ i8)]) (cs:=[(i_ i8)]) trivial rfl rfl rfl rfl ?_))))
        obtain ⟨x20,h21,h⟩:=bnd h
        refine Rn.app (e:=(eI .i64)) trivial rfl rfl rfl (Qcb rfl rfl rfl) h21 rfl (Rn.fldP (o':=2) trivial rfl rfl (Rn.storeO (cs':=[(l_ x7.Alphabet),(i_ a12),.own 1 (List.map (eI .i64) x20),.own 3 (List.map Qc a14)]) trivial rfl rfl rfl rfl rfl (Rn.nil ?_)))
        replace h:=si h; subst h
        exact Qi [37] ⟨(sm rfl),(kPtr rfl),(kPtr rfl),(kPtr rfl),(sm rfl),trivial⟩ ⟨⟨_,rfl,rfl,(.same rfl)⟩,⟨_,rfl,rfl,(.same rfl)⟩,⟨_,rfl,rfl,(.same rfl)⟩,trivial⟩ rfl
       ·replace h:=bF hb19 h
        refine Tr.skip ?_
        replace h:=si h; subst h
        exact Qi [] ⟨(sm rfl),(kPtr rfl),(kPtr rfl),(kPtr rfl),(sm rfl),trivial⟩ ⟨⟨_,rfl,rfl,(.same rfl)⟩,⟨_,rfl,rfl,(.same rfl)⟩,⟨_,rfl,rfl,(.same rfl)⟩,trivial⟩ rfl
      ·obtain ⟨a22,rfl⟩ : ∃ x,x = z:=⟨_,rfl⟩
       refine sr ((md rfl (nt ((Tr.block ?_)))))
       refine Tr.loop (mk:=fun ((k23,a24) : Int × (List Qe))=>⟨look [(0,(l_ alphabet1)),(3,.ptr (Γ.n0 + 3) 0),(4,.ptr (Γ.n0 + 4) 0),(5,.ptr (Γ.n0 + 5) 0),(6,(i_ i8)),(7,(i_ k23))],Qp Γ.n0 (bxs [(3,.cells ([.d (.int .u8 g2.States),.d (.int .u8 g2.Marks),.d (.int .u8 g2.To.1.1),.d (.int .u8 g2.To.1.2.1),.d (.int .u8 g2.To.1.2.2.1),.d (.int .u8 g2.To.1.2.2.2.1),.d (.int .u8 g2.To.1.2.2.2.2),.d (.int .u8 g2.To.2.1.1),.d (.int .u8 g2.To.2.1.2.1),.d (.int .u8 g2.To.2.1.2.2.1),.d (.int .u8 g2.To.2.1.2.2.2.1),.d (.int .u8 g2.To.2.1.2.2.2.2),.d (.int .u8 g2.To.2.2.1.1),.d (.int .u8 g2.To.2.2.1.2.1),.d (.int .u8 g2.To.2.2.1.2.2.1),.d (.int .u8 g2.To.2.2.1.2.2.2.1),.d (.int .u8 g2.To.2.2.1.2.2.2.2),.d (.int .u8 g2.To.2.2.2.1.1),.d (.int .u8 g2.To.2.2.2.1.2.1),.d (.int .u8 g2.To.2.2.2.1.2.2.1),.d (.int .u8 g2.To.2.2.2.1.2.2.2.1),.d (.int .u8 g2.To.2.2.2.1.2.2.2.2),.d (.int .u8 g2.To.2.2.2.2.1),.d (.int .u8 g2.To.2.2.2.2.2.1),.d (.int .u8 g2.To.2.2.2.2.2.2.1),.d (.int .u8 g2.To.2.2.2.2.2.2.2.1),.d (.int .u8 g2.To.2.2.2.2.2.2.2.2)])),(4,.cells ([.own 1 (List.map (eI .i64) c9),(i_ 0),.own 1 (List.map (eI .i64) c10),.own 3 (List.map Qc c11)])),(5,.cells ([(l_ x7.Alphabet),(i_ a12),.own 1 (List.map (eI .i64) a22),.own 3 (List.map Qc a24)]))]) M,Γ.n0 + 79⟩) h (by exact Qj ⟨(sm rfl),(kPtr rfl),(kPtr rfl),(kPtr rfl),(sm rfl),(sm rfl),trivial⟩ ⟨⟨_,rfl,rfl,(.same rfl)⟩,⟨_,rfl,rfl,(.same rfl)⟩,⟨_,rfl,rfl,(.same rfl)⟩,trivial⟩ rfl) (fun k25 z h=>?_)
       ·obtain ⟨k23,a24⟩:=z
        replace h : _ = some _:=h
        refine Tr.seq ?_
        refine Tr.cutB (fun (x27 : Bool)=>⟨look [(0,(l_ alphabet1)),(3,.ptr (Γ.n0 + 3) 0),(4,.ptr (Γ.n0 + 4) 0),(5,.ptr (Γ.n0 + 5) 0),(6,(i_ i8)),(7,(i_ k23)),(47,(b_ x27))],Qp Γ.n0 (bxs [(3,.cells ([.d (.int .u8 g2.States),.d (.int .u8 g2.Marks),.d (.int .u8 g2.To.1.1),.d (.int .u8 g2.To.1.2.1),.d (.int .u8 g2.To.1.2.2.1),.d (.int .u8 g2.To.1.2.2.2.1),.d (.int .u8 g2.To.1.2.2.2.2),.d (.int .u8 g2.To.2.1.1),.d (.int .u8 g2.To.2.1.2.1),.d (.int .u8 g2.To.2.1.2.2.1),.d (.int .u8 g2.To.2.1.2.2.2.1),.d (.int .u8 g2.To.2.1.2.2.2.2),.d (.int .u8 g2.To.2.2.1.1),.d (.int .u8 g2.To.2.2.1.2.1),.d (.int .u8 g2.To.2.2.1.2.2.1),.d (.int .u8 g2.To.2.2.1.2.2.2.1),.d (.int .u8 g2.To.2.2.1.2.2.2.2),.d (.int .u8 g2.To.2.2.2.1.1),.d (.int .u8 g2.To.2.2.2.1.2.1),.d (.int .u8 g2.To.2.2.2.1.2.2.1),.d (.int .u8 g2.To.2.2.2.1.2.2.2.1),.d (.int .u8 g2.To.2.2.2.1.2.2.2.2),.d (.int .u8 g2.To.2.2.2.2.1),.d (.int .u8 g2.To.2.2.2.2.2.1),.d (.int .u8 g2.To.2.2.2.2.2.2.1),.d (.int .u8 g2.To.2.2.2.2.2.2.2.1),.d (.int .u8 g2.To.2.2.2.2.2.2.2.2)])),(4,.cells ([.own 1 (List.map (eI .i64) c9),(i_ 0),.own 1 (List.map (eI .i64) c10),.own 3 (List.map Qc c11)])),(5,.cells ([(l_ x7.Alphabet),(i_ a12),.own 1 (List.map (eI .i64) a22),.own 3 (List.map Qc a24)]))]) M,Γ.n0 + 79⟩) h (fun z h=>?_) (fun z h=>?_)
        ·refine Tr.rgn (md rfl (md rfl (Rn.lenD trivial rfl (Rn.bin trivial rfl rfl rfl (md rfl ?_)))))
         refine Qc5 (decide (k23 < (alphabet1.length : Int))) (fun hb26=>?_) (fun hb26=>?_)
         ·replace h:=ifT hb26 h
          refine Rn.movD (gw rfl hb26) rfl (Rn.bin (gw rfl hb26) rfl rfl rfl (Rn.pickT (v:=(b_ (decide (k23 < 5)))) trivial rfl hb26 rfl (Rn.nil ?_)))
          replace h:=si h; subst h
          exact Qi [] ⟨(sm rfl),(kPtr rfl),(kPtr rfl),(kPtr rfl),(sm rfl),(sm rfl),(sm rfl),trivial⟩ ⟨⟨_,rfl,rfl,(.same rfl)⟩,⟨_,rfl,rfl,(.same rfl)⟩,⟨_,rfl,rfl,(.same rfl)⟩,trivial⟩ rfl
         ·replace h:=ifF hb26 h
          refine Rn.sk (nw rfl hb26) (Rn.sk (nw rfl hb26) (Rn.pickF (v:=(b_ false)) trivial rfl hb26 rfl (Rn.nil ?_)))
          replace h:=si h; subst h
          exact Qi [] ⟨(sm rfl),(kPtr rfl),(kPtr rfl),(kPtr rfl),(sm rfl),(sm rfl),(sm rfl),trivial⟩ ⟨⟨_,rfl,rfl,(.same rfl)⟩,⟨_,rfl,rfl,(.same rfl)⟩,⟨_,rfl,rfl,(.same rfl)⟩,trivial⟩ rfl
        ·obtain ⟨x27,rfl⟩ : ∃ x,x = z:=⟨_,rfl⟩
         refine Tr.cond rfl (fun hb28=>?_) (fun hb28=>?_)
         ·replace h:=bT hb28 h
          refine Tr.skip (toN ?_)
          refine Tr.cutB (fun (a40 : List Qe)=>⟨look [(0,(l_ alphabet1)),(3,.ptr (Γ.n0 + 3) 0),(4,.ptr (Γ.n0 + 4) 0),(5,.ptr (Γ.n0 + 5) 0),(6,(i_ i8)),(7,(i_ k23))],Qp Γ.n0 (bxs [(3,.cells ([.d (.int .u8 g2.States),.d (.int .u8 g2.Marks),.d (.int .u8 g2.To.1.1),.d (.int .u8 g2.To.1.2.1),.d (.int .u8 g2.To.1.2.2.1),.d (.int .u8 g2.To.1.2.2.2.1),.d (.int .u8 g2.To.1.2.2.2.2),.d (.int .u8 g2.To.2.1.1),.d (.int .u8 g2.To.2.1.2.1),.d (.int .u8 g2.To.2.1.2.2.1),.d (.int .u8 g2.To.2.1.2.2.2.1),.d (.int .u8 g2.To.2.1.2.2.2.2),.d (.int .u8 g2.To.2.2.1.1),.d (.int .u8 g2.To.2.2.1.2.1),.d (.int .u8 g2.To.2.2.1.2.2.1),.d (.int .u8 g2.To.2.2.1.2.2.2.1),.d (.int .u8 g2.To.2.2.1.2.2.2.2),.d (.int .u8 g2.To.2.2.2.1.1),.d (.int .u8 g2.To.2.2.2.1.2.1),.d (.int .u8 g2.To.2.2.2.1.2.2.1),.d (.int .u8 g2.To.2.2.2.1.2.2.2.1),.d (.int .u8 g2.To.2.2.2.1.2.2.2.2),.d (.int .u8 g2.To.2.2.2.2.1),.d (.int .u8 g2.To.2.2.2.2.2.1),.d (.int .u8 g2.To.2.2.2.2.2.2.1),.d (.int .u8 g2.To.2.2.2.2.2.2.2.1),.d (.int .u8 g2.To.2.2.2.2.2.2.2.2)])),(4,.cells ([.own 1 (List.map (eI .i64) c9),(i_ 0),.own 1 (List.map (eI .i64) c10),.own 3 (List.map Qc c11)])),(5,.cells ([(l_ x7.Alphabet),(i_ a12),.own 1 (List.map (eI .i64) a22),.own 3 (List.map Qc a40)]))]) M,Γ.n0 + 79⟩) h (fun z h=>?_) (fun z h=>?_)
          ·refine Tr.block (Tr.seq ?_)
           refine Tr.rgnD (by decide) ?_
           refine md rfl (md rfl (Rn.fldP (o':=2) trivial rfl rfl ?_))
           obtain ⟨⟨⟩,h29,h⟩:=bnd h
           refine Rn.idxArr (o':=2 + (Int.toNat i8 * 5)) trivial rfl rfl rfl h29 ?_
           obtain ⟨⟨⟩,h30,h⟩:=bnd h
           refine Rn.idxArr (o':=2 + (Int.toNat i8 * 5 + Int.toNat k23 * 1)) trivial rfl rfl (Nat.add_assoc ..).symm h30 ?_
           obtain ⟨x31,h32,h⟩:=bnd h
           refine Rn.loadArr (e:=(fun (z : Int)=>.int .u8 z)) (pre:=[.d (.int .u8 g2.States),.d (.int .u8 g2.Marks)]) (post:=[]) trivial rfl rfl (Ql rfl) rfl rfl h32 (Rn.conv trivial rfl (Rn.fldP (o':=1) trivial rfl rfl (Rn.load (v:=(i_ a12)) trivial rfl (Ql rfl) rfl rfl (Rn.bin trivial rfl rfl rfl ?_))))
           obtain ⟨s33,h34,h⟩:=bnd h
           refine Rn.bin trivial rfl rfl (Qbip h34) (md rfl ?_)
           refine Rn.nil ⟨rfl,?_⟩
           refine toN (sr ((md rfl (Rn.fldP (o':=1) trivial rfl rfl (Rn.load (v:=(i_ a12)) trivial rfl (Ql rfl) rfl rfl (Rn.bin trivial rfl rfl rfl (Rn.nil (toN ?_))))))))
           refine Tr.cond rfl (fun hb35=>?_) (fun hb35=>?_)
           ·replace h:=ifT hb35 h
            refine Tr.rgnD (by decide) ?_
            refine Rn.fldP (o':=3) trivial rfl rfl (Rn.loadT (cs':=[(l_ x7.Alphabet),(i_ a12),.own 1 (List.map (eI .i64) a22),.d (.lst 3 (List.map Qc a24))]) trivial rfl rfl rfl rfl (md rfl (md rfl (md rfl ?_))))
            obtain ⟨x36,h37,h⟩:=bnd h
            refine Rn.idxD (e:=(eI .i64)) trivial rfl rfl h37 (Rn.loadC (x:=.int .i64 x36) trivial rfl (md rfl (Rn.build (v:=.agg [(i_ i8),(i_ x36),(i_ s33)]) trivial rfl (Rn.bslice (xs:=[.agg [(i_ i8),(i_ x36),(i_ s33)]]) (cs:=[(i_ i8),(i_ x36),(i_ s33)]) trivial rfl rfl rfl rfl ?_))))
            obtain ⟨x38,h39,h⟩:=bnd h
            refine Rn.app (e:=Qc) trivial rfl rfl rfl (Qcb rfl rfl rfl) h39 rfl (Rn.fldP (o':=3) trivial rfl rfl (Rn.storeO (cs':=[(l_ x7.Alphabet),(i_ a12),.own 1 (List.map (eI .i64) a22),.own 3 (List.map Qc x38)]) trivial rfl rfl rfl rfl rfl ?_))
            refine Rn.nil ⟨rfl,?_⟩
            replace h:=si h; subst h
            exact Qi [74] ⟨(sm rfl),(kPtr rfl),(kPtr rfl),(kPtr rfl),(sm rfl),(sm rfl),trivial⟩ ⟨⟨_,rfl,rfl,(.same rfl)⟩,⟨_,rfl,rfl,(.same rfl)⟩,⟨_,rfl,rfl,(.same rfl)⟩,trivial⟩ rfl
           ·replace h:=ifF hb35 h
            refine Tr.skip ?_
            replace h:=si h; subst h
            exact Qi [] ⟨(sm rfl),(kPtr rfl),(kPtr rfl),(kPtr rfl),(sm rfl),(sm rfl),trivial⟩ ⟨⟨_,rfl,rfl,(.same rfl)⟩,⟨_,rfl,rfl,(.same rfl)⟩,⟨_,rfl,rfl,(.same rfl)⟩,trivial⟩ rfl
          ·obtain ⟨a40,rfl⟩ : ∃ x,x = z:=⟨_,rfl⟩
           refine Tr.rgn (md rfl (Rn.bin trivial rfl rfl rfl (md rfl (Rn.nil ?_))))
           exact ⟨_,h,(by exact Qj ⟨(sm rfl),(kPtr rfl),(kPtr rfl),(kPtr rfl),(sm rfl),(sm rfl),trivial⟩ ⟨⟨_,rfl,rfl,(.same rfl)⟩,⟨_,rfl,rfl,(.same rfl)⟩,⟨_,rfl,rfl,(.same rfl)⟩,trivial⟩ rfl)⟩
         ·replace h:=bF hb28 h
          refine Tr.exit ?_
          replace h:=si h; subst h
          exact Qi [] ⟨(sm rfl),(kPtr rfl),(kPtr rfl),(kPtr rfl),(sm rfl),trivial⟩ ⟨⟨_,rfl,rfl,(.same rfl)⟩,⟨_,rfl,rfl,(.same rfl)⟩,⟨_,rfl,rfl,(.same rfl)⟩,trivial⟩ rfl
     ·obtain ⟨a41,a42⟩:=z
      refine Tr.rgn (md rfl (Rn.bin trivial rfl rfl rfl (md rfl (Rn.nil ?_))))
      exact ⟨_,h,(by exact Qj ⟨(sm rfl),(kPtr rfl),(kPtr rfl),(kPtr rfl),(sm rfl),trivial⟩ ⟨⟨_,rfl,rfl,(.same rfl)⟩,⟨_,rfl,rfl,(.same rfl)⟩,⟨_,rfl,rfl,(.same rfl)⟩,trivial⟩ rfl)⟩
    ·replace h:=ifF hb16 h
     refine Tr.exit ?_
     replace h:=si h; subst h
     exact Qi [] ⟨(kPtr rfl),(kPtr rfl),trivial⟩ ⟨⟨_,rfl,rfl,(.same rfl)⟩,⟨_,rfl,rfl,(.same rfl)⟩,⟨_,rfl,rfl,(.same rfl)⟩,trivial⟩ rfl
  ·obtain ⟨c43,c44,c45,a46,a47,a48⟩:=z
   refine sr ((Rn.load (v:=.agg [(l_ x7.Alphabet),(i_ a46),(l_ a47),.d (.lst 3 (List.map Qc a48))]) trivial rfl (Ql rfl) rfl rfl ?_))
   obtain ⟨x50,h49,h⟩:=bnd h
   refine Rn.call (args:=[.agg [(l_ x7.Alphabet),(i_ a46),(l_ a47),.d (.lst 3 (List.map Qc a48))]]) trivial rfl (H_overseerref03_Canonical _ _ h49) pc9 (Rn.storeT (v:=(Qa x50)) (ds:=(Qd x50)) (cs':=(Qd x50)) trivial rfl rfl rfl rfl rfl rfl rfl (nt ((Tr.ret ?_))))
   replace h:=si h; subst h
   exact ⟨.inr rfl,(Qa x50),Qg8 rfl rfl rfl rfl,fun _ _ _ _ h=>h,⟨trivial,trivial,trivial,trivial,trivial⟩,fun k hk=>Qf hk⟩
theorem Qx4 {P : Program} {c : Nat} (hcf : Qt P c = some Qh2) (fuel : Nat) : Qfu P c (Qba fuel):=by
 intro l1 n2 r h
 refine Qcy hcf rfl fun Γ M hP hnt hM=>?_
 subst hP
 refine Tr.init [(0,(l_ l1)),(1,(i_ n2))] rfl ?_
 unfold Qba at h
 unfold Qh2
 refine sr ((md rfl (nt ((Tr.seq (sr ((md rfl (nt ((Tr.block ?_)))))))))))
 refine Tr.loop (mk:=fun (i3 : Int)=>⟨look [(0,(l_ l1)),(1,(i_ n2)),(5,(i_ i3))],Qp Γ.n0 (bxs []) M,Γ.n0 + 18⟩) h (by exact Qj ⟨(sm rfl),(sm rfl),(sm rfl),trivial⟩ trivial rfl) (fun k4 z h=>?_)
 ·obtain ⟨i3,rfl⟩ : ∃ x,x = z:=⟨_,rfl⟩
  replace h : _ = some _:=h
  refine Tr.seq (sr ((md rfl (md rfl (Rn.lenD trivial rfl (Rn.bin trivial rfl rfl rfl (Rn.nil (toN ?_))))))))
  refine Tr.cond rfl (fun hb5=>?_) (fun hb5=>?_)
  ·replace h:=ifT hb5 h
   refine Tr.skip (toN (Tr.seq (Tr.block (sr ((md rfl (md rfl ?_)))))))
   obtain ⟨x6,h7,h⟩:=bnd h
   refine Rn.idxD (e:=(eI .i64)) trivial rfl rfl h7 (Rn.loadC (x:=.int .i64 x6) trivial rfl (md rfl (Rn.bin trivial rfl rfl rfl (Rn.nil (toN ?_)))))
   refine Tr.cond rfl (fun hb8=>?_) (fun hb8=>?_)
   ·replace h:=bT hb8 h
    refine sr ((md rfl (nt ((Tr.ret ?_)))))
    replace h:=si h; subst h
    exact ⟨.inr rfl,(b_ true),rfl,fun _ _ _ _ h=>h,trivial,fun k hk=>Qf hk⟩
   ·replace h:=bF hb8 h
    refine Tr.skip (toN (Tr.rgn (md rfl (Rn.bin trivial rfl rfl rfl (md rfl (Rn.nil ?_))))))
    exact ⟨_,h,(by exact Qj ⟨(sm rfl),(sm rfl),(sm rfl),trivial⟩ trivial rfl)⟩
  ·replace h:=ifF hb5 h
   refine Tr.exit (toN (sr ((md rfl (nt ((Tr.ret ?_)))))))
   replace h:=si h; subst h
   exact ⟨.inr rfl,(b_ false),rfl,fun _ _ _ _ h=>h,trivial,fun k hk=>Qf hk⟩
theorem Qu8 {P : Program} {c : Nat} {Qba : (List Int) → Int → Option Bool}
    (H_overseerref07_has : Qfu P 39 Qba) (hcf : Qt P c = some Qhm) (fuel : Nat) : Qhl P c (Qb4 Qba fuel):=by
 intro a1 onto2 r h
 refine Qcy hcf rfl fun Γ M hP hnt hM=>?_
 subst hP
 refine Tr.init [(0,(Qa a1)),(1,(l_ onto2))] rfl ?_
 unfold Qb4 at h
 unfold Qhm
 refine sr ((Rn.box (v:=(Qa a1)) (cs:=(Qd a1)) trivial rfl rfl rfl rfl rfl (Rn.movTC (v:=.nils 1) trivial (nt ((sr ((Rn.movTC (v:=.nils 1) trivial (Rn.nil (toN ?_))))))))))
 refine Tr.cutB (fun (out17 : List Int)=>⟨look [(5,.own 1 (List.map (eI .i64) out17))],Qp Γ.n0 (bxs [(2,.cells ((Qd a1)))]) M,Γ.n0 + 30⟩) h (fun z h=>?_) (fun z h=>?_)
 ·refine sr ((md rfl (nt ((Tr.block ?_)))))
  refine Tr.loop (mk:=fun ((out3,i4) : (List Int) × Int)=>⟨look [(1,(l_ onto2)),(2,.ptr (Γ.n0 + 2) 0),(5,.own 1 (List.map (eI .i64) out3)),(6,(i_ i4))],Qp Γ.n0 (bxs [(2,.cells ((Qd a1)))]) M,Γ.n0 + 30⟩) h (by exact Qj ⟨(sm rfl),(kPtr rfl),(WkV.nilsO _),(sm rfl),trivial⟩ ⟨⟨_,rfl,rfl,(.same rfl)⟩,trivial⟩ rfl) (fun k5 z h=>?_)
  ·obtain ⟨out3,i4⟩:=z
   replace h : _ = some _:=h
   refine Tr.seq (sr ((md rfl (Rn.fldP (o':=0) trivial rfl rfl (Rn.load (v:=(l_ a1.Alphabet)) trivial rfl (Ql rfl) rfl rfl (Rn.lenD trivial rfl (Rn.bin trivial rfl rfl rfl (Rn.nil (toN ?_)))))))))
   refine Tr.cond rfl (fun hb6=>?_) (fun hb6=>?_)
   ·replace h:=ifT hb6 h
    refine Tr.skip (toN ?_)
    refine Tr.cutB (fun (out16 : List Int)=>⟨look [(1,(l_ onto2)),(2,.ptr (Γ.n0 + 2) 0),(5,.own 1 (List.map (eI .i64) out16)),(6,(i_ i4))],Qp Γ.n0 (bxs [(2,.cells ((Qd a1)))]) M,Γ.n0 + 30⟩) h (fun z h=>?_) (fun z h=>?_)
    ·refine Tr.block (sr ((md rfl (Rn.fldP (o':=0) trivial rfl rfl (Rn.load (v:=(l_ a1.Alphabet)) trivial rfl (Ql rfl) rfl rfl (md rfl ?_))))))
     obtain ⟨x7,h8,h⟩:=bnd h
     refine Rn.idxD (e:=(eI .i64)) trivial rfl rfl h8 (Rn.loadC (x:=.int .i64 x7) trivial rfl ?_)
     obtain ⟨x10,h9,h⟩:=bnd h
     refine Rn.call (args:=[(l_ onto2),(i_ x7)]) trivial rfl (H_overseerref07_has _ _ _ h9) pc9 (Rn.nil (toN ?_))
     refine Tr.cond rfl (fun hb11=>?_) (fun hb11=>?_)
     ·replace h:=bT hb11 h
      refine Tr.rgn (Rn.movTO trivial rfl (Rn.fldP (o':=0) trivial rfl rfl (Rn.load (v:=(l_ a1.Alphabet)) trivial rfl (Ql rfl) rfl rfl (md rfl ?_))))
      obtain ⟨x12,h13,h⟩:=bnd h
      refine Rn.idxD (e:=(eI .i64)) trivial rfl rfl h13 (Rn.loadC (x:=.int .i64 x12) trivial rfl (Rn.bslice (xs:=[(i_ x12)]) (cs:=[(i_ x12)]) trivial rfl rfl rfl rfl ?_))
      obtain ⟨x14,h15,h⟩:=bnd h
      refine Rn.app (e:=(eI .i64)) trivial rfl rfl rfl (Qcb rfl rfl rfl) h15 rfl (Rn.movTO trivial rfl (Rn.nil ?_))
      replace h:=si h; subst h
      exact Qi [27] ⟨(sm rfl),(kPtr rfl),(sm rfl),(sm rfl),trivial⟩ ⟨⟨_,rfl,rfl,(.same rfl)⟩,trivial⟩ rfl
     ·replace h:=bF hb11 h
      refine Tr.skip ?_
      replace h:=si h; subst h
      exact Qi [] ⟨(sm rfl),(kPtr rfl),(sm rfl),(sm rfl),trivial⟩ ⟨⟨_,rfl,rfl,(.same rfl)⟩,trivial⟩ rfl
    ·obtain ⟨out16,rfl⟩ : ∃ x,x = z:=⟨_,rfl⟩
     refine Tr.rgn (md rfl (Rn.bin trivial rfl rfl rfl (md rfl (Rn.nil ?_))))
     exact ⟨_,h,(by exact Qj ⟨(sm rfl),(kPtr rfl),(sm rfl),(sm rfl),trivial⟩ ⟨⟨_,rfl,rfl,(.same rfl)⟩,trivial⟩ rfl)⟩
   ·replace h:=ifF hb6 h
    refine Tr.exit ?_
    replace h:=si h; subst h
    exact Qi [] ⟨(sm rfl),trivial⟩ ⟨⟨_,rfl,rfl,(.same rfl)⟩,trivial⟩ rfl
 ·obtain ⟨out17,rfl⟩ : ∃ x,x = z:=⟨_,rfl⟩
  refine sr ((Rn.movTO trivial rfl (Rn.movTO trivial rfl (nt ((Tr.ret ?_))))))
  replace h:=si h; subst h
  exact ⟨.inr rfl,(.own 1 (List.map (eI .i64) out17)),rfl,fun _ _ _ _ h=>h,trivial,fun k hk=>Qf hk⟩
theorem Qx5 {P : Program} {c : Nat} (hcf : Qt P c = some Qh4) (fuel : Nat) : Qh3 P c (Qcs fuel):=by
 intro l1 n2 r h
 refine Qcy hcf rfl fun Γ M hP hnt hM=>?_
 subst hP
 refine Tr.init [(0,(l_ l1)),(1,(i_ n2))] rfl ?_
 unfold Qcs at h
 unfold Qh4
 refine sr ((md rfl (nt ((Tr.seq (sr ((md rfl (nt ((Tr.block ?_)))))))))))
 refine Tr.loop (mk:=fun (i3 : Int)=>⟨look [(0,(l_ l1)),(1,(i_ n2)),(5,(i_ i3))],Qp Γ.n0 (bxs []) M,Γ.n0 + 18⟩) h (by exact Qj ⟨(sm rfl),(sm rfl),(sm rfl),trivial⟩ trivial rfl) (fun k4 z h=>?_)
 ·obtain ⟨i3,rfl⟩ : ∃ x,x = z:=⟨_,rfl⟩
  replace h : _ = some _:=h
  refine Tr.seq (sr ((md rfl (md rfl (Rn.lenD trivial rfl (Rn.bin trivial rfl rfl rfl (Rn.nil (toN ?_))))))))
  refine Tr.cond rfl (fun hb5=>?_) (fun hb5=>?_)
  ·replace h:=ifT hb5 h
   refine Tr.skip (toN (Tr.seq (Tr.block (sr ((md rfl (md rfl ?_)))))))
   obtain ⟨x6,h7,h⟩:=bnd h
   refine Rn.idxD (e:=(eI .i64)) trivial rfl rfl h7 (Rn.loadC (x:=.int .i64 x6) trivial rfl (md rfl (Rn.bin trivial rfl rfl rfl (Rn.nil (toN ?_)))))
   refine Tr.cond rfl (fun hb8=>?_) (fun hb8=>?_)
   ·replace h:=bT hb8 h
    refine sr ((md rfl (nt ((Tr.ret ?_)))))
    replace h:=si h; subst h
    exact ⟨.inr rfl,(b_ true),rfl,fun _ _ _ _ h=>h,trivial,fun k hk=>Qf hk⟩
   ·replace h:=bF hb8 h
    refine Tr.skip (toN (Tr.rgn (md rfl (Rn.bin trivial rfl rfl rfl (md rfl (Rn.nil ?_))))))
    exact ⟨_,h,(by exact Qj ⟨(sm rfl),(sm rfl),(sm rfl),trivial⟩ trivial rfl)⟩
  ·replace h:=ifF hb5 h
   refine Tr.exit (toN (sr ((md rfl (nt ((Tr.ret ?_)))))))
   replace h:=si h; subst h
   exact ⟨.inr rfl,(b_ false),rfl,fun _ _ _ _ h=>h,trivial,fun k hk=>Qf hk⟩
theorem Qu9 {P : Program} {c : Nat} {Qba : (List Int) → Int → Option Bool} {Qv : Qb → Int → Int → Option Int}
    (H_overseerref07_has : Qfu P 39 Qba)
    (H_overseerref03_Step : Qea P 40 Qv) (hcf : Qt P c = some Qho) (fuel : Nat) : Qhn P c (Qbu Qba Qv fuel):=by
 intro a1 onto2 observation3 marked4 r h
 refine Qcy hcf rfl fun Γ M hP hnt hM=>?_
 subst hP
 refine Tr.init [(0,(Qa a1)),(1,(l_ onto2)),(2,(l_ observation3)),(3,(b_ marked4))] rfl ?_
 unfold Qbu at h
 unfold Qho
 refine sr ((Rn.box (v:=(Qa a1)) (cs:=(Qd a1)) trivial rfl rfl rfl rfl rfl (Rn.movTC (v:=.nils 1) trivial (md rfl (nt ((sr ((Rn.movTC (v:=.nils 3) trivial (Rn.nil (toN ?_)))))))))))
 refine Tr.cutB (fun (l8 : List Qn)=>⟨look [(1,(l_ onto2)),(2,(l_ observation3)),(3,(b_ marked4)),(4,.ptr (Γ.n0 + 4) 0),(10,.own 3 (List.map Qs l8))],Qp Γ.n0 (bxs [(4,.cells ((Qd a1)))]) M,Γ.n0 + 151⟩) h (fun z h=>?_) (fun z h=>?_)
 ·refine sr ((Rn.fldP (o':=1) trivial rfl rfl (Rn.load (v:=(i_ a1.States)) trivial rfl (Ql rfl) rfl rfl (Rn.bin trivial rfl rfl rfl (Rn.nil (toN ?_))))))
  refine Tr.cond rfl (fun hb5=>?_) (fun hb5=>?_)
  ·replace h:=ifT hb5 h
   refine Tr.rgn (Rn.movTF (v:=.nils 3) trivial rfl rfl (Rn.build (v:=.agg [(i_ 0),(i_ 0),.nils 1]) trivial rfl (Rn.bslice (xs:=[.agg [(i_ 0),(i_ 0),.nils 1]]) (cs:=[(i_ 0),(i_ 0),.nils 1]) trivial rfl rfl rfl rfl ?_)))
   refine Rn.weak (by show WeakSt Γ _ ⟨look [(0,(Qa a1)),(1,(l_ onto2)),(2,(l_ observation3)),(3,(b_ marked4)),(4,.ptr (Γ.n0 + 4) 0),(8,.nils 1),(9,(b_ false)),(10,.nils 3),(17,.ptr (Γ.n0 + 4) 1),(18,(i_ a1.States)),(19,(b_ (decide (a1.States > 0)))),(20,.own 3 (List.map Qs [])),(21,.agg [(i_ 0),(i_ 0),.nils 1]),(22,.sl 3 (Γ.n0 + 22) 0 1 1)],Qp Γ.n0 (bxs [(4,.cells ((Qd a1))),(22,.cells ([(i_ 0),(i_ 0),.nils 1]))]) M,Γ.n0 + 151⟩; exact Qi [] ⟨(sm rfl),(sm rfl),(sm rfl),(sm rfl),(kPtr rfl),(sm rfl),(sm rfl),(sm rfl),(kPtr rfl),(sm rfl),(sm rfl),(WkV.nilsO _),(sm rfl),(kSl rfl),trivial⟩ ⟨⟨_,rfl,rfl,(.same rfl)⟩,⟨_,rfl,rfl,(.same rfl)⟩,trivial⟩ rfl) ?_
   obtain ⟨x6,h7,h⟩:=bnd h
   refine Rn.app (e:=Qs) trivial rfl rfl rfl (Qcb rfl rfl rfl) h7 rfl (Rn.movTO trivial rfl (Rn.nil ?_))
   replace h:=si h; subst h
   exact Qi [22] ⟨(sm rfl),(sm rfl),(sm rfl),(kPtr rfl),(sm rfl),trivial⟩ ⟨⟨_,rfl,rfl,(.same rfl)⟩,trivial⟩ rfl
  ·replace h:=ifF hb5 h
   refine Tr.skip ?_
   replace h:=si h; subst h
   exact Qi [] ⟨(sm rfl),(sm rfl),(sm rfl),(kPtr rfl),(WkV.nilsO _),trivial⟩ ⟨⟨_,rfl,rfl,(.same rfl)⟩,trivial⟩ rfl
 ·obtain ⟨l8,rfl⟩ : ∃ x,x = z:=⟨_,rfl⟩
  refine Tr.seq (sr ((md rfl (nt ((Tr.block ?_))))))
  refine Tr.loop (mk:=fun ((l9,i10) : (List Qn) × Int)=>⟨look [(1,(l_ onto2)),(2,(l_ observation3)),(3,(b_ marked4)),(4,.ptr (Γ.n0 + 4) 0),(10,.own 3 (List.map Qs l9)),(11,(i_ i10))],Qp Γ.n0 (bxs [(4,.cells ((Qd a1)))]) M,Γ.n0 + 151⟩) h (by exact Qj ⟨(sm rfl),(sm rfl),(sm rfl),(kPtr rfl),(sm rfl),(sm rfl),trivial⟩ ⟨⟨_,rfl,rfl,(.same rfl)⟩,trivial⟩ rfl) (fun k11 z h=>?_)
  ·obtain ⟨l9,i10⟩:=z
   replace h : _ = some _:=h
   refine Tr.seq (sr ((md rfl (Rn.mov (v:=.d (.lst 3 (List.map Qs l9))) trivial rfl (Rn.lenD trivial rfl (Rn.bin trivial rfl rfl rfl (Rn.nil (toN ?_))))))))
   refine Tr.cond rfl (fun hb12=>?_) (fun hb12=>?_)
   ·replace h:=ifT hb12 h
    refine Tr.skip (toN (Tr.seq (Tr.block (Tr.seq ?_))))
    refine Tr.cutB (fun (x21 : Bool)=>⟨look [(1,(l_ onto2)),(2,(l_ observation3)),(3,(b_ marked4)),(4,.ptr (Γ.n0 + 4) 0),(10,.own 3 (List.map Qs l9)),(11,(i_ i10)),(51,(b_ x21))],Qp Γ.n0 (bxs [(4,.cells ((Qd a1)))]) M,Γ.n0 + 151⟩) h (fun z h=>?_) (fun z h=>?_)
    ·refine Tr.rgnD (by decide) ?_
     refine Rn.mov (v:=.d (.lst 3 (List.map Qs l9))) trivial rfl (md rfl ?_)
     obtain ⟨x13,h14,h⟩:=bnd h
     refine Rn.idxD (e:=Qs) trivial rfl rfl h14 (Rn.fldC trivial rfl (Rn.loadC (x:=.int .i64 x13.done_) trivial rfl (md rfl (Rn.lenD trivial rfl (Rn.bin trivial rfl rfl rfl (md rfl ?_))))))
     refine Qc5 (x13.done_ == (observation3.length : Int)) (fun hb15=>?_) (fun hb15=>?_)
     ·replace h:=bT hb15 h
      refine Rn.movD (gw rfl hb15) rfl (Rn.un (gw rfl hb15) rfl rfl (Rn.movD (gw rfl hb15) rfl ?_))
      refine Qc5 marked4 (fun hb16=>?_) (fun hb16=>?_)
      ·replace h:=bT hb16 h
       refine Rn.fldP (o':=2) (gw rfl (nT hb16)) rfl rfl (Rn.load (v:=(l_ a1.Marked)) (gw rfl (nT hb16)) rfl (Ql rfl) rfl rfl (Rn.mov (v:=.d (.lst 3 (List.map Qs l9))) (gw rfl (nT hb16)) rfl (Rn.movD (gw rfl (nT hb16)) rfl ?_)))
       obtain ⟨x17,h18,h⟩:=bnd h
       refine Rn.idxD (e:=Qs) (gw rfl (nT hb16)) rfl rfl h18 (Rn.fldC (gw rfl (nT hb16)) rfl (Rn.loadC (x:=.int .i64 x17.state_) (gw rfl (nT hb16)) rfl ?_))
       obtain ⟨x20,h19,h⟩:=bnd h
       refine Rn.call (args:=[(l_ a1.Marked),(i_ x17.state_)]) (gw rfl (nT hb16)) rfl (H_overseerref07_has _ _ _ h19) pc0 (Rn.pickF (v:=(b_ x20)) (gw rfl hb15) rfl (nT hb16) rfl (Rn.pickT (v:=(b_ x20)) trivial rfl hb15 rfl ?_))
       refine Rn.nil ⟨rfl,?_⟩
       replace h:=si h; subst h
       exact Qi [] ⟨(sm rfl),(sm rfl),(sm rfl),(kPtr rfl),(sm rfl),(sm rfl),(sm rfl),trivial⟩ ⟨⟨_,rfl,rfl,(.same rfl)⟩,trivial⟩ rfl
      ·replace h:=bF hb16 h
       refine Rn.sk (nw rfl (nF hb16)) (Rn.sk (nw rfl (nF hb16)) (Rn.sk (nw rfl (nF hb16)) (Rn.sk (nw rfl (nF hb16)) (Rn.sk (nw rfl (nF hb16)) (Rn.sk (nw rfl (nF hb16)) (Rn.sk (nw rfl (nF hb16)) (Rn.sk (nw rfl (nF hb16)) (Rn.pickT (v:=(b_ true)) (gw rfl hb15) rfl (nF hb16) rfl (Rn.pickT (v:=(b_ true)) trivial rfl hb15 rfl ?_)))))))))
       refine Rn.nil ⟨rfl,?_⟩
       replace h:=si h; subst h
       exact Qi [] ⟨(sm rfl),(sm rfl),(sm rfl),(kPtr rfl),(sm rfl),(sm rfl),(sm rfl),trivial⟩ ⟨⟨_,rfl,rfl,(.same rfl)⟩,trivial⟩ rfl
     ·replace h:=bF hb15 h
      refine Rn.sk (nw rfl hb15) (Rn.sk (nw rfl hb15) (Rn.sk (nw rfl hb15) (Rn.sk (nu rfl) (Rn.sk (nu rfl) (Rn.sk (nu rfl) (Rn.sk (nu rfl) (Rn.sk (nu rfl) (Rn.sk (nu rfl) (Rn.sk (nu rfl) (Rn.sk (nu rfl) (Rn.sk (nw rfl hb15) (Rn.pickF (v:=(b_ false)) trivial rfl hb15 rfl ?_))))))))))))
      refine Rn.nil ⟨rfl,?_⟩
      replace h:=si h; subst h
      exact Qi [] ⟨(sm rfl),(sm rfl),(sm rfl),(kPtr rfl),(sm rfl),(sm rfl),(sm rfl),trivial⟩ ⟨⟨_,rfl,rfl,(.same rfl)⟩,trivial⟩ rfl
    ·obtain ⟨x21,rfl⟩ : ∃ x,x = z:=⟨_,rfl⟩
     refine Tr.cond rfl (fun hb22=>?_) (fun hb22=>?_)
     ·replace h:=bT hb22 h
      refine sr ((Rn.mov (v:=.d (.lst 3 (List.map Qs l9))) trivial rfl (md rfl ?_)))
      obtain ⟨x23,h24,h⟩:=bnd h
      refine Rn.idxD (e:=Qs) trivial rfl rfl h24 (Rn.fldC trivial rfl (Rn.loadC (x:=.lst 1 (List.map (eI .i64) x23.word_)) trivial rfl (Rn.movTD trivial rfl (md rfl (nt ((Tr.ret ?_)))))))
      replace h:=si h; subst h
      exact ⟨.inr rfl,.tup [(l_ x23.word_),(b_ true)],res2 rfl rfl,(WkV.tup (.cons (.same rfl) (.cons (.same rfl) .nil))).rd,⟨trivial,trivial,trivial⟩,fun k hk=>Qf hk⟩
     ·replace h:=bF hb22 h
      refine Tr.skip (toN (sr ((md rfl (nt ((Tr.block ?_)))))))
      refine Tr.loop (mk:=fun ((l25,k26) : (List Qn) × Int)=>⟨look [(1,(l_ onto2)),(2,(l_ observation3)),(3,(b_ marked4)),(4,.ptr (Γ.n0 + 4) 0),(10,.own 3 (List.map Qs l25)),(11,(i_ i10)),(12,(i_ k26))],Qp Γ.n0 (bxs [(4,.cells ((Qd a1)))]) M,Γ.n0 + 151⟩) h (by exact Qj ⟨(sm rfl),(sm rfl),(sm rfl),(kPtr rfl),(sm rfl),(sm rfl),(sm rfl),trivial⟩ ⟨⟨_,rfl,rfl,(.same rfl)⟩,trivial⟩ rfl) (fun k27 z h=>?_)
      ·obtain ⟨l25,k26⟩:=z
       replace h : _ = some _:=h
       refine Tr.seq (sr ((md rfl (Rn.fldP (o':=0) trivial rfl rfl (Rn.load (v:=(l_ a1.Alphabet)) trivial rfl (Ql rfl) rfl rfl (Rn.lenD trivial rfl (Rn.bin trivial rfl rfl rfl (Rn.nil (toN ?_)))))))))
       refine Tr.cond rfl (fun hb28=>?_) (fun hb28=>?_)
       ·replace h:=ifT hb28 h
        refine Tr.skip (toN ?_)
        refine Tr.cutB (fun ((l68,next69,next70,next71) : (List Qn) × Int × Int × (List Int))=>⟨look [(1,(l_ onto2)),(2,(l_ observation3)),(3,(b_ marked4)),(4,.ptr (Γ.n0 + 4) 0),(10,.own 3 (List.map Qs l68)),(11,(i_ i10)),(12,(i_ k26))],Qp Γ.n0 (bxs [(4,.cells ((Qd a1))),(14,.cells ([(i_ next69),(i_ next70),.own 1 (List.map (eI .i64) next71)]))]) M,Γ.n0 + 151⟩) h (fun z h=>?_) (fun z h=>?_)
        ·refine Tr.block (sr ((Rn.fldP (o':=0) trivial rfl rfl (Rn.load (v:=(l_ a1.Alphabet)) trivial rfl (Ql rfl) rfl rfl (md rfl ?_)))))
         obtain ⟨x29,h30,h⟩:=bnd h
         refine Rn.idxD (e:=(eI .i64)) trivial rfl rfl h30 (Rn.loadC (x:=.int .i64 x29) trivial rfl (md rfl (nt ((Tr.seq ?_)))))
         refine Tr.rgnD (by decide) ?_
         refine Rn.load (v:=(Qa a1)) trivial rfl (Ql rfl) rfl rfl (Rn.mov (v:=.d (.lst 3 (List.map Qs l25))) trivial rfl (md rfl ?_))
         obtain ⟨x31,h32,h⟩:=bnd h
         refine Rn.idxD (e:=Qs) trivial rfl rfl h32 (Rn.fldC trivial rfl (Rn.loadC (x:=.int .i64 x31.state_) trivial rfl (md rfl ?_)))
         obtain ⟨x34,h33,h⟩:=bnd h
         refine Rn.call (args:=[(Qa a1),(i_ x31.state_),(i_ x29)]) trivial rfl (H_overseerref03_Step _ _ _ _ h33) (fun _=>Q8r hM rfl) (Rn.mov (v:=.d (.lst 3 (List.map Qs l25))) trivial rfl (md rfl ?_))
         obtain ⟨x35,h36,h⟩:=bnd h
         refine Rn.idxD (e:=Qs) trivial rfl rfl h36 (Rn.fldC trivial rfl (Rn.loadC (x:=.int .i64 x35.done_) trivial rfl (Rn.build (v:=.agg [(i_ x34),(i_ x35.done_),.nils 1]) trivial rfl (Rn.alloc trivial rfl (Rn.storeT (v:=.agg [(i_ x34),(i_ x35.done_),.nils 1]) (ds:=[(i_ x34),(i_ x35.done_),.nils 1]) (cs':=[(i_ x34),(i_ x35.done_),.nils 1]) trivial rfl rfl rfl rfl rfl rfl rfl ?_)))))
         refine Rn.nil ⟨rfl,?_⟩
         refine toN ?_
         refine Tr.cutJ (fun (next45 : Int)=>⟨look [(1,(l_ onto2)),(2,(l_ observation3)),(3,(b_ marked4)),(4,.ptr (Γ.n0 + 4) 0),(10,.own 3 (List.map Qs l25)),(11,(i_ i10)),(12,(i_ k26)),(13,(i_ x29)),(14,.ptr (Γ.n0 + 14) 0)],Qp Γ.n0 (bxs [(4,.cells ((Qd a1))),(14,.cells ([(i_ x34),(i_ next45),.nils 1]))]) M,Γ.n0 + 151⟩) h (fun J67 h=>?_) (fun z h=>?_)
         ·refine sr ((md rfl (md rfl ?_)))
          obtain ⟨x38,h37,h⟩:=bnd h
          refine Rn.call (args:=[(l_ onto2),(i_ x29)]) trivial rfl (H_overseerref07_has _ _ _ h37) pc9 (Rn.nil (toN ?_))
          refine Tr.cond rfl (fun hb39=>?_) (fun hb39=>?_)
          ·replace h:=bT hb39 h
           refine Tr.seq ?_
           refine Tr.cutB (fun (x43 : Bool)=>⟨look [(1,(l_ onto2)),(2,(l_ observation3)),(3,(b_ marked4)),(4,.ptr (Γ.n0 + 4) 0),(10,.own 3 (List.map Qs l25)),(11,(i_ i10)),(12,(i_ k26)),(13,(i_ x29)),(14,.ptr (Γ.n0 + 14) 0),(99,(b_ x43))],Qp Γ.n0 (bxs [(4,.cells ((Qd a1))),(14,.cells ([(i_ x34),(i_ x35.done_),.nils 1]))]) M,Γ.n0 + 151⟩) h (fun z h=>?_) (fun z h=>?_)
           ·refine Tr.rgn (Rn.fldP (o':=1) trivial rfl rfl (Rn.load (v:=(i_ x35.done_)) trivial rfl (Ql rfl) rfl rfl (md rfl (Rn.lenD trivial rfl (Rn.bin trivial rfl rfl rfl (md rfl ?_))))))
            refine Qc5 (x35.done_ == (observation3.length : Int)) (fun hb40=>?_) (fun hb40=>?_)
            ·replace h:=bT hb40 h
             refine Rn.sk (nw rfl hb40) (Rn.sk (nw rfl hb40) (Rn.sk (nw rfl hb40) (Rn.sk (nw rfl hb40) (Rn.sk (nw rfl hb40) (Rn.sk (nw rfl hb40) (Rn.sk (nw rfl hb40) (Rn.pickT (v:=(b_ true)) trivial rfl hb40 rfl (Rn.nil ?_))))))))
             replace h:=si h; subst h
             exact Qi [] ⟨(sm rfl),(sm rfl),(sm rfl),(kPtr rfl),(sm rfl),(sm rfl),(sm rfl),(sm rfl),(kPtr rfl),(sm rfl),trivial⟩ ⟨⟨_,rfl,rfl,(.same rfl)⟩,⟨_,rfl,rfl,(.same rfl)⟩,trivial⟩ rfl
            ·replace h:=bF hb40 h
             refine Rn.movD (gw rfl hb40) rfl (Rn.fldP (o':=1) (gw rfl hb40) rfl rfl (Rn.load (v:=(i_ x35.done_)) (gw rfl hb40) rfl (Ql rfl) rfl rfl ?_))
             obtain ⟨x41,h42,h⟩:=bnd h
             refine Rn.idxD (e:=(eI .i64)) (gw rfl hb40) rfl rfl h42 (Rn.loadC (x:=.int .i64 x41) (gw rfl hb40) rfl (Rn.movD (gw rfl hb40) rfl (Rn.bin (gw rfl hb40) rfl rfl rfl (Rn.pickF (v:=(b_ (x41 != x29))) trivial rfl hb40 rfl (Rn.nil ?_)))))
             replace h:=si h; subst h
             exact Qi [] ⟨(sm rfl),(sm rfl),(sm rfl),(kPtr rfl),(sm rfl),(sm rfl),(sm rfl),(sm rfl),(kPtr rfl),(sm rfl),trivial⟩ ⟨⟨_,rfl,rfl,(.same rfl)⟩,⟨_,rfl,rfl,(.same rfl)⟩,trivial⟩ rfl
           ·obtain ⟨x43,rfl⟩ : ∃ x,x = z:=⟨_,rfl⟩
            refine Tr.cond rfl (fun hb44=>?_) (fun hb44=>?_)
            ·replace h:=bT hb44 h
             refine Tr.exit ?_
             replace h:=si h; subst h
             exact Qi [] ⟨(sm rfl),(sm rfl),(sm rfl),(kPtr rfl),(sm rfl),(sm rfl),(sm rfl),trivial⟩ ⟨⟨_,rfl,rfl,(.same rfl)⟩,⟨_,rfl,rfl,(.cons (sm rfl) (.cons (sm rfl) (.cons (WkV.nilsO _) .nil)))⟩,trivial⟩ rfl
            ·replace h:=bF hb44 h
             refine Tr.skip (toN (Tr.rgn (Rn.fldP (o':=1) trivial rfl rfl (Rn.load (v:=(i_ x35.done_)) trivial rfl (Ql rfl) rfl rfl (Rn.bin trivial rfl rfl rfl (Rn.fldP (o':=1) trivial rfl rfl (Rn.store (v:=(i_ (IntKind.wrap .i64 (x35.done_ + 1)))) (cs':=[(i_ x34),(i_ (IntKind.wrap .i64 (x35.done_ + 1))),.nils 1]) trivial rfl rfl rfl rfl rfl rfl (Rn.nil ?_))))))))
             exact ⟨_,h,(by exact Qi [] ⟨(sm rfl),(sm rfl),(sm rfl),(kPtr rfl),(sm rfl),(sm rfl),(sm rfl),(sm rfl),(kPtr rfl),trivial⟩ ⟨⟨_,rfl,rfl,(.same rfl)⟩,⟨_,rfl,rfl,(.same rfl)⟩,trivial⟩ rfl)⟩
          ·replace h:=bF hb39 h
           refine Tr.skip ?_
           exact ⟨_,h,(by exact Qi [] ⟨(sm rfl),(sm rfl),(sm rfl),(kPtr rfl),(sm rfl),(sm rfl),(sm rfl),(sm rfl),(kPtr rfl),trivial⟩ ⟨⟨_,rfl,rfl,(.same rfl)⟩,⟨_,rfl,rfl,(.same rfl)⟩,trivial⟩ rfl)⟩
         ·obtain ⟨next45,rfl⟩ : ∃ x,x = z:=⟨_,rfl⟩
          refine sr ((Rn.fldP (o':=0) trivial rfl rfl (Rn.load (v:=(i_ x34)) trivial rfl (Ql rfl) rfl rfl (Rn.bin trivial rfl rfl rfl (md rfl (Rn.nil (toN ?_)))))))
          refine Tr.cutB (fun (seen57 : Bool)=>⟨look [(1,(l_ onto2)),(2,(l_ observation3)),(3,(b_ marked4)),(4,.ptr (Γ.n0 + 4) 0),(10,.own 3 (List.map Qs l25)),(11,(i_ i10)),(12,(i_ k26)),(13,(i_ x29)),(14,.ptr (Γ.n0 + 14) 0),(15,(b_ seen57))],Qp Γ.n0 (bxs [(4,.cells ((Qd a1))),(14,.cells ([(i_ x34),(i_ next45),.nils 1]))]) M,Γ.n0 + 151⟩) h (fun z h=>?_) (fun z h=>?_)
          ·refine sr ((md rfl (nt ((Tr.block ?_)))))
           refine Tr.loop (mk:=fun ((seen46,m47) : Bool × Int)=>⟨look [(1,(l_ onto2)),(2,(l_ observation3)),(3,(b_ marked4)),(4,.ptr (Γ.n0 + 4) 0),(10,.own 3 (List.map Qs l25)),(11,(i_ i10)),(12,(i_ k26)),(13,(i_ x29)),(14,.ptr (Γ.n0 + 14) 0),(15,(b_ seen46)),(16,(i_ m47))],Qp Γ.n0 (bxs [(4,.cells ((Qd a1))),(14,.cells ([(i_ x34),(i_ next45),.nils 1]))]) M,Γ.n0 + 151⟩) h (by exact Qj ⟨(sm rfl),(sm rfl),(sm rfl),(kPtr rfl),(sm rfl),(sm rfl),(sm rfl),(sm rfl),(kPtr rfl),(sm rfl),(sm rfl),trivial⟩ ⟨⟨_,rfl,rfl,(.same rfl)⟩,⟨_,rfl,rfl,(.same rfl)⟩,trivial⟩ rfl) (fun k48 z h=>?_)
           ·obtain ⟨seen46,m47⟩:=z
            replace h : _ = some _:=h
            refine Tr.seq (sr ((md rfl (Rn.mov (v:=.d (.lst 3 (List.map Qs l25))) trivial rfl (Rn.lenD trivial rfl (Rn.bin trivial rfl rfl rfl (Rn.nil (toN ?_))))))))
            refine Tr.cond rfl (fun hb49=>?_) (fun hb49=>?_)
            ·replace h:=ifT hb49 h
             refine Tr.skip (toN ?_)
             refine Tr.cutB (fun (seen56 : Bool)=>⟨look [(1,(l_ onto2)),(2,(l_ observation3)),(3,(b_ marked4)),(4,.ptr (Γ.n0 + 4) 0),(10,.own 3 (List.map Qs l25)),(11,(i_ i10)),(12,(i_ k26)),(13,(i_ x29)),(14,.ptr (Γ.n0 + 14) 0),(15,(b_ seen56)),(16,(i_ m47))],Qp Γ.n0 (bxs [(4,.cells ((Qd a1))),(14,.cells ([(i_ x34),(i_ next45),.nils 1]))]) M,Γ.n0 + 151⟩) h (fun z h=>?_) (fun z h=>?_)
             ·refine Tr.block ?_
              refine Tr.rgnD (by decide) ?_
              refine md rfl (md rfl ?_)
              refine Qc5 seen46 (fun hb50=>?_) (fun hb50=>?_)
              ·replace h:=bT hb50 h
               refine Rn.sk (nw rfl hb50) (Rn.sk (nw rfl hb50) (Rn.sk (nw rfl hb50) (Rn.sk (nw rfl hb50) (Rn.sk (nw rfl hb50) (Rn.sk (nw rfl hb50) (Rn.sk (nw rfl hb50) (Rn.sk (nw rfl hb50) (Rn.sk (nw rfl hb50) (Rn.sk (nu rfl) (Rn.sk (nu rfl) (Rn.sk (nu rfl) (Rn.sk (nu rfl) (Rn.sk (nu rfl) (Rn.sk (nu rfl) (Rn.sk (nu rfl) (Rn.sk (nu rfl) (Rn.sk (nw rfl hb50) (Rn.pickT (v:=(b_ true)) trivial rfl hb50 rfl (md rfl ?_)))))))))))))))))))
               refine Rn.nil ⟨rfl,?_⟩
               replace h:=si h; subst h
               exact Qi [] ⟨(sm rfl),(sm rfl),(sm rfl),(kPtr rfl),(sm rfl),(sm rfl),(sm rfl),(sm rfl),(kPtr rfl),(sm rfl),(sm rfl),trivial⟩ ⟨⟨_,rfl,rfl,(.same rfl)⟩,⟨_,rfl,rfl,(.same rfl)⟩,trivial⟩ rfl
              ·replace h:=bF hb50 h
               refine Rn.mov (v:=.d (.lst 3 (List.map Qs l25))) (gw rfl hb50) rfl (Rn.movD (gw rfl hb50) rfl ?_)
               obtain ⟨x51,h52,h⟩:=bnd h
               refine Rn.idxD (e:=Qs) (gw rfl hb50) rfl rfl h52 (Rn.fldC (gw rfl hb50) rfl (Rn.loadC (x:=.int .i64 x51.state_) (gw rfl hb50) rfl (Rn.fldP (o':=0) (gw rfl hb50) rfl rfl (Rn.load (v:=(i_ x34)) (gw rfl hb50) rfl (Ql rfl) rfl rfl (Rn.bin (gw rfl hb50) rfl rfl rfl (Rn.movD (gw rfl hb50) rfl ?_))))))
               refine Qc5 (x51.state_ == x34) (fun hb53=>?_) (fun hb53=>?_)
               ·replace h:=bT hb53 h
                refine Rn.mov (v:=.d (.lst 3 (List.map Qs l25))) (gw rfl hb53) rfl (Rn.movD (gw rfl hb53) rfl ?_)
                obtain ⟨x54,h55,h⟩:=bnd h
                refine Rn.idxD (e:=Qs) (gw rfl hb53) rfl rfl h55 (Rn.fldC (gw rfl hb53) rfl (Rn.loadC (x:=.int .i64 x54.done_) (gw rfl hb53) rfl (Rn.fldP (o':=1) (gw rfl hb53) rfl rfl (Rn.load (v:=(i_ next45)) (gw rfl hb53) rfl (Ql rfl) rfl rfl (Rn.bin (gw rfl hb53) rfl rfl rfl (Rn.pickT (v:=(b_ (x54.done_ == next45))) (gw rfl hb50) rfl hb53 rfl (Rn.pickF (v:=(b_ (x54.done_ == next45))) trivial rfl hb50 rfl (md rfl ?_))))))))
                refine Rn.nil ⟨rfl,?_⟩
                replace h:=si h; subst h
                exact Qi [] ⟨(sm rfl),(sm rfl),(sm rfl),(kPtr rfl),(sm rfl),(sm rfl),(sm rfl),(sm rfl),(kPtr rfl),(sm rfl),(sm rfl),trivial⟩ ⟨⟨_,rfl,rfl,(.same rfl)⟩,⟨_,rfl,rfl,(.same rfl)⟩,trivial⟩ rfl
               ·replace h:=bF hb53 h
                refine Rn.sk (nw rfl hb53) (Rn.sk (nw rfl hb53) (Rn.sk (nw rfl hb53) (Rn.sk (nw rfl hb53) (Rn.sk (nw rfl hb53) (Rn.sk (nw rfl hb53) (Rn.sk (nw rfl hb53) (Rn.sk (nw rfl hb53) (Rn.pickF (v:=(b_ false)) (gw rfl hb50) rfl hb53 rfl (Rn.pickF (v:=(b_ false)) trivial rfl hb50 rfl (md rfl ?_))))))))))
                refine Rn.nil ⟨rfl,?_⟩
                replace h:=si h; subst h
                exact Qi [] ⟨(sm rfl),(sm rfl),(sm rfl),(kPtr rfl),(sm rfl),(sm rfl),(sm rfl),(sm rfl),(kPtr rfl),(sm rfl),(sm rfl),trivial⟩ ⟨⟨_,rfl,rfl,(.same rfl)⟩,⟨_,rfl,rfl,(.same rfl)⟩,trivial⟩ rfl
             ·obtain ⟨seen56,rfl⟩ : ∃ x,x = z:=⟨_,rfl⟩
              refine Tr.rgn (md rfl (Rn.bin trivial rfl rfl rfl (md rfl (Rn.nil ?_))))
              exact ⟨_,h,(by exact Qj ⟨(sm rfl),(sm rfl),(sm rfl),(kPtr rfl),(sm rfl),(sm rfl),(sm rfl),(sm rfl),(kPtr rfl),(sm rfl),(sm rfl),trivial⟩ ⟨⟨_,rfl,rfl,(.same rfl)⟩,⟨_,rfl,rfl,(.same rfl)⟩,trivial⟩ rfl)⟩
            ·replace h:=ifF hb49 h
             refine Tr.exit ?_
             replace h:=si h; subst h
             exact Qi [] ⟨(sm rfl),(sm rfl),(sm rfl),(kPtr rfl),(sm rfl),(sm rfl),(sm rfl),(sm rfl),(kPtr rfl),(sm rfl),trivial⟩ ⟨⟨_,rfl,rfl,(.same rfl)⟩,⟨_,rfl,rfl,(.same rfl)⟩,trivial⟩ rfl
          ·obtain ⟨seen57,rfl⟩ : ∃ x,x = z:=⟨_,rfl⟩
           refine sr ((md rfl (Rn.un trivial rfl rfl (Rn.nil (toN ?_)))))
           refine Tr.cond rfl (fun hb58=>?_) (fun hb58=>?_)
           ·have hb58:=nT' hb58
            replace h:=bF hb58 h
            refine sr ((Rn.bslice (xs:=[]) (cs:=[]) trivial rfl rfl rfl rfl (Rn.mov (v:=.d (.lst 3 (List.map Qs l25))) trivial rfl (md rfl ?_))))
            obtain ⟨x59,h60,h⟩:=bnd h
            refine Rn.idxD (e:=Qs) trivial rfl rfl h60 (Rn.fldC trivial rfl (Rn.loadC (x:=.lst 1 (List.map (eI .i64) x59.word_)) trivial rfl ?_))
            obtain ⟨x61,h62,h⟩:=bnd h
            refine Rn.app0 (e:=(eI .i64)) trivial rfl rfl rfl rfl Qyo h62 rfl (md rfl (Rn.bslice (xs:=[(i_ x29)]) (cs:=[(i_ x29)]) trivial rfl rfl rfl rfl ?_))
            obtain ⟨x63,h64,h⟩:=bnd h
            refine Rn.app (e:=(eI .i64)) trivial rfl rfl rfl (Qcb rfl rfl rfl) h64 rfl (Rn.fldP (o':=2) trivial rfl rfl (Rn.storeO (cs':=[(i_ x34),(i_ next45),.own 1 (List.map (eI .i64) x63)]) trivial rfl rfl rfl rfl rfl (nt ((Tr.rgn (Rn.movTO trivial rfl (Rn.load (v:=.agg [(i_ x34),(i_ next45),(l_ x63)]) trivial rfl (Ql rfl) rfl rfl (Rn.bslice (xs:=[.agg [(i_ x34),(i_ next45),(l_ x63)]]) (cs:=[(i_ x34),(i_ next45),(l_ x63)]) trivial rfl rfl rfl rfl ?_))))))))
            obtain ⟨x65,h66,h⟩:=bnd h
            refine Rn.app (e:=Qs) trivial rfl rfl rfl (Qcb rfl rfl rfl) h66 rfl (Rn.movTO trivial rfl (Rn.nil ?_))
            replace h:=si h; subst h
            exact Qi [136,144,149] ⟨(sm rfl),(sm rfl),(sm rfl),(kPtr rfl),(sm rfl),(sm rfl),(sm rfl),trivial⟩ ⟨⟨_,rfl,rfl,(.same rfl)⟩,⟨_,rfl,rfl,(.same rfl)⟩,trivial⟩ rfl
           ·have hb58:=nF' hb58
            replace h:=bT hb58 h
            refine Tr.skip ?_
            replace h:=si h; subst h
            exact Qi [] ⟨(sm rfl),(sm rfl),(sm rfl),(kPtr rfl),(sm rfl),(sm rfl),(sm rfl),trivial⟩ ⟨⟨_,rfl,rfl,(.same rfl)⟩,⟨_,rfl,rfl,(.cons (sm rfl) (.cons (sm rfl) (.cons (WkV.nilsO _) .nil)))⟩,trivial⟩ rfl
        ·obtain ⟨l68,next69,next70,next71⟩:=z
         refine Tr.rgn (md rfl (Rn.bin trivial rfl rfl rfl (md rfl (Rn.nil ?_))))
         exact ⟨_,h,(by exact Qj ⟨(sm rfl),(sm rfl),(sm rfl),(kPtr rfl),(sm rfl),(sm rfl),(sm rfl),trivial⟩ ⟨⟨_,rfl,rfl,(.same rfl)⟩,trivial⟩ rfl)⟩
       ·replace h:=ifF hb28 h
        refine Tr.exit (toN (Tr.rgn (md rfl (Rn.bin trivial rfl rfl rfl (md rfl (Rn.nil ?_))))))
        exact ⟨_,h,(by exact Qj ⟨(sm rfl),(sm rfl),(sm rfl),(kPtr rfl),(sm rfl),(sm rfl),trivial⟩ ⟨⟨_,rfl,rfl,(.same rfl)⟩,trivial⟩ rfl)⟩
   ·replace h:=ifF hb12 h
    refine Tr.exit (toN (sr ((Rn.movTC (v:=.nils 1) trivial (md rfl (nt ((Tr.ret ?_))))))))
    replace h:=si h; subst h
    exact ⟨.inr rfl,.tup [.nils 1,(b_ false)],res2 rfl rfl,(WkV.tup (.cons (WkV.nilsD _) (.cons (.same rfl) .nil))).rd,⟨trivial,trivial,trivial⟩,fun k hk=>Qf hk⟩
theorem Qio {P : Program} {c : Nat} {Qby : Option Bool} {Qb3 : (List Int) → Q1 → Option Qb} {Qbd : Int → Option ((List Int))} {Qb4 : Qb → (List Int) → Option ((List Int))} {Qbb : Qb → (List Int) → (List Int) → Bool → Option ((List Int) × Bool × Int)} {Qcs : (List Int) → Int → Option Bool} {Qbu : Qb → (List Int) → (List Int) → Bool → Option ((List Int) × Bool)} {Qr : (List Int) → (List Int) → Option Bool}
    (H_overseerlaw07_known : Qgq P 7 Qby)
    (H_overseerlaw03_Make : Qhj P 9 Qb3)
    (H_overseerlaw03_Set_Events : Qet P 10 Qbd)
    (H_overseerref07_Kept : Qhl P 15 Qb4)
    (H_projection_Lift : Qg3 P 16 Qbb)
    (H_overseerlaw03_Has : Qh3 P 17 Qcs)
    (H_overseerref07_Lift : Qhn P 18 Qbu)
    (H_overseerref03_SameInts : Qcn P 19 Qr) (hcf : Qt P c = some Qdk) (fuel : Nat) : Qfl P c (Qcv Qby Qb3 Qbd Qb4 Qbb Qcs Qbu Qr fuel):=by
 intro s1 g2 observation3 r h
 refine Qcy hcf rfl fun Γ M hP hnt hM=>?_
 subst hP
 refine Tr.init [(0,.agg [.d (.int .u8 s1.1),.d (.int .u8 s1.2)]),(1,.agg [.d (.int .u8 g2.States),.d (.int .u8 g2.Marks),.d (.int .u8 g2.To.1.1),.d (.int .u8 g2.To.1.2.1),.d (.int .u8 g2.To.1.2.2.1),.d (.int .u8 g2.To.1.2.2.2.1),.d (.int .u8 g2.To.1.2.2.2.2),.d (.int .u8 g2.To.2.1.1),.d (.int .u8 g2.To.2.1.2.1),.d (.int .u8 g2.To.2.1.2.2.1),.d (.int .u8 g2.To.2.1.2.2.2.1),.d (.int .u8 g2.To.2.1.2.2.2.2),.d (.int .u8 g2.To.2.2.1.1),.d (.int .u8 g2.To.2.2.1.2.1),.d (.int .u8 g2.To.2.2.1.2.2.1),.d (.int .u8 g2.To.2.2.1.2.2.2.1),.d (.int .u8 g2.To.2.2.1.2.2.2.2),.d (.int .u8 g2.To.2.2.2.1.1),.d (.int .u8 g2.To.2.2.2.1.2.1),.d (.int .u8 g2.To.2.2.2.1.2.2.1),.d (.int .u8 g2.To.2.2.2.1.2.2.2.1),.d (.int .u8 g2.To.2.2.2.1.2.2.2.2),.d (.int .u8 g2.To.2.2.2.2.1),.d (.int .u8 g2.To.2.2.2.2.2.1),.d (.int .u8 g2.To.2.2.2.2.2.2.1),.d (.int .u8 g2.To.2.2.2.2.2.2.2.1),.d (.int .u8 g2.To.2.2.2.2.2.2.2.2)]),(2,(l_ observation3))] rfl ?_
 unfold Qcv at h
 unfold Qdk
 refine sr ((Rn.box (v:=.agg [.d (.int .u8 s1.1),.d (.int .u8 s1.2)]) (cs:=[.d (.int .u8 s1.1),.d (.int .u8 s1.2)]) trivial rfl rfl rfl rfl rfl (Rn.box (v:=.agg [.d (.int .u8 g2.States),.d (.int .u8 g2.Marks),.d (.int .u8 g2.To.1.1),.d (.int .u8 g2.To.1.2.1),.d (.int .u8 g2.To.1.2.2.1),.d (.int .u8 g2.To.1.2.2.2.1),.d (.int .u8 g2.To.1.2.2.2.2),.d (.int .u8 g2.To.2.1.1),.d (.int .u8 g2.To.2.1.2.1),.d (.int .u8 g2.To.2.1.2.2.1),.d (.int .u8 g2.To.2.1.2.2.2.1),.d (.int .u8 g2.To.2.1.2.2.2.2),.d (.int .u8 g2.To.2.2.1.1),.d (.int .u8 g2.To.2.2.1.2.1),.d (.int .u8 g2.To.2.2.1.2.2.1),.d (.int .u8 g2.To.2.2.1.2.2.2.1),.d (.int .u8 g2.To.2.2.1.2.2.2.2),.d (.int .u8 g2.To.2.2.2.1.1),.d (.int .u8 g2.To.2.2.2.1.2.1),.d (.int .u8 g2.To.2.2.2.1.2.2.1),.d (.int .u8 g2.To.2.2.2.1.2.2.2.1),.d (.int .u8 g2.To.2.2.2.1.2.2.2.2),.d (.int .u8 g2.To.2.2.2.2.1),.d (.int .u8 g2.To.2.2.2.2.2.1),.d (.int .u8 g2.To.2.2.2.2.2.2.1),.d (.int .u8 g2.To.2.2.2.2.2.2.2.1),.d (.int .u8 g2.To.2.2.2.2.2.2.2.2)]) (cs:=[.d (.int .u8 g2.States),.d (.int .u8 g2.Marks),.d (.int .u8 g2.To.1.1),.d (.int .u8 g2.To.1.2.1),.d (.int .u8 g2.To.1.2.2.1),.d (.int .u8 g2.To.1.2.2.2.1),.d (.int .u8 g2.To.1.2.2.2.2),.d (.int .u8 g2.To.2.1.1),.d (.int .u8 g2.To.2.1.2.1),.d (.int .u8 g2.To.2.1.2.2.1),.d (.int .u8 g2.To.2.1.2.2.2.1),.d (.int .u8 g2.To.2.1.2.2.2.2),.d (.int .u8 g2.To.2.2.1.1),.d (.int .u8 g2.To.2.2.1.2.1),.d (.int .u8 g2.To.2.2.1.2.2.1),.d (.int .u8 g2.To.2.2.1.2.2.2.1),.d (.int .u8 g2.To.2.2.1.2.2.2.2),.d (.int .u8 g2.To.2.2.2.1.1),.d (.int .u8 g2.To.2.2.2.1.2.1),.d (.int .u8 g2.To.2.2.2.1.2.2.1),.d (.int .u8 g2.To.2.2.2.1.2.2.2.1),.d (.int .u8 g2.To.2.2.2.1.2.2.2.2),.d (.int .u8 g2.To.2.2.2.2.1),.d (.int .u8 g2.To.2.2.2.2.2.1),.d (.int .u8 g2.To.2.2.2.2.2.2.1),.d (.int .u8 g2.To.2.2.2.2.2.2.2.1),.d (.int .u8 g2.To.2.2.2.2.2.2.2.2)]) trivial rfl rfl rfl rfl rfl (md rfl (nt ((Tr.seq ?_)))))))
 refine Tr.cutB (fun (x7 : Bool)=>⟨look [(2,(l_ observation3)),(3,.ptr (Γ.n0 + 3) 0),(4,.ptr (Γ.n0 + 4) 0),(23,(b_ x7))],Qp Γ.n0 (bxs [(3,.cells ([.d (.int .u8 s1.1),.d (.int .u8 s1.2)])),(4,.cells ([.d (.int .u8 g2.States),.d (.int .u8 g2.Marks),.d (.int .u8 g2.To.1.1),.d (.int .u8 g2.To.1.2.1),.d (.int .u8 g2.To.1.2.2.1),.d (.int .u8 g2.To.1.2.2.2.1),.d (.int .u8 g2.To.1.2.2.2.2),.d (.int .u8 g2.To.2.1.1),.d (.int .u8 g2.To.2.1.2.1),.d (.int .u8 g2.To.2.1.2.2.1),.d (.int .u8 g2.To.2.1.2.2.2.1),.d (.int .u8 g2.To.2.1.2.2.2.2),.d (.int .u8 g2.To.2.2.1.1),.d (.int .u8 g2.To.2.2.1.2.1),.d (.int .u8 g2.To.2.2.1.2.2.1),.d (.int .u8 g2.To.2.2.1.2.2.2.1),.d (.int .u8 g2.To.2.2.1.2.2.2.2),.d (.int .u8 g2.To.2.2.2.1.1),.d (.int .u8 g2.To.2.2.2.1.2.1),.d (.int .u8 g2.To.2.2.2.1.2.2.1),.d (.int .u8 g2.To.2.2.2.1.2.2.2.1),.d (.int .u8 g2.To.2.2.2.1.2.2.2.2),.d (.int .u8 g2.To.2.2.2.2.1),.d (.int .u8 g2.To.2.2.2.2.2.1),.d (.int .u8 g2.To.2.2.2.2.2.2.1),.d (.int .u8 g2.To.2.2.2.2.2.2.2.1),.d (.int .u8 g2.To.2.2.2.2.2.2.2.2)]))]) M,Γ.n0 + 96⟩) h (fun z h=>?_) (fun z h=>?_)
 ·refine Tr.rgn ?_
  obtain ⟨x5,h4,h⟩:=bnd h
  refine Rn.call (args:=[]) trivial rfl (H_overseerlaw07_known _ h4) pc9 (Rn.un trivial rfl rfl (md rfl ?_))
  refine Qc5 x5 (fun hb6=>?_) (fun hb6=>?_)
  ·replace h:=bT hb6 h
   refine Rn.movD (gw rfl (nT hb6)) rfl (Rn.lenD (gw rfl (nT hb6)) rfl (Rn.bin (gw rfl (nT hb6)) rfl rfl rfl (Rn.pickF (v:=(b_ (decide ((observation3.length : Int) > 5)))) trivial rfl (nT hb6) rfl (Rn.nil ?_))))
   replace h:=si h; subst h
   exact Qi [] ⟨(sm rfl),(kPtr rfl),(kPtr rfl),(sm rfl),trivial⟩ ⟨⟨_,rfl,rfl,(.same rfl)⟩,⟨_,rfl,rfl,(.same rfl)⟩,trivial⟩ rfl
  ·replace h:=bF hb6 h
   refine Rn.sk (nw rfl (nF hb6)) (Rn.sk (nw rfl (nF hb6)) (Rn.sk (nw rfl (nF hb6)) (Rn.pickT (v:=(b_ true)) trivial rfl (nF hb6) rfl (Rn.nil ?_))))
   replace h:=si h; subst h
   exact Qi [] ⟨(sm rfl),(kPtr rfl),(kPtr rfl),(sm rfl),trivial⟩ ⟨⟨_,rfl,rfl,(.same rfl)⟩,⟨_,rfl,rfl,(.same rfl)⟩,trivial⟩ rfl
 ·obtain ⟨x7,rfl⟩ : ∃ x,x = z:=⟨_,rfl⟩
  refine Tr.cond rfl (fun hb8=>?_) (fun hb8=>?_)
  ·replace h:=bT hb8 h
   refine Tr.seq (Tr.rgn ?_)
   obtain ⟨x10,h9,h⟩:=bnd h
   refine Rn.call (args:=[]) trivial rfl (H_overseerlaw07_known _ h9) pc9 (md rfl (nt ((Tr.ret ?_))))
   replace h:=si h; subst h
   exact ⟨.inr rfl,(b_ x10),rfl,fun _ _ _ _ h=>h,trivial,fun k hk=>Qf hk⟩
  ·replace h:=bF hb8 h
   refine Tr.skip (toN (Tr.seq ?_))
   refine Tr.rgnD (by decide) ?_
   refine Rn.k (v:=.ptr (Γ.n0 + 3) 0) trivial rfl rfl rfl (Rn.load (v:=.d (.int .u8 s1.1)) trivial rfl (Ql rfl) rfl rfl ?_)
   obtain ⟨x12,h11,h⟩:=bnd h
   refine Rn.call (args:=[.d (.int .u8 s1.1)]) trivial rfl (H_overseerlaw03_Set_Events _ _ h11) (fun _=>Q8r hM rfl) (Rn.load (v:=.agg [.d (.int .u8 g2.States),.d (.int .u8 g2.Marks),.d (.int .u8 g2.To.1.1),.d (.int .u8 g2.To.1.2.1),.d (.int .u8 g2.To.1.2.2.1),.d (.int .u8 g2.To.1.2.2.2.1),.d (.int .u8 g2.To.1.2.2.2.2),.d (.int .u8 g2.To.2.1.1),.d (.int .u8 g2.To.2.1.2.1),.d (.int .u8 g2.To.2.1.2.2.1),.d (.int .u8 g2.To.2.1.2.2.2.1),.d (.int .u8 g2.To.2.1.2.2.2.2),.d (.int .u8 g2.To.2.2.1.1),.d (.int .u8 g2.To.2.2.1.2.1),.d (.int .u8 g2.To.2.2.1.2.2.1),.d (.int .u8 g2.To.2.2.1.2.2.2.1),.d (.int .u8 g2.To.2.2.1.2.2.2.2),.d (.int .u8 g2.To.2.2.2.1.1),.d (.int .u8 g2.To.2.2.2.1.2.1),.d (.int .u8 g2.To.2.2.2.1.2.2.1),.d (.int .u8 g2.To.2.2.2.1.2.2.2.1),.d (.int .u8 g2.To.2.2.2.1.2.2.2.2),.d (.int .u8 g2.To.2.2.2.2.1),.d (.int .u8 g2.To.2.2.2.2.2.1),.d (.int .u8 g2.To.2.2.2.2.2.2.1),.d (.int .u8 g2.To.2.2.2.2.2.2.2.1),.d (.int .u8 g2.To.2.2.2.2.2.2.2.2)]) trivial rfl (Ql rfl) rfl rfl ?_)
   obtain ⟨x14,h13,h⟩:=bnd h
   refine Rn.call (args:=[(l_ x12),.agg [.d (.int .u8 g2.States),.d (.int .u8 g2.Marks),.d (.int .u8 g2.To.1.1),.d (.int .u8 g2.To.1.2.1),.d (.int .u8 g2.To.1.2.2.1),.d (.int .u8 g2.To.1.2.2.2.1),.d (.int .u8 g2.To.1.2.2.2.2),.d (.int .u8 g2.To.2.1.1),.d (.int .u8 g2.To.2.1.2.1),.d (.int .u8 g2.To.2.1.2.2.1),.d (.int .u8 g2.To.2.1.2.2.2.1),.d (.int .u8 g2.To.2.1.2.2.2.2),.d (.int .u8 g2.To.2.2.1.1),.d (.int .u8 g2.To.2.2.1.2.1),.d (.int .u8 g2.To.2.2.1.2.2.1),.d (.int .u8 g2.To.2.2.1.2.2.2.1),.d (.int .u8 g2.To.2.2.1.2.2.2.2),.d (.int .u8 g2.To.2.2.2.1.1),.d (.int .u8 g2.To.2.2.2.1.2.1),.d (.int .u8 g2.To.2.2.2.1.2.2.1),.d (.int .u8 g2.To.2.2.2.1.2.2.2.1),.d (.int .u8 g2.To.2.2.2.1.2.2.2.2),.d (.int .u8 g2.To.2.2.2.2.1),.d (.int .u8 g2.To.2.2.2.2.2.1),.d (.int .u8 g2.To.2.2.2.2.2.2.1),.d (.int .u8 g2.To.2.2.2.2.2.2.2.1),.d (.int .u8 g2.To.2.2.2.2.2.2.2.2)]]) trivial rfl (H_overseerlaw03_Make _ _ _ h13) (fun _=>Q8r hM rfl) (Rn.k (v:=.ptr (Γ.n0 + 3) 1) trivial rfl rfl rfl (Rn.load (v:=.d (.int .u8 s1.2)) trivial rfl (Ql rfl) rfl rfl ?_))
   obtain ⟨x16,h15,h⟩:=bnd h
   refine Rn.call (args:=[.d (.int .u8 s1.2)]) trivial rfl (H_overseerlaw03_Set_Events _ _ h15) (fun _=>Q8r hM rfl) (Rn.alloc trivial rfl (Rn.storeT (v:=(Qa x14)) (ds:=(Qd x14)) (cs':=(Qd x14)) trivial rfl rfl rfl rfl rfl rfl rfl (Rn.movTO trivial rfl ?_)))
   refine Rn.nil ⟨rfl,?_⟩
   refine toN (sr ((Rn.load (v:=(Qa x14)) trivial rfl (Ql rfl) rfl rfl (Rn.mov (v:=(l_ x16)) trivial rfl ?_))))
   obtain ⟨x18,h17,h⟩:=bnd h
   refine Rn.call (args:=[(Qa x14),(l_ x16)]) trivial rfl (H_overseerref07_Kept _ _ _ h17) pc9 (Rn.movTO trivial rfl (nt ((Tr.seq (sr ((md rfl (nt ((Tr.block ?_))))))))))
   refine Tr.loop (mk:=fun (i19 : Int)=>⟨look [(2,(l_ observation3)),(7,.ptr (Γ.n0 + 7) 0),(8,.own 1 (List.map (eI .i64) x16)),(9,.own 1 (List.map (eI .i64) x18)),(10,(i_ i19))],Qp Γ.n0 (bxs [(3,.cells ([.d (.int .u8 s1.1),.d (.int .u8 s1.2)])),(4,.cells ([.d (.int .u8 g2.States),.d (.int .u8 g2.Marks),.d (.int .u8 g2.To.1.1),.d (.int .u8 g2.To.1.2.1),.d (.int .u8 g2.To.1.2.2.1),.d (.int .u8 g2.To.1.2.2.2.1),.d (.int .u8 g2.To.1.2.2.2.2),.d (.int .u8 g2.To.2.1.1),.d (.int .u8 g2.To.2.1.2.1),.d (.int .u8 g2.To.2.1.2.2.1),.d (.int .u8 g2.To.2.1.2.2.2.1),.d (.int .u8 g2.To.2.1.2.2.2.2),.d (.int .u8 g2.To.2.2.1.1),.d (.int .u8 g2.To.2.2.1.2.1),.d (.int .u8 g2.To.2.2.1.2.2.1),.d (.int .u8 g2.To.2.2.1.2.2.2.1),.d (.int .u8 g2.To.2.2.1.2.2.2.2),.d (.int .u8 g2.To.2.2.2.1.1),.d (.int .u8 g2.To.2.2.2.1.2.1),.d (.int .u8 g2.To.2.2.2.1.2.2.1),.d (.int .u8 g2.To.2.2.2.1.2.2.2.1),.d (.int .u8 g2.To.2.2.2.1.2.2.2.2),.d (.int .u8 g2.To.2.2.2.2.1),.d (.int .u8 g2.To.2.2.2.2.2.1),.d (.int .u8 g2.To.2.2.2.2.2.2.1),.d (.int .u8 g2.To.2.2.2.2.2.2.2.1),.d (.int .u8 g2.To.2.2.2.2.2.2.2.2)])),(7,.cells ((Qd x14)))]) M,Γ.n0 + 96⟩) h (by exact Qj ⟨(sm rfl),(kPtr rfl),(sm rfl),(sm rfl),(sm rfl),trivial⟩ ⟨⟨_,rfl,rfl,(.same rfl)⟩,⟨_,rfl,rfl,(.same rfl)⟩,⟨_,rfl,rfl,(.same rfl)⟩,trivial⟩ rfl) (fun k20 z h=>?_)
   ·obtain ⟨i19,rfl⟩ : ∃ x,x = z:=⟨_,rfl⟩
    replace h : _ = some _:=h
    refine Tr.seq (sr ((md rfl (Rn.bin trivial rfl rfl rfl (Rn.nil (toN ?_))))))
    refine Tr.cond rfl (fun hb21=>?_) (fun hb21=>?_)
    ·replace h:=ifT hb21 h
     refine Tr.skip (toN (Tr.seq (Tr.block (sr ((Rn.load (v:=(Qa x14)) trivial rfl (Ql rfl) rfl rfl (Rn.mov (v:=(l_ x16)) trivial rfl (md rfl (md rfl (Rn.bin trivial rfl rfl rfl ?_))))))))))
     obtain ⟨⟨r23,r24,r25⟩,h22,h⟩:=bnd h
     refine Rn.call (args:=[(Qa x14),(l_ x16),(l_ observation3),(b_ (i19 == 1))]) trivial rfl (H_projection_Lift _ _ _ _ _ h22) pc9 (Rn.mov (v:=.tup [(l_ r23),(b_ r24),(i_ r25)]) trivial rfl (Rn.extTD (vs:=[(l_ r23),(b_ r24),(i_ r25)]) trivial rfl rfl rfl (Rn.ext (v:=(b_ r24)) (vs:=[(l_ r23),(b_ r24),(i_ r25)]) trivial rfl rfl rfl (Rn.ext (v:=(i_ r25)) (vs:=[(l_ r23),(b_ r24),(i_ r25)]) trivial rfl rfl rfl (Rn.movTD trivial rfl (md rfl (md rfl (nt ((Tr.seq (sr ((md rfl (nt ((Tr.block ?_))))))))))))))))
     refine Tr.loop (mk:=fun (k26 : Int)=>⟨look [(2,(l_ observation3)),(7,.ptr (Γ.n0 + 7) 0),(8,.own 1 (List.map (eI .i64) x16)),(9,.own 1 (List.map (eI .i64) x18)),(10,(i_ i19)),(11,(l_ r23)),(12,(b_ r24)),(13,(i_ r25)),(14,(i_ k26))],Qp Γ.n0 (bxs [(3,.cells ([.d (.int .u8 s1.1),.d (.int .u8 s1.2)])),(4,.cells ([.d (.int .u8 g2.States),.d (.int .u8 g2.Marks),.d (.int .u8 g2.To.1.1),.d (.int .u8 g2.To.1.2.1),.d (.int .u8 g2.To.1.2.2.1),.d (.int .u8 g2.To.1.2.2.2.1),.d (.int .u8 g2.To.1.2.2.2.2),.d (.int .u8 g2.To.2.1.1),.d (.int .u8 g2.To.2.1.2.1),.d (.int .u8 g2.To.2.1.2.2.1),.d (.int .u8 g2.To.2.1.2.2.2.1),.d (.int .u8 g2.To.2.1.2.2.2.2),.d (.int .u8 g2.To.2.2.1.1),.d (.int .u8 g2.To.2.2.1.2.1),.d (.int .u8 g2.To.2.2.1.2.2.1),.d (.int .u8 g2.To.2.2.1.2.2.2.1),.d (.int .u8 g2.To.2.2.1.2.2.2.2),.d (.int .u8 g2.To.2.2.2.1.1),.d (.int .u8 g2.To.2.2.2.1.2.1),.d (.int .u8 g2.To.2.2.2.1.2.2.1),.d (.int .u8 g2.To.2.2.2.1.2.2.2.1),.d (.int .u8 g2.To.2.2.2.1.2.2.2.2),.d (.int .u8 g2.To.2.2.2.2.1),.d (.int .u8 g2.To.2.2.2.2.2.1),.d (.int .u8 g2.To.2.2.2.2.2.2.1),.d (.int .u8 g2.To.2.2.2.2.2.2.2.1),.d (.int .u8 g2.To.2.2.2.2.2.2.2.2)])),(7,.cells ((Qd x14)))]) M,Γ.n0 + 96⟩) h (by exact Qj ⟨(sm rfl),(kPtr rfl),(sm rfl),(sm rfl),(sm rfl),(sm rfl),(sm rfl),(sm rfl),(sm rfl),trivial⟩ ⟨⟨_,rfl,rfl,(.same rfl)⟩,⟨_,rfl,rfl,(.same rfl)⟩,⟨_,rfl,rfl,(.same rfl)⟩,trivial⟩ rfl) (fun k27 z h=>?_)
     ·obtain ⟨k26,rfl⟩ : ∃ x,x = z:=⟨_,rfl⟩
      replace h : _ = some _:=h
      refine Tr.seq (sr ((md rfl (md rfl (Rn.lenD trivial rfl (Rn.bin trivial rfl rfl rfl (Rn.nil (toN ?_))))))))
      refine Tr.cond rfl (fun hb28=>?_) (fun hb28=>?_)
      ·replace h:=ifT hb28 h
       refine Tr.skip (toN (Tr.seq (Tr.block (sr ((Rn.mov (v:=(l_ x18)) trivial rfl (md rfl (md rfl ?_))))))))
       obtain ⟨x29,h30,h⟩:=bnd h
       refine Rn.idxD (e:=(eI .i64)) trivial rfl rfl h30 (Rn.loadC (x:=.int .i64 x29) trivial rfl ?_)
       obtain ⟨x32,h31,h⟩:=bnd h
       refine Rn.call (args:=[(l_ x18),(i_ x29)]) trivial rfl (H_overseerlaw03_Has _ _ _ h31) pc9 (Rn.un trivial rfl rfl (Rn.nil (toN ?_)))
       refine Tr.cond rfl (fun hb33=>?_) (fun hb33=>?_)
       ·have hb33:=nT' hb33
        replace h:=bF hb33 h
        refine sr ((md rfl (Rn.lenD trivial rfl (Rn.bin trivial rfl rfl rfl (md rfl ?_)))))
        refine Qc5 ((r23.length : Int) == 0) (fun hb34=>?_) (fun hb34=>?_)
        ·replace h:=bT hb34 h
         refine Rn.movD (gw rfl hb34) rfl (Rn.un (gw rfl hb34) rfl rfl (Rn.pickT (v:=(b_ (!r24))) trivial rfl hb34 rfl (md rfl ?_)))
         refine Qc5 r24 (fun hb35=>?_) (fun hb35=>?_)
         ·replace h:=bT hb35 h
          refine Rn.sk (nw rfl (nT hb35)) (Rn.sk (nw rfl (nT hb35)) (Rn.pickF (v:=(b_ false)) trivial rfl (nT hb35) rfl (md rfl (nt ((Tr.ret ?_))))))
          replace h:=si h; subst h
          exact ⟨.inr rfl,(b_ false),rfl,fun _ _ _ _ h=>h,trivial,fun k hk=>Qf hk⟩
         ·replace h:=bF hb35 h
          refine Rn.movD (gw rfl (nF hb35)) rfl (Rn.bin (gw rfl (nF hb35)) rfl rfl rfl (Rn.pickT (v:=(b_ (r25 == 9))) trivial rfl (nF hb35) rfl (md rfl (nt ((Tr.ret ?_))))))
          replace h:=si h; subst h
          exact ⟨.inr rfl,(b_ (r25 == 9)),rfl,fun _ _ _ _ h=>h,trivial,fun k hk=>Qf hk⟩
        ·replace h:=bF hb34 h
         refine Rn.sk (nw rfl hb34) (Rn.sk (nw rfl hb34) (Rn.pickF (v:=(b_ false)) trivial rfl hb34 rfl (md rfl (Rn.sk (nw (b:=false) rfl rfl) (Rn.sk (nw (b:=false) rfl rfl) (Rn.pickF (v:=(b_ false)) trivial rfl rfl rfl (md rfl (nt ((Tr.ret ?_))))))))))
         replace h:=si h; subst h
         exact ⟨.inr rfl,(b_ false),rfl,fun _ _ _ _ h=>h,trivial,fun k hk=>Qf hk⟩
       ·have hb33:=nF' hb33
        replace h:=bT hb33 h
        refine Tr.skip (toN (Tr.rgn (md rfl (Rn.bin trivial rfl rfl rfl (md rfl (Rn.nil ?_))))))
        exact ⟨_,h,(by exact Qj ⟨(sm rfl),(kPtr rfl),(sm rfl),(sm rfl),(sm rfl),(sm rfl),(sm rfl),(sm rfl),(sm rfl),trivial⟩ ⟨⟨_,rfl,rfl,(.same rfl)⟩,⟨_,rfl,rfl,(.same rfl)⟩,⟨_,rfl,rfl,(.same rfl)⟩,trivial⟩ rfl)⟩
      ·replace h:=ifF hb28 h
       refine Tr.exit (toN (sr ((Rn.load (v:=(Qa x14)) trivial rfl (Ql rfl) rfl rfl (Rn.mov (v:=(l_ x16)) trivial rfl (md rfl (md rfl (Rn.bin trivial rfl rfl rfl ?_))))))))
       obtain ⟨⟨r37,r38⟩,h36,h⟩:=bnd h
       refine Rn.call (args:=[(Qa x14),(l_ x16),(l_ observation3),(b_ (i19 == 1))]) trivial rfl (H_overseerref07_Lift _ _ _ _ _ h36) pc9 (Rn.mov (v:=.tup [(l_ r37),(b_ r38)]) trivial rfl (Rn.extTD (vs:=[(l_ r37),(b_ r38)]) trivial rfl rfl rfl (Rn.ext (v:=(b_ r38)) (vs:=[(l_ r37),(b_ r38)]) trivial rfl rfl rfl (Rn.movTD trivial rfl (md rfl (Rn.nil (toN ?_)))))))
       refine Tr.cutB (fun (x43 : Bool)=>⟨look [(2,(l_ observation3)),(7,.ptr (Γ.n0 + 7) 0),(8,.own 1 (List.map (eI .i64) x16)),(9,.own 1 (List.map (eI .i64) x18)),(10,(i_ i19)),(95,(b_ x43))],Qp Γ.n0 (bxs [(3,.cells ([.d (.int .u8 s1.1),.d (.int .u8 s1.2)])),(4,.cells ([.d (.int .u8 g2.States),.d (.int .u8 g2.Marks),.d (.int .u8 g2.To.1.1),.d (.int .u8 g2.To.1.2.1),.d (.int .u8 g2.To.1.2.2.1),.d (.int .u8 g2.To.1.2.2.2.1),.d (.int .u8 g2.To.1.2.2.2.2),.d (.int .u8 g2.To.2.1.1),.d (.int .u8 g2.To.2.1.2.1),.d (.int .u8 g2.To.2.1.2.2.1),.d (.int .u8 g2.To.2.1.2.2.2.1),.d (.int .u8 g2.To.2.1.2.2.2.2),.d (.int .u8 g2.To.2.2.1.1),.d (.int .u8 g2.To.2.2.1.2.1),.d (.int .u8 g2.To.2.2.1.2.2.1),.d (.int .u8 g2.To.2.2.1.2.2.2.1),.d (.int .u8 g2.To.2.2.1.2.2.2.2),.d (.int .u8 g2.To.2.2.2.1.1),.d (.int .u8 g2.To.2.2.2.1.2.1),.d (.int .u8 g2.To.2.2.2.1.2.2.1),.d (.int .u8 g2.To.2.2.2.1.2.2.2.1),.d (.int .u8 g2.To.2.2.2.1.2.2.2.2),.d (.int .u8 g2.To.2.2.2.2.1),.d (.int .u8 g2.To.2.2.2.2.2.1),.d (.int .u8 g2.To.2.2.2.2.2.2.1),.d (.int .u8 g2.To.2.2.2.2.2.2.2.1),.d (.int .u8 g2.To.2.2.2.2.2.2.2.2)])),(7,.cells ((Qd x14)))]) M,Γ.n0 + 96⟩) h (fun z h=>?_) (fun z h=>?_)
       ·refine Tr.rgn (md rfl (md rfl ?_))
        obtain ⟨x40,h39,h⟩:=bnd h
        refine Rn.call (args:=[(l_ r23),(l_ r37)]) trivial rfl (H_overseerref03_SameInts _ _ _ h39) pc9 (Rn.un trivial rfl rfl (md rfl ?_))
        refine Qc5 x40 (fun hb41=>?_) (fun hb41=>?_)
        ·replace h:=bT hb41 h
         refine Rn.movD (gw rfl (nT hb41)) rfl (Rn.movD (gw rfl (nT hb41)) rfl (Rn.bin (gw rfl (nT hb41)) rfl rfl rfl (Rn.pickF (v:=(b_ (!(r24 == r38)))) trivial rfl (nT hb41) rfl (md rfl ?_))))
         refine Qc5 (r24 == r38) (fun hb42=>?_) (fun hb42=>?_)
         ·replace h:=bT hb42 h
          refine Rn.movD (gw rfl (nT hb42)) rfl (Rn.bin (gw rfl (nT hb42)) rfl rfl rfl (Rn.pickF (v:=(b_ (r25 != 0))) trivial rfl (nT hb42) rfl (Rn.nil ?_)))
          replace h:=si h; subst h
          exact Qi [] ⟨(sm rfl),(kPtr rfl),(sm rfl),(sm rfl),(sm rfl),(sm rfl),trivial⟩ ⟨⟨_,rfl,rfl,(.same rfl)⟩,⟨_,rfl,rfl,(.same rfl)⟩,⟨_,rfl,rfl,(.same rfl)⟩,trivial⟩ rfl
         ·replace h:=bF hb42 h
          refine Rn.sk (nw rfl (nF hb42)) (Rn.sk (nw rfl (nF hb42)) (Rn.pickT (v:=(b_ true)) trivial rfl (nF hb42) rfl (Rn.nil ?_)))
          replace h:=si h; subst h
          exact Qi [] ⟨(sm rfl),(kPtr rfl),(sm rfl),(sm rfl),(sm rfl),(sm rfl),trivial⟩ ⟨⟨_,rfl,rfl,(.same rfl)⟩,⟨_,rfl,rfl,(.same rfl)⟩,⟨_,rfl,rfl,(.same rfl)⟩,trivial⟩ rfl
        ·replace h:=bF hb41 h
         refine Rn.sk (nw rfl (nF hb41)) (Rn.sk (nw rfl (nF hb41)) (Rn.sk (nw rfl (nF hb41)) (Rn.pickT (v:=(b_ true)) trivial rfl (nF hb41) rfl (md rfl (Rn.sk (nw (b:=true) rfl rfl) (Rn.sk (nw (b:=true) rfl rfl) (Rn.pickT (v:=(b_ true)) trivial rfl rfl rfl (Rn.nil ?_))))))))
         replace h:=si h; subst h
         exact Qi [] ⟨(sm rfl),(kPtr rfl),(sm rfl),(sm rfl),(sm rfl),(sm rfl),trivial⟩ ⟨⟨_,rfl,rfl,(.same rfl)⟩,⟨_,rfl,rfl,(.same rfl)⟩,⟨_,rfl,rfl,(.same rfl)⟩,trivial⟩ rfl
       ·obtain ⟨x43,rfl⟩ : ∃ x,x = z:=⟨_,rfl⟩
        refine Tr.cond rfl (fun hb44=>?_) (fun hb44=>?_)
        ·replace h:=bT hb44 h
         refine sr ((md rfl (nt ((Tr.ret ?_)))))
         replace h:=si h; subst h
         exact ⟨.inr rfl,(b_ false),rfl,fun _ _ _ _ h=>h,trivial,fun k hk=>Qf hk⟩
        ·replace h:=bF hb44 h
         refine Tr.skip (toN (Tr.rgn (md rfl (Rn.bin trivial rfl rfl rfl (md rfl (Rn.nil ?_))))))
         exact ⟨_,h,(by exact Qj ⟨(sm rfl),(kPtr rfl),(sm rfl),(sm rfl),(sm rfl),trivial⟩ ⟨⟨_,rfl,rfl,(.same rfl)⟩,⟨_,rfl,rfl,(.same rfl)⟩,⟨_,rfl,rfl,(.same rfl)⟩,trivial⟩ rfl)⟩
    ·replace h:=ifF hb21 h
     refine Tr.exit (toN (sr ((md rfl (nt ((Tr.ret ?_)))))))
     replace h:=si h; subst h
     exact ⟨.inr rfl,(b_ true),rfl,fun _ _ _ _ h=>h,trivial,fun k hk=>Qf hk⟩
end Go.Abs
end
section
namespace Go.Proofs
open Go.Abs
set_option maxRecDepth 100000
theorem Qj9 : Qt Try.prog 4 = some Qdk:=by kernel_rfl
theorem Qzy : Qt Try.prog 7 = some Qgr:=by kernel_rfl
theorem Q13 : Qt Try.prog 9 = some Qhk:=by kernel_rfl
theorem Qo2 : Qt Try.prog 10 = some Qeu:=by kernel_rfl
theorem Q14 : Qt Try.prog 11 = some Qhf:=by kernel_rfl
theorem Q15 : Qt Try.prog 12 = some Qhh:=by kernel_rfl
theorem Q16 : Qt Try.prog 14 = some Qhd:=by kernel_rfl
theorem Q17 : Qt Try.prog 15 = some Qhm:=by kernel_rfl
theorem Q5f : Qt Try.prog 16 = some Qjv:=by kernel_rfl
theorem Q3l : Qt Try.prog 17 = some Qh4:=by kernel_rfl
theorem Q18 : Qt Try.prog 18 = some Qho:=by kernel_rfl
theorem Qri : Qt Try.prog 19 = some Qfk:=by kernel_rfl
theorem Qva : Qt Try.prog 26 = some Qfs:=by kernel_rfl
theorem Qpv : Qt Try.prog 27 = some Qe6:=by kernel_rfl
theorem Qzz : Qt Try.prog 28 = some Qgs:=by kernel_rfl
theorem Qpw : Qt Try.prog 29 = some Qe8:=by kernel_rfl
theorem Q4i : Qt Try.prog 30 = some Qit:=by kernel_rfl
theorem Q3m : Qt Try.prog 31 = some Qhy:=by kernel_rfl
theorem Q3n : Qt Try.prog 32 = some Qh0:=by kernel_rfl
theorem Qz0 : Qt Try.prog 35 = some Qgj:=by kernel_rfl
theorem Qx6 : Qt Try.prog 37 = some Qga:=by kernel_rfl
theorem Qz1 : Qt Try.prog 38 = some Qgp:=by kernel_rfl
theorem Q3o : Qt Try.prog 39 = some Qh2:=by kernel_rfl
theorem Q19 : Qt Try.prog 40 = some Qhi:=by kernel_rfl
theorem Q2a : Qt Try.prog 41 = some Qhb:=by kernel_rfl
theorem Qoe : Qt Try.prog 42 = some Qei:=by kernel_rfl
theorem Qkw : Qt Try.prog 44 = some Qdt:=by kernel_rfl
theorem Qo3 : Qt Try.prog 45 = some Qes:=by kernel_rfl
theorem Qof : Qt Try.prog 46 = some Qek:=by kernel_rfl
theorem Q4j : Qt Try.prog 47 = some Qiu:=by kernel_rfl
theorem Q3p : Qt Try.prog 48 = some Qh1:=by kernel_rfl
theorem Qz2 : Qt Try.prog 49 = some Qgl:=by kernel_rfl
theorem Qog : Qt Try.prog 50 = some Qeg:=by kernel_rfl
theorem Qz3 : Qt Try.prog 51 = some Qgu:=by kernel_rfl
theorem Qz4 : Qt Try.prog 52 = some Qgw:=by kernel_rfl
theorem Q5g : Qt Try.prog 53 = some Qjp:=by kernel_rfl
theorem Q4k : Qt Try.prog 57 = some Qis:=by kernel_rfl
theorem Qz5 : Qt Try.prog 59 = some Qgn:=by kernel_rfl
theorem Qpx : Qt Try.prog 62 = some Qe2:=by kernel_rfl
theorem Qjh : Qt Try.prog 63 = some Qdg:=by kernel_rfl
theorem Qlr : Qt Try.prog 64 = some Qd5:=by kernel_rfl
theorem Qls : Qt Try.prog 65 = some Qd3:=by kernel_rfl
theorem Q2b : Qt Try.prog 66 = some Qha:=by kernel_rfl
theorem Qx7 : Qt Try.prog 67 = some Qf7:=by kernel_rfl
theorem Q73 : Qt Try.prog 74 = some Qpr:=by kernel_rfl
theorem Qpy : Qt Try.prog 87 = some Qe4:=by kernel_rfl
theorem Q7b : Qt Try.prog 88 = some Qnt:=by kernel_rfl
theorem Qx8 : Qt Try.prog 91 = some Qf9:=by kernel_rfl
theorem Q7c : Qt Try.prog 97 = some Qni:=by kernel_rfl
theorem Q4l : Qt Try.prog 101 = some Qiw:=by kernel_rfl
theorem Qlt : Qt Try.prog 102 = some Qd7:=by kernel_rfl
theorem Q5h : Qt Try.prog 103 = some Qj6:=by kernel_rfl
theorem Q5i : Qt Try.prog 104 = some Qj8:=by kernel_rfl
end Go.Proofs
end
section
namespace Go.Abs
open Go Go.Sort
set_option linter.unusedVariables false
section plain
variable {β : Type}
def insB (lt : β → β → Bool) (x : β) : List β → List β
 | []=>[x]
 | y :: ys=>if lt y x then y :: insB lt x ys else x :: y :: ys
def Qhr (lt : β → β → Bool) : List β → List β
 | []=>[]
 | x :: xs=>insB lt x (Qhr lt xs)
def Q74 (lt : β → β → Bool) : List β → Bool
 | []=>true
 | x :: xs=>xs.all (fun y=>lt x y || lt y x) && Q74 lt xs
def Qbis (ok : β → Bool) (lt : β → β → Bool) (l : List β) : Option (List β):=if l.all ok && Q74 lt l then some (Qhr lt l) else none
theorem Q7d (lt : β → β → Bool) (x : β) : ∀ l,(insB lt x l).Perm (x :: l)
 | []=>.refl _
 | y :: ys=>by
  unfold insB; split
  ·exact ((Q7d lt x ys).cons y).trans (.swap x y ys)
  ·exact .refl _
theorem Qh6 (lt : β → β → Bool) : ∀ l,(Qhr lt l).Perm l
 | []=>.refl _
 | x :: xs=>(Q7d lt x _).trans ((Qh6 lt xs).cons x)
theorem Qi8 (lt : β → β → Bool) (l : List β) : (Qhr lt l).length = l.length:=(Qh6 lt l).length_eq
theorem Q7e {lt : β → β → Bool} (h : SWO lt) (x : β) : ∀ l,l.Pairwise (fun a b=>lt b a = false) → (insB lt x l).Pairwise fun a b=>lt b a = false
 | [],_=>by simp [insB]
 | y :: ys,hl=>by
  obtain ⟨h1,h2⟩:=List.pairwise_cons.1 hl
  unfold insB; split
  ·rename_i hc
   refine List.pairwise_cons.2 ⟨fun z hz=>?_,Q7e h x ys h2⟩
   rcases List.mem_cons.1 ((Q7d lt x ys).mem_iff.1 hz) with rfl | hz
   ·cases hb : lt z y with
    | false=>rfl
    | true=>have:=h.trans _ _ _ hc hb; rw [h.irrefl] at this; cases this
   ·exact h1 z hz
  ·rename_i hc
   have hc : lt y x = false:=by cases h : lt y x <;> simp_all
   refine List.pairwise_cons.2 ⟨fun z hz=>?_,hl⟩
   rcases List.mem_cons.1 hz with rfl | hz
   ·exact hc
   ·exact h.ntrans _ _ _ (h1 z hz) hc
theorem Qi9 {lt : β → β → Bool} (h : SWO lt) : ∀ l,(Qhr lt l).Pairwise fun a b=>lt b a = false
 | []=>.nil
 | x :: xs=>Q7e h x _ (Qi9 h xs)
theorem Q8x {lt : β → β → Bool} : ∀ {l : List β},Q74 lt l = true → ∀ a b,a ∈ l → b ∈ l → lt a b = false → lt b a = false → a = b
 | [],_,a,_,ha,_,_,_=>by cases ha
 | x :: xs,h,a,b,ha,hb,h1,h2=>by
  simp only [Q74,Bool.and_eq_true,List.all_eq_true] at h
  obtain ⟨k1,k2⟩:=h
  rcases List.mem_cons.1 ha with e1 | ha' <;> rcases List.mem_cons.1 hb with e2 | hb'
  ·rw [e1,e2]
  ·subst e1; have:=k1 b hb'; simp [h1,h2] at this
  ·subst e2; have:=k1 a ha'; simp [h1,h2] at this
  ·exact Q8x k2 a b ha' hb' h1 h2
theorem Q9u {lt : β → β → Bool} (h : SWO lt) {l m : List β} (hd : Q74 lt l = true) (hp : m.Perm l) (hs : m.Pairwise fun a b=>lt b a = false) : m = Qhr lt l:=by
 refine List.Perm.eq_of_pairwise (le:=fun a b=>lt b a = false) (fun a b ha hb h1 h2=>?_) hs (Qi9 h l) (hp.trans (Qh6 lt l).symm)
 exact Q8x hd a b (hp.mem_iff.1 ha) ((Qh6 lt l).mem_iff.1 hb) h2 h1
theorem Qbc7 {α : Type} (f : α → β) (lt : β → β → Bool) (x : α) : ∀ l : List α,insB lt (f x) (l.map f) = (insB (fun a b=>lt (f a) (f b)) x l).map f
 | []=>rfl
 | y :: ys=>by
  simp only [List.map_cons,insB]; split
  ·simp only [List.map_cons,Qbc7 f lt x ys]
  ·rfl
theorem Q8y {α : Type} (f : α → β) (lt : β → β → Bool) : ∀ l : List α,Qhr lt (l.map f) = (Qhr (fun a b=>lt (f a) (f b)) l).map f
 | []=>rfl
 | x :: xs=>by simp only [List.map_cons,Qhr,Q8y f lt xs,Qbc7]
theorem Qba0 {α : Type} (f : α → β) (lt : β → β → Bool) : ∀ l : List α,Q74 lt (l.map f) = Q74 (fun a b=>lt (f a) (f b)) l
 | []=>rfl
 | x :: xs=>by simp only [List.map_cons,Q74,Qba0 f lt xs,List.all_map]; rfl
end plain
def Qez (a b : Int) : Bool:=decide (a < b)
end Go.Abs
end
section
namespace Go.Abs
open Go Go.Sort Go.RowKit
set_option linter.unusedVariables false
theorem Q7f {P : Program} {f : FuncId} {ex : Array Value} {exV : List V} {sz nb : Nat} {M : Mem} (hb : Qf5 P f = true) (hex : ∀ g w us,RFs g w exV us → us = ex.toList)
  (h : ∀ (p : Option Addr) (cap : Nat) (w : World),Calls P f (#[.slice p 0 cap] ++ ex) w fun e' w'=>e' = .returned (.tuple #[]) ∧ w' = w) :
  ACalls P f (.d (.lst sz []) :: exV) M nb (.tup []) M nb:=by
 refine ⟨hb,Nat.le_refl _,fun w g us hm hMon hfresh hus hfl hons=>?_⟩
 obtain ⟨u0,us',rfl,hu0,hus'⟩:=hus
 have h1:=hex _ _ _ hus'
 subst h1
 have h2 : ∃ p cap,u0 = .slice p 0 cap:=by
  have:=RF_d.1 hu0
  obtain ⟨a,cap,rfl,_,_⟩:=this
  exact ⟨a,cap,rfl⟩
 obtain ⟨p,cap,rfl⟩:=h2
 have e1 : (Value.slice p 0 cap :: ex.toList).toArray = #[.slice p 0 cap] ++ ex:=by apply Array.ext'; simp
 rw [e1]
 refine (h p cap w).mono ?_
 rintro e' w' ⟨rfl,rfl⟩
 exact ⟨_,g,rfl,hm,⟨[],rfl,rfl⟩,trivial,hMon,Fr.refl _ _ _⟩
theorem Qbb7 (l : List Int) : (l.mergeSort fun x y=>decide (x ≤ y)) = Qhr Qez l:=by
 have hO : Go.Sort.SWO Qez:=⟨fun x=>by simp [Qez],fun x y z h1 h2=>by simp [Qez] at *; omega,fun x y z h1 h2=>by simp [Qez] at *; omega⟩
 refine List.Perm.eq_of_pairwise (le:=fun a b=>Qez b a = false) (fun a b _ _ h1 h2=>by simp [Qez] at *; omega) ?_ (Qi9 hO l) ((List.mergeSort_perm _ _).trans (Qh6 _ l).symm)
 have:=List.pairwise_mergeSort (le:=fun x y : Int=>decide (x ≤ y)) (fun a b c h1 h2=>by simp at *; omega) (fun a b=>by simp; omega) l
 exact this.imp fun h=>by simp [Qez] at *; omega
end Go.Abs
end
section
namespace Go.Abs
def sortI (l : List Int) : Option (List Int):=if l.length ≤ lim then some (Qhr Qez l) else none
def Qbc8 (l : List Int) : Option (List Int):=if l.length ≤ lim then some (Lib.compact l) else none
def okE (x : Qe) : Bool:=decide (0 ≤ x.From ∧ x.From < 4611686018427387904 ∧ 0 ≤ x.Event ∧ x.Event < 4611686018427387904)
def ltE (x y : Qe) : Bool:=decide (x.From < y.From ∨ (x.From = y.From ∧ x.Event < y.Event))
def Qbh2 (l : List Qe) : Option (List Qe):=if l.length ≤ 65536 then Qbis okE ltE l else none
def Qbit (n : Int) : Option (List Int):=if 0 ≤ n ∧ n ≤ lim then some [] else none
def keyB (l : List Int) : ByteArray:=⟨(l.flatMap fun x=>Lib.encodeRune (x + 1)).toArray⟩
def keyS (l : List Int) : Option ByteArray:=if l.length ≤ lim ∧ ∀ x ∈ l,0 ≤ x ∧ x < 50000 then some (keyB l) else none
end Go.Abs
end
section
namespace Go.Abs
open Go Go.Abs
set_option linter.unusedVariables false
set_option maxRecDepth 10000
set_option maxHeartbeats 4000000
def Qbs : Nat:=1099511627776
def Qja:=Qbw
def Qfe:=Qbt Qbs
def Qgg:=Qck Qbs
def Qbi:=Qh Qgg
def Qeo:=Qbq Qbi Qbs
def Qfm:=Qbk Qfe Qeo
def Qgx:=Qb7 Qbs
def Qdc:=Qy Qgx Qfm
def Qeb:=Q6 Qbi Qbs
def Qfx:=Q3
def Qel:=Qw sortI Qbi Qfx Qbs
def Qgy:=Qbh Qel
def Qe9:=Q2 Qbi
def Qgc:=Qbr Qbs
def Qc1:=Qx Qgc
def Qfo:=Q7 Qc1 Qe9
def Qg4:=Qbl Qel Qbs
def Qlu:=Qce Qdc Qeb Qgy keyS Qfo Qg4 Qbs
def Qd8:=Q4 Qbi
def Qdd:=Q8 Qc1 Qd8
def Qd0:=Qbe
def Qcd:=Qbb Qdc Qbi Qeb Qdd Qd0 Qbs
def Qoh:=Qcq
def Qoi:=Qcr Qbit Qbs
def Qx9:=Qgb
def Qz6:=Qdb
def Q2k:=Qed Qz6
def Qpc:=Qcl
def Qhs:=Qbn Q2k Qpc Qbs
def Qfy:=Q5 Qbs
def Qrj:=Qc6
def Qrk:=Qc7
def Qz7:=Qdu Qfy Qrj Qrk
def Qkx:=Qb8 Qd0 Qhs Qz7 Qbs
def Qky:=Qb9 Qfm Qkx
def Qlv:=Qcf Qdc Qoh Qoi sortI Qbc8 Qbi Qbh2 Qky Qbs
def Qb6:=Qr Qbs
def Qlw:=Qcg Qb6 Qbs
def Qht:=Qbo Qb6 Qbs
def Qgz:=Qby Qlv Qlw Qlu Qcd Qb6 Qja Qht
def Qdh:=Qbd Qbs
def Qdv:=Q0
def Qbv:=Qv Qbs
def Qct:=Q9 Qbs
def Qe0:=Qbz Qbv Qct Qbs
def Qdw:=Qb0 Qbs
def Qdo:=Qbf Qdv Qbv Qct Qe0 Qdw Qbs
def Qff:=Qb3 Qdv Qdo Qbs
def Qem:=Qba Qbs
def Qfg:=Qb4 Qem Qbs
def Qh7:=Qcs Qbs
def Qc0:=Qbu Qem Qbv Qbs
def Qdl:=Qcv Qgz Qff Qdh Qfg Qcd Qh7 Qc0 Qb6 Qbs
end Go.Abs
end
section
namespace Go.Abs
open Go Go.Sort Go.Shelf Go.RowKit Go.Lib Go.Proofs
set_option linter.unusedVariables false
set_option linter.unusedSectionVars false
theorem Qba1 {α : Type} [Inhabited α] {enc : α → List Value} {k : Nat} (hk : ∀ x, (enc x).length = k) (h0 : 0 < k) : ∀ (l : List α) (t : Nat), t < l.length * k → (l.map enc).flatten[t]? = some (enc l[t / k]!)[t % k]!
  | [], t, h => by simp at h
  | x :: xs, t, h => by
    rw [List.map_cons, List.flatten_cons]
    by_cases hl : t < k
    · rw [List.getElem?_append_left (by rw [hk]; exact hl), Nat.div_eq_of_lt hl, Nat.mod_eq_of_lt hl]
      have : t < (enc x).length := by rw [hk]; exact hl
      simp [this]
    · have hge : k ≤ t := by omega
      have h2 : t - k < xs.length * k := by simp only [List.length_cons, Nat.add_mul, Nat.one_mul] at h; omega
      rw [List.getElem?_append_right (by rw [hk]; exact hge), hk, Qba1 hk h0 xs (t - k) h2]
      have e1 : t / k = (t - k) / k + 1 := by rw [← Nat.add_div_right _ h0, Nat.sub_add_cancel hge]
      have e2 : t % k = (t - k) % k := by rw [Nat.mod_eq_sub_mod hge]
      rw [e1, e2]; simp
theorem Qba2 {α : Type} [Inhabited α] {enc : α → List Value} {k : Nat} (hk : ∀ x, (enc x).length = k) (h0 : 0 < k) (l : List α) : flatK enc k l.toArray = (l.map enc).flatten.toArray := by
  have hs : (l.map enc).flatten.length = l.length * k := by
    induction l with
    | nil => simp
    | cons x xs ih => rw [List.map_cons, List.flatten_cons, List.length_append, ih, hk]; simp [Nat.add_mul]; omega
  refine ext_get! (by simp [hs]) fun t ht => ?_
  have ht' : t < l.length * k := by simpa using ht
  rw [get_flatK _ _ _ _ (by simpa using ht')]
  have := Qba1 hk h0 l t ht'
  obtain ⟨h1, h2⟩ := List.getElem?_eq_some_iff.1 this
  rw [getElem!_pos _ t (by simpa using h1)]
  simp only [List.getElem_toArray, h2]
  simp
theorem Qba3 {α : Type} (e : α → List D) (xs : List α) : rowV e xs = (xs.map fun x => (e x).map D.val).flatten := by
  unfold rowV; rw [List.map_flatten, List.map_map]; rfl
theorem Q75 {P : Program} {ρ : Ren} {α : Type} [Inhabited α] (L : SlLaysF0.n6 P ρ) {k : Nat} (aE : ∀ w, (isAgg (ρ.t 24)).run P w = .ok true w) (zE : ∀ w, (Go.sizeOf (ρ.t 24)).run P w = .ok k w) (e : α → List D) (hk : ∀ x, (e x).length = k) (h0 : 0 < k) (hsc : ∀ x, (e x).all D.scalar = true)
    (cf : α → α → Int) (hO : SWO (ltOf cf)) (g : Nat) (cb : Array Value) (eg : ∀ args w, (callFunc g args).run P w = .ok (.enter g args) w)
    (hcmp : ∀ (x y : α) (W : World), Calls P g (#[.agg ((e x).map D.val).toArray, .agg ((e y).map D.val).toArray] ++ cb) W fun r w' => r = .returned (.int .i64 (cf x y)) ∧ ∃ q os', w' = grow (W.drewN q) os') :
    Qbfr P (ρ.f 6) e #[.func (.func g) #[] cb] (fun xs => (pdq (ltOf cf) xs.toArray 0 xs.length (Lib.bitLen xs.length) true true).toList) := by
  intro blk cap xs w hc hblk hsz
  have henc : ∀ x, ((fun x => (e x).map D.val) x).length = k := fun x => by simp [hk]
  have h1 : ∀ x : α, ∀ v ∈ (e x).map D.val, v.oneCell' = true := by
    intro x v hv
    obtain ⟨d, hd, rfl⟩ := List.mem_map.1 hv
    exact Qbb6 (List.all_eq_true.1 (hsc x) d hd)
  have hH : HoldsK (fun x => (e x).map D.val) k w blk 0 xs.toArray := by
    unfold HoldsK
    rw [Qba2 henc h0, ← Qba3]
    intro j hj
    have hj' : j < (rowV e xs).length := by simpa using hj
    obtain ⟨k1, k2⟩ := hc j hj'
    rw [Nat.zero_add]
    refine ⟨k1.trans ?_, k2⟩
    rw [List.getElem?_eq_getElem hj', getElem!_pos _ j hj]; rfl
  have hcl : CmpLays P g cb (fun x => (e x).map D.val) k cf blk 0 xs.toArray.size w := fun _ _ _ _ x y => hcmp x y _
  have := AnyQ.slices_SortFunc_eq L k aE zE (fun x => (e x).map D.val) henc h1 cf hO g cb blk 0 cap xs.toArray w eg hcl hH hblk (by simpa using hsz)
  refine this.mono ?_
  rintro r w' ⟨rfl, n, os, rfl⟩
  refine ⟨rfl, n, os, ?_⟩
  unfold sortWorldK putRowK
  have hrow : flatK (fun x => (e x).map D.val) k (pdq (ltOf cf) xs.toArray 0 xs.toArray.size (Lib.bitLen xs.toArray.size) true true) = (rowV e (pdq (ltOf cf) xs.toArray 0 xs.length (Lib.bitLen xs.length) true true).toList).toArray := by
    rw [Qba3, ← Qba2 henc h0]; simp
  rw [hrow]
section
variable {α : Type} [Inhabited α]
theorem Q9v {lt : α → α → Bool} (hO : SWO lt) (xs : List α) (k : Nat) : (pdq lt xs.toArray 0 xs.length k true true).toList.Perm xs ∧ (pdq lt xs.toArray 0 xs.length k true true).toList.Pairwise fun a b => lt b a = false := by
  obtain ⟨⟨h1, _, h2⟩, h3⟩ := pdq_sorts lt hO xs.toArray 0 xs.length k true true (Nat.zero_le _) (by simp) (Or.inl rfl)
  generalize pdq lt xs.toArray 0 xs.length k true true = d at *
  have hs : d.size = xs.length := by simpa using h1
  refine ⟨?_, ?_⟩
  · have e1 : d.extract 0 xs.length = d := by rw [← hs]; exact Array.extract_size
    have e2 : xs.toArray.extract 0 xs.length = xs.toArray := by have : xs.length = xs.toArray.size := by simp
                                                                rw [this]; exact Array.extract_size
    rw [e1, e2] at h2
    simpa using h2
  · rw [List.pairwise_iff_getElem]
    intro i j hi hj hij
    have hi' : i < d.size := by simpa using hi
    have hj' : j < d.size := by simpa using hj
    have := h3 i j (Nat.zero_le _) hij (by omega)
    rw [getElem!_pos d i hi', getElem!_pos d j hj'] at this
    simpa using this
theorem Qbfz {lt : α → α → Bool} (hO : SWO lt) (xs : List α) (k : Nat) (hd : Q74 lt xs = true) : (pdq lt xs.toArray 0 xs.length k true true).toList = Qhr lt xs :=
  Q9u hO hd (Q9v hO xs k).1 (Q9v hO xs k).2
end
theorem Qbf0 {β : Type} {P : Program} {c : Nat} {e : β → List D} {sz N : Nat} {ok : β → Bool} {lt : β → β → Bool} [Inhabited {x : β // ok x = true}] {lt' : {x : β // ok x = true} → {x : β // ok x = true} → Bool}
    (hN : N < 4611686018427387904) (hk : ∀ x, (e x).length = sz) (hsc : ∀ x, (e x).all D.scalar = true) (hO : SWO lt') (hlt : ∀ x y, lt' x y = lt x.1 y.1) (hb : Qf5 P c = true) {ex : Array Value} {exV : List V} (hex : ∀ g w us, RFs g w exV us → us = ex.toList)
    (hrow : Qbfr P c (fun x : {x : β // ok x = true} => e x.1) ex (fun xs => (pdq lt' xs.toArray 0 xs.length (Lib.bitLen xs.length) true true).toList))
    (hnone : ∀ (p : Option Addr) (cap : Nat) (w : World), Calls P c (#[.slice p 0 cap] ++ ex) w fun e' w' => e' = .returned (.tuple #[]) ∧ w' = w) :
    RowK P c e sz exV (fun l => if l.length ≤ N then Qbis ok lt l else none) := by
  intro xs ys h
  dsimp only at h
  split at h <;> try (cases h; done)
  rename_i hlN
  unfold Qbis at h
  split at h <;> cases h
  rename_i hok
  simp only [Bool.and_eq_true, List.all_eq_true] at hok
  obtain ⟨ho, hd⟩ := hok
  obtain ⟨zs, rfl⟩ : ∃ zs : List {x : β // ok x = true}, xs = zs.map Subtype.val := ⟨xs.pmap Subtype.mk ho, by rw [List.map_pmap]; simp⟩
  have hd' : Q74 lt' zs = true := by
    rw [Qba0] at hd
    rw [show lt' = fun a b => lt a.1 b.1 from funext fun a => funext fun b => hlt a b]; exact hd
  have e1 : Qhr lt (zs.map Subtype.val) = (Qhr lt' zs).map Subtype.val := by
    rw [Q8y, show lt' = fun a b => lt a.1 b.1 from funext fun a => funext fun b => hlt a b]
  refine ⟨Qi8 _ _, fun h0 => ?_, fun hl cap k0 M nb hM => ?_⟩
  · simp only [List.map_eq_nil_iff] at h0
    subst h0
    exact ⟨rfl, fun M nb => Q7f hb hex hnone⟩
  · have hM' : M k0 = some (.cells (Qbj (zs.map fun x => e x.1) ((cap - zs.length) * sz))) := by
      rw [hM, List.map_map, List.length_map]; rfl
    have := Q8v (fun x => hk x.1) (fun x => hsc x.1) (fun xs => (Q9v hO xs _).1.length_eq) hex hb hrow zs cap k0 M nb hM' (by rw [List.length_map] at hlN; omega)
    rw [Qbfz hO zs _ hd'] at this
    rw [e1, List.map_map, List.length_map]
    exact this
end Go.Abs
end
section
namespace Go.Abs
open Go Go.RowKit
set_option linter.unusedVariables false
end Go.Abs
end
section
namespace Go.Abs
open Go Go.Sort Go.RowKit
set_option linter.unusedVariables false
theorem Q7g (xs : List Int) : rowV (eI .i64) xs = xs.map (Value.int .i64):=by
 unfold rowV
 induction xs with
 | nil=>rfl
 | cons x xs ih=>simp only [List.map_cons,List.flatten_cons,List.map_append,ih]; rfl
theorem Qbf1 {P : Program} {c : Nat} (hb : Qf5 P c = true)
  (hs : ∀ (blk off cap : Nat) (zs : List Int) (w : World),Holds (Value.int .i64) w blk off zs.toArray → blk < w.heap.size → zs.length < 4611686018427387904 →
   Calls P c #[.slice (some ⟨blk,off,none⟩) zs.length cap] w fun e w'=>e = .returned (.tuple #[]) ∧ ∃ n os,w' = grow (putRow (Value.int .i64) (Sort.ahead w n) blk off (zs.mergeSort fun x y=>decide (x ≤ y)).toArray) os)
  (hnone : ∀ (p : Option Addr) (cap : Nat) (w : World),Calls P c (#[.slice p 0 cap] ++ #[]) w fun e' w'=>e' = .returned (.tuple #[]) ∧ w' = w) :
  RowK P c (eI .i64) 1 [] (fun l=>if l.length ≤ lim then some (Qhr Qez l) else none):=by
 have hrow : Qbfr P c (eI .i64) #[] (fun xs=>Qhr Qez xs):=by
  intro blk cap xs w hcell hblk hsz
  refine Calls.mono (hs blk 0 cap xs w ?_ hblk hsz) ?_
  ·intro j hj
   have hj' : j < xs.length:=by simpa using hj
   have:=hcell j (by rw [Q7g]; simpa using hj')
   rw [Q7g] at this
   rw [Nat.zero_add]
   refine ⟨?_,this.2⟩
   rw [this.1,getElem!_pos xs.toArray j hj]
   simp [hj']
  ·rintro e w' ⟨rfl,n,os,rfl⟩
   refine ⟨rfl,n,os,?_⟩
   rw [Qbb7,Q7g]
   congr 1
   unfold putRow
   congr 1
   funext c
   unfold putCells
   congr 1
   funext k x
   simp only [List.size_toArray,List.length_map]
   split
   ·rename_i h
    simp only [id]
    rw [getElem!_pos _ _ (by simp; omega),getElem!_pos _ _ (by simp; omega)]
    simp
   ·rfl
 intro xs ys h
 dsimp only at h
 split at h <;> cases h
 rename_i hl
 refine ⟨Qi8 _ _,fun h0=>?_,fun hl2 cap k0 M nb hM=>?_⟩
 ·subst h0
  exact ⟨rfl,fun M nb=>Q7f (ex:=#[]) (exV:=[]) hb (fun _ _ _ h=>h) hnone⟩
 ·exact Q8v (e:=eI .i64) (fun _=>rfl) (fun _=>rfl) (fun xs=>Qi8 _ _) (ex:=#[]) (exV:=[]) (fun _ _ _ h=>h) hb hrow xs cap k0 M nb hM (by unfold lim at hl; omega)
end Go.Abs
end
section
namespace Go.Abs
open Go Go.Sort Go.RowKit Go.Lib
set_option linter.unusedVariables false
theorem Q7h (zs : List Int) : (Lib.compact zs).length ≤ zs.length:=by
 unfold Lib.compact Lib.compactUpTo
 rw [List.length_map]
 exact Nat.le_trans (List.length_filter_le _ _) (by simp)
theorem Qbiu (l : List Int) : (l.map (eI .i64)).flatten = l.map (D.int .i64):=by
 induction l with
 | nil=>rfl
 | cons x l ih=>simp only [List.map_cons,List.flatten_cons,ih]; rfl
theorem Qbdv {P : Program} {c : Nat} (hb : Qf5 P c = true)
  (hs : ∀ (blk off cap : Nat) (zs : List Int) (w : World),Holds (Value.int .i64) w blk off zs.toArray → zs.length ≤ 9223372036854775807 → zs.length ≤ cap →
   Calls P c #[.slice (some ⟨blk,off,none⟩) zs.length cap] w fun e w'=>e = .returned (.slice (some ⟨blk,off,none⟩) (Lib.compact zs).length cap) ∧ ∃ n,w' = putRow (Value.int .i64) (Sort.ahead w n) blk off (Lib.compact zs ++ List.replicate (zs.length - (Lib.compact zs).length) 0).toArray)
  (hnone : ∀ (p : Option Addr) (cap : Nat) (w : World),Calls P c #[.slice p 0 cap] w fun e' w'=>e' = .returned (.slice p 0 cap) ∧ w' = w) :
  CompK P c (fun l=>if l.length ≤ lim then some (Lib.compact l) else none):=by
 intro xs ys hf
 dsimp only at hf
 split at hf <;> cases hf
 rename_i hl
 refine ⟨Q7h xs,fun h0=>?_,fun cap k0 M nb hcap hM=>?_⟩
 ·subst h0
  refine ⟨rfl,fun M nb=>⟨hb,Nat.le_refl _,fun w g us hm hMon hfresh hus hfl hons=>?_⟩⟩
  obtain ⟨u0,us',rfl,hu0,rfl⟩:=hus
  have h2:=RF_d.1 hu0
  obtain ⟨a,cp,rfl,_,_⟩:=id h2
  refine (hnone a cp w).mono ?_
  rintro e' w' ⟨rfl,rfl⟩
  exact ⟨_,g,rfl,hm,hu0 _,trivial,hMon,Fr.refl _ _ _⟩
 refine ⟨hb,Nat.le_refl _,fun w g us hm hMon hfresh hus hfl hons=>?_⟩
 obtain ⟨u0,us',rfl,hu0,rfl⟩:=hus
 have h0:=Q70.1 hu0
 subst h0
 obtain ⟨hk0,hown,vals,et,hh,hrv,hone⟩:=hm.box k0 _ hM
 have hlt : g.box k0 < w.heap.size:=(Array.getElem?_eq_some_iff.1 hh).1
 obtain ⟨hvl,hvr⟩:=(Qca _ _ _ _).1 hrv
 simp only [Qbj,Qbiu,List.map_map,List.length_append,List.length_map,List.length_replicate,Nat.mul_one] at hvl hvr
 have hcell : ∀ (j : Nat) (x : Int),xs[j]? = some x → vals[j]? = some (.int .i64 x):=by
  intro j x hx
  have hj:=(List.getElem?_eq_some_iff.1 hx).1
  have hjv : j < vals.length:=by omega
  have hc : (List.map (V.d ∘ D.int .i64) xs ++ List.replicate (cap - xs.length) V.und)[j]? = some (.d (.int .i64 x)):=by
   rw [List.getElem?_append_left (by rw [List.length_map]; exact hj),List.getElem?_map,hx]; rfl
  have:=hvr j _ _ hc (List.getElem?_eq_getElem hjv)
  have h2 : vals[j] = .int .i64 x:=this
  rw [List.getElem?_eq_getElem hjv,h2]
 have hH : Holds (Value.int .i64) w (g.box k0) 0 xs.toArray:=by
  intro j hj
  have hj' : j < xs.length:=by simpa using hj
  have:=hcell j xs[j] (List.getElem?_eq_getElem hj')
  rw [Nat.zero_add]
  refine ⟨?_,by simp [World.frozen?,hh]⟩
  rw [getElem!_pos xs.toArray j hj]
  simp [World.cell?,hh,this]
 refine (hs (g.box k0) 0 cap xs w hH (by unfold lim at hl; omega) hcap).mono ?_
 rintro e' w' ⟨rfl,n,rfl⟩
 have hyl:=Q7h xs
 generalize Lib.compact xs = ys at hyl ⊢
 generalize hF : (ys ++ List.replicate (xs.length - ys.length) 0).toArray = F
 have hFs : F.size = xs.length:=by rw [← hF]; simp; omega
 have hput : putRow (Value.int .i64) (Sort.ahead w n) (g.box k0) 0 F = grow (putRow id (Sort.ahead w n) (g.box k0) 0 (F.map (Value.int .i64))) #[]:=by
  have e1 : ∀ W : World,grow W #[] = W:=fun W=>by unfold grow; simp
  rw [e1]
  unfold putRow
  congr 1
  funext c
  unfold putCells
  congr 1
  funext k x
  simp only [Array.size_map]
  split
  ·rename_i h
   simp only [id]
   rw [getElem!_pos _ _ (by omega),getElem!_pos _ _ (by simp; omega)]
   simp
  ·rfl
 rw [hput]
 generalize hF' : F.map (Value.int .i64) = F'
 have hFs' : F'.size = xs.length:=by rw [← hF',Array.size_map,hFs]
 have hFv : ∀ j (h : j < ys.length),F'[j]'(by omega) = Value.int .i64 ys[j]:=by
  intro j h
  subst hF'
  subst hF
  simp only [List.getElem_toArray,Array.getElem_map]
  rw [List.getElem_append_left h]
 have hFi : ∀ j (h : j < F'.size),∃ z : Int,F'[j] = Value.int .i64 z:=by
  intro j h
  subst hF'
  exact ⟨_,Array.getElem_map ..⟩
 have hblk:=Q68 w n (g.box k0) F' #[] hh
 have hoth : ∀ b,b ≠ g.box k0 → b < w.heap.size → (grow (putRow id (Sort.ahead w n) (g.box k0) 0 F') #[]).heap[b]? = w.heap[b]?:=fun b hb hlt=>Qp1 w n _ F' #[] hb hlt
 have hsize : w.heap.size ≤ (grow (putRow id (Sort.ahead w n) (g.box k0) 0 F') #[]).heap.size:=by
  simp [putRow,mapBlock,Sort.ahead]
 generalize hw' : grow (putRow id (Sort.ahead w n) (g.box k0) 0 F') #[] = w' at hblk hoth hsize
 have himm : Imm g.imm g.imm w w':=by
  refine ⟨fun _ _ h=>h,fun b o h=>?_⟩
  obtain ⟨k1,k2⟩:=hm.imm b o h
  have hne : b ≠ g.box k0:=by rintro rfl; exact k2 k0 hown
  simp only [World.cell?,hoth b hne k1]
 have hkept : Kept g w g w' (There M) (fun o=>o ≠ .box k0):=⟨himm,fun _ _=>rfl,fun b hb hl=>⟨rfl,hoth b (by rintro rfl; exact hb hown) hl,fun _=>Iff.rfl⟩⟩
 have hsub : ∀ (o : Owner) i,o ≠ .box k0 → o.sub i ≠ .box k0:=by intro o i _; cases o <;> simp [Owner.sub]
 have hnew : ∀ p : Nat → Prop,V.ons p (Qbj (ys.map (eI .i64)) ((cap - ys.length) * 1)):=by
  intro p
  rw [Qfq]
  intro v hv
  simp only [Qbj,List.mem_append,List.mem_map,List.mem_replicate] at hv
  rcases hv with ⟨x,_,rfl⟩ | ⟨_,rfl⟩ <;> trivial
 have hth : There (M.put k0 (.cells (Qbj (ys.map (eI .i64)) ((cap - ys.length) * 1)))) k0:=by simp [There,Mem.put]
 refine ⟨_,g,rfl,⟨fun k b hk=>?_,fun b o h=>⟨Nat.lt_of_lt_of_le (hm.imm b o h).1 hsize,(hm.imm b o h).2⟩⟩,by simp [RV],hth,fun k cs hk=>?_,?_⟩
 ·by_cases hkk : k = k0
  ·subst hkk
   rw [Qfc] at hk; cases hk
   refine ⟨hk0,hown,(putCells id 0 F' vals.toArray).toList,et,by simpa using hblk,(Qca _ _ _ _).2 ⟨?_,fun j cc x hc hx=>?_⟩,fun x hx=>?_⟩
   ·simp only [Qbj,Qbiu,List.map_map,List.length_append,List.length_map,List.length_replicate,Nat.mul_one]
    simp [putCells]
    omega
   ·have hx' : (putCells id 0 F' vals.toArray)[j]? = some x:=by simpa using hx
    simp only [putCells,Array.getElem?_mapIdx,List.getElem?_toArray,Option.map_eq_some_iff] at hx'
    obtain ⟨y,hy,rfl⟩:=hx'
    simp only [Qbj,Qbiu,List.map_map,Nat.mul_one] at hc
    by_cases hj : j < ys.length
    ·rw [List.getElem?_append_left (by rw [List.length_map]; exact hj),List.getElem?_map,List.getElem?_eq_getElem hj,Option.map_some,Option.some.injEq] at hc
     subst hc
     rw [if_pos ⟨Nat.zero_le _,by omega⟩]
     simp only [Nat.sub_zero,id]
     rw [getElem!_pos F' j (by omega),hFv j hj]
     simp [RV,RD]
    ·rw [List.getElem?_append_right (by rw [List.length_map]; omega)] at hc
     have : cc = .und:=(List.mem_replicate.1 (List.mem_of_getElem? hc)).2
     subst this; simp [RV]
   ·obtain ⟨j,hj⟩:=List.getElem?_of_mem hx
    have hx' : (putCells id 0 F' vals.toArray)[j]? = some x:=by simpa using hj
    simp only [putCells,Array.getElem?_mapIdx,List.getElem?_toArray,Option.map_eq_some_iff] at hx'
    obtain ⟨y,hy,rfl⟩:=hx'
    split
    ·rename_i hr
     simp only [id]
     rw [getElem!_pos F' _ (by omega)]
     obtain ⟨z,hz⟩:=hFi (j - 0) (by omega)
     rw [hz]
     exact Qbb6 (x:=.int .i64 z) rfl
    ·exact hone y (List.mem_of_getElem? hy)
  ·rw [Qcj _ _ hkk] at hk
   obtain ⟨k1,k2,k3⟩:=hm.box k b hk
   cases b with
   | mp es c =>
    obtain ⟨ents,q1,q2⟩:=k3
    have hne : g.box k ≠ g.box k0:=by
     intro h; rw [h,hown] at k2; cases k2; exact hkk rfl
    exact ⟨k1,k2,ents,(hoth _ hne (Array.getElem?_eq_some_iff.1 q1).1).trans q1,Qm8 (g:=g) (g':=g) hkept.imm q2⟩
   | cells cs =>
    obtain ⟨vals2,e2,q1,q2,q3⟩:=k3
    have hne : g.box k ≠ g.box k0:=by
     intro h; rw [h,hown] at k2; cases k2; exact hkk rfl
    refine ⟨k1,k2,vals2,e2,(hoth _ hne (Array.getElem?_eq_some_iff.1 q1).1).trans q1,?_,q3⟩
    exact RVs_mono hkept hsub (by simp) cs (.box k) 0 vals2 (by simpa using hkk) (hMon k cs hk) q2
 ·by_cases hkk : k = k0
  ·subst hkk
   rw [Qfc] at hk; cases hk
   exact hnew _
  ·rw [Qcj _ _ hkk] at hk
   exact ons_mono (fun j hj=>There.put hj) _ (hMon k cs hk)
 ·refine ⟨by rw [← hw']; rfl,by rw [← hw']; rfl,by rw [← hw']; rfl,hsize,himm,fun _ _=>rfl,fun b hb ho=>⟨rfl,hoth b ?_ hb,fun _=>Iff.rfl⟩⟩
  rintro rfl
  rw [hown] at ho
  exact ho
end Go.Abs
end
section
namespace Go.Proofs
open Go.Shelf
def Try.sortI_ren : Go.Shelf.Ren:=⟨fun | 5=>33 | 8=>56 | 7=>55 | 19=>77 | 20=>78 | 10=>68 | 11=>69 | 12=>70 | 13=>71 | 14=>72 | 15=>73 | 16=>74 | 17=>75 | 18=>76 | 30=>92 | 31=>93 | 32=>94 | 33=>95 | 34=>96 | 35=>97 | 40=>107 | n=>n,fun | 23=>27 | 25=>3 | 3=>3 | 32=>99 | 22=>27 | 0=>0 | 44=>123 | 46=>125 | 4=>4 | 36=>116 | 35=>115 | 41=>84 | 5=>5 | 9=>9 | 53=>136 | 57=>140 | 63=>148 | 64=>149 | n=>n,fun | n=>n⟩
theorem Try.sortI : Go.Proofs.SlLaysM.n5 Try.prog Try.sortI_ren:={
 mixed:=by kernel_rfl
 f5:=⟨Try.f33.name,by decide,Try.func33.trans (congrArg some (by kernel_rfl))⟩
 f7:=⟨Try.f55.name,by decide,Try.func55.trans (congrArg some (by kernel_rfl))⟩
 f8:=Try.func56.trans (congrArg some (by kernel_rfl))
 f10:=⟨Try.f68.name,by decide,Try.func68.trans (congrArg some (by kernel_rfl))⟩
 f11:=⟨Try.f69.name,by decide,Try.func69.trans (congrArg some (by kernel_rfl))⟩
 f12:=⟨Try.f70.name,by decide,Try.func70.trans (congrArg some (by kernel_rfl))⟩
 f13:=⟨Try.f71.name,by decide,Try.func71.trans (congrArg some (by kernel_rfl))⟩
 f14:=⟨Try.f72.name,by decide,Try.func72.trans (congrArg some (by kernel_rfl))⟩
 f15:=⟨Try.f73.name,by decide,Try.func73.trans (congrArg some (by kernel_rfl))⟩
 f16:=⟨Try.f74.name,by decide,Try.func74.trans (congrArg some (by kernel_rfl))⟩
 f17:=⟨Try.f75.name,by decide,Try.func75.trans (congrArg some (by kernel_rfl))⟩
 f18:=⟨Try.f76.name,by decide,Try.func76.trans (congrArg some (by kernel_rfl))⟩
 f19:=Try.func77.trans (congrArg some (by kernel_rfl))
 f20:=Try.func78.trans (congrArg some (by kernel_rfl))
 f30:=⟨Try.f92.name,by decide,Try.func92.trans (congrArg some (by kernel_rfl))⟩
 f31:=Try.func93.trans (congrArg some (by kernel_rfl))
 f32:=Try.func94.trans (congrArg some (by kernel_rfl))
 f33:=⟨Try.f95.name,by decide,Try.func95.trans (congrArg some (by kernel_rfl))⟩
 f34:=⟨Try.f96.name,by decide,Try.func96.trans (congrArg some (by kernel_rfl))⟩
 f35:=⟨Try.f97.name,by decide,Try.func97.trans (congrArg some (by kernel_rfl))⟩
 f40:=⟨Try.f107.name,by decide,Try.func107.trans (congrArg some (by kernel_rfl))⟩
 t0:=Try.underlying0
 a0:=Try.isAgg0
 z0:=Try.sizeOf0
 v0:=Try.zeroValue0
 t3:=Try.underlying3
 a3:=Try.isAgg3
 z3:=Try.sizeOf3
 v3:=Try.zeroValue3
 t4:=Try.underlying4
 a4:=Try.isAgg4
 z4:=Try.sizeOf4
 v4:=Try.zeroValue4
 t5:=Try.underlying5
 a5:=Try.isAgg5
 z5:=Try.sizeOf5
 v5:=Try.zeroValue5
 t9:=Try.underlying9
 a9:=Try.isAgg9
 z9:=Try.sizeOf9
 v9:=Try.zeroValue9
 t22:=Try.underlying27
 a22:=Try.isAgg27
 z22:=Try.sizeOf27
 v22:=Try.zeroValue27
 t23:=Try.underlying27
 a23:=Try.isAgg27
 z23:=Try.sizeOf27
 v23:=Try.zeroValue27
 t25:=Try.underlying3
 a25:=Try.isAgg3
 z25:=Try.sizeOf3
 v25:=Try.zeroValue3
 t32:=Try.underlying99
 a32:=Try.isAgg99
 z32:=Try.sizeOf99
 v32:=Try.zeroValue99
 t35:=Try.underlying115
 a35:=Try.isAgg115
 z35:=Try.sizeOf115
 v35:=Try.zeroValue115
 t36:=Try.underlying116
 a36:=Try.isAgg116
 z36:=Try.sizeOf116
 v36:=Try.zeroValue116
 t41:=Try.underlying84
 a41:=Try.isAgg84
 z41:=Try.sizeOf84
 v41:=Try.zeroValue84
 t44:=Try.underlying123
 a44:=Try.isAgg123
 z44:=Try.sizeOf123
 v44:=Try.zeroValue123
 t46:=Try.underlying125
 a46:=Try.isAgg125
 z46:=Try.sizeOf125
 v46:=Try.zeroValue125
 t53:=Try.underlying136
 a53:=Try.isAgg136
 z53:=Try.sizeOf136
 v53:=Try.zeroValue136
 t57:=Try.underlying140
 a57:=Try.isAgg140
 z57:=Try.sizeOf140
 v57:=Try.zeroValue140
 t63:=Try.underlying148
 a63:=Try.isAgg148
 z63:=Try.sizeOf148
 v63:=Try.zeroValue148
 t64:=Try.underlying149
 a64:=Try.isAgg149
 z64:=Try.sizeOf149
 v64:=Try.zeroValue149 }
def Try.sortE_ren : Go.Shelf.Ren:=⟨fun | 6=>36 | 15=>56 | 14=>58 | 28=>77 | 29=>78 | 20=>79 | 21=>80 | 22=>81 | 23=>82 | 24=>83 | 25=>84 | 26=>85 | 27=>86 | 46=>98 | 47=>93 | 48=>94 | 49=>99 | 50=>100 | 57=>108 | n=>n,fun | 22=>31 | 24=>63 | 25=>73 | 3=>3 | 39=>99 | 0=>0 | 53=>123 | 55=>125 | 4=>4 | 46=>116 | 45=>115 | 50=>84 | 5=>5 | 9=>9 | 66=>136 | 70=>140 | 76=>148 | 77=>149 | n=>n,fun | n=>n⟩
theorem Try.sortE : Go.Proofs.SlLaysF0.n6 Try.prog Try.sortE_ren:={
 mixed:=by kernel_rfl
 f6:=⟨Try.f36.name,by decide,Try.func36.trans (congrArg some (by kernel_rfl))⟩
 f14:=⟨Try.f58.name,by decide,Try.func58.trans (congrArg some (by kernel_rfl))⟩
 f15:=Try.func56.trans (congrArg some (by kernel_rfl))
 f20:=⟨Try.f79.name,by decide,Try.func79.trans (congrArg some (by kernel_rfl))⟩
 f21:=⟨Try.f80.name,by decide,Try.func80.trans (congrArg some (by kernel_rfl))⟩
 f22:=⟨Try.f81.name,by decide,Try.func81.trans (congrArg some (by kernel_rfl))⟩
 f23:=⟨Try.f82.name,by decide,Try.func82.trans (congrArg some (by kernel_rfl))⟩
 f24:=⟨Try.f83.name,by decide,Try.func83.trans (congrArg some (by kernel_rfl))⟩
 f25:=⟨Try.f84.name,by decide,Try.func84.trans (congrArg some (by kernel_rfl))⟩
 f26:=⟨Try.f85.name,by decide,Try.func85.trans (congrArg some (by kernel_rfl))⟩
 f27:=⟨Try.f86.name,by decide,Try.func86.trans (congrArg some (by kernel_rfl))⟩
 f28:=Try.func77.trans (congrArg some (by kernel_rfl))
 f29:=Try.func78.trans (congrArg some (by kernel_rfl))
 f46:=⟨Try.f98.name,by decide,Try.func98.trans (congrArg some (by kernel_rfl))⟩
 f47:=Try.func93.trans (congrArg some (by kernel_rfl))
 f48:=Try.func94.trans (congrArg some (by kernel_rfl))
 f49:=⟨Try.f99.name,by decide,Try.func99.trans (congrArg some (by kernel_rfl))⟩
 f50:=⟨Try.f100.name,by decide,Try.func100.trans (congrArg some (by kernel_rfl))⟩
 f57:=⟨Try.f108.name,by decide,Try.func108.trans (congrArg some (by kernel_rfl))⟩
 t0:=Try.underlying0
 a0:=Try.isAgg0
 z0:=Try.sizeOf0
 v0:=Try.zeroValue0
 t3:=Try.underlying3
 a3:=Try.isAgg3
 z3:=Try.sizeOf3
 v3:=Try.zeroValue3
 t4:=Try.underlying4
 a4:=Try.isAgg4
 z4:=Try.sizeOf4
 v4:=Try.zeroValue4
 t5:=Try.underlying5
 a5:=Try.isAgg5
 z5:=Try.sizeOf5
 v5:=Try.zeroValue5
 t9:=Try.underlying9
 a9:=Try.isAgg9
 z9:=Try.sizeOf9
 v9:=Try.zeroValue9
 t22:=Try.underlying31
 a22:=Try.isAgg31
 z22:=Try.sizeOf31
 v22:=Try.zeroValue31
 t25:=Try.underlying73
 a25:=Try.isAgg73
 z25:=Try.sizeOf73
 v25:=Try.zeroValue73
 t39:=Try.underlying99
 a39:=Try.isAgg99
 z39:=Try.sizeOf99
 v39:=Try.zeroValue99
 t45:=Try.underlying115
 a45:=Try.isAgg115
 z45:=Try.sizeOf115
 v45:=Try.zeroValue115
 t46:=Try.underlying116
 a46:=Try.isAgg116
 z46:=Try.sizeOf116
 v46:=Try.zeroValue116
 t50:=Try.underlying84
 a50:=Try.isAgg84
 z50:=Try.sizeOf84
 v50:=Try.zeroValue84
 t53:=Try.underlying123
 a53:=Try.isAgg123
 z53:=Try.sizeOf123
 v53:=Try.zeroValue123
 t55:=Try.underlying125
 a55:=Try.isAgg125
 z55:=Try.sizeOf125
 v55:=Try.zeroValue125
 t66:=Try.underlying136
 a66:=Try.isAgg136
 z66:=Try.sizeOf136
 v66:=Try.zeroValue136
 t70:=Try.underlying140
 a70:=Try.isAgg140
 z70:=Try.sizeOf140
 v70:=Try.zeroValue140
 t76:=Try.underlying148
 a76:=Try.isAgg148
 z76:=Try.sizeOf148
 v76:=Try.zeroValue148
 t77:=Try.underlying149
 a77:=Try.isAgg149
 z77:=Try.sizeOf149
 v77:=Try.zeroValue149 }
def Try.laysC_ren : Go.Shelf.Ren:=⟨fun | 20=>34 | n=>n,fun | 22=>27 | 3=>3 | 4=>4 | 0=>0 | n=>n,fun | n=>n⟩
theorem Try.laysC : Go.Proofs.Lays2.n20 Try.prog Try.laysC_ren:={
 mixed:=by kernel_rfl
 f20:=Try.func34.trans (congrArg some (by kernel_rfl))
 t0:=Try.underlying0
 a0:=Try.isAgg0
 z0:=Try.sizeOf0
 v0:=Try.zeroValue0
 t3:=Try.underlying3
 a3:=Try.isAgg3
 z3:=Try.sizeOf3
 v3:=Try.zeroValue3
 t4:=Try.underlying4
 a4:=Try.isAgg4
 z4:=Try.sizeOf4
 v4:=Try.zeroValue4
 t22:=Try.underlying27
 a22:=Try.isAgg27
 z22:=Try.sizeOf27
 v22:=Try.zeroValue27
 i3:=by kernel_rfl }
open Go.RowKit Go.Sort in
theorem Try.slices_Sort_int (blk off cap : Nat) (zs : List Int) (w : World) (hH : Holds (Value.int .i64) w blk off zs.toArray) (hblk : blk < w.heap.size) (hsz : zs.length < 4611686018427387904) :
  Calls Try.prog 33 #[.slice (some ⟨blk,off,none⟩) zs.length cap] w fun e w' =>
   e = .returned (.tuple #[]) ∧ ∃ n os,w' = grow (putRow (Value.int .i64) (Sort.ahead w n) blk off (zs.mergeSort fun x y=>decide (x ≤ y)).toArray) os:=AnyM.slices_Sort_int Try.sortI blk off cap zs w hH hblk hsz
open Go.RowKit Go.Sort in
theorem Try.slices_Sort_int_none (p : Option Addr) (cap : Nat) (w : World) :
  Calls Try.prog 33 #[.slice p 0 cap] w fun e w'=>e = .returned (.tuple #[]) ∧ w' = w:=AnyM.slices_Sort_int_none Try.sortI p cap w
open Go.RowKit Go.Lib Go.Sort in
theorem Try.slices_Compact_int (blk off cap : Nat) (zs : List Int) (w : World) (hH : Holds (Value.int .i64) w blk off zs.toArray) (hsz : zs.length ≤ 9223372036854775807) (hcap : zs.length ≤ cap) :
  Calls Try.prog 34 #[.slice (some ⟨blk,off,none⟩) zs.length cap] w fun e w'=>e = .returned (.slice (some ⟨blk,off,none⟩) (Lib.compact zs).length cap) ∧ ∃ q,w' = putRow (Value.int .i64) (Sort.ahead w q) blk off (Lib.compact zs ++ List.replicate (zs.length - (Lib.compact zs).length) 0).toArray:=Any.slices_Compact_int Try.laysC blk off cap zs w hH hsz hcap
open Go.RowKit Go.Lib Go.Sort in
theorem Try.slices_Compact_int_empty (a : Option Addr) (cap : Nat) (w : World) :
  Calls Try.prog 34 #[.slice a 0 cap] w fun e w'=>e = .returned (.slice a 0 cap) ∧ w' = w:=Any.slices_Compact_int_empty Try.laysC a cap w
end Go.Proofs
end
section
namespace Go.Proofs
open Go.Shelf Go.RowKit Go.Lib Go.Sort Go.Abs
abbrev Q8z:={x : Qe // okE x = true}
instance : Inhabited Q8z:=⟨⟨⟨0,0,0⟩,rfl⟩⟩
def cfE (x y : Q8z) : Int:=if x.1.From = y.1.From then x.1.Event - y.1.Event else x.1.From - y.1.From
theorem Q6a (x y : Q8z) : ltOf cfE x y = ltE x.1 y.1:=by
 unfold ltOf cfE ltE
 apply decide_eq_decide.2
 split <;> omega
theorem swoE : SWO (ltOf cfE):={
 irrefl x:=by rw [Q6a]; simp [ltE]
 trans x y z h1 h2:=by rw [Q6a] at *; simp only [ltE,decide_eq_true_eq] at *; omega
 ntrans x y z h1 h2:=by rw [Q6a] at *; simp only [ltE,decide_eq_false_iff_not] at *; omega }
set_option maxHeartbeats 1000000 in
theorem Try.edges37 (x y : Q8z) (W : World) : Calls Try.prog 37 #[.agg ((Qc x.1).map D.val).toArray,.agg ((Qc y.1).map D.val).toArray] W fun e w'=>e = .returned (.int .i64 (cfE x y)) ∧ ∃ q os',w' = grow (W.drewN q) os':=by
 obtain ⟨⟨a,b,c⟩,hx0⟩:=x
 obtain ⟨⟨a',b',c'⟩,hy0⟩:=y
 have hx:=hx0
 have hy:=hy0
 simp only [okE,decide_eq_true_eq] at hx hy
 have w1 : IntKind.i64.wrap (a - a') = a - a':=by simp [IntKind.wrap,IntKind.bits,IntKind.signed]; omega
 have w2 : IntKind.i64.wrap (b - b') = b - b':=by simp [IntKind.wrap,IntKind.bits,IntKind.signed]; omega
 have hr : cfE ⟨⟨a,b,c⟩,hx0⟩ ⟨⟨a',b',c'⟩,hy0⟩ = if a = a' then b - b' else a - a':=rfl
 generalize cfE ⟨⟨a,b,c⟩,hx0⟩ ⟨⟨a',b',c'⟩,hy0⟩ = r at hr ⊢
 simp only [Qc,List.map_cons,List.map_nil,D.val]
 go_enter Try.func37,Try.ntmps37
 go_wp2
 ·rename_i h
  have h : a ≠ a':=by simpa using h
  go_ret
  exact ⟨by rw [hr,if_neg h]; rfl,0,_,by rw [alloc_eq_grow,alloc_eq_grow,grow_grow]; rfl⟩
 ·rename_i h
  have h : a = a':=by simpa using h
  go_ret
  exact ⟨by rw [hr,if_pos h]; rfl,0,_,by rw [alloc_eq_grow,alloc_eq_grow,grow_grow]; rfl⟩
set_option maxHeartbeats 1000000 in
theorem Try.row36 : Qbfr Try.prog 36 (fun x : Q8z=>Qc x.1) #[.func (.func 37) #[] #[]] (fun xs=>(pdq (ltOf cfE) xs.toArray 0 xs.length (Lib.bitLen xs.length) true true).toList) :=
 Q75 Try.sortE Try.isAgg63 Try.sizeOf63 (fun x : Q8z=>Qc x.1) (fun _=>rfl) (by decide) (fun _=>rfl) cfE swoE 37 #[] (enters_of Try.func37 (by kernel_rfl) rfl) (fun x y W=>Try.edges37 x y W)
set_option maxHeartbeats 1000000 in
theorem Try.none36 (p : Option Addr) (cap : Nat) (w : World) : Calls Try.prog 36 (#[.slice p 0 cap] ++ #[.func (.func 37) #[] #[]]) w fun e' w'=>e' = .returned (.tuple #[]) ∧ w' = w :=
 AnyF.slices_SortFunc_none Try.sortE p cap (.func (.func 37) #[] #[]) w
theorem Try.rowK36 : Go.Abs.RowK Try.prog 36 Qc 3 [.clo 37 []] Qbh2 :=
 Qbf0 (e:=Qc) (sz:=3) (N:=65536) (by decide) (fun _=>rfl) (fun _=>rfl) swoE Q6a (by kernel_rfl) (ex:=#[.func (.func 37) #[] #[]]) (exV:=[.clo 37 []]) (fun g w us h=>by
  obtain ⟨u,us',rfl,hu,hus⟩:=h
  simp only [RFs] at hus
  subst hus
  have:=hu .free
  simp only [RV] at this
  obtain ⟨vs,rfl,hv⟩:=this
  simp only [RVs] at hv
  subst hv
  rfl) Try.row36 Try.none36
theorem Try.rowK33 : Go.Abs.RowK Try.prog 33 (eI .i64) 1 [] Go.Abs.sortI :=
 Qbf1 (by kernel_rfl) Try.slices_Sort_int Try.slices_Sort_int_none
theorem Try.compK34 : Go.Abs.CompK Try.prog 34 Qbc8 :=
 Qbdv (by kernel_rfl) Try.slices_Compact_int Try.slices_Compact_int_empty
end Go.Proofs
end
section
namespace Go.Proofs
open Go.Shelf
def Try.lays169_ren : Go.Shelf.Ren:=⟨fun | 169=>61 | n=>n,fun | 70=>101 | 9=>9 | 0=>0 | 72=>104 | 37=>102 | 127=>134 | 3=>3 | 5=>5 | n=>n,fun | n=>n⟩
theorem Try.lays169 : Go.Proofs.Lays.n169 Try.prog Try.lays169_ren:={
 mixed:=by kernel_rfl
 f169:=Try.func61.trans (congrArg some (by kernel_rfl))
 t0:=Try.underlying0
 a0:=Try.isAgg0
 z0:=Try.sizeOf0
 v0:=Try.zeroValue0
 t3:=Try.underlying3
 a3:=Try.isAgg3
 z3:=Try.sizeOf3
 v3:=Try.zeroValue3
 t9:=Try.underlying9
 a9:=Try.isAgg9
 z9:=Try.sizeOf9
 v9:=Try.zeroValue9
 t37:=Try.underlying102
 a37:=Try.isAgg102
 z37:=Try.sizeOf102
 v37:=Try.zeroValue102
 t70:=Try.underlying101
 a70:=Try.isAgg101
 z70:=Try.sizeOf101
 v70:=Try.zeroValue101
 t72:=Try.underlying104
 a72:=Try.isAgg104
 z72:=Try.sizeOf104
 v72:=Try.zeroValue104
 t127:=Try.underlying134
 a127:=Try.isAgg134
 z127:=Try.sizeOf134
 v127:=Try.zeroValue134 }
theorem Try.Builder_Extra_169 : Builder.Extra Try.prog Try.lays169_ren:={
 sizeBuilder:=by kernel_rfl
 liesBuilder:=by kernel_rfl
 t5:=Try.underlying5
 a5:=Try.isAgg5
 z5:=Try.sizeOf5
 v5:=Try.zeroValue5
 infoByte:=by kernel_rfl
 cellsByte:=by kernel_rfl
 sizeByte:=by kernel_rfl
 neB5:=by decide }
open Go.RowKit in
theorem Try.Builder_String_any_k (B b : Nat) (l : List UInt8) (w : World) (h : Lib.IsBuilderF 104 5 B b (Lib.byteCells l) w) (hBw : B ≤ w.heap.size) :
  Calls Try.prog 61 #[.pointer (some ⟨b,0,none⟩)] w fun e w'=>e = .returned (.string ⟨l.toArray⟩) ∧ (Lib.IsBuilderF 104 5 B b (Lib.byteCells l) w' ∧ Below B w w' ∧ Lib.OthersKept 5 (some b) w w'):=Any.Builder_String_any_k Try.lays169 Try.Builder_Extra_169 B b l w h hBw
def Try.lays168_ren : Go.Shelf.Ren:=⟨fun | 168=>60 | 240=>89 | 242=>90 | 276=>105 | 278=>106 | n=>n,fun | 0=>0 | 3=>3 | 4=>4 | 5=>5 | 9=>9 | 20=>20 | 21=>21 | 37=>102 | 46=>99 | 51=>123 | 70=>101 | 72=>104 | 75=>106 | 80=>109 | 164=>146 | n=>n,fun | n=>n⟩
theorem Try.lays168 : Go.Proofs.Lays.n168 Try.prog Try.lays168_ren:={
 mixed:=by kernel_rfl
 f168:=Try.func60.trans (congrArg some (by kernel_rfl))
 f240:=Try.func89.trans (congrArg some (by kernel_rfl))
 f242:=Try.func90.trans (congrArg some (by kernel_rfl))
 f276:=Try.func105.trans (congrArg some (by kernel_rfl))
 f278:=Try.func106.trans (congrArg some (by kernel_rfl))
 t0:=Try.underlying0
 a0:=Try.isAgg0
 z0:=Try.sizeOf0
 v0:=Try.zeroValue0
 t3:=Try.underlying3
 a3:=Try.isAgg3
 z3:=Try.sizeOf3
 v3:=Try.zeroValue3
 t4:=Try.underlying4
 a4:=Try.isAgg4
 z4:=Try.sizeOf4
 v4:=Try.zeroValue4
 t5:=Try.underlying5
 a5:=Try.isAgg5
 z5:=Try.sizeOf5
 v5:=Try.zeroValue5
 t9:=Try.underlying9
 a9:=Try.isAgg9
 z9:=Try.sizeOf9
 v9:=Try.zeroValue9
 t20:=Try.underlying20
 a20:=Try.isAgg20
 z20:=Try.sizeOf20
 v20:=Try.zeroValue20
 t21:=Try.underlying21
 a21:=Try.isAgg21
 z21:=Try.sizeOf21
 v21:=Try.zeroValue21
 t37:=Try.underlying102
 a37:=Try.isAgg102
 z37:=Try.sizeOf102
 v37:=Try.zeroValue102
 t46:=Try.underlying99
 a46:=Try.isAgg99
 z46:=Try.sizeOf99
 v46:=Try.zeroValue99
 t51:=Try.underlying123
 a51:=Try.isAgg123
 z51:=Try.sizeOf123
 v51:=Try.zeroValue123
 t70:=Try.underlying101
 a70:=Try.isAgg101
 z70:=Try.sizeOf101
 v70:=Try.zeroValue101
 t72:=Try.underlying104
 a72:=Try.isAgg104
 z72:=Try.sizeOf104
 v72:=Try.zeroValue104
 t75:=Try.underlying106
 a75:=Try.isAgg106
 z75:=Try.sizeOf106
 v75:=Try.zeroValue106
 t164:=Try.underlying146
 a164:=Try.isAgg146
 z164:=Try.sizeOf146
 v164:=Try.zeroValue146 }
theorem Try.Builder_Extra_168 : Builder.Extra Try.prog Try.lays168_ren:={
 sizeBuilder:=by kernel_rfl
 liesBuilder:=by kernel_rfl
 t5:=Try.underlying5
 a5:=Try.isAgg5
 z5:=Try.sizeOf5
 v5:=Try.zeroValue5
 infoByte:=by kernel_rfl
 cellsByte:=by kernel_rfl
 sizeByte:=by kernel_rfl
 neB5:=by decide }
open Go.RowKit in
theorem Try.Builder_WriteRune_k (B b : Nat) (bs : List Value) (r : Int) (hr0 : -2147483648 ≤ r) (hr1 : r ≤ 2147483647) (w : World) (h : Lib.IsBuilderF 104 5 B b bs w) (hlen : bs.length + 4 ≤ 140737488355328) (hBw : B ≤ w.heap.size) :
  Calls Try.prog 60 #[.pointer (some ⟨b,0,none⟩),.int .i32 r] w fun e w'=>e = .returned (.tuple #[.int .i64 (Lib.runeCells r).length,.nilIface]) ∧ (Lib.BuilderAtF 104 5 B b (.pointer (some ⟨b,0,none⟩)) (bs ++ Lib.runeCells r) w' ∧ Below B w w' ∧ Lib.OthersKept 5 (some b) w w'):=Any.Builder_WriteRune_k Try.lays168 Try.Builder_Extra_168 B b bs r hr0 hr1 w h hlen hBw
def Try.laysGrow_ren : Go.Shelf.Ren:=⟨fun | 4=>54 | n=>n,fun | 22=>27 | 25=>3 | 3=>3 | 4=>4 | 9=>9 | 20=>20 | 0=>0 | n=>n,fun | n=>n⟩
theorem Try.laysGrow : Go.Proofs.Lays8.n4 Try.prog Try.laysGrow_ren:={
 mixed:=by kernel_rfl
 f4:=⟨Try.f54.name,by decide,Try.func54.trans (congrArg some (by kernel_rfl))⟩
 t0:=Try.underlying0
 a0:=Try.isAgg0
 z0:=Try.sizeOf0
 v0:=Try.zeroValue0
 t3:=Try.underlying3
 a3:=Try.isAgg3
 z3:=Try.sizeOf3
 v3:=Try.zeroValue3
 t4:=Try.underlying4
 a4:=Try.isAgg4
 z4:=Try.sizeOf4
 v4:=Try.zeroValue4
 t9:=Try.underlying9
 a9:=Try.isAgg9
 z9:=Try.sizeOf9
 v9:=Try.zeroValue9
 t20:=Try.underlying20
 a20:=Try.isAgg20
 z20:=Try.sizeOf20
 v20:=Try.zeroValue20
 t22:=Try.underlying27
 a22:=Try.isAgg27
 z22:=Try.sizeOf27
 v22:=Try.zeroValue27 }
end Go.Proofs
end
section
namespace Go.Abs
open Go Go.RowKit
set_option linter.unusedVariables false
set_option linter.unusedSimpArgs false
theorem MR.cellOld {g : G} {w w' : World} {M : Mem} {nb : Nat} (hm : MR g w M nb) (hbw : Below w.heap.size w w') : ∀ b o,g.imm b o → w'.cell? ⟨b,o,none⟩ = w.cell? ⟨b,o,none⟩:=by
 intro b o hi
 have hlt:=(hm.imm b o hi).1
 simp only [World.cell?]
 rw [hbw.block b hlt]
theorem Q9w {P : Program} {f : FuncId} {args : List V} {x : D} (hx : x.scalar = true) (hb : Qf5 P f = true)
  (h : ∀ (w : World) (g : G) (us : List Value),(∀ b o,g.imm b o → b < w.heap.size) → RFs g w args us → Calls P f us.toArray w fun e w'=>e = .returned x.val ∧ Below w.heap.size w w') (M : Mem) (nb : Nat) : ACalls P f args M nb (.d x) M nb:=by
 refine ⟨hb,Nat.le_refl _,fun w g us hm hMon hfresh hus hfl hons=>?_⟩
 refine Calls.mono (h w g us (fun b o hi=>(hm.imm b o hi).1) hus) ?_
 rintro e w' ⟨rfl,hbw⟩
 have hI : Imm g.imm g.imm w w':=⟨fun _ _ h=>h,fun b o hi=>hm.cellOld hbw b o hi⟩
 have hk : Kept g w g w' (There M) (fun _=>True):=⟨hI,fun _ _=>rfl,fun b _ hlt=>⟨rfl,hbw.block b hlt,fun _=>Iff.rfl⟩⟩
 refine ⟨_,g,rfl,hm.kept hk hMon (fun _ _ _=>trivial) trivial (fun _ _=>trivial) (fun b o hi=>?_),?_,trivial,hMon,?_⟩
 ·obtain ⟨h1,h2⟩:=hm.imm b o hi
  exact ⟨Nat.lt_of_lt_of_le h1 hbw.size,h2⟩
 ·simp only [RV]; exact (Qbfq hx).2 rfl
 ·exact ⟨hbw.os,hbw.tape,hbw.output,hbw.size,hI,fun _ _=>rfl,fun b hb _=>⟨rfl,hbw.block b hb,fun _=>Iff.rfl⟩⟩
theorem Qbb8 {P : Program} {f : FuncId} {args : List V} {sz : Nat} (hb : Qf5 P f = true)
  (h : ∀ (w : World) (g : G) (us : List Value),RFs g w args us → Calls P f us.toArray w fun e w'=>(∃ a,e = .returned (.slice a 0 0) ∧ w' = w) ∨
   ∃ cap row t,e = .returned (.slice (some ⟨w.heap.size,0,none⟩) 0 cap) ∧ w' = w.drew.alloc (.cells row t) ∧ row.size = cap * sz ∧ cap ≤ maxLen ∧ ∀ u ∈ row.toList,u.oneCell' = true) (M : Mem) (nb : Nat) : ACalls P f args M nb (.own sz []) M nb:=by
 refine ⟨hb,Nat.le_refl _,fun w g us hm hMon hfresh hus hfl hons=>?_⟩
 refine Calls.mono (h w g us hus) ?_
 rintro e w' (⟨a,rfl,rfl⟩ | ⟨cap,row,t,rfl,rfl,hrow,hcap,hone⟩)
 ·exact ⟨_,g,rfl,hm,by simp only [RV]; exact .inl ⟨⟨a,rfl⟩,trivial⟩,trivial,hMon,Fr.refl _ _ _⟩
 ·let g' : G:={ box:=g.box,imm:=g.imm,own:=fun b=>if b = w.heap.size then .res [] else g.own b }
  have hold : ∀ b,b < w.heap.size → (w.drew.alloc (.cells row t)).heap[b]? = w.heap[b]?:=fun b hlt=>RowKit.Below.heap_alloc w.drew _ b (by simpa using hlt)
  have hown : ∀ b,b < w.heap.size → g'.own b = g.own b:=fun b hlt=>by simp only [g']; rw [if_neg (by omega)]
  have hI : Imm g.imm g'.imm w (w.drew.alloc (.cells row t)):=⟨fun _ _ h=>h,fun b o hi=>by
   have hlt:=(hm.imm b o hi).1
   simp only [World.cell?]
   rw [hold b hlt]⟩
  have hk : Kept g w g' (w.drew.alloc (.cells row t)) (There M) (fun _=>True):=⟨hI,fun _ _=>rfl,fun b _ hlt=>⟨hown b hlt,hold b hlt,fun _=>Iff.rfl⟩⟩
  refine ⟨_,g',rfl,hm.kept hk hMon (fun _ _ _=>trivial) trivial (fun _ _=>trivial) (fun b o hi=>?_),?_,trivial,hMon,?_⟩
  ·obtain ⟨h1,h2⟩:=hm.imm b o hi
   refine ⟨by simp; omega,fun k=>?_⟩
   rw [hown b h1]; exact h2 k
  ·simp only [RV]
   refine .inr ⟨w.heap.size,cap,row,t,rfl,by simp [g'],heap_alloc_new w.drew _,Nat.zero_le _,hcap,⟨hrow,hone⟩,fun o=>?_,by simp [RDL]⟩
   constructor
   ·intro hi; have:=(hm.imm _ _ hi).1; omega
   ·intro hi; simp at hi
  ·exact ⟨rfl,rfl,rfl,by simp,hI,fun _ _=>rfl,fun b hb _=>⟨hown b hb,hold b hb,fun _=>Iff.rfl⟩⟩
theorem Qbiv {g : G} {w : World} {l : List Int} {k : IntKind} {u : Value} (h : RF g w (.d (.lst 1 (l.map (fun n=>[.int k n])))) u) :
  ∃ a cap,u = .slice a l.length cap ∧ l.length ≤ cap ∧ (l = [] ∨ ∃ b o,a = some ⟨b,o,none⟩ ∧ ∀ (i : Nat) n,l[i]? = some n → g.imm b (o + i) ∧ w.cell? ⟨b,o + i,none⟩ = some (.int k n)):=by
 have h:=RF_d.1 h
 simp only [RD,List.length_map] at h
 obtain ⟨a,cap,rfl,hc,hl⟩:=h
 refine ⟨a,cap,rfl,hc,?_⟩
 rcases hl with hl | ⟨b,o,rfl,hl⟩
 ·exact .inl (by simpa using hl)
 ·refine .inr ⟨b,o,rfl,fun i n hi=>?_⟩
  have:=(Q6h hl i [.int k n] (by simp [hi])).2
  simp only [RDc,Nat.mul_one,RD] at this
  obtain ⟨h1,⟨u,h2,rfl⟩,_⟩:=this
  exact ⟨h1,h2⟩
end Go.Abs
end
section
namespace Go.Proofs
open Go.RowKit Go.Abs
def keyL (l : List Int) : List UInt8:=l.flatMap fun x=>Lib.encodeRune (x + 1)
theorem Qbf2 : ∀ l : List Int,(keyL l).length ≤ 4 * l.length
 | []=>by simp [keyL]
 | x :: l=>by
  have h:=Lib.runeCells_le (x + 1)
  rw [Lib.runeCells_length] at h
  have ih:=Qbf2 l
  simp only [keyL,List.flatMap_cons,List.length_append,List.length_cons] at *
  omega
set_option maxHeartbeats 4000000 in
set_option maxRecDepth 1000000 in
theorem Try.key_walk (l : List Int) (hl : l.length ≤ lim) (hx : ∀ x ∈ l,0 ≤ x ∧ x < 50000) (a : Option Addr) (cap : Nat) (w : World)
  (hc : ∀ (i : Nat) n,l[i]? = some n → ∃ b o,a = some ⟨b,o,none⟩ ∧ b < w.heap.size ∧ w.cell? ⟨b,o + i,none⟩ = some (.int .i64 n)) :
  Calls Try.prog 43 #[.slice a l.length cap] w fun e w'=>e = .returned (.string (keyB l)) ∧ Below w.heap.size w w':=by
 have hlim : l.length ≤ 1099511627776:=hl
 go_enter Try.func43,Try.ntmps43
 go_wp2
 go_loopw [8] (fun vi wr=>∃ (k : Nat),vi = .int .i64 k ∧ k ≤ l.length ∧ Lib.IsBuilderF 104 5 w.heap.size w.heap.size (Lib.byteCells (keyL (l.take k))) wr ∧ Below w.heap.size w wr) (fun vi _=>l.length - (intOf vi).toNat)
 case atStart =>
  refine ⟨0,rfl,by omega,?_,((Below.refl _ w).alloc (Nat.le_refl _) _)⟩
  exact Lib.IsBuilderF.of (Lib.fresh_isBuilder 104 5 w)
 case round =>
  obtain ⟨k,rfl,hk,hI,hbw⟩:=hrel
  by_cases hlt : k < l.length
  ·obtain ⟨b,o,rfl,hb,hcell⟩:=hc k l[k] (List.getElem?_eq_getElem hlt)
   have hcr : wr.cell? ⟨b,o + k,none⟩ = some (.int .i64 l[k]):=by
    rw [← hcell]; simp only [World.cell?]; rw [hbw.block b hb]
   have hxk:=hx l[k] (List.getElem_mem hlt)
   have w1 : IntKind.i64.wrap (l[k] + 1) = l[k] + 1:=by simp [IntKind.wrap,IntKind.bits,IntKind.signed]; omega
   have w2 : IntKind.i32.wrap (l[k] + 1) = l[k] + 1:=by simp [IntKind.wrap,IntKind.bits,IntKind.signed]; omega
   have hsz : w.heap.size ≤ wr.heap.size:=hbw.size
   have hkl:=Qbf2 (l.take k)
   rw [List.length_take] at hkl
   go_wp2_with (go_at_call 60; refine (Try.Builder_WriteRune_k w.heap.size w.heap.size _ (l[k] + 1) (by omega) (by omega) _ hI (by rw [Lib.byteCells_length]; omega) hsz).mono ?_)
   rintro e W1 ⟨rfl,h1,b1,k1⟩
   go_wp2
   go_roundw
   case rel =>
    refine ⟨k + 1,by simp,by omega,?_,hbw.trans b1⟩
    have e1 : keyL (l.take (k + 1)) = keyL (l.take k) ++ Lib.encodeRune (l[k] + 1):=by
     rw [List.take_succ_eq_append_getElem hlt]; simp only [keyL,List.flatMap_append,List.flatMap_cons,List.flatMap_nil,List.append_nil]
    rw [e1,Lib.byteCells_append,Lib.byteCells_encodeRune]; exact Or.inr h1
   case measure =>
    simp [intOf]; omega
  ·have hk2 : k = l.length:=by omega
   subst hk2
   go_wp2_with (go_at_call 61; refine (Try.Builder_String_any_k w.heap.size w.heap.size _ _ hI hbw.size).mono ?_)
   rintro e W1 ⟨rfl,_,b1,_⟩
   go_wp2
   go_ret
   exact ⟨rfl,hbw.trans b1⟩
theorem Try.keyK : Go.Abs.K_projection_key Try.prog 43 keyS:=by
 intro l r h
 unfold keyS at h
 split at h <;> cases h
 rename_i hc
 intro M nb
 refine Q9w rfl (by kernel_rfl) (fun w g us himm hus=>?_) M nb
 obtain ⟨u,us',rfl,hu,hus'⟩:=hus
 simp only [RFs] at hus'
 subst hus'
 obtain ⟨a,cap,rfl,hcap,hl⟩:=Qbiv hu
 refine Try.key_walk l hc.1 hc.2 a cap w fun i n hi=>?_
 rcases hl with rfl | ⟨b,o,rfl,hl⟩
 ·simp at hi
 ·exact ⟨b,o,rfl,himm _ _ (hl i n hi).1,(hl i n hi).2⟩
theorem Try.growK : Go.Abs.K_slices_Grow_int Try.prog 54 Qbit:=by
 intro n r h
 unfold Qbit at h
 split at h <;> cases h
 rename_i hc
 have hlim : n ≤ 1099511627776:=hc.2
 intro M nb
 refine Qbb8 (by kernel_rfl) (fun w g us hus=>?_) M nb
 obtain ⟨u,us',rfl,hu,u2,us2,rfl,hu2,hus'⟩:=hus
 simp only [RFs] at hus'
 subst hus'
 have hu:=hu .free
 simp only [RV] at hu
 obtain ⟨a,rfl⟩:=hu
 have h2:=Ql2 hu2
 subst h2
 by_cases h0 : n = 0
 ·subst h0
  refine (Any8.slices_Grow_room Try.laysGrow a 0 0 0 w (by omega) (by omega) (by omega) (by omega)).mono ?_
  rintro e w' ⟨rfl,rfl⟩
  exact .inl ⟨a,rfl,rfl⟩
 ·obtain ⟨m,rfl⟩ : ∃ m : Nat,n = m:=⟨n.toNat,by omega⟩
  obtain ⟨i,zv,hi,hzv,hcz,_⟩:=Qke Try.prog (t:=3) (z:=[.d (.int .i64 0)]) (by kernel_rfl)
  have hsz : i.size = 1:=(Qdy Try.prog hi).symm.trans (by kernel_rfl)
  have hby : i.bytes = 8:=by
   have : Try.prog.bytesOf 3 = 8:=by kernel_rfl
   simpa [Program.bytesOf,hi] using this
  have hzs : zv.cells.size = 1:=by have:=(hcz g w).len; simpa using this
  have hz1 : ∀ q,∀ u ∈ (Builtin.zeroCells zv.cells q).toList,u.oneCell' = true:=by
   intro q u hu
   refine (hcz g w).one u ?_
   simp only [Builtin.zeroCells] at hu
   have hu' : ∃ a,a < q * zv.cells.size ∧ zv.cells[a % zv.cells.size]! = u:=by simpa using hu
   obtain ⟨j,hj,rfl⟩:=hu'
   have hlt : j % zv.cells.size < zv.cells.size:=Nat.mod_lt _ (by omega)
   rw [getElem!_pos zv.cells _ hlt]
   simp
  have hge:=grownCap_ge w (0 + m) 0 3
  have hle:=grownCap_le_maxLen w (0 + m) 0 3 (by simp only [maxLen]; omega)
  refine (Any8.slices_Grow_grow Try.laysGrow i zv hi hzv (by omega) a 0 0 m [] w (by omega) (by omega) (by rw [hby]; omega) (by omega) (by simp) (fun _=>rfl) (fun _ _ j v hj=>by simp at hj)).mono ?_
  rintro e w' ⟨rfl,rfl⟩
  refine .inr ⟨_,_,_,rfl,rfl,?_,hle,fun u hu=>?_⟩
  ·simp only [Array.size_append,size_zeroCells,hzs,List.size_toArray,List.length_nil]
   show _ = grownCap w (0 + m) 0 3 * 1
   simp only [show (Try.laysGrow_ren.t 25) = 3 from rfl]
   omega
  ·simp only [Array.toList_append,List.mem_append,List.nil_append] at hu
   rcases hu with hu | hu
   ·exact hz1 _ u hu
   ·exact hz1 _ u hu
end Go.Proofs
end
section
namespace Go.Proofs
open Go Go.Abs
set_option linter.unusedVariables false
set_option maxRecDepth 10000
set_option maxHeartbeats 4000000
theorem Qrl : Qfr Try.prog 26 Qja:=Qo1 Qva
theorem Qz8 : Qg9 Try.prog 66 Qfe:=Qu1 Q2b Qbs
theorem Q3q : Qir Try.prog 57 Qgg:=Qzu Q4k Qbs
theorem Qci : Qbx Try.prog 35 Qbi:=Qra Q3q Qz0
theorem Qvb : Qf6 Try.prog 67 Qeo:=Qps Qci Qx7 Qbs
theorem Qpd : Qg2 Try.prog 53 Qfm:=Q1z Qz8 Qvb Q5g
theorem Qya : Qgk Try.prog 49 Qgx:=Qrb Qz2 Qbs
theorem Qh8 : Qex Try.prog 30 Qdc:=Qzv Qya Qpd Q4i
theorem Qkz : Qfd Try.prog 41 Qeb:=Qu2 Qci Q2a Qbs
theorem Qk0 : Qd2 Try.prog 65 Qfx:=Qje Qls
theorem Qgh : Qda Try.prog 50 Qel:=Qkt Try.rowK33 Qci Qk0 Qog Qbs
theorem Qmw : Qeh Try.prog 42 Qgy:=Qku Qgh Qoe
theorem Qjb : Qdf Try.prog 63 Qe9:=Qh5 Qci Qjh
theorem Qvc : Qf8 Try.prog 91 Qgc:=Qpt Qx8 Qbs
theorem Qg5 : Qdn Try.prog 62 Qc1:=Qms Qvc Qpx
theorem Qka : Qds Try.prog 44 Qfo:=Qi7 Qg5 Qjb Qkw
theorem Qoj : Qer Try.prog 45 Qg4:=Qlp Qgh Qo3 Qbs
theorem Qz9 : Qhc Try.prog 14 Qlu:=Qu3 Qh8 Qkz Qmw Try.keyK Qka Qoj Q16 Qbs
theorem Qk1 : Qd4 Try.prog 64 Qd8:=Qjf Qci Qlr
theorem Qmx : Qej Try.prog 46 Qdd:=Qkv Qg5 Qk1 Qof
theorem Qok : Qgf Try.prog 47 Qd0:=Qzw Q4j
theorem Qpe : Qg3 Try.prog 16 Qcd:=Q10 Qh8 Qci Qkz Qmx Qok Q5f Qbs
theorem Q2c : Qhx Try.prog 31 Qoh:=Qx1 Q3m
theorem Q2d : Qhz Try.prog 32 Qoi:=Qx2 Try.growK Q3n Qbs
theorem Q9x : Qjj Try.prog 37 Qx9:=Qpu Qx6
theorem Q50 : Qnh Try.prog 97 Qz6:=Q4g Q7c
theorem Q7i : Qpq Try.prog 74 Q2k:=Q5e Q50 Q73
theorem Q3r : Qiv Try.prog 101 Qpc:=Qzx Q4l
theorem Qo4 : Qe3 Try.prog 87 Qhs:=Qmt Q7i Q3r Qpy Qbs
theorem Qk2 : Qd6 Try.prog 102 Qfy:=Qjg Qlt Qbs
theorem Q4m : Qj5 Try.prog 103 Qrj:=Q11 Q5h
theorem Q4n : Qj7 Try.prog 104 Qrk:=Q12 Q5i
theorem Q51 : Qns Try.prog 88 Qz7:=Q4h Qk2 Q4m Q4n Q7b
theorem Qyb : Qgm Try.prog 59 Qkx:=Qrc Qok Qo4 Q51 Qz5 Qbs
theorem Qyc : Qgo Try.prog 38 Qky:=Qrd Qpd Qyb Qz1
theorem Q0a : Qhe Try.prog 11 Qlv:=Qu4 Qh8 Q2c Q2d Try.rowK33 Try.compK34 Qci Try.rowK36 Qyc Q14 Qbs
theorem Qdp : Qcn Try.prog 19 Qb6:=Qod Qri Qbs
theorem Q0b : Qhg Try.prog 12 Qlw:=Qu5 Qdp Q15 Qbs
theorem Qo5 : Qe5 Try.prog 27 Qht:=Qmu Qdp Qpv Qbs
theorem Qyd : Qgq Try.prog 7 Qgz:=Qre Q0a Q0b Qz9 Qpe Qdp Qrl Qo5 Qzy
theorem Qol : Qet Try.prog 10 Qdh:=Qlq Qo2 Qbs
theorem Qjk : Qey Try.prog 28 Qdv:=Qrf Qzz
theorem Qg0 : Qea Try.prog 40 Qbv:=Qu6 Q19 Qbs
theorem Qlx : Qft Try.prog 48 Qct:=Qx3 Q3p Qbs
theorem Qye : Qgt Try.prog 51 Qe0:=Qrg Qg0 Qlx Qz3 Qbs
theorem Qyf : Qgv Try.prog 52 Qdw:=Qrh Qz4 Qbs
theorem Qo6 : Qe7 Try.prog 29 Qdo:=Qmv Qjk Qg0 Qlx Qye Qyf Qpw Qbs
theorem Q0c : Qhj Try.prog 9 Qff:=Qu7 Qjk Qo6 Q13 Qbs
theorem Qly : Qfu Try.prog 39 Qem:=Qx4 Q3o Qbs
theorem Q0d : Qhl Try.prog 15 Qfg:=Qu8 Qly Q17 Qbs
theorem Q2e : Qh3 Try.prog 17 Qh7:=Qx5 Q3l Qbs
theorem Q0e : Qhn Try.prog 18 Qc0:=Qu9 Qly Qg0 Q18 Qbs
theorem Q4t : Qfl Try.prog 4 Qdl:=Qio Qyd Q0c Qol Q0d Qpe Q2e Q0e Qdp Qj9 Qbs
end Go.Proofs
end
section
namespace Go.Abs
open Go Go.ChangeShapes Go.WideShapes Go.ChangeAt Go.RowKit
set_option linter.unusedVariables false
set_option linter.unusedSimpArgs false
def live (w : World) : Nat → Nat → Prop:=fun b o=>(w.cell? ⟨b,o,none⟩).isSome = true
def RDs (w : World) : List D → List Value → Prop
 | [],vs=>vs = []
 | x :: xs,vs=>∃ u us,vs = u :: us ∧ RD (live w) w x u ∧ RDs w xs us
theorem Q80 {w : World} : ∀ {xs ys : List D} {us vs : List Value},RDs w xs us → RDs w ys vs → RDs w (xs ++ ys) (us ++ vs)
 | [],ys,us,vs,h,k=>by simp only [RDs] at h; subst h; simpa using k
 | x :: xs,ys,us,vs,⟨u,us',e,r,h⟩,k=>by subst e; exact ⟨u,us' ++ vs,by simp,r,Q80 h k⟩
def RDat (w : World) (cs : List Value) (off : Nat) (xs : List D) : Prop:=RDs w xs ((cs.drop off).take xs.length)
theorem RDat.app {w : World} {cs : List Value} {off : Nat} {xs ys : List D} (h : RDat w cs off xs) {n : Nat} (hn : n = off + xs.length) (k : RDat w cs n ys) : RDat w cs off (xs ++ ys):=by
 subst hn
 have:=Q80 h k
 unfold RDat
 rw [List.length_append,List.take_add,List.drop_drop]
 exact this
theorem RDat.nil {w : World} {cs : List Value} {off : Nat} : RDat w cs off []:=by simp [RDat,RDs]
theorem RDat.all {w : World} {cs : List Value} {xs : List D} (h : RDat w cs 0 xs) (hl : cs.length = xs.length) : RDs w xs cs:=by
 unfold RDat at h
 rw [List.drop_zero,← hl,List.take_length] at h
 exact h
theorem Qbf3 {w : World} {b : Nat} : ∀ {xs : List D} {vs : List Value} {o : Nat},RDs w xs vs → (∀ i v,vs[i]? = some v → w.cell? ⟨b,o + i,none⟩ = some v) → RDc (live w) w b xs o
 | [],vs,o,_,_=>by simp [RDc]
 | x :: xs,vs,o,⟨u,us,e,r,h⟩,hc=>by
  subst e
  have h0:=hc 0 u rfl
  rw [Nat.add_zero] at h0
  refine ⟨by simp [live,h0],⟨u,h0,r⟩,Qbf3 h fun i v hv=>?_⟩
  have:=hc (i + 1) v (by simpa using hv)
  rw [show o + 1 + i = o + (i + 1) from by omega]; exact this
def Q4o {α : Type} (P : Program) (t : TypeId) (e : α → List D) (wf : α → Prop) : Prop :=
 ∀ {H : Type} {enc : TypeId × Value → H} {w : World} {base : Nat} {spare : Nat → Bool} {held : Bool} {fuel : Nat} {cs : List Value} {x : DataW H × List MemPlace},
  DataW.trod enc P w base spare held fuel t cs = some x → ∃ a,wf a ∧ RDs w (e a) cs
def wfI (k : IntKind) (n : Int) : Prop:=(Lit.int k n).wf = true
def wfL {α : Type} (wf : α → Prop) (l : List α) : Prop:=l.length ≤ maxLen ∧ ∀ a ∈ l,wf a
variable {P : Program} {t : TypeId}
theorem Q7j {k : IntKind} (ht : P.underlying t = some (.int k)) : Q4o P t (fun n : Int=>[.int k n]) (wfI k):=by
 intro H enc w base spare held fuel cs x h
 obtain ⟨n,rfl,_,hw⟩:=DataW.trod_int ht h
 exact ⟨n,hw,_,_,rfl,by simp [RD],rfl⟩
theorem cells?_get {w : World} {base : Nat} {a : Addr} {n : Nat} {cs : List Value} (h : w.cells? base a n = some cs) : cs.length = n ∧ ∀ i v,cs[i]? = some v → w.cell? (a.add i) = some v:=by
 obtain ⟨h1,h2,h3⟩:=World.cells?_some h
 refine ⟨h2,fun i v hv=>?_⟩
 have hi:=(List.getElem?_eq_some_iff.1 hv).1
 have:=h3 i (by omega)
 rw [this]; simpa using hv
theorem Qbb9 {α : Type} {el : TypeId} {e : α → List D} {wf : α → Prop} {sz : Nat} (ht : P.underlying t = some (.slice el)) (he : Q4o P el e wf) (hsz : P.cellsOf el = sz) (hpos : 0 < sz) (hlen : ∀ a,(e a).length = sz) :
  Q4o P t (fun l : List α=>[.lst sz (l.map e)]) (wfL wf):=by
 intro H enc w base spare held fuel cs x h
 rcases DataW.trod_slice ht h with ⟨rfl,_⟩ | ⟨a,len,cap,Qg6,rest,n,_,rfl,_,hb,hl,hm,helen,hel,_,_⟩
 ·exact ⟨[],⟨by simp,by simp⟩,_,_,rfl,by simp only [RD,List.map_nil,List.length_nil]; exact ⟨none,0,rfl,Nat.le_refl _,.inl trivial⟩,rfl⟩
 ·have key : ∀ m,m ≤ len → ∃ l : List α,l.length = m ∧ (∀ x ∈ l,wf x) ∧ ∀ i y,l[i]? = some y → ∃ vs,w.cells? base (a.add (i * sz)) sz = some vs ∧ RDs w (e y) vs:=by
   intro m
   induction m with
   | zero=>exact fun _=>⟨[],rfl,by simp,by simp⟩
   | succ m ih =>
    intro hm'
    obtain ⟨l,h1,h2,h3⟩:=ih (by omega)
    have h4:=hel m (by omega)
    have h5 : Qg6[m]? = some Qg6[m]:=List.getElem?_eq_getElem (by omega)
    rw [h5,hsz,Option.bind_eq_some_iff] at h4
    obtain ⟨vs,h6,h7⟩:=h4
    obtain ⟨y,h8,h9⟩:=he h7
    refine ⟨l ++ [y],by simp [h1],?_,fun i z hz=>?_⟩
    ·intro x hx
     rcases List.mem_append.1 hx with hx | hx
     ·exact h2 x hx
     ·simp at hx; subst hx; exact h8
    ·by_cases hi : i < m
     ·rw [List.getElem?_append_left (by omega)] at hz; exact h3 i z hz
     ·have : i = m:=by
       have:=(List.getElem?_eq_some_iff.1 hz).1
       simp at this; omega
      subst this
      rw [List.getElem?_append_right (by omega),h1] at hz
      simp at hz; subst hz
      exact ⟨vs,h6,h9⟩
  obtain ⟨l,h1,h2,h3⟩:=key len (Nat.le_refl _)
  have hmax : l.length ≤ maxLen:=by omega
  refine ⟨l,⟨hmax,h2⟩,_,_,rfl,?_,rfl⟩
  simp only [RD,List.length_map,h1]
  refine ⟨some a,cap,rfl,hl,?_⟩
  cases l with
  | nil=>exact .inl rfl
  | cons y l =>
   right
   have hspot : a.spot = none:=by
    obtain ⟨vs,h4,h5⟩:=h3 0 y rfl
    obtain ⟨h6,h7⟩:=cells?_get h4
    have hv : vs[0]? = some vs[0]:=List.getElem?_eq_getElem (by omega)
    have:=h7 0 _ hv
    cases hs : a.spot with
    | none=>rfl
    | some s =>
     unfold World.cell? at this
     split at this
     ·simp [Addr.add,hs] at this
     ·cases this
   obtain ⟨b,o,sp⟩:=a
   simp only at hspot
   subst hspot
   refine ⟨b,o,rfl,?_⟩
   have row : ∀ (l : List α) (j : Nat),(∀ i y,l[i]? = some y → ∃ vs,w.cells? base ((⟨b,o,none⟩ : Addr).add ((j + i) * sz)) sz = some vs ∧ RDs w (e y) vs) → RDL (live w) w sz b (l.map e) (o + j * sz):=by
    intro l
    induction l with
    | nil=>intro j _; simp [RDL]
    | cons y l ih =>
     intro j h
     obtain ⟨vs,h4,h5⟩:=h 0 y rfl
     obtain ⟨h6,h7⟩:=cells?_get h4
     refine ⟨hlen y,Qbf3 h5 fun i v hv=>?_,?_⟩
     ·have:=h7 i v hv
      rw [Qfa,Qfa] at this
      simpa [Nat.add_assoc] using this
     ·have:=ih (j + 1) fun i y hy=>by
       have:=h (i + 1) y (by simpa using hy)
       rw [show j + 1 + i = j + (i + 1) from by omega]; exact this
      rw [show o + j * sz + sz = o + (j + 1) * sz from by rw [Nat.add_mul]; omega]
      exact this
   have:=row (y :: l) 0 fun i y hy=>by simpa using h3 i y hy
   simpa using this
theorem Qfv {α : Type} {el : TypeId} {e : α → List D} {wf : α → Prop} {sz : Nat} (he : Q4o P el e wf) (hsz : P.cellsOf el = sz) (hlen : ∀ a,(e a).length = sz)
  {H : Type} {enc : TypeId × Value → H} {w : World} {base : Nat} {spare : Nat → Bool} {held : Bool} {fuel off : Nat} {cs : List Value} {x : DataW H × List MemPlace}
  (h : DataW.trod enc P w base spare held fuel el ((cs.drop off).take (P.cellsOf el)) = some x) : ∃ a,wf a ∧ RDat w cs off (e a):=by
 obtain ⟨a,h1,h2⟩:=he h
 refine ⟨a,h1,?_⟩
 unfold RDat
 rw [hlen,← hsz]; exact h2
theorem Qbf4 {H : Type} {enc : TypeId × Value → H} {w : World} {base : Nat} {spare : Nat → Bool} {held : Bool} {fuel : Nat} {cs : List Value} {x : DataW H × List MemPlace} {fs : Array Field}
  (ht : P.underlying t = some (.struct fs)) (h : DataW.trod enc P w base spare held fuel t cs = some x) :
  cs.length = P.cellsOf t ∧ ∃ n,∀ (i : Nat) (f : Field),fs[i]? = some f → ∃ y,DataW.trod enc P w base spare held n f.type ((cs.drop f.offset).take (P.cellsOf f.type)) = some y:=by
 obtain ⟨xs,n,_,_,h1,h2,h3⟩:=DataW.trod_struct ht h
 refine ⟨h1,n,fun i f hf=>?_⟩
 have hi : i < fs.size:=(Array.getElem?_eq_some_iff.1 hf).1
 exact ⟨xs[i]'(by omega),by rw [h3 i f hf]; exact List.getElem?_eq_getElem (by omega)⟩
theorem Qbhc {H : Type} {enc : TypeId × Value → H} {w : World} {base : Nat} {spare : Nat → Bool} {held : Bool} {fuel : Nat} {cs : List Value} {x : DataW H × List MemPlace} {n : Nat} {el : TypeId}
  (ht : P.underlying t = some (.array n el)) (h : DataW.trod enc P w base spare held fuel t cs = some x) :
  cs.length = P.cellsOf t ∧ ∃ m,∀ i,i < n → ∃ y,DataW.trod enc P w base spare held m el ((cs.drop (i * P.cellsOf el)).take (P.cellsOf el)) = some y:=by
 obtain ⟨xs,m,_,_,h1,h2,h3⟩:=DataW.trod_array ht h
 exact ⟨h1,m,fun i hi=>⟨xs[i]'(by omega),by rw [h3 i hi]; exact List.getElem?_eq_getElem (by omega)⟩⟩
def Qkf {α : Type} (P : Program) (t : TypeId) (v : α → V) (wf : α → Prop) : Prop :=
 ∀ {H : Type} {enc : TypeId × Value → H} {w : World} {base b0 : Nat} {spare : Nat → Bool} {held : Bool} {u : Value} {d : DataW H} {ps : List MemPlace},
  Value.okWide P w .any b0 t u → DataW.Trod enc P w base spare held t u d ps → ∃ a,wf a ∧ RF ⟨fun _=>0,live w,fun _=>.ext⟩ w (v a) u
theorem Qbiw {α : Type} {e : α → D} {wf : α → Prop} (he : Q4o P t (fun a=>[e a]) wf) (hone : ∀ w b0 u,Value.okWide P w .any b0 t u → u.cells = #[u]) : Qkf P t (fun a=>.d (e a)) wf:=by
 intro H enc w base b0 spare held u d ps hok hd
 obtain ⟨fuel,hf⟩:=hd
 rw [hone _ _ _ hok] at hf
 obtain ⟨a,h1,u',us,h2,h3,h4⟩:=he hf
 simp only [RDs] at h4; subst h4
 simp at h2; subst h2
 exact ⟨a,h1,fun ℓ=>by simpa [RV] using h3⟩
theorem Qbf5 {el : TypeId} (ht : P.underlying t = some (.slice el)) : ∀ w b0 u,Value.okWide P w .any b0 t u → u.cells = #[u]:=by
 intro w b0 u h
 simp only [Value.okWide,ht] at h
 cases u <;> first | rfl | (simp [Cell.okWide,Cell.ok,ht] at h)
theorem Qbjr {imm : Nat → Nat → Prop} {w : World} {x : D} {u : Value} (h : RD imm w x u) : u.oneCell' = true:=by
 cases x with
 | int k n=>simp only [RD] at h; subst h; rfl
 | bool b=>simp only [RD] at h; subst h; rfl
 | str s=>simp only [RD] at h; subst h; rfl
 | lst sz l=>simp only [RD] at h; obtain ⟨a,cap,rfl,_⟩:=h; cases a <;> rfl
theorem Qbf6 {w : World} {g : G} (hg : g.imm = live w) : ∀ {xs : List D} {us : List Value} {ℓ : Owner} {i : Nat},RDs w xs us → RVs g w (xs.map V.d) ℓ i us ∧ ∀ u ∈ us,u.oneCell' = true
 | [],us,ℓ,i,h=>by simp only [RDs] at h; subst h; simp [RVs]
 | x :: xs,us,ℓ,i,⟨u,us',e,r,h⟩=>by
  subst e
  obtain ⟨h1,h2⟩:=Qbf6 hg (ℓ:=ℓ) (i:=i + 1) h
  refine ⟨⟨u,us',rfl,by simpa [RV,hg] using r,h1⟩,fun v hv=>?_⟩
  rcases List.mem_cons.1 hv with rfl | hv
  ·exact Qbjr r
  ·exact h2 v hv
theorem Qbf7 {α : Type} {e : α → List D} {wf : α → Prop} (he : Q4o P t e wf) (hagg : (∃ fs,P.underlying t = some (.struct fs)) ∨ ∃ n el,P.underlying t = some (.array n el)) : Qkf P t (fun a=>.agg ((e a).map V.d)) wf:=by
 intro H enc w base b0 spare held u d ps hok hd
 obtain ⟨cs,rfl⟩ : ∃ cs,u = .agg cs:=by
  rcases hagg with ⟨fs,ht⟩ | ⟨n,el,ht⟩
  ·simp only [Value.okWide,ht] at hok; obtain ⟨cs,rfl,_⟩:=hok; exact ⟨cs,rfl⟩
  ·simp only [Value.okWide,ht] at hok; obtain ⟨cs,rfl,_⟩:=hok; exact ⟨cs,rfl⟩
 obtain ⟨fuel,hf⟩:=hd
 obtain ⟨a,h1,h2⟩:=he hf
 refine ⟨a,h1,fun ℓ=>?_⟩
 simp only [RV]
 obtain ⟨h3,h4⟩:=Qbf6 (g:=⟨fun _=>0,live w,fun _=>.ext⟩) rfl (ℓ:=ℓ) (i:=0) h2
 exact ⟨cs.toList,by simp,h3,h4⟩
def Qbix (P : Program) (f : FuncId) (ts : List TypeId) : Prop :=
 ∀ {H : Type} {enc : TypeId × Value → H} {w : World} {b0 : Nat} {us : List Value} {ds : List (DataW H)} {ps : List MemPlace},
  (∀ (j : Nat) t u,ts[j]? = some t → us[j]? = some u → Value.okWide P w .any b0 t u) → DataW.TrodAll enc P w 0 (fun _=>true) true ts us ds ps →
  ∃ vs,RFs ⟨fun _=>0,live w,fun _=>.ext⟩ w vs us ∧ (∀ x ∈ vs,Flat x) ∧ V.lt.go 0 vs = true ∧ ∀ M nb,ACalls P f vs M nb (.d (.bool true)) M nb
theorem Q4p (hl : laidOutB P = true) {W W' : World} {sp : Nat → Bool} {H : Type} {enc : TypeId × Value → H} : ∀ {ts : List TypeId} {us : List Value} {ds : List (DataW H)} {ps : List MemPlace},
  (∀ t ∈ ts,P.readableRec t = true ∧ t < P.types.size) → DataW.TrodAll enc P W 0 (fun _=>true) true ts us ds ps → (∀ p ∈ ps,W.sameAt W' p) → (∀ p ∈ ps,sp p.block = true) → DataW.TrodAll enc P W' 0 sp true ts us ds ps
 | [],[],[],ps,_,h,_,_=>h
 | t :: ts,u :: us,d :: ds,ps,hr,⟨p,q,h1,h2,e⟩,hs,hp=>by
  subst e
  obtain ⟨r1,r2⟩:=hr t (by simp)
  exact ⟨p,q,WideElems.Trod_stays hl r1 r2 h1 (fun x hx=>hs x (by simp [hx])) (fun x hx=>hp x (by simp [hx])),Q4p hl (fun t ht=>hr t (by simp [ht])) h2 (fun x hx=>hs x (by simp [hx])) (fun x hx=>hp x (by simp [hx])),rfl⟩
 | [],[],_ :: _,_,_,h,_,_=>h.elim
 | [],_ :: _,_,_,_,h,_,_=>h.elim
 | _ :: _,[],_,_,_,h,_,_=>h.elim
 | _ :: _,_ :: _,[],_,_,h,_,_=>h.elim
theorem Q7k {W : World} {sp : Nat → Bool} {held : Bool} {base : Nat} {H : Type} {enc : TypeId × Value → H} : ∀ {ts : List TypeId} {us : List Value} {ds : List (DataW H)} {ps : List MemPlace},
  DataW.TrodAll enc P W base sp held ts us ds ps → ds.length = ts.length ∧ us.length = ts.length
 | [],[],[],ps,h=>⟨rfl,rfl⟩
 | t :: ts,u :: us,d :: ds,ps,⟨p,q,h1,h2,e⟩=>by have:=Q7k h2; simp [this.1,this.2]
 | [],[],_ :: _,_,h=>h.elim
 | [],_ :: _,_,_,h=>h.elim
 | _ :: _,[],_,_,h=>h.elim
 | _ :: _,_ :: _,[],_,h=>h.elim
theorem Qbiy {C : Checked} {f : FuncId} {fn : Func} {s : ChangeSpec} {conds : List PathCond} {bt : TypeId} {os : Os} {H : Type} {enc : TypeId × Value → H}
  (own : ownKnob C.prog.godebug = none) (started : os.Started) (noInit : C.prog.inits.idxOf? f = none) (hfn : C.prog.funcs[f]? = some fn)
  (witness : ∃ (w : World) (tape : Tape) (i : Input),w.os = os ∧ (w.forCall tape i).Shaped C.prog ∧ i.vars = [] ∧ Input.okWide C.prog (w.forCall tape i) .any w.heap.size f i ∧
   s.pre6 enc C.prog fn conds false (w.forCall tape i).memory i.args ∧ ({} : Assume).holds C.prog (lone (Frame.enter C.prog f i.args .normal) [] (w.forCall tape i)))
  (hvars : s.vars = []) (hres : fn.resultTypes = #[bt]) (hbt : C.prog.underlying bt = some .bool)
  (hl : laidOutB C.prog = true) (hread : ∀ t ∈ fn.params.toList,C.prog.readableRec t = true ∧ t < C.prog.types.size)
  (hspec : ∀ ds : List (DataW H),ds.length = fn.params.size → s.fn H ds = { results:=[.lit (.bool true)],args:=ds })
  (law : Qbix C.prog f fn.params.toList) :
  ReturnsInHanded {} C os f .any (s.pre6 enc C.prog fn conds false) (s.post enc C.prog fn false true false false):=by
 refine returnsInHanded_of_change own started noInit hfn witness ?_
 intro W base args ds gs before hval hW hcnd _
 have hW':=hW
 obtain ⟨p,q,hA,hV,hps,hfz,hnd⟩:=hW
 rw [hvars] at hV
 obtain ⟨rfl,rfl⟩ : gs = [] ∧ q = []:=by
  cases gs with
  | nil=>exact ⟨rfl,hV⟩
  | cons _ _=>exact hV.elim
 obtain ⟨vs,h1,h2,h3,h4⟩:=law (fun j t u ht hu=>hval j t u (by simpa using ht) (by simpa using hu)) hA
 obtain ⟨hb,_,h5⟩:=h4 (fun _=>none) 0
 have hlv : ∀ b o,live W b o → b < W.heap.size:=by
  intro b o h
  simp only [live] at h
  obtain ⟨v,hv⟩:=Option.isSome_iff_exists.1 h
  unfold World.cell? at hv
  split at hv
  ·rename_i hh; exact (Array.getElem?_eq_some_iff.1 hh).1
  ·cases hv
 have hmr : MR ⟨fun _=>0,live W,fun _=>.ext⟩ W (fun _=>none) 0:=⟨fun k b h=>(by cases h),fun b o h=>⟨hlv b o h,fun k h=>by cases h⟩⟩
 have h6:=h5 W ⟨fun _=>0,live W,fun _=>.ext⟩ args.toList hmr (fun k cs h=>by cases h) (fun b=>⟨fun t p h=>(by cases h),fun p h=>(by cases h)⟩) h1 h2 (ons_mono (fun k hk=>absurd hk (Nat.not_lt_zero k)) _ (ons_lt vs h3))
 refine Calls.mono h6 fun e W' ⟨v,g',he,_,hr,_,_,hf⟩=>?_
 subst he
 have hv : v = .bool true:=by simpa [RV,RD] using hr
 subst hv
 have hbelow : Below W.heap.size W W':=⟨hf.os,hf.tape,hf.output,hf.size,fun k hk=>(hf.old k hk trivial).2.1⟩
 have hrl : (Value.bool true).resultList fn.resultTypes.size = [.bool true]:=by rw [hres]; rfl
 have hsp : s.fn H (ds ++ []) = { results:=[.lit (.bool true)],args:=ds }:=by
  rw [List.append_nil]
  exact hspec ds (by have:=(Q7k hA).1; simpa using this)
 have hlt : ∀ p ∈ before,p.block < W.heap.size:=fun x hx=>hW'.lt x hx
 have hst : ∀ sp : Nat → Bool,(∀ p ∈ before,sp p.block = true) → DataW.TrodAll enc C.prog W' 0 sp true fn.params.toList args.toList ds before:=by
  intro sp hsp'
  have e : p = before:=by rw [hps,List.append_nil]
  subst e
  exact Q4p hl hread hA (fun x hx=>hbelow.same (hlt x hx)) hsp'
 refine ⟨_,rfl,ds,[],before,[],before,[],hW',?_,?_,?_,World.keptBut_mono (fun p hp=>⟨hp,.inr (.inl hp)⟩) (hbelow.frame (· ∈ before)),fun h=>by cases h⟩
 ·rw [hsp,hrl,hres]
  exact ⟨[],[],⟨1,by simp [DataW.trod,Value.cells,hbt]⟩,rfl,rfl⟩
 ·rw [hsp]
  exact hst _ fun p hp=>by simpa using hlt p hp
 ·rw [hsp,hvars]; rfl
section
variable {α β γ δ : Type} {f : FuncId} {ta tb tc td : TypeId} {va : α → V} {vb : β → V} {vc : γ → V} {vd : δ → V} {wa : α → Prop} {wb : β → Prop} {wc : γ → Prop} {wd : δ → Prop}
theorem Qom {H : Type} {enc : TypeId × Value → H} {w : World} {base : Nat} {sp : Nat → Bool} {held : Bool} {t : TypeId} {ts : List TypeId} {us : List Value} {ds : List (DataW H)} {ps : List MemPlace} (h : DataW.TrodAll enc P w base sp held (t :: ts) us ds ps) :
  ∃ u us' d ds' p q,us = u :: us' ∧ ds = d :: ds' ∧ DataW.Trod enc P w base sp held t u d p ∧ DataW.TrodAll enc P w base sp held ts us' ds' q:=by
 match us,ds,h with
 | u :: us',d :: ds',⟨p,q,h1,h2,_⟩=>exact ⟨u,us',d,ds',p,q,rfl,rfl,h1,h2⟩
 | [],[],h=>exact h.elim
 | [],_ :: _,h=>exact h.elim
 | _ :: _,[],h=>exact h.elim
theorem Q7l {H : Type} {enc : TypeId × Value → H} {w : World} {base : Nat} {sp : Nat → Bool} {held : Bool} {us : List Value} {ds : List (DataW H)} {ps : List MemPlace} (h : DataW.TrodAll enc P w base sp held [] us ds ps) : us = []:=by
 match us,ds,h with
 | [],[],_=>rfl
 | [],_ :: _,h=>exact h.elim
 | _ :: _,[],h=>exact h.elim
 | _ :: _,_ :: _,h=>exact h.elim
theorem Qbj4 (ra : Qkf P ta va wa) (fa : ∀ a,(va a).dem = va a) (la : ∀ a,(va a).lt 0 = true) (rb : Qkf P tb vb wb) (fb : ∀ a,(vb a).dem = vb a) (lb : ∀ a,(vb a).lt 0 = true)
  (law : ∀ a b,wa a → wb b → ∀ M nb,ACalls P f [va a,vb b] M nb (.d (.bool true)) M nb) : Qbix P f [ta,tb]:=by
 intro H enc w b0 us ds ps hok hT
 obtain ⟨u,us',d,ds',p,q,rfl,rfl,h1,hT⟩:=Qom hT
 obtain ⟨u2,us',d2,ds',p2,q2,rfl,rfl,h2,hT⟩:=Qom hT
 obtain rfl:=Q7l hT
 obtain ⟨a,ha,hra⟩:=ra (hok 0 _ _ rfl rfl) h1
 obtain ⟨b,hb,hrb⟩:=rb (hok 1 _ _ rfl rfl) h2
 refine ⟨[va a,vb b],⟨u,_,rfl,hra,u2,_,rfl,hrb,rfl⟩,?_,by simp [V.lt.go,la,lb],law a b ha hb⟩
 intro x hx
 simp only [List.mem_cons,List.not_mem_nil,or_false] at hx
 rcases hx with rfl | rfl
 ·exact fa a
 ·exact fb b
theorem Qbj5 (ra : Qkf P ta va wa) (fa : ∀ a,(va a).dem = va a) (la : ∀ a,(va a).lt 0 = true) (rb : Qkf P tb vb wb) (fb : ∀ a,(vb a).dem = vb a) (lb : ∀ a,(vb a).lt 0 = true)
  (rc : Qkf P tc vc wc) (fc : ∀ a,(vc a).dem = vc a) (lc : ∀ a,(vc a).lt 0 = true)
  (law : ∀ a b c,wa a → wb b → wc c → ∀ M nb,ACalls P f [va a,vb b,vc c] M nb (.d (.bool true)) M nb) : Qbix P f [ta,tb,tc]:=by
 intro H enc w b0 us ds ps hok hT
 obtain ⟨u,us',d,ds',p,q,rfl,rfl,h1,hT⟩:=Qom hT
 obtain ⟨u2,us',d2,ds',p2,q2,rfl,rfl,h2,hT⟩:=Qom hT
 obtain ⟨u3,us',d3,ds',p3,q3,rfl,rfl,h3,hT⟩:=Qom hT
 obtain rfl:=Q7l hT
 obtain ⟨a,ha,hra⟩:=ra (hok 0 _ _ rfl rfl) h1
 obtain ⟨b,hb,hrb⟩:=rb (hok 1 _ _ rfl rfl) h2
 obtain ⟨c,hc,hrc⟩:=rc (hok 2 _ _ rfl rfl) h3
 refine ⟨[va a,vb b,vc c],⟨u,_,rfl,hra,u2,_,rfl,hrb,u3,_,rfl,hrc,rfl⟩,?_,by simp [V.lt.go,la,lb,lc],law a b c ha hb hc⟩
 intro x hx
 simp only [List.mem_cons,List.not_mem_nil,or_false] at hx
 rcases hx with rfl | rfl | rfl
 ·exact fa a
 ·exact fb b
 ·exact fc c
end
theorem Qbf8 {H : Type} {enc : TypeId × Value → H} {w : World} {base : Nat} {spare : Nat → Bool} {held : Bool} {fuel : Nat} {cs : List Value} {x : DataW H × List MemPlace} {n sz : Nat} {el : TypeId}
  (ht : P.underlying t = some (.array n el)) (hsz : P.cellsOf el = sz) (h : DataW.trod enc P w base spare held fuel t cs = some x) :
  cs.length = P.cellsOf t ∧ ∃ m,∀ i,i < n → ∃ y,DataW.trod enc P w base spare held m el ((cs.drop (i * sz)).take (P.cellsOf el)) = some y:=by
 obtain ⟨h1,m,h2⟩:=Qbhc ht h
 exact ⟨h1,m,fun i hi=>by have:=h2 i hi; rwa [show i * P.cellsOf el = i * sz from by rw [hsz]] at this⟩
end Go.Abs
end
section
namespace Go.Proofs
open Go Go.Abs
set_option linter.unusedVariables false
set_option maxRecDepth 100000
def W_22 (x : Int) : Prop:=wfI .u8 x
theorem R_22 : Q4o Try.prog 22 (eI .u8) W_22:=Q7j Try.underlying22
def W_44 (x : Int × Int) : Prop:=W_22 x.1 ∧ W_22 x.2
theorem R_44 : Q4o Try.prog 44 (fun p : Int × Int=>[.int .u8 p.1,.int .u8 p.2]) W_44:=by
  intro H enc w base spare held fuel cs x h
  obtain ⟨hl,n,hf⟩:=Qbf8 (sz:=1) Try.underlying44 (by kernel_rfl) h
  obtain ⟨y0,h0⟩:=hf 0 (by decide)
  obtain ⟨a0,w0,r0⟩:=Qfv (off:=0 * 1) (sz:=1) R_22 (by kernel_rfl) (fun _=>rfl) h0
  obtain ⟨y1,h1⟩:=hf 1 (by decide)
  obtain ⟨a1,w1,r1⟩:=Qfv (off:=1 * 1) (sz:=1) R_22 (by kernel_rfl) (fun _=>rfl) h1
  exact ⟨(a0,a1),⟨w0,w1⟩,RDat.all (xs:=(fun p : Int × Int=>[.int .u8 p.1,.int .u8 p.2]) (a0,a1)) (RDat.app r0 rfl r1) (hl.trans (by kernel_rfl))⟩
theorem A_44 : Qkf Try.prog 44 (fun (a : Int × Int)=>.agg [.d (.int .u8 a.1),.d (.int .u8 a.2)]) W_44:=Qbf7 R_44 (.inr ⟨_,_,Try.underlying44⟩)
def W_5 (x : Int) : Prop:=wfI .u8 x
theorem R_5 : Q4o Try.prog 5 (eI .u8) W_5:=Q7j Try.underlying5
def W_23 (x : Int × Int × Int × Int × Int) : Prop:=W_5 x.1 ∧ W_5 x.2.1 ∧ W_5 x.2.2.1 ∧ W_5 x.2.2.2.1 ∧ W_5 x.2.2.2.2
theorem R_23 : Q4o Try.prog 23 (fun p : Int × Int × Int × Int × Int=>[.int .u8 p.1,.int .u8 p.2.1,.int .u8 p.2.2.1,.int .u8 p.2.2.2.1,.int .u8 p.2.2.2.2]) W_23:=by
  intro H enc w base spare held fuel cs x h
  obtain ⟨hl,n,hf⟩:=Qbf8 (sz:=1) Try.underlying23 (by kernel_rfl) h
  obtain ⟨y0,h0⟩:=hf 0 (by decide)
  obtain ⟨a0,w0,r0⟩:=Qfv (off:=0 * 1) (sz:=1) R_5 (by kernel_rfl) (fun _=>rfl) h0
  obtain ⟨y1,h1⟩:=hf 1 (by decide)
  obtain ⟨a1,w1,r1⟩:=Qfv (off:=1 * 1) (sz:=1) R_5 (by kernel_rfl) (fun _=>rfl) h1
  obtain ⟨y2,h2⟩:=hf 2 (by decide)
  obtain ⟨a2,w2,r2⟩:=Qfv (off:=2 * 1) (sz:=1) R_5 (by kernel_rfl) (fun _=>rfl) h2
  obtain ⟨y3,h3⟩:=hf 3 (by decide)
  obtain ⟨a3,w3,r3⟩:=Qfv (off:=3 * 1) (sz:=1) R_5 (by kernel_rfl) (fun _=>rfl) h3
  obtain ⟨y4,h4⟩:=hf 4 (by decide)
  obtain ⟨a4,w4,r4⟩:=Qfv (off:=4 * 1) (sz:=1) R_5 (by kernel_rfl) (fun _=>rfl) h4
  exact ⟨(a0,a1,a2,a3,a4),⟨w0,w1,w2,w3,w4⟩,RDat.all (xs:=(fun p : Int × Int × Int × Int × Int=>[.int .u8 p.1,.int .u8 p.2.1,.int .u8 p.2.2.1,.int .u8 p.2.2.2.1,.int .u8 p.2.2.2.2]) (a0,a1,a2,a3,a4)) (RDat.app r0 rfl (RDat.app r1 rfl (RDat.app r2 rfl (RDat.app r3 rfl r4)))) (hl.trans (by kernel_rfl))⟩
def W_24 (x : (Int × Int × Int × Int × Int) × (Int × Int × Int × Int × Int) × (Int × Int × Int × Int × Int) × (Int × Int × Int × Int × Int) × (Int × Int × Int × Int × Int)) : Prop:=W_23 x.1 ∧ W_23 x.2.1 ∧ W_23 x.2.2.1 ∧ W_23 x.2.2.2.1 ∧ W_23 x.2.2.2.2
theorem R_24 : Q4o Try.prog 24 (fun p : (Int × Int × Int × Int × Int) × (Int × Int × Int × Int × Int) × (Int × Int × Int × Int × Int) × (Int × Int × Int × Int × Int) × (Int × Int × Int × Int × Int)=>[.int .u8 p.1.1,.int .u8 p.1.2.1,.int .u8 p.1.2.2.1,.int .u8 p.1.2.2.2.1,.int .u8 p.1.2.2.2.2,.int .u8 p.2.1.1,.int .u8 p.2.1.2.1,.int .u8 p.2.1.2.2.1,.int .u8 p.2.1.2.2.2.1,.int .u8 p.2.1.2.2.2.2,.int .u8 p.2.2.1.1,.int .u8 p.2.2.1.2.1,.int .u8 p.2.2.1.2.2.1,.int .u8 p.2.2.1.2.2.2.1,.int .u8 p.2.2.1.2.2.2.2,.int .u8 p.2.2.2.1.1,.int .u8 p.2.2.2.1.2.1,.int .u8 p.2.2.2.1.2.2.1,.int .u8 p.2.2.2.1.2.2.2.1,.int .u8 p.2.2.2.1.2.2.2.2,.int .u8 p.2.2.2.2.1,.int .u8 p.2.2.2.2.2.1,.int .u8 p.2.2.2.2.2.2.1,.int .u8 p.2.2.2.2.2.2.2.1,.int .u8 p.2.2.2.2.2.2.2.2]) W_24:=by
  intro H enc w base spare held fuel cs x h
  obtain ⟨hl,n,hf⟩:=Qbf8 (sz:=5) Try.underlying24 (by kernel_rfl) h
  obtain ⟨y0,h0⟩:=hf 0 (by decide)
  obtain ⟨a0,w0,r0⟩:=Qfv (off:=0 * 5) (sz:=5) R_23 (by kernel_rfl) (fun _=>rfl) h0
  obtain ⟨y1,h1⟩:=hf 1 (by decide)
  obtain ⟨a1,w1,r1⟩:=Qfv (off:=1 * 5) (sz:=5) R_23 (by kernel_rfl) (fun _=>rfl) h1
  obtain ⟨y2,h2⟩:=hf 2 (by decide)
  obtain ⟨a2,w2,r2⟩:=Qfv (off:=2 * 5) (sz:=5) R_23 (by kernel_rfl) (fun _=>rfl) h2
  obtain ⟨y3,h3⟩:=hf 3 (by decide)
  obtain ⟨a3,w3,r3⟩:=Qfv (off:=3 * 5) (sz:=5) R_23 (by kernel_rfl) (fun _=>rfl) h3
  obtain ⟨y4,h4⟩:=hf 4 (by decide)
  obtain ⟨a4,w4,r4⟩:=Qfv (off:=4 * 5) (sz:=5) R_23 (by kernel_rfl) (fun _=>rfl) h4
  exact ⟨(a0,a1,a2,a3,a4),⟨w0,w1,w2,w3,w4⟩,RDat.all (xs:=(fun p : (Int × Int × Int × Int × Int) × (Int × Int × Int × Int × Int) × (Int × Int × Int × Int × Int) × (Int × Int × Int × Int × Int) × (Int × Int × Int × Int × Int)=>[.int .u8 p.1.1,.int .u8 p.1.2.1,.int .u8 p.1.2.2.1,.int .u8 p.1.2.2.2.1,.int .u8 p.1.2.2.2.2,.int .u8 p.2.1.1,.int .u8 p.2.1.2.1,.int .u8 p.2.1.2.2.1,.int .u8 p.2.1.2.2.2.1,.int .u8 p.2.1.2.2.2.2,.int .u8 p.2.2.1.1,.int .u8 p.2.2.1.2.1,.int .u8 p.2.2.1.2.2.1,.int .u8 p.2.2.1.2.2.2.1,.int .u8 p.2.2.1.2.2.2.2,.int .u8 p.2.2.2.1.1,.int .u8 p.2.2.2.1.2.1,.int .u8 p.2.2.2.1.2.2.1,.int .u8 p.2.2.2.1.2.2.2.1,.int .u8 p.2.2.2.1.2.2.2.2,.int .u8 p.2.2.2.2.1,.int .u8 p.2.2.2.2.2.1,.int .u8 p.2.2.2.2.2.2.1,.int .u8 p.2.2.2.2.2.2.2.1,.int .u8 p.2.2.2.2.2.2.2.2]) (a0,a1,a2,a3,a4)) (RDat.app r0 rfl (RDat.app r1 rfl (RDat.app r2 rfl (RDat.app r3 rfl r4)))) (hl.trans (by kernel_rfl))⟩
def W_26 (x : Q1) : Prop:=W_5 x.States ∧ W_5 x.Marks ∧ W_24 x.To
theorem R_26 : Q4o Try.prog 26 Qki W_26:=by
  intro H enc w base spare held fuel cs x h
  obtain ⟨hl,n,hf⟩:=Qbf4 Try.underlying26 h
  obtain ⟨y0,h0⟩:=hf 0 _ rfl
  obtain ⟨a0,w0,r0⟩:=Qfv (off:=0) (sz:=1) R_5 (by kernel_rfl) (fun _=>rfl) h0
  obtain ⟨y1,h1⟩:=hf 1 _ rfl
  obtain ⟨a1,w1,r1⟩:=Qfv (off:=1) (sz:=1) R_5 (by kernel_rfl) (fun _=>rfl) h1
  obtain ⟨y2,h2⟩:=hf 2 _ rfl
  obtain ⟨a2,w2,r2⟩:=Qfv (off:=2) (sz:=25) R_24 (by kernel_rfl) (fun _=>rfl) h2
  exact ⟨⟨a0,a1,a2⟩,⟨w0,w1,w2⟩,RDat.all (xs:=Qki ⟨a0,a1,a2⟩) (RDat.app r0 rfl (RDat.app r1 rfl r2)) (hl.trans (by kernel_rfl))⟩
theorem A_26 : Qkf Try.prog 26 (fun (a : Q1)=>.agg [.d (.int .u8 a.States),.d (.int .u8 a.Marks),.d (.int .u8 a.To.1.1),.d (.int .u8 a.To.1.2.1),.d (.int .u8 a.To.1.2.2.1),.d (.int .u8 a.To.1.2.2.2.1),.d (.int .u8 a.To.1.2.2.2.2),.d (.int .u8 a.To.2.1.1),.d (.int .u8 a.To.2.1.2.1),.d (.int .u8 a.To.2.1.2.2.1),.d (.int .u8 a.To.2.1.2.2.2.1),.d (.int .u8 a.To.2.1.2.2.2.2),.d (.int .u8 a.To.2.2.1.1),.d (.int .u8 a.To.2.2.1.2.1),.d (.int .u8 a.To.2.2.1.2.2.1),.d (.int .u8 a.To.2.2.1.2.2.2.1),.d (.int .u8 a.To.2.2.1.2.2.2.2),.d (.int .u8 a.To.2.2.2.1.1),.d (.int .u8 a.To.2.2.2.1.2.1),.d (.int .u8 a.To.2.2.2.1.2.2.1),.d (.int .u8 a.To.2.2.2.1.2.2.2.1),.d (.int .u8 a.To.2.2.2.1.2.2.2.2),.d (.int .u8 a.To.2.2.2.2.1),.d (.int .u8 a.To.2.2.2.2.2.1),.d (.int .u8 a.To.2.2.2.2.2.2.1),.d (.int .u8 a.To.2.2.2.2.2.2.2.1),.d (.int .u8 a.To.2.2.2.2.2.2.2.2)]) W_26:=Qbf7 R_26 (.inl ⟨_,Try.underlying26⟩)
def W_3 (x : Int) : Prop:=wfI .i64 x
theorem R_3 : Q4o Try.prog 3 (eI .i64) W_3:=Q7j Try.underlying3
def W_27 (x : List Int) : Prop:=wfL W_3 x
theorem R_27 : Q4o Try.prog 27 (eL 1 (eI .i64)) W_27:=Qbb9 Try.underlying27 R_3 (by kernel_rfl) (by decide) (fun _=>rfl)
theorem A_27 : Qkf Try.prog 27 (fun (a : List Int)=>.d (.lst 1 (List.map (eI .i64) a))) W_27:=Qbiw R_27 (Qbf5 Try.underlying27)
end Go.Proofs
end
