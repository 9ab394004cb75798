/-
  Part 6 of the proof: see the last text.
-/
import Derived.Test.YtdfiohnppomfgaaP5
import Derived.Test.YtdfiohnppomfgaaProg
import Derived.KernelRfl
import Derived.Sort.Statements
import Derived.Lib.SlicesCompact
import Derived.Lib.RuneBytes
import Derived.Shelf.SlSortCmp.NoneTotal
import Derived.Shelf.SlGeneric
import Derived.Ground.SlgmProg
import Derived.Shelf.SortM.Plain
import Derived.Shelf.SortM.SortNone
import Derived.Shelf.Small.Bits
import Derived.Ground.Names2Prog
import Derived.Shelf.Slices.CompactI
import Derived.WalkKit
import Derived.Shelf.Strings.BuilderK
import Derived.Shelf.Strings.BuilderRune
import Derived.Shelf.Strconv.Itoa0
import Derived.Shelf.Spec.SlicesGrow
import Derived.Ground.Names8Prog
import Derived.BigCall
import Derived.Lib.OthersKept
import Derived.OpenShut
import Derived.ProofKit
import Derived.Carry
import GoSem.Claim
import GoSem.ClaimJoined
import Derived.JoinedTies
set_option linter.unusedVariables false
set_option linter.unusedSimpArgs false
set_option linter.unusedSectionVars false
section
namespace Go.Abs
open Go
set_option linter.unusedVariables false
set_option maxRecDepth 10000
set_option maxHeartbeats 4000000
theorem Qvr {P : Program} {c : Nat} {Qx : Qb → (List Int) → Option Int} {Qcq : (List Qe) → Option ((List Qe))} {Qcr : (List (List Int)) → Option ((List Int))} {f_slices_Sort_int : List Int → Option (List Int)} {f_slices_Compact_int : List Int → Option (List Int)} {Qg : (List Int) → Int → Option Bool} {f_slices_SortFunc_Edge : List Qe → Option (List Qe)} {Qb8 : Qb → Option (Qb × Int)}
    (H_projection_check : Qe4 P 30 Qx)
    (H_slices_Clone_Edge : Qhw P 31 Qcq)
    (H_slices_Concat_int : Qhy P 32 Qcr)
    (H_slices_Sort_int : RowK P 33 (eI .i64) 1 [] f_slices_Sort_int)
    (H_slices_Compact_int : CompK P 34 f_slices_Compact_int)
    (H_slices_Contains_int : Qbz P 35 Qg)
    (H_slices_SortFunc_Edge : RowK P 36 Qc 3 [.clo 37 []] f_slices_SortFunc_Edge)
    (H_automaton_Canonical : Qgu P 38 Qb8) (hcf : Qt P c = some Qhk) (fuel : Nat) : Qhj P c (Qch Qx Qcq Qcr f_slices_Sort_int f_slices_Compact_int Qg f_slices_SortFunc_Edge Qb8 fuel):=by
 intro a1 alphabet2 r h
 refine Qbjy hcf (args':=[.agg [.f (.lst 1 (List.map (eI .i64) a1.Alphabet)),(i_ a1.States),.f (.lst 1 (List.map (eI .i64) a1.Marked)),.f (.lst 3 (List.map Qc a1.Edges))],.f (.lst 1 (List.map (eI .i64) alphabet2))]) rfl rfl rfl rfl rfl rfl fun Γ M hP hnt hG hM0 hM=>?_
 subst hP
 refine Tr.init [(0,.agg [.f (.lst 1 (List.map (eI .i64) a1.Alphabet)),(i_ a1.States),.f (.lst 1 (List.map (eI .i64) a1.Marked)),.f (.lst 3 (List.map Qc a1.Edges))]),(1,.f (.lst 1 (List.map (eI .i64) alphabet2)))] rfl ?_
 unfold Qch at h
 unfold Qhk
 refine sr ((Rn.box (v:=.agg [.f (.lst 1 (List.map (eI .i64) a1.Alphabet)),(i_ a1.States),.f (.lst 1 (List.map (eI .i64) a1.Marked)),.f (.lst 3 (List.map Qc a1.Edges))]) (cs:=[.f (.lst 1 (List.map (eI .i64) a1.Alphabet)),(i_ a1.States),.f (.lst 1 (List.map (eI .i64) a1.Marked)),.f (.lst 3 (List.map Qc a1.Edges))]) trivial rfl rfl rfl rfl rfl (Rn.alloc trivial rfl (md rfl (nt ((Tr.seq (sr ((Rn.load (v:=.agg [.f (.lst 1 (List.map (eI .i64) a1.Alphabet)),(i_ a1.States),.f (.lst 1 (List.map (eI .i64) a1.Marked)),.f (.lst 3 (List.map Qc a1.Edges))]) trivial rfl (Qk rfl) rfl rfl (Rn.mov (v:=.f (.lst 1 (List.map (eI .i64) alphabet2))) trivial rfl ?_)))))))))))
 obtain ⟨x4,h3,h⟩:=bnd h
 refine Rn.call (args:=[.agg [.f (.lst 1 (List.map (eI .i64) a1.Alphabet)),(i_ a1.States),.f (.lst 1 (List.map (eI .i64) a1.Marked)),.f (.lst 3 (List.map Qc a1.Edges))],.f (.lst 1 (List.map (eI .i64) alphabet2))]) trivial rfl (fun M2 nb2=>ACalls.weak (args':=[(Qa a1),(l_ alphabet2)]) (H_projection_check _ _ _ h3 M2 nb2) (.cons (WkV.agg (.cons fToD (.cons (sm rfl) (.cons fToD (.cons fToD .nil))))) (.cons fToD .nil)) rfl) pc9 ?_
 refine md rfl (nt ((sr ((md rfl (Rn.bin trivial rfl rfl rfl (Rn.nil (toN ?_))))))))
 refine Tr.cond rfl (fun hb5=>?_) (fun hb5=>?_)
 ·replace h:=bT hb5 h
  refine sr ((Rn.build (v:=.agg [.nils 1,(i_ 0),.nils 1,.nils 3]) trivial rfl (md rfl (Rn.storeT (v:=.agg [.nils 1,(i_ 0),.nils 1,.nils 3]) (ds:=[.nils 1,(i_ 0),.nils 1,.nils 3]) (cs':=[.nils 1,(i_ 0),.nils 1,.nils 3]) trivial rfl rfl rfl rfl rfl rfl rfl (md rfl (nt ((Tr.ret ?_))))))))
  replace h:=si h; subst h
  exact ⟨.inr rfl,.tup [.agg [.nils 1,(i_ 0),.nils 1,.nils 3],(i_ x4)],res2 (Qhe rfl rfl rfl rfl) rfl,(WkV.tup (.cons (WkV.agg (.cons (WkV.nilsD _) (.cons (.same rfl) (.cons (WkV.nilsD _) (.cons (WkV.nilsD _) .nil))))) (.cons (.same rfl) .nil))).rd,⟨⟨trivial,trivial,trivial,trivial,trivial⟩,trivial,trivial⟩,fun k hk=>Qf hk⟩
 ·replace h:=bF hb5 h
  refine Tr.skip (toN (Tr.seq ?_))
  refine Tr.rgnD (by decide) ?_
  refine Rn.fldP (o':=1) trivial rfl rfl (Rn.load (v:=(i_ a1.States)) trivial rfl (Qk rfl) rfl rfl (Rn.fldP (o':=2) trivial rfl rfl (Rn.load (v:=.f (.lst 1 (List.map (eI .i64) a1.Marked))) trivial rfl (Qk rfl) rfl rfl (Rn.fldP (o':=3) trivial rfl rfl (Rn.load (v:=.f (.lst 3 (List.map Qc a1.Edges))) trivial rfl (Qk rfl) rfl rfl ?_)))))
  obtain ⟨x7,h6,h⟩:=bnd h
  refine Rn.call (args:=[.f (.lst 3 (List.map Qc a1.Edges))]) trivial rfl (fun M2 nb2=>ACalls.weak (args':=[.d (.lst 3 (List.map Qc a1.Edges))]) (H_slices_Clone_Edge _ _ h6 M2 nb2) (.cons fToD .nil) rfl) (fun _=>Q2k hM rfl) ?_
  refine Rn.buildT (v:=.agg [.nils 1,(i_ a1.States),.f (.lst 1 (List.map (eI .i64) a1.Marked)),.own 3 (List.map Qc x7)]) trivial rfl (Rn.alloc trivial rfl (Rn.storeT (v:=.agg [.nils 1,(i_ a1.States),.f (.lst 1 (List.map (eI .i64) a1.Marked)),.own 3 (List.map Qc x7)]) (ds:=[.nils 1,(i_ a1.States),.f (.lst 1 (List.map (eI .i64) a1.Marked)),.own 3 (List.map Qc x7)]) (cs':=[.nils 1,(i_ a1.States),.f (.lst 1 (List.map (eI .i64) a1.Marked)),.own 3 (List.map Qc x7)]) trivial rfl rfl rfl rfl rfl rfl rfl ?_))
  refine Rn.nil ⟨rfl,?_⟩
  refine toN (sr ((Rn.fldP (o':=0) trivial rfl rfl (Rn.load (v:=.f (.lst 1 (List.map (eI .i64) a1.Alphabet))) trivial rfl (Qk rfl) rfl rfl (Rn.mov (v:=.f (.lst 1 (List.map (eI .i64) alphabet2))) trivial rfl ?_)))))
  refine Rn.weak (by show WeakSt Γ _ ⟨look [(0,.agg [.f (.lst 1 (List.map (eI .i64) a1.Alphabet)),(i_ a1.States),.f (.lst 1 (List.map (eI .i64) a1.Marked)),.f (.lst 3 (List.map Qc a1.Edges))]),(1,.f (.lst 1 (List.map (eI .i64) alphabet2))),(2,.ptr (Γ.n0 + 2) 0),(4,.ptr (Γ.n0 + 4) 0),(5,(i_ 0)),(6,(i_ x4)),(7,.ptr (Γ.n0 + 7) 0),(11,.agg [.f (.lst 1 (List.map (eI .i64) a1.Alphabet)),(i_ a1.States),.f (.lst 1 (List.map (eI .i64) a1.Marked)),.f (.lst 3 (List.map Qc a1.Edges))]),(12,.f (.lst 1 (List.map (eI .i64) alphabet2))),(13,(i_ x4)),(14,(i_ x4)),(15,(b_ (x4 != 0))),(18,.ptr (Γ.n0 + 2) 1),(19,(i_ a1.States)),(20,.ptr (Γ.n0 + 2) 2),(21,.f (.lst 1 (List.map (eI .i64) a1.Marked))),(22,.ptr (Γ.n0 + 2) 3),(23,.f (.lst 3 (List.map Qc a1.Edges))),(24,.d (.lst 3 (List.map Qc x7))),(25,.agg [.nils 1,(i_ a1.States),.f (.lst 1 (List.map (eI .i64) a1.Marked)),.d (.lst 3 (List.map Qc x7))]),(26,.ptr (Γ.n0 + 2) 0),(27,(l_ a1.Alphabet)),(28,(l_ alphabet2))],Qp Γ.n0 (bxs [(2,.cells ([.f (.lst 1 (List.map (eI .i64) a1.Alphabet)),(i_ a1.States),.f (.lst 1 (List.map (eI .i64) a1.Marked)),.f (.lst 3 (List.map Qc a1.Edges))])),(4,.cells ([.nils 1,(i_ 0),.nils 1,.nils 3])),(7,.cells ([.nils 1,(i_ a1.States),.f (.lst 1 (List.map (eI .i64) a1.Marked)),.own 3 (List.map Qc x7)]))]) M,Γ.n0 + 74⟩; exact Qh [] ⟨(sm rfl),(sm rfl),(kPtr rfl),(kPtr rfl),(sm rfl),(sm rfl),(kPtr rfl),(sm rfl),(sm rfl),(sm rfl),(sm rfl),(sm rfl),(kPtr rfl),(sm rfl),(kPtr rfl),(sm rfl),(kPtr rfl),(sm rfl),(sm rfl),(sm rfl),(kPtr rfl),fToD,fToD,trivial⟩ ⟨⟨_,rfl,rfl,(.same rfl)⟩,⟨_,rfl,rfl,(.same rfl)⟩,⟨_,rfl,rfl,(.same rfl)⟩,trivial⟩ rfl) ?_
  refine Rn.bslice (xs:=[(l_ a1.Alphabet),(l_ alphabet2)]) (cs:=[(l_ a1.Alphabet),(l_ alphabet2)]) trivial rfl rfl rfl rfl ?_
  refine Rn.weak (by show WeakSt Γ _ ⟨look [(0,.agg [.f (.lst 1 (List.map (eI .i64) a1.Alphabet)),(i_ a1.States),.f (.lst 1 (List.map (eI .i64) a1.Marked)),.f (.lst 3 (List.map Qc a1.Edges))]),(1,.f (.lst 1 (List.map (eI .i64) alphabet2))),(2,.ptr (Γ.n0 + 2) 0),(4,.ptr (Γ.n0 + 4) 0),(5,(i_ 0)),(6,(i_ x4)),(7,.ptr (Γ.n0 + 7) 0),(11,.agg [.f (.lst 1 (List.map (eI .i64) a1.Alphabet)),(i_ a1.States),.f (.lst 1 (List.map (eI .i64) a1.Marked)),.f (.lst 3 (List.map Qc a1.Edges))]),(12,.f (.lst 1 (List.map (eI .i64) alphabet2))),(13,(i_ x4)),(14,(i_ x4)),(15,(b_ (x4 != 0))),(18,.ptr (Γ.n0 + 2) 1),(19,(i_ a1.States)),(20,.ptr (Γ.n0 + 2) 2),(21,.f (.lst 1 (List.map (eI .i64) a1.Marked))),(22,.ptr (Γ.n0 + 2) 3),(23,.f (.lst 3 (List.map Qc a1.Edges))),(24,.d (.lst 3 (List.map Qc x7))),(25,.agg [.nils 1,(i_ a1.States),.f (.lst 1 (List.map (eI .i64) a1.Marked)),.d (.lst 3 (List.map Qc x7))]),(26,.ptr (Γ.n0 + 2) 0),(27,(l_ a1.Alphabet)),(28,(l_ alphabet2)),(29,.d (.lst 1 (List.map (eL 1 (eI .i64)) [a1.Alphabet,alphabet2])))],Qp Γ.n0 (bxs [(2,.cells ([.f (.lst 1 (List.map (eI .i64) a1.Alphabet)),(i_ a1.States),.f (.lst 1 (List.map (eI .i64) a1.Marked)),.f (.lst 3 (List.map Qc a1.Edges))])),(4,.cells ([.nils 1,(i_ 0),.nils 1,.nils 3])),(7,.cells ([.nils 1,(i_ a1.States),.f (.lst 1 (List.map (eI .i64) a1.Marked)),.own 3 (List.map Qc x7)]))]) M,Γ.n0 + 74⟩; exact Qcd 29 [.lst 1 (List.map (eI .i64) a1.Alphabet),.lst 1 (List.map (eI .i64) alphabet2)] rfl rfl ⟨(.same rfl),(.same rfl),(fPtr rfl),(fPtr rfl),(.same rfl),(.same rfl),(fPtr rfl),(.same rfl),(.same rfl),(.same rfl),(.same rfl),(.same rfl),(fPtr rfl),(.same rfl),(fPtr rfl),(.same rfl),(fPtr rfl),(.same rfl),(.same rfl),(.same rfl),(fPtr rfl),(.same rfl),(.same rfl),(fSl rfl rfl),trivial⟩ ⟨⟨_,rfl,rfl,(.same rfl)⟩,⟨_,rfl,rfl,(.same rfl)⟩,⟨_,rfl,rfl,(.same rfl)⟩,trivial⟩ rfl) ?_
  obtain ⟨x9,h8,h⟩:=bnd h
  refine Rn.call (args:=[.d (.lst 1 (List.map (eL 1 (eI .i64)) [a1.Alphabet,alphabet2]))]) trivial rfl (H_slices_Concat_int _ _ h8) pc9 (Rn.fldP (o':=0) trivial rfl rfl (Rn.storeO (cs':=[.own 1 (List.map (eI .i64) x9),(i_ a1.States),.f (.lst 1 (List.map (eI .i64) a1.Marked)),.own 3 (List.map Qc x7)]) trivial rfl rfl rfl rfl rfl (Rn.nil (toN ?_))))
  obtain ⟨row10,hs11,h⟩:=bnd h
  obtain ⟨hl12,hn13,hr14⟩:=H_slices_Sort_int _ _ hs11
  obtain ⟨row16,hs17,h⟩:=bnd h
  obtain ⟨hl18,hn19,hr20⟩:=H_slices_Compact_int _ _ hs17
  refine Tr.seqW2 ⟨look [(2,.ptr (Γ.n0 + 2) 0),(4,.ptr (Γ.n0 + 4) 0),(7,.ptr (Γ.n0 + 7) 0)],Qp Γ.n0 (bxs [(2,.cells ([.f (.lst 1 (List.map (eI .i64) a1.Alphabet)),(i_ a1.States),.f (.lst 1 (List.map (eI .i64) a1.Marked)),.f (.lst 3 (List.map Qc a1.Edges))])),(4,.cells ([.nils 1,(i_ 0),.nils 1,.nils 3])),(7,.cells ([.f (.lst 1 (List.map (eI .i64) row16)),(i_ a1.States),.f (.lst 1 (List.map (eI .i64) a1.Marked)),.own 3 (List.map Qc x7)]))]) M,Γ.n0 + 74⟩ ?_ ?_
  ·by_cases hx15 : x9 = []
   ·obtain ⟨hyx,hn13b⟩:=hn13 hx15
    replace hyx:=hyx.symm
    subst hyx
    replace hn13:=And.intro trivial hn13b
    obtain ⟨hyx2,hn19b⟩:=hn19 hx15
    replace hyx2:=hyx2.symm
    subst hyx2
    replace hn19:=And.intro trivial hn19b
    refine Tr.rgn (Rn.fldP (o':=0) trivial rfl rfl (Rn.load (v:=(l_ x9)) trivial rfl (Qk rfl) rfl rfl (Rn.call (args:=[.d (.lst 1 (List.map (eI .i64) x9))]) trivial rfl (hn13.2) pc9 (nt ((Tr.rgn (Rn.fldP (o':=0) trivial rfl rfl (Rn.load (v:=(l_ x9)) trivial rfl (Qk rfl) rfl rfl (Rn.call (args:=[.d (.lst 1 (List.map (eI .i64) x9))]) (r:=.d (.lst 1 (List.map (eI .i64) x9))) trivial rfl (hn19.2) pc9 (Rn.fldP (o':=0) trivial rfl rfl (Rn.storeD (cs':=[(l_ x9),(i_ a1.States),.f (.lst 1 (List.map (eI .i64) a1.Marked)),.own 3 (List.map Qc x7)]) trivial rfl rfl rfl rfl rfl ?_)))))))))))
    refine Rn.nil ⟨rfl,(by exact Qh [] ⟨(kPtr rfl),(kPtr rfl),(kPtr rfl),trivial⟩ ⟨⟨_,rfl,rfl,(.same rfl)⟩,⟨_,rfl,rfl,(.same rfl)⟩,⟨_,rfl,rfl,(.cons (Qblr hx15) (.cons (sm rfl) (.cons (sm rfl) (.cons (sm rfl) .nil))))⟩,trivial⟩ rfl)⟩
   ·refine Tr.weak (by show WeakSt Γ _ ⟨look [(2,.ptr (Γ.n0 + 2) 0),(4,.ptr (Γ.n0 + 4) 0),(7,.ptr (Γ.n0 + 7) 0)],Qp Γ.n0 (bxs [(2,.cells ([.f (.lst 1 (List.map (eI .i64) a1.Alphabet)),(i_ a1.States),.f (.lst 1 (List.map (eI .i64) a1.Marked)),.f (.lst 3 (List.map Qc a1.Edges))])),(4,.cells ([.nils 1,(i_ 0),.nils 1,.nils 3])),(7,.cells ([.own 1 (List.map (eI .i64) x9),(i_ a1.States),.f (.lst 1 (List.map (eI .i64) a1.Marked)),.own 3 (List.map Qc x7)]))]) M,Γ.n0 + 74⟩; exact Qh [] ⟨(kPtr rfl),(kPtr rfl),(kPtr rfl),trivial⟩ ⟨⟨_,rfl,rfl,(.same rfl)⟩,⟨_,rfl,rfl,(.same rfl)⟩,⟨_,rfl,rfl,(.same rfl)⟩,trivial⟩ rfl) ?_
    refine Qbhm hG hM0 7 0 34 hx15 (fun _=>rfl) rfl rfl rfl rfl ⟨rfl,rfl,rfl,trivial⟩ ⟨⟨rfl,rfl,rfl,rfl,trivial⟩,⟨rfl,rfl,rfl,rfl,trivial⟩,⟨rfl,rfl,rfl,(Qbi2 (fun _=>rfl)),trivial⟩,trivial⟩ (fun c21 hc22 hc23=>?_)
    refine Tr.rgn (Rn.fldP (o':=0) trivial rfl rfl (Rn.load (v:=.sl 1 (Γ.n0 + 34) 0 x9.length c21) trivial rfl (Qk rfl) rfl rfl ?_))
    refine Rn.callRow (t:=34) (cs:=Qbk (List.map (eI .i64) x9) ((c21 - x9.length) * 1)) (cs':=Qbk (List.map (eI .i64) row10) ((c21 - x9.length) * 1)) trivial rfl rfl (fun M2 hM2=>hr14 hc23 _ _ _ _ hM2) rfl ?_
    refine nt ((Tr.rgn (Rn.fldP (o':=0) trivial rfl rfl (Rn.load (v:=.sl 1 (Γ.n0 + 34) 0 x9.length c21) trivial rfl (Qk rfl) rfl rfl ?_))))
    refine Rn.callRow (t:=34) (cs:=Qbk (List.map (eI .i64) row10) ((c21 - x9.length) * 1)) (cs':=Qbk (List.map (eI .i64) row16) ((c21 - row16.length) * 1)) trivial rfl rfl (fun M2 hM2=>Qbi5 hr20 hl12 hc22 hM2) rfl ?_
    refine Rn.fldP (o':=0) trivial rfl rfl (Rn.storeV (v:=.sl 1 (Γ.n0 + 34) 0 row16.length c21) (cs':=[.sl 1 (Γ.n0 + 34) 0 row16.length c21,(i_ a1.States),.f (.lst 1 (List.map (eI .i64) a1.Marked)),.own 3 (List.map Qc x7)]) trivial rfl rfl rfl rfl rfl rfl rfl rfl ?_)
    refine Rn.weak (by show WeakSt Γ _ ⟨look [(2,.ptr (Γ.n0 + 2) 0),(4,.ptr (Γ.n0 + 4) 0),(7,.ptr (Γ.n0 + 7) 0),(32,.ptr (Γ.n0 + 7) 0),(34,.tup []),(35,.ptr (Γ.n0 + 7) 0),(37,.f (.lst 1 (List.map (eI .i64) row16))),(38,.ptr (Γ.n0 + 7) 0)],Qp Γ.n0 (bxs [(2,.cells ([.f (.lst 1 (List.map (eI .i64) a1.Alphabet)),(i_ a1.States),.f (.lst 1 (List.map (eI .i64) a1.Marked)),.f (.lst 3 (List.map Qc a1.Edges))])),(4,.cells ([.nils 1,(i_ 0),.nils 1,.nils 3])),(7,.cells ([.f (.lst 1 (List.map (eI .i64) row16)),(i_ a1.States),.f (.lst 1 (List.map (eI .i64) a1.Marked)),.own 3 (List.map Qc x7)]))]) M,Γ.n0 + 74⟩; exact Qp8 34 _ rfl Qbkr ⟨(fPtr rfl),(fPtr rfl),(fPtr rfl),(fPtr rfl),(.same rfl),(fPtr rfl),(Qbi4 (fun _=>rfl) (fun _=>rfl) rfl (Nat.le_trans (Nat.le_trans hl18 (Nat.le_of_eq hl12)) hc22)),(fPtr rfl),trivial⟩ ⟨⟨_,rfl,rfl,(.cons (.same rfl) (.cons (.same rfl) (.cons (.same rfl) (.cons (.same rfl) .nil))))⟩,⟨_,rfl,rfl,(.cons (.same rfl) (.cons (.same rfl) (.cons (.same rfl) (.cons (.same rfl) .nil))))⟩,⟨_,rfl,rfl,(.cons (Qbi4 (fun _=>rfl) (fun _=>rfl) rfl (Nat.le_trans (Nat.le_trans hl18 (Nat.le_of_eq hl12)) hc22)) (.cons (.same rfl) (.cons (.same rfl) (.cons (.same rfl) .nil))))⟩,trivial⟩ rfl) ?_
    refine Rn.nil ⟨rfl,(by exact Qh [] ⟨(kPtr rfl),(kPtr rfl),(kPtr rfl),trivial⟩ ⟨⟨_,rfl,rfl,(.same rfl)⟩,⟨_,rfl,rfl,(.same rfl)⟩,⟨_,rfl,rfl,(.same rfl)⟩,trivial⟩ rfl)⟩
  ·refine Tr.cutB (fun (r41 : List Qe)=>⟨look [(4,.ptr (Γ.n0 + 4) 0),(7,.ptr (Γ.n0 + 7) 0)],Qp Γ.n0 (bxs [(2,.cells ([.f (.lst 1 (List.map (eI .i64) a1.Alphabet)),(i_ a1.States),.f (.lst 1 (List.map (eI .i64) a1.Marked)),.f (.lst 3 (List.map Qc a1.Edges))])),(4,.cells ([.nils 1,(i_ 0),.nils 1,.nils 3])),(7,.cells ([.f (.lst 1 (List.map (eI .i64) row16)),(i_ a1.States),.f (.lst 1 (List.map (eI .i64) a1.Marked)),.own 3 (List.map Qc r41)]))]) M,Γ.n0 + 74⟩) h (fun z h=>?_) (fun z h=>?_)
   ·refine sr ((Rn.fldP (o':=1) trivial rfl rfl (Rn.load (v:=(i_ a1.States)) trivial rfl (Qk rfl) rfl rfl (md rfl (nt ((Tr.block ?_)))))))
    refine Tr.loop (mk:=fun ((x24,r25) : Int × (List Qe))=>⟨look [(2,.ptr (Γ.n0 + 2) 0),(4,.ptr (Γ.n0 + 4) 0),(7,.ptr (Γ.n0 + 7) 0),(40,(i_ a1.States)),(41,(i_ x24))],Qp Γ.n0 (bxs [(2,.cells ([.f (.lst 1 (List.map (eI .i64) a1.Alphabet)),(i_ a1.States),.f (.lst 1 (List.map (eI .i64) a1.Marked)),.f (.lst 3 (List.map Qc a1.Edges))])),(4,.cells ([.nils 1,(i_ 0),.nils 1,.nils 3])),(7,.cells ([.f (.lst 1 (List.map (eI .i64) row16)),(i_ a1.States),.f (.lst 1 (List.map (eI .i64) a1.Marked)),.own 3 (List.map Qc r25)]))]) M,Γ.n0 + 74⟩) h (by exact Qm ⟨(kPtr rfl),(kPtr rfl),(kPtr rfl),(sm rfl),(sm rfl),trivial⟩ ⟨⟨_,rfl,rfl,(.same rfl)⟩,⟨_,rfl,rfl,(.same rfl)⟩,⟨_,rfl,rfl,(.same rfl)⟩,trivial⟩ rfl) (fun k26 z h=>?_)
    ·obtain ⟨x24,r25⟩:=z
     replace h : _ = some _:=h
     refine sr ((Rn.bin trivial rfl rfl rfl (nt ((Tr.seq ?_)))))
     refine Tr.cond rfl (fun hb27=>?_) (fun hb27=>?_)
     ·replace h:=ifT hb27 h
      refine Tr.skip (toN ?_)
      refine Tr.cutB (fun (r40 : List Qe)=>⟨look [(2,.ptr (Γ.n0 + 2) 0),(4,.ptr (Γ.n0 + 4) 0),(7,.ptr (Γ.n0 + 7) 0),(40,(i_ a1.States)),(41,(i_ x24))],Qp Γ.n0 (bxs [(2,.cells ([.f (.lst 1 (List.map (eI .i64) a1.Alphabet)),(i_ a1.States),.f (.lst 1 (List.map (eI .i64) a1.Marked)),.f (.lst 3 (List.map Qc a1.Edges))])),(4,.cells ([.nils 1,(i_ 0),.nils 1,.nils 3])),(7,.cells ([.f (.lst 1 (List.map (eI .i64) row16)),(i_ a1.States),.f (.lst 1 (List.map (eI .i64) a1.Marked)),.own 3 (List.map Qc r40)]))]) M,Γ.n0 + 74⟩) h (fun z h=>?_) (fun z h=>?_)
      ·refine Tr.block (sr ((md rfl (md rfl (nt ((sr ((Rn.fldP (o':=0) trivial rfl rfl (Rn.load (v:=.f (.lst 1 (List.map (eI .i64) row16))) trivial rfl (Qk rfl) rfl rfl ?_))))))))))
       refine Rn.weak (by show WeakSt Γ _ ⟨look [(2,.ptr (Γ.n0 + 2) 0),(4,.ptr (Γ.n0 + 4) 0),(7,.ptr (Γ.n0 + 7) 0),(8,(i_ x24)),(40,(i_ a1.States)),(41,(i_ x24)),(42,(b_ (decide (x24 < a1.States)))),(43,(i_ x24)),(44,.ptr (Γ.n0 + 7) 0),(45,(l_ row16))],Qp Γ.n0 (bxs [(2,.cells ([.f (.lst 1 (List.map (eI .i64) a1.Alphabet)),(i_ a1.States),.f (.lst 1 (List.map (eI .i64) a1.Marked)),.f (.lst 3 (List.map Qc a1.Edges))])),(4,.cells ([.nils 1,(i_ 0),.nils 1,.nils 3])),(7,.cells ([.f (.lst 1 (List.map (eI .i64) row16)),(i_ a1.States),.f (.lst 1 (List.map (eI .i64) a1.Marked)),.own 3 (List.map Qc r25)]))]) M,Γ.n0 + 74⟩; exact Qh [] ⟨(kPtr rfl),(kPtr rfl),(kPtr rfl),(sm rfl),(sm rfl),(sm rfl),(sm rfl),(sm rfl),(kPtr rfl),fToD,trivial⟩ ⟨⟨_,rfl,rfl,(.same rfl)⟩,⟨_,rfl,rfl,(.same rfl)⟩,⟨_,rfl,rfl,(.same rfl)⟩,trivial⟩ rfl) ?_
       refine Rn.lenD trivial rfl (md rfl (nt ((Tr.block ?_))))
       refine Tr.loop (mk:=fun ((x28,r29) : Int × (List Qe))=>⟨look [(2,.ptr (Γ.n0 + 2) 0),(4,.ptr (Γ.n0 + 4) 0),(7,.ptr (Γ.n0 + 7) 0),(8,(i_ x24)),(40,(i_ a1.States)),(41,(i_ x24)),(45,(l_ row16)),(46,(i_ (row16.length : Int))),(47,(i_ x28))],Qp Γ.n0 (bxs [(2,.cells ([.f (.lst 1 (List.map (eI .i64) a1.Alphabet)),(i_ a1.States),.f (.lst 1 (List.map (eI .i64) a1.Marked)),.f (.lst 3 (List.map Qc a1.Edges))])),(4,.cells ([.nils 1,(i_ 0),.nils 1,.nils 3])),(7,.cells ([.f (.lst 1 (List.map (eI .i64) row16)),(i_ a1.States),.f (.lst 1 (List.map (eI .i64) a1.Marked)),.own 3 (List.map Qc r29)]))]) M,Γ.n0 + 74⟩) h (by exact Qm ⟨(kPtr rfl),(kPtr rfl),(kPtr rfl),(sm rfl),(sm rfl),(sm rfl),(sm rfl),(sm rfl),(sm rfl),trivial⟩ ⟨⟨_,rfl,rfl,(.same rfl)⟩,⟨_,rfl,rfl,(.same rfl)⟩,⟨_,rfl,rfl,(.same rfl)⟩,trivial⟩ rfl) (fun k30 z h=>?_)
       ·obtain ⟨x28,r29⟩:=z
        replace h : _ = some _:=h
        refine sr ((Rn.bin trivial rfl rfl rfl (nt ((Tr.seq ?_)))))
        refine Tr.cond rfl (fun hb31=>?_) (fun hb31=>?_)
        ·replace h:=ifT hb31 h
         refine Tr.skip (toN ?_)
         refine Tr.cutB (fun (r39 : List Qe)=>⟨look [(2,.ptr (Γ.n0 + 2) 0),(4,.ptr (Γ.n0 + 4) 0),(7,.ptr (Γ.n0 + 7) 0),(8,(i_ x24)),(40,(i_ a1.States)),(41,(i_ x24)),(45,(l_ row16)),(46,(i_ (row16.length : Int))),(47,(i_ x28))],Qp Γ.n0 (bxs [(2,.cells ([.f (.lst 1 (List.map (eI .i64) a1.Alphabet)),(i_ a1.States),.f (.lst 1 (List.map (eI .i64) a1.Marked)),.f (.lst 3 (List.map Qc a1.Edges))])),(4,.cells ([.nils 1,(i_ 0),.nils 1,.nils 3])),(7,.cells ([.f (.lst 1 (List.map (eI .i64) row16)),(i_ a1.States),.f (.lst 1 (List.map (eI .i64) a1.Marked)),.own 3 (List.map Qc r39)]))]) M,Γ.n0 + 74⟩) h (fun z h=>?_) (fun z h=>?_)
         ·refine Tr.block (Tr.seq (Tr.rgn ?_))
          obtain ⟨x32,h33,h⟩:=bnd h
          refine Rn.idxD (e:=(eI .i64)) trivial rfl rfl h33 (Rn.loadC (x:=.int .i64 x32) trivial rfl (md rfl (nt ((sr ((Rn.fldP (o':=0) trivial rfl rfl (Rn.load (v:=.f (.lst 1 (List.map (eI .i64) a1.Alphabet))) trivial rfl (Qk rfl) rfl rfl (md rfl ?_)))))))))
          obtain ⟨x35,h34,h⟩:=bnd h
          refine Rn.call (args:=[.f (.lst 1 (List.map (eI .i64) a1.Alphabet)),(i_ x32)]) trivial rfl (fun M2 nb2=>ACalls.weak (args':=[(l_ a1.Alphabet),(i_ x32)]) (H_slices_Contains_int _ _ _ h34 M2 nb2) (.cons fToD (.cons (sm rfl) .nil)) rfl) pc9 ?_
          refine Rn.un trivial rfl rfl (Rn.nil (toN ?_))
          refine Tr.cond rfl (fun hb36=>?_) (fun hb36=>?_)
          ·have hb36:=nT' hb36
           replace h:=bF hb36 h
           refine Tr.rgn (Rn.fldP (o':=3) trivial rfl rfl (Rn.loadT (cs':=[.f (.lst 1 (List.map (eI .i64) row16)),(i_ a1.States),.f (.lst 1 (List.map (eI .i64) a1.Marked)),.d (.lst 3 (List.map Qc r29))]) trivial rfl rfl rfl rfl (md rfl (md rfl (md rfl (Rn.build (v:=.agg [(i_ x24),(i_ x32),(i_ x24)]) trivial rfl (Rn.bslice (xs:=[.agg [(i_ x24),(i_ x32),(i_ x24)]]) (cs:=[(i_ x24),(i_ x32),(i_ x24)]) trivial rfl rfl rfl rfl ?_)))))))
           obtain ⟨x37,h38,h⟩:=bnd h
           refine Rn.app (e:=Qc) trivial rfl rfl rfl (Qcp rfl rfl rfl) h38 rfl (Rn.fldP (o':=3) trivial rfl rfl (Rn.storeO (cs':=[.f (.lst 1 (List.map (eI .i64) row16)),(i_ a1.States),.f (.lst 1 (List.map (eI .i64) a1.Marked)),.own 3 (List.map Qc x37)]) trivial rfl rfl rfl rfl rfl (Rn.nil ?_)))
           replace h:=si h; subst h
           exact Qh [62] ⟨(kPtr rfl),(kPtr rfl),(kPtr rfl),(sm rfl),(sm rfl),(sm rfl),(sm rfl),(sm rfl),(sm rfl),trivial⟩ ⟨⟨_,rfl,rfl,(.same rfl)⟩,⟨_,rfl,rfl,(.same rfl)⟩,⟨_,rfl,rfl,(.same rfl)⟩,trivial⟩ rfl
          ·have hb36:=nF' hb36
           replace h:=bT hb36 h
           refine Tr.skip ?_
           replace h:=si h; subst h
           exact Qh [] ⟨(kPtr rfl),(kPtr rfl),(kPtr rfl),(sm rfl),(sm rfl),(sm rfl),(sm rfl),(sm rfl),(sm rfl),trivial⟩ ⟨⟨_,rfl,rfl,(.same rfl)⟩,⟨_,rfl,rfl,(.same rfl)⟩,⟨_,rfl,rfl,(.same rfl)⟩,trivial⟩ rfl
         ·obtain ⟨r39,rfl⟩ : ∃ x,x = z:=⟨_,rfl⟩
          refine Tr.rgn (Rn.bin trivial rfl rfl rfl (md rfl (Rn.nil ?_)))
          exact ⟨_,h,(by exact Qm ⟨(kPtr rfl),(kPtr rfl),(kPtr rfl),(sm rfl),(sm rfl),(sm rfl),(sm rfl),(sm rfl),(sm rfl),trivial⟩ ⟨⟨_,rfl,rfl,(.same rfl)⟩,⟨_,rfl,rfl,(.same rfl)⟩,⟨_,rfl,rfl,(.same rfl)⟩,trivial⟩ rfl)⟩
        ·replace h:=ifF hb31 h
         refine Tr.exit ?_
         replace h:=si h; subst h
         exact Qh [] ⟨(kPtr rfl),(kPtr rfl),(kPtr rfl),(sm rfl),(sm rfl),trivial⟩ ⟨⟨_,rfl,rfl,(.same rfl)⟩,⟨_,rfl,rfl,(.same rfl)⟩,⟨_,rfl,rfl,(.same rfl)⟩,trivial⟩ rfl
      ·obtain ⟨r40,rfl⟩ : ∃ x,x = z:=⟨_,rfl⟩
       refine Tr.rgn (Rn.bin trivial rfl rfl rfl (md rfl (Rn.nil ?_)))
       exact ⟨_,h,(by exact Qm ⟨(kPtr rfl),(kPtr rfl),(kPtr rfl),(sm rfl),(sm rfl),trivial⟩ ⟨⟨_,rfl,rfl,(.same rfl)⟩,⟨_,rfl,rfl,(.same rfl)⟩,⟨_,rfl,rfl,(.same rfl)⟩,trivial⟩ rfl)⟩
     ·replace h:=ifF hb27 h
      refine Tr.exit ?_
      replace h:=si h; subst h
      exact Qh [] ⟨(kPtr rfl),(kPtr rfl),trivial⟩ ⟨⟨_,rfl,rfl,(.same rfl)⟩,⟨_,rfl,rfl,(.same rfl)⟩,⟨_,rfl,rfl,(.same rfl)⟩,trivial⟩ rfl
   ·obtain ⟨r41,rfl⟩ : ∃ x,x = z:=⟨_,rfl⟩
    obtain ⟨row42,hs43,h⟩:=bnd h
    obtain ⟨hl44,hn45,hr46⟩:=H_slices_SortFunc_Edge _ _ hs43
    refine Tr.seqW ⟨look [(4,.ptr (Γ.n0 + 4) 0),(7,.ptr (Γ.n0 + 7) 0)],Qp Γ.n0 (bxs [(2,.cells ([.f (.lst 1 (List.map (eI .i64) a1.Alphabet)),(i_ a1.States),.f (.lst 1 (List.map (eI .i64) a1.Marked)),.f (.lst 3 (List.map Qc a1.Edges))])),(4,.cells ([.nils 1,(i_ 0),.nils 1,.nils 3])),(7,.cells ([.f (.lst 1 (List.map (eI .i64) row16)),(i_ a1.States),.f (.lst 1 (List.map (eI .i64) a1.Marked)),.f (.lst 3 (List.map Qc row42))]))]) M,Γ.n0 + 74⟩ ?_ ?_
    ·by_cases hx47 : r41 = []
     ·obtain ⟨hyx,hn45b⟩:=hn45 hx47
      replace hyx:=hyx.symm
      subst hyx
      replace hn45:=And.intro trivial hn45b
      refine Tr.rgn (Rn.fldP (o':=3) trivial rfl rfl (Rn.load (v:=.d (.lst 3 (List.map Qc r41))) trivial rfl (Qk rfl) rfl rfl (Rn.call (args:=[.d (.lst 3 (List.map Qc r41)),.clo 37 []]) trivial rfl (hn45.2) pc9 ?_)))
      refine Rn.nil ⟨rfl,(by exact Qh [] ⟨(kPtr rfl),(kPtr rfl),trivial⟩ ⟨⟨_,rfl,rfl,(.same rfl)⟩,⟨_,rfl,rfl,(.same rfl)⟩,⟨_,rfl,rfl,(.cons (sm rfl) (.cons (sm rfl) (.cons (sm rfl) (.cons (Qbl8 hx47) .nil))))⟩,trivial⟩ rfl)⟩
     ·refine Tr.weak (by show WeakSt Γ _ ⟨look [(4,.ptr (Γ.n0 + 4) 0),(7,.ptr (Γ.n0 + 7) 0)],Qp Γ.n0 (bxs [(2,.cells ([.f (.lst 1 (List.map (eI .i64) a1.Alphabet)),(i_ a1.States),.f (.lst 1 (List.map (eI .i64) a1.Marked)),.f (.lst 3 (List.map Qc a1.Edges))])),(4,.cells ([.nils 1,(i_ 0),.nils 1,.nils 3])),(7,.cells ([.f (.lst 1 (List.map (eI .i64) row16)),(i_ a1.States),.f (.lst 1 (List.map (eI .i64) a1.Marked)),.own 3 (List.map Qc r41)]))]) M,Γ.n0 + 74⟩; exact Qh [] ⟨(kPtr rfl),(kPtr rfl),trivial⟩ ⟨⟨_,rfl,rfl,(.same rfl)⟩,⟨_,rfl,rfl,(.same rfl)⟩,⟨_,rfl,rfl,(.same rfl)⟩,trivial⟩ rfl) ?_
      refine Qbhm hG hM0 7 3 69 hx47 (fun _=>rfl) rfl rfl rfl rfl ⟨rfl,rfl,trivial⟩ ⟨⟨rfl,rfl,rfl,rfl,trivial⟩,⟨rfl,rfl,rfl,rfl,trivial⟩,⟨rfl,rfl,rfl,rfl,trivial⟩,trivial⟩ (fun c48 hc49 hc50=>?_)
      refine Tr.rgn (Rn.fldP (o':=3) trivial rfl rfl (Rn.load (v:=.sl 3 (Γ.n0 + 69) 0 r41.length c48) trivial rfl (Qk rfl) rfl rfl ?_))
      refine Rn.callRow (t:=69) (cs:=Qbk (List.map Qc r41) ((c48 - r41.length) * 3)) (cs':=Qbk (List.map Qc row42) ((c48 - r41.length) * 3)) trivial rfl rfl (fun M2 hM2=>hr46 hc50 _ _ _ _ hM2) rfl ?_
      refine Rn.weak (by show WeakSt Γ _ ⟨look [(4,.ptr (Γ.n0 + 4) 0),(7,.ptr (Γ.n0 + 7) 0),(67,.ptr (Γ.n0 + 7) 3),(68,.f (.lst 3 (List.map Qc row42))),(69,.tup [])],Qp Γ.n0 (bxs [(2,.cells ([.f (.lst 1 (List.map (eI .i64) a1.Alphabet)),(i_ a1.States),.f (.lst 1 (List.map (eI .i64) a1.Marked)),.f (.lst 3 (List.map Qc a1.Edges))])),(4,.cells ([.nils 1,(i_ 0),.nils 1,.nils 3])),(7,.cells ([.f (.lst 1 (List.map (eI .i64) row16)),(i_ a1.States),.f (.lst 1 (List.map (eI .i64) a1.Marked)),.f (.lst 3 (List.map Qc row42))]))]) M,Γ.n0 + 74⟩; exact Qp8 69 _ rfl Qbkr ⟨(fPtr rfl),(fPtr rfl),(fPtr rfl),(Qbi4 (fun _=>rfl) (fun _=>rfl) hl44 hc49),(.same rfl),trivial⟩ ⟨⟨_,rfl,rfl,(.cons (.same rfl) (.cons (.same rfl) (.cons (.same rfl) (.cons (.same rfl) .nil))))⟩,⟨_,rfl,rfl,(.cons (.same rfl) (.cons (.same rfl) (.cons (.same rfl) (.cons (.same rfl) .nil))))⟩,⟨_,rfl,rfl,(.cons (.same rfl) (.cons (.same rfl) (.cons (.same rfl) (.cons (Qbi4 (fun _=>rfl) (fun _=>rfl) hl44 hc49) .nil))))⟩,trivial⟩ rfl) ?_
      refine Rn.nil ⟨rfl,(by exact Qh [] ⟨(kPtr rfl),(kPtr rfl),trivial⟩ ⟨⟨_,rfl,rfl,(.same rfl)⟩,⟨_,rfl,rfl,(.same rfl)⟩,⟨_,rfl,rfl,(.same rfl)⟩,trivial⟩ rfl)⟩
    ·refine sr ((Rn.load (v:=.agg [.f (.lst 1 (List.map (eI .i64) row16)),(i_ a1.States),.f (.lst 1 (List.map (eI .i64) a1.Marked)),.f (.lst 3 (List.map Qc row42))]) trivial rfl (Qk rfl) rfl rfl ?_))
     obtain ⟨⟨r52,r53⟩,h51,h⟩:=bnd h
     refine Rn.call (args:=[.agg [.f (.lst 1 (List.map (eI .i64) row16)),(i_ a1.States),.f (.lst 1 (List.map (eI .i64) a1.Marked)),.f (.lst 3 (List.map Qc row42))]]) trivial rfl (fun M2 nb2=>ACalls.weak (args':=[.agg [(l_ row16),(i_ a1.States),(l_ a1.Marked),.d (.lst 3 (List.map Qc row42))]]) (H_automaton_Canonical _ _ h51 M2 nb2) (.cons (WkV.agg (.cons fToD (.cons (sm rfl) (.cons fToD (.cons fToD .nil))))) .nil) rfl) pc9 ?_
     refine Rn.ext (v:=(Qa r52)) (vs:=[(Qa r52),(i_ r53)]) trivial rfl rfl rfl (Rn.ext (v:=(i_ r53)) (vs:=[(Qa r52),(i_ r53)]) trivial rfl rfl rfl (Rn.storeT (v:=(Qa r52)) (ds:=(Qd r52)) (cs':=(Qd r52)) trivial rfl rfl rfl rfl rfl rfl rfl (md rfl (nt ((Tr.ret ?_))))))
     replace h:=si h; subst h
     exact ⟨.inr rfl,.tup [(Qa r52),(i_ r53)],res2 (Qhe rfl rfl rfl rfl) rfl,(WkV.tup (.cons (.same rfl) (.cons (.same rfl) .nil))).rd,⟨⟨trivial,trivial,trivial,trivial,trivial⟩,trivial,trivial⟩,fun k hk=>Qf hk⟩
theorem Qpd {P : Program} {c : Nat} (hcf : Qt P c = some Qfs) (fuel : Nat) : Qb5 P c (Ql fuel):=by
 intro a1 b2 r h
 refine Qcy hcf rfl fun Γ M hP hnt hM=>?_
 subst hP
 refine Tr.init [(0,(l_ a1)),(1,(l_ b2))] rfl ?_
 unfold Ql at h
 unfold Qfs
 refine sr ((md rfl (nt ((Tr.seq (sr ((md rfl (Rn.lenD trivial rfl (md rfl (Rn.lenD trivial rfl (Rn.bin trivial rfl rfl rfl (Rn.nil (toN ?_))))))))))))))
 refine Tr.cond rfl (fun hb3=>?_) (fun hb3=>?_)
 ·replace h:=bT hb3 h
  refine sr ((md rfl (nt ((Tr.ret ?_)))))
  replace h:=si h; subst h
  exact ⟨.inr rfl,(b_ false),rfl,fun _ _ _ _ h=>h,trivial,fun k hk=>Qf hk⟩
 ·replace h:=bF hb3 h
  refine Tr.skip (toN (Tr.seq (sr ((md rfl (nt ((Tr.block ?_))))))))
  refine Tr.loop (mk:=fun (i4 : Int)=>⟨look [(0,(l_ a1)),(1,(l_ b2)),(5,(i_ i4))],Qp Γ.n0 (bxs []) M,Γ.n0 + 26⟩) h (by exact Qm ⟨(sm rfl),(sm rfl),(sm rfl),trivial⟩ trivial rfl) (fun k5 z h=>?_)
  ·obtain ⟨i4,rfl⟩ : ∃ x,x = z:=⟨_,rfl⟩
   replace h : _ = some _:=h
   refine Tr.seq (sr ((md rfl (md rfl (Rn.lenD trivial rfl (Rn.bin trivial rfl rfl rfl (Rn.nil (toN ?_))))))))
   refine Tr.cond rfl (fun hb6=>?_) (fun hb6=>?_)
   ·replace h:=ifT hb6 h
    refine Tr.skip (toN (Tr.seq (Tr.block (Tr.seq ?_))))
    refine Tr.rgnD (by decide) ?_
    refine md rfl (md rfl ?_)
    obtain ⟨x7,h8,h⟩:=bnd h
    refine Rn.idxD (e:=(eI .i64)) trivial rfl rfl h8 (Rn.loadC (x:=.int .i64 x7) trivial rfl (md rfl (md rfl ?_)))
    obtain ⟨x9,h10,h⟩:=bnd h
    refine Rn.idxD (e:=(eI .i64)) trivial rfl rfl h10 (Rn.loadC (x:=.int .i64 x9) trivial rfl (Rn.bin trivial rfl rfl rfl ?_))
    refine Rn.nil ⟨rfl,?_⟩
    refine toN ?_
    refine Tr.cond rfl (fun hb11=>?_) (fun hb11=>?_)
    ·replace h:=bT hb11 h
     refine sr ((md rfl (nt ((Tr.ret ?_)))))
     replace h:=si h; subst h
     exact ⟨.inr rfl,(b_ false),rfl,fun _ _ _ _ h=>h,trivial,fun k hk=>Qf hk⟩
    ·replace h:=bF hb11 h
     refine Tr.skip (toN (Tr.rgn (md rfl (Rn.bin trivial rfl rfl rfl (md rfl (Rn.nil ?_))))))
     exact ⟨_,h,(by exact Qm ⟨(sm rfl),(sm rfl),(sm rfl),trivial⟩ trivial rfl)⟩
   ·replace h:=ifF hb6 h
    refine Tr.exit (toN (sr ((md rfl (nt ((Tr.ret ?_)))))))
    replace h:=si h; subst h
    exact ⟨.inr rfl,(b_ true),rfl,fun _ _ _ _ h=>h,trivial,fun k hk=>Qf hk⟩
theorem Qvs {P : Program} {c : Nat} {Ql : (List Int) → (List Int) → Option Bool}
    (H_overseerref03_SameInts : Qb5 P 19 Ql) (hcf : Qt P c = some Qhl) (fuel : Nat) : Qfl P c (Q9 Ql fuel):=by
 intro a1 b2 r h
 refine Qcy hcf rfl fun Γ M hP hnt hM=>?_
 subst hP
 refine Tr.init [(0,(Qa a1)),(1,(Qa b2))] rfl ?_
 unfold Q9 at h
 unfold Qhl
 refine sr ((Rn.box (v:=(Qa a1)) (cs:=(Qd a1)) trivial rfl rfl rfl rfl rfl (Rn.box (v:=(Qa b2)) (cs:=(Qd b2)) trivial rfl rfl rfl rfl rfl (md rfl (nt ((Tr.seq ?_)))))))
 refine Tr.cutB (fun (x10 : Bool)=>⟨look [(2,.ptr (Γ.n0 + 2) 0),(3,.ptr (Γ.n0 + 3) 0),(35,(b_ x10))],Qp Γ.n0 (bxs [(2,.cells ((Qd a1))),(3,.cells ((Qd b2)))]) M,Γ.n0 + 54⟩) h (fun z h=>?_) (fun z h=>?_)
 ·refine Tr.rgn (Rn.fldP (o':=0) trivial rfl rfl (Rn.load (v:=(l_ a1.Alphabet)) trivial rfl (Qk rfl) rfl rfl (Rn.fldP (o':=0) trivial rfl rfl (Rn.load (v:=(l_ b2.Alphabet)) trivial rfl (Qk rfl) rfl rfl ?_))))
  obtain ⟨x4,h3,h⟩:=bnd h
  refine Rn.call (args:=[(l_ a1.Alphabet),(l_ b2.Alphabet)]) trivial rfl (H_overseerref03_SameInts _ _ _ h3) pc9 (Rn.un trivial rfl rfl (md rfl ?_))
  refine Qda x4 (fun hb5=>?_) (fun hb5=>?_)
  ·replace h:=bT hb5 h
   refine Rn.fldP (o':=1) (gw rfl (nT hb5)) rfl rfl (Rn.load (v:=(i_ a1.States)) (gw rfl (nT hb5)) rfl (Qk rfl) rfl rfl (Rn.fldP (o':=1) (gw rfl (nT hb5)) rfl rfl (Rn.load (v:=(i_ b2.States)) (gw rfl (nT hb5)) rfl (Qk rfl) rfl rfl (Rn.bin (gw rfl (nT hb5)) rfl rfl rfl (Rn.pickF (v:=(b_ (a1.States != b2.States))) trivial rfl (nT hb5) rfl (md rfl ?_))))))
   refine Qda (a1.States != b2.States) (fun hb6=>?_) (fun hb6=>?_)
   ·replace h:=bT hb6 h
    refine Rn.sk (nw rfl hb6) (Rn.sk (nw rfl hb6) (Rn.sk (nw rfl hb6) (Rn.sk (nw rfl hb6) (Rn.sk (nw rfl hb6) (Rn.sk (nw rfl hb6) (Rn.pickT (v:=(b_ true)) trivial rfl hb6 rfl (md rfl (Rn.sk (nw (b:=true) rfl rfl) (Rn.sk (nw (b:=true) rfl rfl) (Rn.sk (nw (b:=true) rfl rfl) (Rn.sk (nw (b:=true) rfl rfl) (Rn.sk (nw (b:=true) rfl rfl) (Rn.sk (nw (b:=true) rfl rfl) (Rn.sk (nw (b:=true) rfl rfl) (Rn.pickT (v:=(b_ true)) trivial rfl rfl rfl (Rn.nil ?_))))))))))))))))
    replace h:=si h; subst h
    exact Qh [] ⟨(kPtr rfl),(kPtr rfl),(sm rfl),trivial⟩ ⟨⟨_,rfl,rfl,(.same rfl)⟩,⟨_,rfl,rfl,(.same rfl)⟩,trivial⟩ rfl
   ·replace h:=bF hb6 h
    refine Rn.fldP (o':=2) (gw rfl hb6) rfl rfl (Rn.load (v:=(l_ a1.Marked)) (gw rfl hb6) rfl (Qk rfl) rfl rfl (Rn.fldP (o':=2) (gw rfl hb6) rfl rfl (Rn.load (v:=(l_ b2.Marked)) (gw rfl hb6) rfl (Qk rfl) rfl rfl ?_)))
    obtain ⟨x8,h7,h⟩:=bnd h
    refine Rn.call (args:=[(l_ a1.Marked),(l_ b2.Marked)]) (gw rfl hb6) rfl (H_overseerref03_SameInts _ _ _ h7) pc9 (Rn.un (gw rfl hb6) rfl rfl (Rn.pickF (v:=(b_ (!x8))) trivial rfl hb6 rfl (md rfl ?_)))
    refine Qda x8 (fun hb9=>?_) (fun hb9=>?_)
    ·replace h:=bT hb9 h
     refine Rn.fldP (o':=3) (gw rfl (nT hb9)) rfl rfl (Rn.load (v:=.d (.lst 3 (List.map Qc a1.Edges))) (gw rfl (nT hb9)) rfl (Qk rfl) rfl rfl (Rn.lenD (gw rfl (nT hb9)) rfl (Rn.fldP (o':=3) (gw rfl (nT hb9)) rfl rfl (Rn.load (v:=.d (.lst 3 (List.map Qc b2.Edges))) (gw rfl (nT hb9)) rfl (Qk rfl) rfl rfl (Rn.lenD (gw rfl (nT hb9)) rfl (Rn.bin (gw rfl (nT hb9)) rfl rfl rfl (Rn.pickF (v:=(b_ ((a1.Edges.length : Int) != (b2.Edges.length : Int)))) trivial rfl (nT hb9) rfl (Rn.nil ?_))))))))
     replace h:=si h; subst h
     exact Qh [] ⟨(kPtr rfl),(kPtr rfl),(sm rfl),trivial⟩ ⟨⟨_,rfl,rfl,(.same rfl)⟩,⟨_,rfl,rfl,(.same rfl)⟩,trivial⟩ rfl
    ·replace h:=bF hb9 h
     refine Rn.sk (nw rfl (nF hb9)) (Rn.sk (nw rfl (nF hb9)) (Rn.sk (nw rfl (nF hb9)) (Rn.sk (nw rfl (nF hb9)) (Rn.sk (nw rfl (nF hb9)) (Rn.sk (nw rfl (nF hb9)) (Rn.sk (nw rfl (nF hb9)) (Rn.pickT (v:=(b_ true)) trivial rfl (nF hb9) rfl (Rn.nil ?_))))))))
     replace h:=si h; subst h
     exact Qh [] ⟨(kPtr rfl),(kPtr rfl),(sm rfl),trivial⟩ ⟨⟨_,rfl,rfl,(.same rfl)⟩,⟨_,rfl,rfl,(.same rfl)⟩,trivial⟩ rfl
  ·replace h:=bF hb5 h
   refine Rn.sk (nw rfl (nF hb5)) (Rn.sk (nw rfl (nF hb5)) (Rn.sk (nw rfl (nF hb5)) (Rn.sk (nw rfl (nF hb5)) (Rn.sk (nw rfl (nF hb5)) (Rn.pickT (v:=(b_ true)) trivial rfl (nF hb5) rfl (md rfl (Rn.sk (nw (b:=true) rfl rfl) (Rn.sk (nw (b:=true) rfl rfl) (Rn.sk (nw (b:=true) rfl rfl) (Rn.sk (nw (b:=true) rfl rfl) (Rn.sk (nw (b:=true) rfl rfl) (Rn.sk (nw (b:=true) rfl rfl) (Rn.pickT (v:=(b_ true)) trivial rfl rfl rfl (md rfl (Rn.sk (nw (b:=true) rfl rfl) (Rn.sk (nw (b:=true) rfl rfl) (Rn.sk (nw (b:=true) rfl rfl) (Rn.sk (nw (b:=true) rfl rfl) (Rn.sk (nw (b:=true) rfl rfl) (Rn.sk (nw (b:=true) rfl rfl) (Rn.sk (nw (b:=true) rfl rfl) (Rn.pickT (v:=(b_ true)) trivial rfl rfl rfl (Rn.nil ?_)))))))))))))))))))))))
   replace h:=si h; subst h
   exact Qh [] ⟨(kPtr rfl),(kPtr rfl),(sm rfl),trivial⟩ ⟨⟨_,rfl,rfl,(.same rfl)⟩,⟨_,rfl,rfl,(.same rfl)⟩,trivial⟩ rfl
 ·obtain ⟨x10,rfl⟩ : ∃ x,x = z:=⟨_,rfl⟩
  refine Tr.cond rfl (fun hb11=>?_) (fun hb11=>?_)
  ·replace h:=bT hb11 h
   refine sr ((md rfl (nt ((Tr.ret ?_)))))
   replace h:=si h; subst h
   exact ⟨.inr rfl,(b_ false),rfl,fun _ _ _ _ h=>h,trivial,fun k hk=>Qf hk⟩
  ·replace h:=bF hb11 h
   refine Tr.skip (toN (Tr.seq (sr ((md rfl (nt ((Tr.block ?_))))))))
   refine Tr.loop (mk:=fun (i12 : Int)=>⟨look [(2,.ptr (Γ.n0 + 2) 0),(3,.ptr (Γ.n0 + 3) 0),(5,(i_ i12))],Qp Γ.n0 (bxs [(2,.cells ((Qd a1))),(3,.cells ((Qd b2)))]) M,Γ.n0 + 54⟩) h (by exact Qm ⟨(kPtr rfl),(kPtr rfl),(sm rfl),trivial⟩ ⟨⟨_,rfl,rfl,(.same rfl)⟩,⟨_,rfl,rfl,(.same rfl)⟩,trivial⟩ rfl) (fun k13 z h=>?_)
   ·obtain ⟨i12,rfl⟩ : ∃ x,x = z:=⟨_,rfl⟩
    replace h : _ = some _:=h
    refine Tr.seq (sr ((md rfl (Rn.fldP (o':=3) trivial rfl rfl (Rn.load (v:=.d (.lst 3 (List.map Qc a1.Edges))) trivial rfl (Qk rfl) rfl rfl (Rn.lenD trivial rfl (Rn.bin trivial rfl rfl rfl (Rn.nil (toN ?_)))))))))
    refine Tr.cond rfl (fun hb14=>?_) (fun hb14=>?_)
    ·replace h:=ifT hb14 h
     refine Tr.skip (toN (Tr.seq (Tr.block (Tr.seq ?_))))
     refine Tr.rgnD (by decide) ?_
     refine Rn.fldP (o':=3) trivial rfl rfl (Rn.load (v:=.d (.lst 3 (List.map Qc a1.Edges))) trivial rfl (Qk rfl) rfl rfl (md rfl ?_))
     obtain ⟨x15,h16,h⟩:=bnd h
     refine Rn.idxD (e:=Qc) trivial rfl rfl h16 (Rn.loadCA (vs:=(Qbh x15)) trivial rfl rfl rfl (Rn.fldP (o':=3) trivial rfl rfl (Rn.load (v:=.d (.lst 3 (List.map Qc b2.Edges))) trivial rfl (Qk rfl) rfl rfl (md rfl ?_))))
     obtain ⟨x17,h18,h⟩:=bnd h
     refine Rn.idxD (e:=Qc) trivial rfl rfl h18 (Rn.loadCA (vs:=(Qbh x17)) trivial rfl rfl rfl (Rn.eqa (r:=((x15.From == x17.From) && ((x15.Event == x17.Event) && ((x15.To == x17.To) && true)))) trivial rfl rfl rfl ?_))
     refine Rn.nil ⟨rfl,?_⟩
     refine toN ?_
     refine Tr.cond rfl (fun hb19=>?_) (fun hb19=>?_)
     ·have hb19:=nT' hb19
      replace h:=bF hb19 h
      refine sr ((md rfl (nt ((Tr.ret ?_)))))
      replace h:=si h; subst h
      exact ⟨.inr rfl,(b_ false),rfl,fun _ _ _ _ h=>h,trivial,fun k hk=>Qf hk⟩
     ·have hb19:=nF' hb19
      replace h:=bT hb19 h
      refine Tr.skip (toN (Tr.rgn (md rfl (Rn.bin trivial rfl rfl rfl (md rfl (Rn.nil ?_))))))
      exact ⟨_,h,(by exact Qm ⟨(kPtr rfl),(kPtr rfl),(sm rfl),trivial⟩ ⟨⟨_,rfl,rfl,(.same rfl)⟩,⟨_,rfl,rfl,(.same rfl)⟩,trivial⟩ rfl)⟩
    ·replace h:=ifF hb14 h
     refine Tr.exit (toN (sr ((md rfl (nt ((Tr.ret ?_)))))))
     replace h:=si h; subst h
     exact ⟨.inr rfl,(b_ true),rfl,fun _ _ _ _ h=>h,trivial,fun k hk=>Qf hk⟩
theorem Qnu {P : Program} {c : Nat} {Ql : (List Int) → (List Int) → Option Bool}
    (H_overseerref03_SameInts : Qb5 P 19 Ql) (hcf : Qt P c = some Qfc) (fuel : Nat) : Qfb P c (Qbq Ql fuel):=by
 intro a1 b2 r h
 refine Qcy hcf rfl fun Γ M hP hnt hM=>?_
 subst hP
 refine Tr.init [(0,.d (.lst 1 (List.map (eL 1 (eI .i64)) a1))),(1,.d (.lst 1 (List.map (eL 1 (eI .i64)) b2)))] rfl ?_
 unfold Qbq at h
 unfold Qfc
 refine sr ((md rfl (nt ((Tr.seq (sr ((md rfl (Rn.lenD trivial rfl (md rfl (Rn.lenD trivial rfl (Rn.bin trivial rfl rfl rfl (Rn.nil (toN ?_))))))))))))))
 refine Tr.cond rfl (fun hb3=>?_) (fun hb3=>?_)
 ·replace h:=bT hb3 h
  refine sr ((md rfl (nt ((Tr.ret ?_)))))
  replace h:=si h; subst h
  exact ⟨.inr rfl,(b_ false),rfl,fun _ _ _ _ h=>h,trivial,fun k hk=>Qf hk⟩
 ·replace h:=bF hb3 h
  refine Tr.skip (toN (Tr.seq (sr ((md rfl (nt ((Tr.block ?_))))))))
  refine Tr.loop (mk:=fun (i4 : Int)=>⟨look [(0,.d (.lst 1 (List.map (eL 1 (eI .i64)) a1))),(1,.d (.lst 1 (List.map (eL 1 (eI .i64)) b2))),(5,(i_ i4))],Qp Γ.n0 (bxs []) M,Γ.n0 + 27⟩) h (by exact Qm ⟨(sm rfl),(sm rfl),(sm rfl),trivial⟩ trivial rfl) (fun k5 z h=>?_)
  ·obtain ⟨i4,rfl⟩ : ∃ x,x = z:=⟨_,rfl⟩
   replace h : _ = some _:=h
   refine Tr.seq (sr ((md rfl (md rfl (Rn.lenD trivial rfl (Rn.bin trivial rfl rfl rfl (Rn.nil (toN ?_))))))))
   refine Tr.cond rfl (fun hb6=>?_) (fun hb6=>?_)
   ·replace h:=ifT hb6 h
    refine Tr.skip (toN (Tr.seq (Tr.block (Tr.seq ?_))))
    refine Tr.rgnD (by decide) ?_
    refine md rfl (md rfl ?_)
    obtain ⟨x7,h8,h⟩:=bnd h
    refine Rn.idxD (e:=(eL 1 (eI .i64))) trivial rfl rfl h8 (Rn.loadC (x:=.lst 1 (List.map (eI .i64) x7)) trivial rfl (md rfl (md rfl ?_)))
    obtain ⟨x9,h10,h⟩:=bnd h
    refine Rn.idxD (e:=(eL 1 (eI .i64))) trivial rfl rfl h10 (Rn.loadC (x:=.lst 1 (List.map (eI .i64) x9)) trivial rfl ?_)
    obtain ⟨x12,h11,h⟩:=bnd h
    refine Rn.call (args:=[(l_ x7),(l_ x9)]) trivial rfl (H_overseerref03_SameInts _ _ _ h11) pc0 (Rn.un trivial rfl rfl ?_)
    refine Rn.nil ⟨rfl,?_⟩
    refine toN ?_
    refine Tr.cond rfl (fun hb13=>?_) (fun hb13=>?_)
    ·have hb13:=nT' hb13
     replace h:=bF hb13 h
     refine sr ((md rfl (nt ((Tr.ret ?_)))))
     replace h:=si h; subst h
     exact ⟨.inr rfl,(b_ false),rfl,fun _ _ _ _ h=>h,trivial,fun k hk=>Qf hk⟩
    ·have hb13:=nF' hb13
     replace h:=bT hb13 h
     refine Tr.skip (toN (Tr.rgn (md rfl (Rn.bin trivial rfl rfl rfl (md rfl (Rn.nil ?_))))))
     exact ⟨_,h,(by exact Qm ⟨(sm rfl),(sm rfl),(sm rfl),trivial⟩ trivial rfl)⟩
   ·replace h:=ifF hb6 h
    refine Tr.exit (toN (sr ((md rfl (nt ((Tr.ret ?_)))))))
    replace h:=si h; subst h
    exact ⟨.inr rfl,(b_ true),rfl,fun _ _ _ _ h=>h,trivial,fun k hk=>Qf hk⟩
theorem Qse {P : Program} {c : Nat} {Qch : Qb → (List Int) → Option (Qb × Int)} {Q9 : Qb → Qb → Option Bool} {Qw : Qb → (List Int) → Option (Qb × (List (List Int)) × Int)} {Qc5 : Qb → (List Int) → (List Int) → Bool → Option ((List Int) × Bool × Int)} {Ql : (List Int) → (List Int) → Option Bool} {Qby : Option Qb} {Qbq : (List (List Int)) → (List (List Int)) → Option Bool}
    (H_projection_Inverse : Qhj P 11 Qch)
    (H_overseerref03_Same : Qfl P 12 Q9)
    (H_projection_Project : Qfk P 14 Qw)
    (H_projection_Lift : Qkk P 16 Qc5)
    (H_overseerref03_SameInts : Qb5 P 19 Ql)
    (H_overseerlaw07_example : Qfz P 26 Qby)
    (H_overseerlaw03_SameWords : Qfb P 27 Qbq) (hcf : Qt P c = some Qgx) : Qgw P c (Qb9 Qch Q9 Qw Qc5 Ql Qby Qbq):=by
 intro  r h
 refine Qcy hcf rfl fun Γ M hP hnt hM=>?_
 subst hP
 refine Tr.init [] rfl ?_
 unfold Qb9 at h
 unfold Qgx
 refine sr ((md rfl (nt ((Tr.seq (Tr.rgn ?_))))))
 obtain ⟨x2,h1,h⟩:=bnd h
 refine Rn.call (args:=[]) trivial rfl (H_overseerlaw07_example _ h1) pc9 (Rn.alloc trivial rfl (Rn.storeT (v:=(Qa x2)) (ds:=(Qd x2)) (cs':=(Qd x2)) trivial rfl rfl rfl rfl rfl rfl rfl (nt ((sr ((Rn.load (v:=(Qa x2)) trivial rfl (Qk rfl) rfl rfl (Rn.bslice (xs:=[(i_ 1)]) (cs:=[(i_ 1)]) trivial rfl rfl rfl rfl ?_))))))))
 refine Rn.weak (by show WeakSt Γ _ ⟨look [(0,(b_ false)),(1,.ptr (Γ.n0 + 1) 0),(10,(Qa x2)),(12,(Qa x2)),(13,(l_ [1]))],Qp Γ.n0 (bxs [(1,.cells ((Qd x2)))]) M,Γ.n0 + 74⟩; exact Qcd 13 [.int .i64 1] rfl rfl ⟨(.same rfl),(fPtr rfl),(.same rfl),(.same rfl),(fSl rfl rfl),trivial⟩ ⟨⟨_,rfl,rfl,(.same rfl)⟩,trivial⟩ rfl) ?_
 obtain ⟨⟨r4,r5,r6⟩,h3,h⟩:=bnd h
 refine Rn.call (args:=[(Qa x2),(l_ [1])]) trivial rfl (H_projection_Project _ _ _ h3) pc9 (Rn.mov (v:=.tup [(Qa r4),.d (.lst 1 (List.map (eL 1 (eI .i64)) r5)),(i_ r6)]) trivial rfl (Rn.ext (v:=(Qa r4)) (vs:=[(Qa r4),.d (.lst 1 (List.map (eL 1 (eI .i64)) r5)),(i_ r6)]) trivial rfl rfl rfl (Rn.extTD (vs:=[(Qa r4),.d (.lst 1 (List.map (eL 1 (eI .i64)) r5)),(i_ r6)]) trivial rfl rfl rfl (Rn.ext (v:=(i_ r6)) (vs:=[(Qa r4),.d (.lst 1 (List.map (eL 1 (eI .i64)) r5)),(i_ r6)]) trivial rfl rfl rfl (Rn.alloc trivial rfl (Rn.storeT (v:=(Qa r4)) (ds:=(Qd r4)) (cs':=(Qd r4)) trivial rfl rfl rfl rfl rfl rfl rfl (Rn.movTD trivial rfl (md rfl (nt ((sr ((Rn.load (v:=(Qa x2)) trivial rfl (Qk rfl) rfl rfl (Rn.bslice (xs:=[(i_ 1)]) (cs:=[(i_ 1)]) trivial rfl rfl rfl rfl (Rn.bslice (xs:=[(i_ 1)]) (cs:=[(i_ 1)]) trivial rfl rfl rfl rfl ?_)))))))))))))))
 refine Rn.weak (by show WeakSt Γ _ ⟨look [(0,(b_ false)),(1,.ptr (Γ.n0 + 1) 0),(2,.ptr (Γ.n0 + 2) 0),(3,.d (.lst 1 (List.map (eL 1 (eI .i64)) r5))),(4,(i_ r6)),(10,(Qa x2)),(11,.tup [(Qa r4),.d (.lst 1 (List.map (eL 1 (eI .i64)) r5)),(i_ r6)]),(12,(Qa x2)),(13,(l_ [1])),(14,.tup [(Qa r4),.own 1 (List.map (eL 1 (eI .i64)) r5),(i_ r6)]),(15,(Qa r4)),(16,.d (.lst 1 (List.map (eL 1 (eI .i64)) r5))),(17,(i_ r6)),(19,(Qa x2)),(20,(l_ [1])),(21,.sl 1 (Γ.n0 + 21) 0 1 1)],Qp Γ.n0 (bxs [(1,.cells ((Qd x2))),(2,.cells ((Qd r4))),(21,.cells ([(i_ 1)]))]) M,Γ.n0 + 74⟩; exact Qcd 20 [.int .i64 1] rfl rfl ⟨(.same rfl),(fPtr rfl),(fPtr rfl),(.same rfl),(.same rfl),(.same rfl),(.same rfl),(.same rfl),(.same rfl),(.same rfl),(.same rfl),(.same rfl),(.same rfl),(.same rfl),(fSl rfl rfl),(fSlO rfl),trivial⟩ ⟨⟨_,rfl,rfl,(.same rfl)⟩,⟨_,rfl,rfl,(.same rfl)⟩,⟨_,rfl,rfl,(.same rfl)⟩,trivial⟩ rfl) ?_
 refine Rn.weak (by show WeakSt Γ _ ⟨look [(0,(b_ false)),(1,.ptr (Γ.n0 + 1) 0),(2,.ptr (Γ.n0 + 2) 0),(3,.d (.lst 1 (List.map (eL 1 (eI .i64)) r5))),(4,(i_ r6)),(10,(Qa x2)),(11,.tup [(Qa r4),.d (.lst 1 (List.map (eL 1 (eI .i64)) r5)),(i_ r6)]),(12,(Qa x2)),(13,(l_ [1])),(14,.tup [(Qa r4),.own 1 (List.map (eL 1 (eI .i64)) r5),(i_ r6)]),(15,(Qa r4)),(16,.d (.lst 1 (List.map (eL 1 (eI .i64)) r5))),(17,(i_ r6)),(19,(Qa x2)),(20,(l_ [1])),(21,(l_ [1]))],Qp Γ.n0 (bxs [(1,.cells ((Qd x2))),(2,.cells ((Qd r4)))]) M,Γ.n0 + 74⟩; exact Qcd 21 [.int .i64 1] rfl rfl ⟨(.same rfl),(fPtr rfl),(fPtr rfl),(.same rfl),(.same rfl),(.same rfl),(.same rfl),(.same rfl),(.same rfl),(.same rfl),(.same rfl),(.same rfl),(.same rfl),(.same rfl),(.same rfl),(fSl rfl rfl),trivial⟩ ⟨⟨_,rfl,rfl,(.same rfl)⟩,⟨_,rfl,rfl,(.same rfl)⟩,trivial⟩ rfl) ?_
 obtain ⟨⟨r8,r9,r10⟩,h7,h⟩:=bnd h
 refine Rn.call (args:=[(Qa x2),(l_ [1]),(l_ [1]),(b_ true)]) trivial rfl (H_projection_Lift _ _ _ _ _ h7) pc9 (Rn.mov (v:=.tup [(l_ r8),(b_ r9),(i_ r10)]) trivial rfl (Rn.extTD (vs:=[(l_ r8),(b_ r9),(i_ r10)]) trivial rfl rfl rfl (Rn.ext (v:=(b_ r9)) (vs:=[(l_ r8),(b_ r9),(i_ r10)]) trivial rfl rfl rfl (Rn.ext (v:=(i_ r10)) (vs:=[(l_ r8),(b_ r9),(i_ r10)]) trivial rfl rfl rfl (Rn.movTD trivial rfl (md rfl (md rfl (nt ((sr ((Rn.bslice (xs:=[(i_ 1)]) (cs:=[(i_ 1)]) trivial rfl rfl rfl rfl (Rn.buildT (v:=.agg [.sl 1 (Γ.n0 + 27) 0 1 1,(i_ 1),.nils 1,.nils 3]) trivial rfl (Rn.bslice (xs:=[(i_ 0),(i_ 1)]) (cs:=[(i_ 0),(i_ 1)]) trivial rfl rfl rfl rfl ?_))))))))))))))
 refine Rn.weak (by show WeakSt Γ _ ⟨look [(0,(b_ false)),(1,.ptr (Γ.n0 + 1) 0),(2,.ptr (Γ.n0 + 2) 0),(3,.d (.lst 1 (List.map (eL 1 (eI .i64)) r5))),(4,(i_ r6)),(5,(l_ r8)),(6,(b_ r9)),(7,(i_ r10)),(10,(Qa x2)),(11,.tup [(Qa r4),.d (.lst 1 (List.map (eL 1 (eI .i64)) r5)),(i_ r6)]),(12,(Qa x2)),(13,(l_ [1])),(14,.tup [(Qa r4),.own 1 (List.map (eL 1 (eI .i64)) r5),(i_ r6)]),(15,(Qa r4)),(16,.d (.lst 1 (List.map (eL 1 (eI .i64)) r5))),(17,(i_ r6)),(18,.tup [(l_ r8),(b_ r9),(i_ r10)]),(19,(Qa x2)),(20,(l_ [1])),(21,(l_ [1])),(22,.tup [(l_ r8),(b_ r9),(i_ r10)]),(23,(l_ r8)),(24,(b_ r9)),(25,(i_ r10)),(27,(l_ [1])),(28,.agg [(l_ [1]),(i_ 1),.nils 1,.nils 3]),(29,.sl 1 (Γ.n0 + 29) 0 2 2)],Qp Γ.n0 (bxs [(1,.cells ((Qd x2))),(2,.cells ((Qd r4))),(29,.cells ([(i_ 0),(i_ 1)]))]) M,Γ.n0 + 74⟩; exact Qcd 27 [.int .i64 1] rfl rfl ⟨(.same rfl),(fPtr rfl),(fPtr rfl),(.same rfl),(.same rfl),(.same rfl),(.same rfl),(.same rfl),(.same rfl),(.same rfl),(.same rfl),(.same rfl),(.same rfl),(.same rfl),(.same rfl),(.same rfl),(.same rfl),(.same rfl),(.same rfl),(.same rfl),(.same rfl),(.same rfl),(.same rfl),(.same rfl),(fSl rfl rfl),(WkV.agg (.cons (fSl rfl rfl) (.cons (.same rfl) (.cons (.same rfl) (.cons (.same rfl) .nil))))),(fSlO rfl),trivial⟩ ⟨⟨_,rfl,rfl,(.same rfl)⟩,⟨_,rfl,rfl,(.same rfl)⟩,⟨_,rfl,rfl,(.same rfl)⟩,trivial⟩ rfl) ?_
 refine Rn.weak (by show WeakSt Γ _ ⟨look [(0,(b_ false)),(1,.ptr (Γ.n0 + 1) 0),(2,.ptr (Γ.n0 + 2) 0),(3,.d (.lst 1 (List.map (eL 1 (eI .i64)) r5))),(4,(i_ r6)),(5,(l_ r8)),(6,(b_ r9)),(7,(i_ r10)),(10,(Qa x2)),(11,.tup [(Qa r4),.d (.lst 1 (List.map (eL 1 (eI .i64)) r5)),(i_ r6)]),(12,(Qa x2)),(13,(l_ [1])),(14,.tup [(Qa r4),.own 1 (List.map (eL 1 (eI .i64)) r5),(i_ r6)]),(15,(Qa r4)),(16,.d (.lst 1 (List.map (eL 1 (eI .i64)) r5))),(17,(i_ r6)),(18,.tup [(l_ r8),(b_ r9),(i_ r10)]),(19,(Qa x2)),(20,(l_ [1])),(21,(l_ [1])),(22,.tup [(l_ r8),(b_ r9),(i_ r10)]),(23,(l_ r8)),(24,(b_ r9)),(25,(i_ r10)),(27,(l_ [1])),(28,.agg [(l_ [1]),(i_ 1),.nils 1,.nils 3]),(29,(l_ [0,1]))],Qp Γ.n0 (bxs [(1,.cells ((Qd x2))),(2,.cells ((Qd r4)))]) M,Γ.n0 + 74⟩; exact Qcd 29 [.int .i64 0,.int .i64 1] rfl rfl ⟨(.same rfl),(fPtr rfl),(fPtr rfl),(.same rfl),(.same rfl),(.same rfl),(.same rfl),(.same rfl),(.same rfl),(.same rfl),(.same rfl),(.same rfl),(.same rfl),(.same rfl),(.same rfl),(.same rfl),(.same rfl),(.same rfl),(.same rfl),(.same rfl),(.same rfl),(.same rfl),(.same rfl),(.same rfl),(.same rfl),(.same rfl),(fSl rfl rfl),trivial⟩ ⟨⟨_,rfl,rfl,(.same rfl)⟩,⟨_,rfl,rfl,(.same rfl)⟩,trivial⟩ rfl) ?_
 obtain ⟨⟨r12,r13⟩,h11,h⟩:=bnd h
 refine Rn.call (args:=[.agg [(l_ [1]),(i_ 1),.nils 1,.nils 3],(l_ [0,1])]) trivial rfl (fun M2 nb2=>ACalls.weak (args':=[.agg [(l_ [1]),(i_ 1),(l_ []),.d (.lst 3 (List.map Qc []))],(l_ [0,1])]) (H_projection_Inverse _ _ _ h11 M2 nb2) (.cons (WkV.agg (.cons (sm rfl) (.cons (sm rfl) (.cons (WkV.nilsD _) (.cons (WkV.nilsD _) .nil))))) (.cons (sm rfl) .nil)) rfl) pc9 ?_
 refine Rn.mov (v:=.tup [(Qa r12),(i_ r13)]) trivial rfl (Rn.ext (v:=(Qa r12)) (vs:=[(Qa r12),(i_ r13)]) trivial rfl rfl rfl (Rn.ext (v:=(i_ r13)) (vs:=[(Qa r12),(i_ r13)]) trivial rfl rfl rfl (Rn.alloc trivial rfl (Rn.storeT (v:=(Qa r12)) (ds:=(Qd r12)) (cs':=(Qd r12)) trivial rfl rfl rfl rfl rfl rfl rfl (md rfl (Rn.nil (toN ?_)))))))
 refine Tr.cutB (fun (x27 : Bool)=>⟨look [(0,(b_ x27))],Qp Γ.n0 (bxs [(1,.cells ((Qd x2))),(2,.cells ((Qd r4))),(8,.cells ((Qd r12)))]) M,Γ.n0 + 74⟩) h (fun z h=>?_) (fun z h=>?_)
 ·refine Tr.rgn (md rfl (Rn.bin trivial rfl rfl rfl (md rfl ?_)))
  refine Qda (r6 == 0) (fun hb14=>?_) (fun hb14=>?_)
  ·replace h:=bT hb14 h
   refine Rn.load (v:=(Qa r4)) (gw rfl hb14) rfl (Qk rfl) rfl rfl (Rn.bslice (xs:=[(i_ 1)]) (cs:=[(i_ 1)]) (gw rfl hb14) rfl rfl rfl rfl (Rn.bslice (xs:=[(i_ 1)]) (cs:=[(i_ 1)]) (gw rfl hb14) rfl rfl rfl rfl (Rn.build (v:=.agg [(i_ 0),(i_ 1),(i_ 1)]) (gw rfl hb14) rfl (Rn.build (v:=.agg [(i_ 1),(i_ 1),(i_ 1)]) (gw rfl hb14) rfl (Rn.bslice (xs:=[.agg [(i_ 0),(i_ 1),(i_ 1)],.agg [(i_ 1),(i_ 1),(i_ 1)]]) (cs:=[(i_ 0),(i_ 1),(i_ 1),(i_ 1),(i_ 1),(i_ 1)]) (gw rfl hb14) rfl rfl rfl rfl (Rn.buildT (v:=.agg [.sl 1 (Γ.n0 + 37) 0 1 1,(i_ 2),.sl 1 (Γ.n0 + 38) 0 1 1,.sl 3 (Γ.n0 + 41) 0 2 2]) (gw rfl hb14) rfl ?_))))))
   refine Rn.weak (by show WeakSt Γ _ ⟨look [(0,(b_ false)),(1,.ptr (Γ.n0 + 1) 0),(2,.ptr (Γ.n0 + 2) 0),(3,.d (.lst 1 (List.map (eL 1 (eI .i64)) r5))),(4,(i_ r6)),(5,(l_ r8)),(6,(b_ r9)),(7,(i_ r10)),(8,.ptr (Γ.n0 + 8) 0),(9,(i_ r13)),(10,(Qa x2)),(11,.tup [(Qa r4),.d (.lst 1 (List.map (eL 1 (eI .i64)) r5)),(i_ r6)]),(12,(Qa x2)),(13,(l_ [1])),(14,.tup [(Qa r4),.own 1 (List.map (eL 1 (eI .i64)) r5),(i_ r6)]),(15,(Qa r4)),(16,.d (.lst 1 (List.map (eL 1 (eI .i64)) r5))),(17,(i_ r6)),(18,.tup [(l_ r8),(b_ r9),(i_ r10)]),(19,(Qa x2)),(20,(l_ [1])),(21,(l_ [1])),(22,.tup [(l_ r8),(b_ r9),(i_ r10)]),(23,(l_ r8)),(24,(b_ r9)),(25,(i_ r10)),(26,.tup [(Qa r12),(i_ r13)]),(27,(l_ [1])),(28,.agg [(l_ [1]),(i_ 1),.nils 1,.nils 3]),(29,(l_ [0,1])),(30,.tup [(Qa r12),(i_ r13)]),(31,(Qa r12)),(32,(i_ r13)),(33,(i_ r6)),(34,(b_ (r6 == 0))),(35,(b_ (r6 == 0))),(36,(Qa r4)),(37,(l_ [1])),(38,.sl 1 (Γ.n0 + 38) 0 1 1),(39,.agg [(i_ 0),(i_ 1),(i_ 1)]),(40,.agg [(i_ 1),(i_ 1),(i_ 1)]),(41,.sl 3 (Γ.n0 + 41) 0 2 2),(42,.agg [(l_ [1]),(i_ 2),.sl 1 (Γ.n0 + 38) 0 1 1,.sl 3 (Γ.n0 + 41) 0 2 2])],Qp Γ.n0 (bxs [(1,.cells ((Qd x2))),(2,.cells ((Qd r4))),(8,.cells ((Qd r12))),(38,.cells ([(i_ 1)])),(41,.cells ([(i_ 0),(i_ 1),(i_ 1),(i_ 1),(i_ 1),(i_ 1)]))]) M,Γ.n0 + 74⟩; exact Qcd 37 [.int .i64 1] rfl rfl ⟨(.same rfl),(fPtr rfl),(fPtr rfl),(.same rfl),(.same rfl),(.same rfl),(.same rfl),(.same rfl),(fPtr rfl),(.same rfl),(.same rfl),(.same rfl),(.same rfl),(.same rfl),(.same rfl),(.same rfl),(.same rfl),(.same rfl),(.same rfl),(.same rfl),(.same rfl),(.same rfl),(.same rfl),(.same rfl),(.same rfl),(.same rfl),(.same rfl),(.same rfl),(.same rfl),(.same rfl),(.same rfl),(.same rfl),(.same rfl),(.same rfl),(.same rfl),(.same rfl),(.same rfl),(fSl rfl rfl),(fSlO rfl),(.same rfl),(.same rfl),(fSlO rfl),(WkV.agg (.cons (fSl rfl rfl) (.cons (.same rfl) (.cons (fSlO rfl) (.cons (fSlO rfl) .nil))))),trivial⟩ ⟨⟨_,rfl,rfl,(.same rfl)⟩,⟨_,rfl,rfl,(.same rfl)⟩,⟨_,rfl,rfl,(.same rfl)⟩,⟨_,rfl,rfl,(.same rfl)⟩,⟨_,rfl,rfl,(.same rfl)⟩,trivial⟩ rfl) ?_
   refine Rn.weak (by show WeakSt Γ _ ⟨look [(0,(b_ false)),(1,.ptr (Γ.n0 + 1) 0),(2,.ptr (Γ.n0 + 2) 0),(3,.d (.lst 1 (List.map (eL 1 (eI .i64)) r5))),(4,(i_ r6)),(5,(l_ r8)),(6,(b_ r9)),(7,(i_ r10)),(8,.ptr (Γ.n0 + 8) 0),(9,(i_ r13)),(10,(Qa x2)),(11,.tup [(Qa r4),.d (.lst 1 (List.map (eL 1 (eI .i64)) r5)),(i_ r6)]),(12,(Qa x2)),(13,(l_ [1])),(14,.tup [(Qa r4),.own 1 (List.map (eL 1 (eI .i64)) r5),(i_ r6)]),(15,(Qa r4)),(16,.d (.lst 1 (List.map (eL 1 (eI .i64)) r5))),(17,(i_ r6)),(18,.tup [(l_ r8),(b_ r9),(i_ r10)]),(19,(Qa x2)),(20,(l_ [1])),(21,(l_ [1])),(22,.tup [(l_ r8),(b_ r9),(i_ r10)]),(23,(l_ r8)),(24,(b_ r9)),(25,(i_ r10)),(26,.tup [(Qa r12),(i_ r13)]),(27,(l_ [1])),(28,.agg [(l_ [1]),(i_ 1),.nils 1,.nils 3]),(29,(l_ [0,1])),(30,.tup [(Qa r12),(i_ r13)]),(31,(Qa r12)),(32,(i_ r13)),(33,(i_ r6)),(34,(b_ (r6 == 0))),(35,(b_ (r6 == 0))),(36,(Qa r4)),(37,(l_ [1])),(38,(l_ [1])),(39,.agg [(i_ 0),(i_ 1),(i_ 1)]),(40,.agg [(i_ 1),(i_ 1),(i_ 1)]),(41,.sl 3 (Γ.n0 + 41) 0 2 2),(42,.agg [(l_ [1]),(i_ 2),(l_ [1]),.sl 3 (Γ.n0 + 41) 0 2 2])],Qp Γ.n0 (bxs [(1,.cells ((Qd x2))),(2,.cells ((Qd r4))),(8,.cells ((Qd r12))),(41,.cells ([(i_ 0),(i_ 1),(i_ 1),(i_ 1),(i_ 1),(i_ 1)]))]) M,Γ.n0 + 74⟩; exact Qcd 38 [.int .i64 1] rfl rfl ⟨(.same rfl),(fPtr rfl),(fPtr rfl),(.same rfl),(.same rfl),(.same rfl),(.same rfl),(.same rfl),(fPtr rfl),(.same rfl),(.same rfl),(.same rfl),(.same rfl),(.same rfl),(.same rfl),(.same rfl),(.same rfl),(.same rfl),(.same rfl),(.same rfl),(.same rfl),(.same rfl),(.same rfl),(.same rfl),(.same rfl),(.same rfl),(.same rfl),(.same rfl),(.same rfl),(.same rfl),(.same rfl),(.same rfl),(.same rfl),(.same rfl),(.same rfl),(.same rfl),(.same rfl),(.same rfl),(fSl rfl rfl),(.same rfl),(.same rfl),(fSlO rfl),(WkV.agg (.cons (.same rfl) (.cons (.same rfl) (.cons (fSl rfl rfl) (.cons (fSlO rfl) .nil))))),trivial⟩ ⟨⟨_,rfl,rfl,(.same rfl)⟩,⟨_,rfl,rfl,(.same rfl)⟩,⟨_,rfl,rfl,(.same rfl)⟩,⟨_,rfl,rfl,(.same rfl)⟩,trivial⟩ rfl) ?_
   refine Rn.weak (by show WeakSt Γ _ ⟨look [(0,(b_ false)),(1,.ptr (Γ.n0 + 1) 0),(2,.ptr (Γ.n0 + 2) 0),(3,.d (.lst 1 (List.map (eL 1 (eI .i64)) r5))),(4,(i_ r6)),(5,(l_ r8)),(6,(b_ r9)),(7,(i_ r10)),(8,.ptr (Γ.n0 + 8) 0),(9,(i_ r13)),(10,(Qa x2)),(11,.tup [(Qa r4),.d (.lst 1 (List.map (eL 1 (eI .i64)) r5)),(i_ r6)]),(12,(Qa x2)),(13,(l_ [1])),(14,.tup [(Qa r4),.own 1 (List.map (eL 1 (eI .i64)) r5),(i_ r6)]),(15,(Qa r4)),(16,.d (.lst 1 (List.map (eL 1 (eI .i64)) r5))),(17,(i_ r6)),(18,.tup [(l_ r8),(b_ r9),(i_ r10)]),(19,(Qa x2)),(20,(l_ [1])),(21,(l_ [1])),(22,.tup [(l_ r8),(b_ r9),(i_ r10)]),(23,(l_ r8)),(24,(b_ r9)),(25,(i_ r10)),(26,.tup [(Qa r12),(i_ r13)]),(27,(l_ [1])),(28,.agg [(l_ [1]),(i_ 1),.nils 1,.nils 3]),(29,(l_ [0,1])),(30,.tup [(Qa r12),(i_ r13)]),(31,(Qa r12)),(32,(i_ r13)),(33,(i_ r6)),(34,(b_ (r6 == 0))),(35,(b_ (r6 == 0))),(36,(Qa r4)),(37,(l_ [1])),(38,(l_ [1])),(39,.agg [(i_ 0),(i_ 1),(i_ 1)]),(40,.agg [(i_ 1),(i_ 1),(i_ 1)]),(41,.d (.lst 3 (List.map Qc [(Qe.mk 0 1 1),(Qe.mk 1 1 1)]))),(42,.agg [(l_ [1]),(i_ 2),(l_ [1]),.d (.lst 3 (List.map Qc [(Qe.mk 0 1 1),(Qe.mk 1 1 1)]))])],Qp Γ.n0 (bxs [(1,.cells ((Qd x2))),(2,.cells ((Qd r4))),(8,.cells ((Qd r12)))]) M,Γ.n0 + 74⟩; exact Qcd 41 [.int .i64 0,.int .i64 1,.int .i64 1,.int .i64 1,.int .i64 1,.int .i64 1] rfl rfl ⟨(.same rfl),(fPtr rfl),(fPtr rfl),(.same rfl),(.same rfl),(.same rfl),(.same rfl),(.same rfl),(fPtr rfl),(.same rfl),(.same rfl),(.same rfl),(.same rfl),(.same rfl),(.same rfl),(.same rfl),(.same rfl),(.same rfl),(.same rfl),(.same rfl),(.same rfl),(.same rfl),(.same rfl),(.same rfl),(.same rfl),(.same rfl),(.same rfl),(.same rfl),(.same rfl),(.same rfl),(.same rfl),(.same rfl),(.same rfl),(.same rfl),(.same rfl),(.same rfl),(.same rfl),(.same rfl),(.same rfl),(.same rfl),(.same rfl),(fSl rfl rfl),(WkV.agg (.cons (.same rfl) (.cons (.same rfl) (.cons (.same rfl) (.cons (fSl rfl rfl) .nil))))),trivial⟩ ⟨⟨_,rfl,rfl,(.same rfl)⟩,⟨_,rfl,rfl,(.same rfl)⟩,⟨_,rfl,rfl,(.same rfl)⟩,trivial⟩ rfl) ?_
   obtain ⟨x16,h15,h⟩:=bnd h
   refine Rn.call (args:=[(Qa r4),.agg [(l_ [1]),(i_ 2),(l_ [1]),.d (.lst 3 (List.map Qc [(Qe.mk 0 1 1),(Qe.mk 1 1 1)]))]]) (gw rfl hb14) rfl (H_overseerref03_Same _ _ _ h15) pc9 (Rn.pickT (v:=(b_ x16)) trivial rfl hb14 rfl (md rfl ?_))
   refine Qda x16 (fun hb17=>?_) (fun hb17=>?_)
   ·replace h:=bT hb17 h
    refine Rn.movD (gw rfl hb17) rfl (Rn.bslice (xs:=[(i_ 0),(i_ 1)]) (cs:=[(i_ 0),(i_ 1)]) (gw rfl hb17) rfl rfl rfl rfl (Rn.bslice (xs:=[(i_ 0),(i_ 1),(i_ 2)]) (cs:=[(i_ 0),(i_ 1),(i_ 2)]) (gw rfl hb17) rfl rfl rfl rfl (Rn.bslice (xs:=[.sl 1 (Γ.n0 + 47) 0 2 2,.sl 1 (Γ.n0 + 48) 0 3 3]) (cs:=[.sl 1 (Γ.n0 + 47) 0 2 2,.sl 1 (Γ.n0 + 48) 0 3 3]) (gw rfl hb17) rfl rfl rfl rfl ?_)))
    refine Rn.weak (by show WeakSt Γ _ ⟨look [(0,(b_ false)),(1,.ptr (Γ.n0 + 1) 0),(2,.ptr (Γ.n0 + 2) 0),(3,.d (.lst 1 (List.map (eL 1 (eI .i64)) r5))),(4,(i_ r6)),(5,(l_ r8)),(6,(b_ r9)),(7,(i_ r10)),(8,.ptr (Γ.n0 + 8) 0),(9,(i_ r13)),(10,(Qa x2)),(11,.tup [(Qa r4),.d (.lst 1 (List.map (eL 1 (eI .i64)) r5)),(i_ r6)]),(12,(Qa x2)),(13,(l_ [1])),(14,.tup [(Qa r4),.own 1 (List.map (eL 1 (eI .i64)) r5),(i_ r6)]),(15,(Qa r4)),(16,.d (.lst 1 (List.map (eL 1 (eI .i64)) r5))),(17,(i_ r6)),(18,.tup [(l_ r8),(b_ r9),(i_ r10)]),(19,(Qa x2)),(20,(l_ [1])),(21,(l_ [1])),(22,.tup [(l_ r8),(b_ r9),(i_ r10)]),(23,(l_ r8)),(24,(b_ r9)),(25,(i_ r10)),(26,.tup [(Qa r12),(i_ r13)]),(27,(l_ [1])),(28,.agg [(l_ [1]),(i_ 1),.nils 1,.nils 3]),(29,(l_ [0,1])),(30,.tup [(Qa r12),(i_ r13)]),(31,(Qa r12)),(32,(i_ r13)),(33,(i_ r6)),(34,(b_ (r6 == 0))),(35,(b_ (r6 == 0))),(36,(Qa r4)),(37,(l_ [1])),(38,(l_ [1])),(39,.agg [(i_ 0),(i_ 1),(i_ 1)]),(40,.agg [(i_ 1),(i_ 1),(i_ 1)]),(41,.d (.lst 3 (List.map Qc [(Qe.mk 0 1 1),(Qe.mk 1 1 1)]))),(42,.agg [(l_ [1]),(i_ 2),(l_ [1]),.d (.lst 3 (List.map Qc [(Qe.mk 0 1 1),(Qe.mk 1 1 1)]))]),(43,(b_ x16)),(44,(b_ x16)),(45,(b_ x16)),(46,.d (.lst 1 (List.map (eL 1 (eI .i64)) r5))),(47,(l_ [0,1])),(48,.sl 1 (Γ.n0 + 48) 0 3 3),(49,.sl 1 (Γ.n0 + 49) 0 2 2)],Qp Γ.n0 (bxs [(1,.cells ((Qd x2))),(2,.cells ((Qd r4))),(8,.cells ((Qd r12))),(48,.cells ([(i_ 0),(i_ 1),(i_ 2)])),(49,.cells ([(l_ [0,1]),.sl 1 (Γ.n0 + 48) 0 3 3]))]) M,Γ.n0 + 74⟩; exact Qcd 47 [.int .i64 0,.int .i64 1] rfl rfl ⟨(.same rfl),(fPtr rfl),(fPtr rfl),(.same rfl),(.same rfl),(.same rfl),(.same rfl),(.same rfl),(fPtr rfl),(.same rfl),(.same rfl),(.same rfl),(.same rfl),(.same rfl),(.same rfl),(.same rfl),(.same rfl),(.same rfl),(.same rfl),(.same rfl),(.same rfl),(.same rfl),(.same rfl),(.same rfl),(.same rfl),(.same rfl),(.same rfl),(.same rfl),(.same rfl),(.same rfl),(.same rfl),(.same rfl),(.same rfl),(.same rfl),(.same rfl),(.same rfl),(.same rfl),(.same rfl),(.same rfl),(.same rfl),(.same rfl),(.same rfl),(.same rfl),(.same rfl),(.same rfl),(.same rfl),(.same rfl),(fSl rfl rfl),(fSlO rfl),(fSlO rfl),trivial⟩ ⟨⟨_,rfl,rfl,(.same rfl)⟩,⟨_,rfl,rfl,(.same rfl)⟩,⟨_,rfl,rfl,(.same rfl)⟩,⟨_,rfl,rfl,(.same rfl)⟩,⟨_,rfl,rfl,(.cons (fSl rfl rfl) (.cons (fSlO rfl) .nil))⟩,trivial⟩ rfl) ?_
    refine Rn.weak (by show WeakSt Γ _ ⟨look [(0,(b_ false)),(1,.ptr (Γ.n0 + 1) 0),(2,.ptr (Γ.n0 + 2) 0),(3,.d (.lst 1 (List.map (eL 1 (eI .i64)) r5))),(4,(i_ r6)),(5,(l_ r8)),(6,(b_ r9)),(7,(i_ r10)),(8,.ptr (Γ.n0 + 8) 0),(9,(i_ r13)),(10,(Qa x2)),(11,.tup [(Qa r4),.d (.lst 1 (List.map (eL 1 (eI .i64)) r5)),(i_ r6)]),(12,(Qa x2)),(13,(l_ [1])),(14,.tup [(Qa r4),.own 1 (List.map (eL 1 (eI .i64)) r5),(i_ r6)]),(15,(Qa r4)),(16,.d (.lst 1 (List.map (eL 1 (eI .i64)) r5))),(17,(i_ r6)),(18,.tup [(l_ r8),(b_ r9),(i_ r10)]),(19,(Qa x2)),(20,(l_ [1])),(21,(l_ [1])),(22,.tup [(l_ r8),(b_ r9),(i_ r10)]),(23,(l_ r8)),(24,(b_ r9)),(25,(i_ r10)),(26,.tup [(Qa r12),(i_ r13)]),(27,(l_ [1])),(28,.agg [(l_ [1]),(i_ 1),.nils 1,.nils 3]),(29,(l_ [0,1])),(30,.tup [(Qa r12),(i_ r13)]),(31,(Qa r12)),(32,(i_ r13)),(33,(i_ r6)),(34,(b_ (r6 == 0))),(35,(b_ (r6 == 0))),(36,(Qa r4)),(37,(l_ [1])),(38,(l_ [1])),(39,.agg [(i_ 0),(i_ 1),(i_ 1)]),(40,.agg [(i_ 1),(i_ 1),(i_ 1)]),(41,.d (.lst 3 (List.map Qc [(Qe.mk 0 1 1),(Qe.mk 1 1 1)]))),(42,.agg [(l_ [1]),(i_ 2),(l_ [1]),.d (.lst 3 (List.map Qc [(Qe.mk 0 1 1),(Qe.mk 1 1 1)]))]),(43,(b_ x16)),(44,(b_ x16)),(45,(b_ x16)),(46,.d (.lst 1 (List.map (eL 1 (eI .i64)) r5))),(47,(l_ [0,1])),(48,(l_ [0,1,2])),(49,.sl 1 (Γ.n0 + 49) 0 2 2)],Qp Γ.n0 (bxs [(1,.cells ((Qd x2))),(2,.cells ((Qd r4))),(8,.cells ((Qd r12))),(49,.cells ([(l_ [0,1]),(l_ [0,1,2])]))]) M,Γ.n0 + 74⟩; exact Qcd 48 [.int .i64 0,.int .i64 1,.int .i64 2] rfl rfl ⟨(.same rfl),(fPtr rfl),(fPtr rfl),(.same rfl),(.same rfl),(.same rfl),(.same rfl),(.same rfl),(fPtr rfl),(.same rfl),(.same rfl),(.same rfl),(.same rfl),(.same rfl),(.same rfl),(.same rfl),(.same rfl),(.same rfl),(.same rfl),(.same rfl),(.same rfl),(.same rfl),(.same rfl),(.same rfl),(.same rfl),(.same rfl),(.same rfl),(.same rfl),(.same rfl),(.same rfl),(.same rfl),(.same rfl),(.same rfl),(.same rfl),(.same rfl),(.same rfl),(.same rfl),(.same rfl),(.same rfl),(.same rfl),(.same rfl),(.same rfl),(.same rfl),(.same rfl),(.same rfl),(.same rfl),(.same rfl),(.same rfl),(fSl rfl rfl),(fSlO rfl),trivial⟩ ⟨⟨_,rfl,rfl,(.same rfl)⟩,⟨_,rfl,rfl,(.same rfl)⟩,⟨_,rfl,rfl,(.same rfl)⟩,⟨_,rfl,rfl,(.cons (.same rfl) (.cons (fSl rfl rfl) .nil))⟩,trivial⟩ rfl) ?_
    refine Rn.weak (by show WeakSt Γ _ ⟨look [(0,(b_ false)),(1,.ptr (Γ.n0 + 1) 0),(2,.ptr (Γ.n0 + 2) 0),(3,.d (.lst 1 (List.map (eL 1 (eI .i64)) r5))),(4,(i_ r6)),(5,(l_ r8)),(6,(b_ r9)),(7,(i_ r10)),(8,.ptr (Γ.n0 + 8) 0),(9,(i_ r13)),(10,(Qa x2)),(11,.tup [(Qa r4),.d (.lst 1 (List.map (eL 1 (eI .i64)) r5)),(i_ r6)]),(12,(Qa x2)),(13,(l_ [1])),(14,.tup [(Qa r4),.own 1 (List.map (eL 1 (eI .i64)) r5),(i_ r6)]),(15,(Qa r4)),(16,.d (.lst 1 (List.map (eL 1 (eI .i64)) r5))),(17,(i_ r6)),(18,.tup [(l_ r8),(b_ r9),(i_ r10)]),(19,(Qa x2)),(20,(l_ [1])),(21,(l_ [1])),(22,.tup [(l_ r8),(b_ r9),(i_ r10)]),(23,(l_ r8)),(24,(b_ r9)),(25,(i_ r10)),(26,.tup [(Qa r12),(i_ r13)]),(27,(l_ [1])),(28,.agg [(l_ [1]),(i_ 1),.nils 1,.nils 3]),(29,(l_ [0,1])),(30,.tup [(Qa r12),(i_ r13)]),(31,(Qa r12)),(32,(i_ r13)),(33,(i_ r6)),(34,(b_ (r6 == 0))),(35,(b_ (r6 == 0))),(36,(Qa r4)),(37,(l_ [1])),(38,(l_ [1])),(39,.agg [(i_ 0),(i_ 1),(i_ 1)]),(40,.agg [(i_ 1),(i_ 1),(i_ 1)]),(41,.d (.lst 3 (List.map Qc [(Qe.mk 0 1 1),(Qe.mk 1 1 1)]))),(42,.agg [(l_ [1]),(i_ 2),(l_ [1]),.d (.lst 3 (List.map Qc [(Qe.mk 0 1 1),(Qe.mk 1 1 1)]))]),(43,(b_ x16)),(44,(b_ x16)),(45,(b_ x16)),(46,.d (.lst 1 (List.map (eL 1 (eI .i64)) r5))),(47,(l_ [0,1])),(48,(l_ [0,1,2])),(49,.d (.lst 1 (List.map (eL 1 (eI .i64)) ([[0,1],[0,1,2]]))))],Qp Γ.n0 (bxs [(1,.cells ((Qd x2))),(2,.cells ((Qd r4))),(8,.cells ((Qd r12)))]) M,Γ.n0 + 74⟩; exact Qcd 49 [.lst 1 (List.map (eI .i64) [0,1]),.lst 1 (List.map (eI .i64) [0,1,2])] rfl rfl ⟨(.same rfl),(fPtr rfl),(fPtr rfl),(.same rfl),(.same rfl),(.same rfl),(.same rfl),(.same rfl),(fPtr rfl),(.same rfl),(.same rfl),(.same rfl),(.same rfl),(.same rfl),(.same rfl),(.same rfl),(.same rfl),(.same rfl),(.same rfl),(.same rfl),(.same rfl),(.same rfl),(.same rfl),(.same rfl),(.same rfl),(.same rfl),(.same rfl),(.same rfl),(.same rfl),(.same rfl),(.same rfl),(.same rfl),(.same rfl),(.same rfl),(.same rfl),(.same rfl),(.same rfl),(.same rfl),(.same rfl),(.same rfl),(.same rfl),(.same rfl),(.same rfl),(.same rfl),(.same rfl),(.same rfl),(.same rfl),(.same rfl),(.same rfl),(fSl rfl rfl),trivial⟩ ⟨⟨_,rfl,rfl,(.same rfl)⟩,⟨_,rfl,rfl,(.same rfl)⟩,⟨_,rfl,rfl,(.same rfl)⟩,trivial⟩ rfl) ?_
    obtain ⟨x19,h18,h⟩:=bnd h
    refine Rn.call (args:=[.d (.lst 1 (List.map (eL 1 (eI .i64)) r5)),.d (.lst 1 (List.map (eL 1 (eI .i64)) ([[0,1],[0,1,2]])))]) (gw rfl hb17) rfl (H_overseerlaw03_SameWords _ _ _ h18) pc9 (Rn.pickT (v:=(b_ x19)) trivial rfl hb17 rfl (md rfl ?_))
    refine Qda x19 (fun hb20=>?_) (fun hb20=>?_)
    ·replace h:=bT hb20 h
     refine Rn.movD (gw rfl hb20) rfl (Rn.bin (gw rfl hb20) rfl rfl rfl (Rn.pickT (v:=(b_ (r10 == 0))) trivial rfl hb20 rfl (md rfl ?_)))
     refine Qda (r10 == 0) (fun hb21=>?_) (fun hb21=>?_)
     ·replace h:=bT hb21 h
      refine Rn.movD (gw rfl hb21) rfl (Rn.pickT (v:=(b_ r9)) trivial rfl hb21 rfl (md rfl ?_))
      refine Qda r9 (fun hb22=>?_) (fun hb22=>?_)
      ·replace h:=bT hb22 h
       refine Rn.movD (gw rfl hb22) rfl (Rn.bslice (xs:=[(i_ 0),(i_ 1)]) (cs:=[(i_ 0),(i_ 1)]) (gw rfl hb22) rfl rfl rfl rfl ?_)
       refine Rn.weak (by show WeakSt Γ _ ⟨look [(0,(b_ false)),(1,.ptr (Γ.n0 + 1) 0),(2,.ptr (Γ.n0 + 2) 0),(3,.d (.lst 1 (List.map (eL 1 (eI .i64)) r5))),(4,(i_ r6)),(5,(l_ r8)),(6,(b_ r9)),(7,(i_ r10)),(8,.ptr (Γ.n0 + 8) 0),(9,(i_ r13)),(10,(Qa x2)),(11,.tup [(Qa r4),.d (.lst 1 (List.map (eL 1 (eI .i64)) r5)),(i_ r6)]),(12,(Qa x2)),(13,(l_ [1])),(14,.tup [(Qa r4),.own 1 (List.map (eL 1 (eI .i64)) r5),(i_ r6)]),(15,(Qa r4)),(16,.d (.lst 1 (List.map (eL 1 (eI .i64)) r5))),(17,(i_ r6)),(18,.tup [(l_ r8),(b_ r9),(i_ r10)]),(19,(Qa x2)),(20,(l_ [1])),(21,(l_ [1])),(22,.tup [(l_ r8),(b_ r9),(i_ r10)]),(23,(l_ r8)),(24,(b_ r9)),(25,(i_ r10)),(26,.tup [(Qa r12),(i_ r13)]),(27,(l_ [1])),(28,.agg [(l_ [1]),(i_ 1),.nils 1,.nils 3]),(29,(l_ [0,1])),(30,.tup [(Qa r12),(i_ r13)]),(31,(Qa r12)),(32,(i_ r13)),(33,(i_ r6)),(34,(b_ (r6 == 0))),(35,(b_ (r6 == 0))),(36,(Qa r4)),(37,(l_ [1])),(38,(l_ [1])),(39,.agg [(i_ 0),(i_ 1),(i_ 1)]),(40,.agg [(i_ 1),(i_ 1),(i_ 1)]),(41,.d (.lst 3 (List.map Qc [(Qe.mk 0 1 1),(Qe.mk 1 1 1)]))),(42,.agg [(l_ [1]),(i_ 2),(l_ [1]),.d (.lst 3 (List.map Qc [(Qe.mk 0 1 1),(Qe.mk 1 1 1)]))]),(43,(b_ x16)),(44,(b_ x16)),(45,(b_ x16)),(46,.d (.lst 1 (List.map (eL 1 (eI .i64)) r5))),(47,(l_ [0,1])),(48,(l_ [0,1,2])),(49,.d (.lst 1 (List.map (eL 1 (eI .i64)) ([[0,1],[0,1,2]])))),(50,(b_ x19)),(51,(b_ x19)),(52,(b_ x19)),(53,(i_ r10)),(54,(b_ (r10 == 0))),(55,(b_ (r10 == 0))),(56,(b_ (r10 == 0))),(57,(b_ r9)),(58,(b_ r9)),(59,(b_ r9)),(60,(l_ r8)),(61,(l_ [0,1]))],Qp Γ.n0 (bxs [(1,.cells ((Qd x2))),(2,.cells ((Qd r4))),(8,.cells ((Qd r12)))]) M,Γ.n0 + 74⟩; exact Qcd 61 [.int .i64 0,.int .i64 1] rfl rfl ⟨(.same rfl),(fPtr rfl),(fPtr rfl),(.same rfl),(.same rfl),(.same rfl),(.same rfl),(.same rfl),(fPtr rfl),(.same rfl),(.same rfl),(.same rfl),(.same rfl),(.same rfl),(.same rfl),(.same rfl),(.same rfl),(.same rfl),(.same rfl),(.same rfl),(.same rfl),(.same rfl),(.same rfl),(.same rfl),(.same rfl),(.same rfl),(.same rfl),(.same rfl),(.same rfl),(.same rfl),(.same rfl),(.same rfl),(.same rfl),(.same rfl),(.same rfl),(.same rfl),(.same rfl),(.same rfl),(.same rfl),(.same rfl),(.same rfl),(.same rfl),(.same rfl),(.same rfl),(.same rfl),(.same rfl),(.same rfl),(.same rfl),(.same rfl),(.same rfl),(.same rfl),(.same rfl),(.same rfl),(.same rfl),(.same rfl),(.same rfl),(.same rfl),(.same rfl),(.same rfl),(.same rfl),(.same rfl),(fSl rfl rfl),trivial⟩ ⟨⟨_,rfl,rfl,(.same rfl)⟩,⟨_,rfl,rfl,(.same rfl)⟩,⟨_,rfl,rfl,(.same rfl)⟩,trivial⟩ rfl) ?_
       obtain ⟨x24,h23,h⟩:=bnd h
       refine Rn.call (args:=[(l_ r8),(l_ [0,1])]) (gw rfl hb22) rfl (H_overseerref03_SameInts _ _ _ h23) pc9 (Rn.pickT (v:=(b_ x24)) trivial rfl hb22 rfl (md rfl ?_))
       refine Qda x24 (fun hb25=>?_) (fun hb25=>?_)
       ·replace h:=bT hb25 h
        refine Rn.movD (gw rfl hb25) rfl (Rn.bin (gw rfl hb25) rfl rfl rfl (Rn.pickT (v:=(b_ (r13 == 0))) trivial rfl hb25 rfl (md rfl ?_)))
        refine Qda (r13 == 0) (fun hb26=>?_) (fun hb26=>?_)
        ·replace h:=bT hb26 h
         refine Rn.fldP (o':=3) (gw rfl hb26) rfl rfl (Rn.load (v:=.d (.lst 3 (List.map Qc r12.Edges))) (gw rfl hb26) rfl (Qk rfl) rfl rfl (Rn.lenD (gw rfl hb26) rfl (Rn.bin (gw rfl hb26) rfl rfl rfl (Rn.pickT (v:=(b_ ((r12.Edges.length : Int) == 1))) trivial rfl hb26 rfl (md rfl (Rn.nil ?_))))))
         replace h:=si h; subst h
         exact Qh [] ⟨(sm rfl),trivial⟩ ⟨⟨_,rfl,rfl,(.same rfl)⟩,⟨_,rfl,rfl,(.same rfl)⟩,⟨_,rfl,rfl,(.same rfl)⟩,trivial⟩ rfl
        ·replace h:=bF hb26 h
         refine Rn.sk (nw rfl hb26) (Rn.sk (nw rfl hb26) (Rn.sk (nw rfl hb26) (Rn.sk (nw rfl hb26) (Rn.pickF (v:=(b_ false)) trivial rfl hb26 rfl (md rfl (Rn.nil ?_))))))
         replace h:=si h; subst h
         exact Qh [] ⟨(sm rfl),trivial⟩ ⟨⟨_,rfl,rfl,(.same rfl)⟩,⟨_,rfl,rfl,(.same rfl)⟩,⟨_,rfl,rfl,(.same rfl)⟩,trivial⟩ rfl
       ·replace h:=bF hb25 h
        refine Rn.sk (nw rfl hb25) (Rn.sk (nw rfl hb25) (Rn.pickF (v:=(b_ false)) trivial rfl hb25 rfl (md rfl (Rn.sk (nw (b:=false) rfl rfl) (Rn.sk (nw (b:=false) rfl rfl) (Rn.sk (nw (b:=false) rfl rfl) (Rn.sk (nw (b:=false) rfl rfl) (Rn.pickF (v:=(b_ false)) trivial rfl rfl rfl (md rfl (Rn.nil ?_))))))))))
        replace h:=si h; subst h
        exact Qh [] ⟨(sm rfl),trivial⟩ ⟨⟨_,rfl,rfl,(.same rfl)⟩,⟨_,rfl,rfl,(.same rfl)⟩,⟨_,rfl,rfl,(.same rfl)⟩,trivial⟩ rfl
      ·replace h:=bF hb22 h
       refine Rn.sk (nw rfl hb22) (Rn.sk (nw rfl hb22) (Rn.sk (nw rfl hb22) (Rn.pickF (v:=(b_ false)) trivial rfl hb22 rfl (md rfl (Rn.sk (nw (b:=false) rfl rfl) (Rn.sk (nw (b:=false) rfl rfl) (Rn.pickF (v:=(b_ false)) trivial rfl rfl rfl (md rfl (Rn.sk (nw (b:=false) rfl rfl) (Rn.sk (nw (b:=false) rfl rfl) (Rn.sk (nw (b:=false) rfl rfl) (Rn.sk (nw (b:=false) rfl rfl) (Rn.pickF (v:=(b_ false)) trivial rfl rfl rfl (md rfl (Rn.nil ?_)))))))))))))))
       replace h:=si h; subst h
       exact Qh [] ⟨(sm rfl),trivial⟩ ⟨⟨_,rfl,rfl,(.same rfl)⟩,⟨_,rfl,rfl,(.same rfl)⟩,⟨_,rfl,rfl,(.same rfl)⟩,trivial⟩ rfl
     ·replace h:=bF hb21 h
      refine Rn.sk (nw rfl hb21) (Rn.pickF (v:=(b_ false)) trivial rfl hb21 rfl (md rfl (Rn.sk (nw (b:=false) rfl rfl) (Rn.sk (nw (b:=false) rfl rfl) (Rn.sk (nw (b:=false) rfl rfl) (Rn.pickF (v:=(b_ false)) trivial rfl rfl rfl (md rfl (Rn.sk (nw (b:=false) rfl rfl) (Rn.sk (nw (b:=false) rfl rfl) (Rn.pickF (v:=(b_ false)) trivial rfl rfl rfl (md rfl (Rn.sk (nw (b:=false) rfl rfl) (Rn.sk (nw (b:=false) rfl rfl) (Rn.sk (nw (b:=false) rfl rfl) (Rn.sk (nw (b:=false) rfl rfl) (Rn.pickF (v:=(b_ false)) trivial rfl rfl rfl (md rfl (Rn.nil ?_))))))))))))))))))
      replace h:=si h; subst h
      exact Qh [] ⟨(sm rfl),trivial⟩ ⟨⟨_,rfl,rfl,(.same rfl)⟩,⟨_,rfl,rfl,(.same rfl)⟩,⟨_,rfl,rfl,(.same rfl)⟩,trivial⟩ rfl
    ·replace h:=bF hb20 h
     refine Rn.sk (nw rfl hb20) (Rn.sk (nw rfl hb20) (Rn.pickF (v:=(b_ false)) trivial rfl hb20 rfl (md rfl (Rn.sk (nw (b:=false) rfl rfl) (Rn.pickF (v:=(b_ false)) trivial rfl rfl rfl (md rfl (Rn.sk (nw (b:=false) rfl rfl) (Rn.sk (nw (b:=false) rfl rfl) (Rn.sk (nw (b:=false) rfl rfl) (Rn.pickF (v:=(b_ false)) trivial rfl rfl rfl (md rfl (Rn.sk (nw (b:=false) rfl rfl) (Rn.sk (nw (b:=false) rfl rfl) (Rn.pickF (v:=(b_ false)) trivial rfl rfl rfl (md rfl (Rn.sk (nw (b:=false) rfl rfl) (Rn.sk (nw (b:=false) rfl rfl) (Rn.sk (nw (b:=false) rfl rfl) (Rn.sk (nw (b:=false) rfl rfl) (Rn.pickF (v:=(b_ false)) trivial rfl rfl rfl (md rfl (Rn.nil ?_))))))))))))))))))))))
     replace h:=si h; subst h
     exact Qh [] ⟨(sm rfl),trivial⟩ ⟨⟨_,rfl,rfl,(.same rfl)⟩,⟨_,rfl,rfl,(.same rfl)⟩,⟨_,rfl,rfl,(.same rfl)⟩,trivial⟩ rfl
   ·replace h:=bF hb17 h
    refine Rn.sk (nw rfl hb17) (Rn.sk (nw rfl hb17) (Rn.sk (nw rfl hb17) (Rn.sk (nw rfl hb17) (Rn.sk (nw rfl hb17) (Rn.pickF (v:=(b_ false)) trivial rfl hb17 rfl (md rfl (Rn.sk (nw (b:=false) rfl rfl) (Rn.sk (nw (b:=false) rfl rfl) (Rn.pickF (v:=(b_ false)) trivial rfl rfl rfl (md rfl (Rn.sk (nw (b:=false) rfl rfl) (Rn.pickF (v:=(b_ false)) trivial rfl rfl rfl (md rfl (Rn.sk (nw (b:=false) rfl rfl) (Rn.sk (nw (b:=false) rfl rfl) (Rn.sk (nw (b:=false) rfl rfl) (Rn.pickF (v:=(b_ false)) trivial rfl rfl rfl (md rfl (Rn.sk (nw (b:=false) rfl rfl) (Rn.sk (nw (b:=false) rfl rfl) (Rn.pickF (v:=(b_ false)) trivial rfl rfl rfl (md rfl (Rn.sk (nw (b:=false) rfl rfl) (Rn.sk (nw (b:=false) rfl rfl) (Rn.sk (nw (b:=false) rfl rfl) (Rn.sk (nw (b:=false) rfl rfl) (Rn.pickF (v:=(b_ false)) trivial rfl rfl rfl (md rfl (Rn.nil ?_)))))))))))))))))))))))))))))
    replace h:=si h; subst h
    exact Qh [] ⟨(sm rfl),trivial⟩ ⟨⟨_,rfl,rfl,(.same rfl)⟩,⟨_,rfl,rfl,(.same rfl)⟩,⟨_,rfl,rfl,(.same rfl)⟩,trivial⟩ rfl
  ·replace h:=bF hb14 h
   refine Rn.sk (nw rfl hb14) (Rn.sk (nw rfl hb14) (Rn.sk (nw rfl hb14) (Rn.sk (nw rfl hb14) (Rn.sk (nw rfl hb14) (Rn.sk (nw rfl hb14) (Rn.sk (nw rfl hb14) (Rn.sk (nw rfl hb14) (Rn.pickF (v:=(b_ false)) trivial rfl hb14 rfl (md rfl (Rn.sk (nw (b:=false) rfl rfl) (Rn.sk (nw (b:=false) rfl rfl) (Rn.sk (nw (b:=false) rfl rfl) (Rn.sk (nw (b:=false) rfl rfl) (Rn.sk (nw (b:=false) rfl rfl) (Rn.pickF (v:=(b_ false)) trivial rfl rfl rfl (md rfl (Rn.sk (nw (b:=false) rfl rfl) (Rn.sk (nw (b:=false) rfl rfl) (Rn.pickF (v:=(b_ false)) trivial rfl rfl rfl (md rfl (Rn.sk (nw (b:=false) rfl rfl) (Rn.pickF (v:=(b_ false)) trivial rfl rfl rfl (md rfl (Rn.sk (nw (b:=false) rfl rfl) (Rn.sk (nw (b:=false) rfl rfl) (Rn.sk (nw (b:=false) rfl rfl) (Rn.pickF (v:=(b_ false)) trivial rfl rfl rfl (md rfl (Rn.sk (nw (b:=false) rfl rfl) (Rn.sk (nw (b:=false) rfl rfl) (Rn.pickF (v:=(b_ false)) trivial rfl rfl rfl (md rfl (Rn.sk (nw (b:=false) rfl rfl) (Rn.sk (nw (b:=false) rfl rfl) (Rn.sk (nw (b:=false) rfl rfl) (Rn.sk (nw (b:=false) rfl rfl) (Rn.pickF (v:=(b_ false)) trivial rfl rfl rfl (md rfl (Rn.nil ?_)))))))))))))))))))))))))))))))))))))))
   replace h:=si h; subst h
   exact Qh [] ⟨(sm rfl),trivial⟩ ⟨⟨_,rfl,rfl,(.same rfl)⟩,⟨_,rfl,rfl,(.same rfl)⟩,⟨_,rfl,rfl,(.same rfl)⟩,trivial⟩ rfl
 ·obtain ⟨x27,rfl⟩ : ∃ x,x = z:=⟨_,rfl⟩
  refine Tr.ret ?_
  replace h:=si h; subst h
  exact ⟨.inr rfl,(b_ x27),rfl,fun _ _ _ _ h=>h,trivial,fun k hk=>Qf hk⟩
theorem Qms {P : Program} {c : Nat} (hcf : Qt P c = some Qe1) (fuel : Nat) : Qe0 P c (Qba fuel):=by
 intro s1 r h
 refine Qcy hcf rfl fun Γ M hP hnt hM=>?_
 subst hP
 refine Tr.init [(0,.d (.int .u8 s1))] rfl ?_
 unfold Qba at h
 unfold Qe1
 refine sr ((Rn.movTC (v:=.nils 1) trivial (nt ((sr ((Rn.movTC (v:=.nils 1) trivial (Rn.nil (toN ?_)))))))))
 refine Tr.cutB (fun (out12 : List Int)=>⟨look [(3,.own 1 (List.map (eI .i64) out12))],Qp Γ.n0 (bxs []) M,Γ.n0 + 19⟩) h (fun z h=>?_) (fun z h=>?_)
 ·refine sr ((md rfl (nt ((Tr.block ?_)))))
  refine Tr.loop (mk:=fun ((out2,i3) : (List Int) × Int)=>⟨look [(0,.d (.int .u8 s1)),(3,.own 1 (List.map (eI .i64) out2)),(4,(i_ i3))],Qp Γ.n0 (bxs []) M,Γ.n0 + 19⟩) h (by exact Qm ⟨(sm rfl),(WkV.nilsO _),(sm rfl),trivial⟩ trivial rfl) (fun k4 z h=>?_)
  ·obtain ⟨out2,i3⟩:=z
   replace h : _ = some _:=h
   refine Tr.seq (sr ((md rfl (Rn.bin trivial rfl rfl rfl (Rn.nil (toN ?_))))))
   refine Tr.cond rfl (fun hb5=>?_) (fun hb5=>?_)
   ·replace h:=ifT hb5 h
    refine Tr.skip (toN ?_)
    refine Tr.cutB (fun (out11 : List Int)=>⟨look [(0,.d (.int .u8 s1)),(3,.own 1 (List.map (eI .i64) out11)),(4,(i_ i3))],Qp Γ.n0 (bxs []) M,Γ.n0 + 19⟩) h (fun z h=>?_) (fun z h=>?_)
    ·refine Tr.block (sr ((md rfl (md rfl ?_))))
     obtain ⟨s6,h7,h⟩:=bnd h
     refine Rn.bin trivial rfl rfl (Qbhc h7) (Rn.bin trivial rfl rfl rfl (Rn.bin trivial rfl rfl rfl (Rn.nil (toN ?_))))
     refine Tr.cond rfl (fun hb8=>?_) (fun hb8=>?_)
     ·replace h:=bT hb8 h
      refine Tr.rgn (Rn.movTO trivial rfl (md rfl (Rn.bslice (xs:=[(i_ i3)]) (cs:=[(i_ i3)]) trivial rfl rfl rfl rfl ?_)))
      obtain ⟨x9,h10,h⟩:=bnd h
      refine Rn.app (e:=(eI .i64)) trivial rfl rfl rfl (Qcp rfl rfl rfl) h10 rfl (Rn.movTO trivial rfl (Rn.nil ?_))
      replace h:=si h; subst h
      exact Qh [16] ⟨(sm rfl),(sm rfl),(sm rfl),trivial⟩ trivial rfl
     ·replace h:=bF hb8 h
      refine Tr.skip ?_
      replace h:=si h; subst h
      exact Qh [] ⟨(sm rfl),(sm rfl),(sm rfl),trivial⟩ trivial rfl
    ·obtain ⟨out11,rfl⟩ : ∃ x,x = z:=⟨_,rfl⟩
     refine Tr.rgn (md rfl (Rn.bin trivial rfl rfl rfl (md rfl (Rn.nil ?_))))
     exact ⟨_,h,(by exact Qm ⟨(sm rfl),(sm rfl),(sm rfl),trivial⟩ trivial rfl)⟩
   ·replace h:=ifF hb5 h
    refine Tr.exit ?_
    replace h:=si h; subst h
    exact Qh [] ⟨(sm rfl),trivial⟩ trivial rfl
 ·obtain ⟨out12,rfl⟩ : ∃ x,x = z:=⟨_,rfl⟩
  refine sr ((Rn.movTO trivial rfl (Rn.movTO trivial rfl (nt ((Tr.ret ?_))))))
  replace h:=si h; subst h
  exact ⟨.inr rfl,(.own 1 (List.map (eI .i64) out12)),rfl,fun _ _ _ _ h=>h,trivial,fun k hk=>Qf hk⟩
theorem Qsf {P : Program} {c : Nat} (hcf : Qt P c = some Qgy) : Qe5 P c (Q0):=by
 intro alphabet1 r h
 refine Qcy hcf rfl fun Γ M hP hnt hM=>?_
 subst hP
 refine Tr.init [(0,(l_ alphabet1))] rfl ?_
 unfold Q0 at h
 unfold Qgy
 refine sr ((Rn.alloc trivial rfl (nt ((sr ((Rn.bslice (xs:=[]) (cs:=[]) trivial rfl rfl rfl rfl (md rfl ?_))))))))
 obtain ⟨x2,h3,h⟩:=bnd h
 refine Rn.app0 (e:=(eI .i64)) trivial rfl rfl rfl rfl Q4c h3 rfl (Rn.buildT (v:=.agg [.own 1 (List.map (eI .i64) x2),(i_ 0),.nils 1,.nils 3]) trivial rfl (Rn.storeT (v:=.agg [.own 1 (List.map (eI .i64) x2),(i_ 0),.nils 1,.nils 3]) (ds:=[.own 1 (List.map (eI .i64) x2),(i_ 0),.nils 1,.nils 3]) (cs':=[.own 1 (List.map (eI .i64) x2),(i_ 0),.nils 1,.nils 3]) trivial rfl rfl rfl rfl rfl rfl rfl (nt ((Tr.ret ?_)))))
 replace h:=si h; subst h
 exact ⟨.inr rfl,(.agg [(l_ x2),(i_ 0),.nils 1,.nils 3]),Qhe rfl rfl rfl rfl,fun _ _ _ _ h=>h,⟨trivial,trivial,trivial,trivial,trivial⟩,fun k hk=>Qf hk⟩
theorem Qvt {P : Program} {c : Nat} (hcf : Qt P c = some Qhm) (fuel : Nat) : Qed P c (Qs fuel):=by
 intro a1 state2 event3 r h
 refine Qcy hcf rfl fun Γ M hP hnt hM=>?_
 subst hP
 refine Tr.init [(0,(Qa a1)),(1,(i_ state2)),(2,(i_ event3))] rfl ?_
 unfold Qs at h
 unfold Qhm
 refine sr ((Rn.box (v:=(Qa a1)) (cs:=(Qd a1)) trivial rfl rfl rfl rfl rfl (md rfl (nt ((Tr.seq (sr ((md rfl (nt ((Tr.block ?_))))))))))))
 refine Tr.loop (mk:=fun (i4 : Int)=>⟨look [(1,(i_ state2)),(2,(i_ event3)),(3,.ptr (Γ.n0 + 3) 0),(7,(i_ i4))],Qp Γ.n0 (bxs [(3,.cells ((Qd a1)))]) M,Γ.n0 + 39⟩) h (by exact Qm ⟨(sm rfl),(sm rfl),(kPtr rfl),(sm rfl),trivial⟩ ⟨⟨_,rfl,rfl,(.same rfl)⟩,trivial⟩ rfl) (fun k5 z h=>?_)
 ·obtain ⟨i4,rfl⟩ : ∃ x,x = z:=⟨_,rfl⟩
  replace h : _ = some _:=h
  refine Tr.seq (sr ((md rfl (Rn.fldP (o':=3) trivial rfl rfl (Rn.load (v:=.d (.lst 3 (List.map Qc a1.Edges))) trivial rfl (Qk rfl) rfl rfl (Rn.lenD trivial rfl (Rn.bin trivial rfl rfl rfl (Rn.nil (toN ?_)))))))))
  refine Tr.cond rfl (fun hb6=>?_) (fun hb6=>?_)
  ·replace h:=ifT hb6 h
   refine Tr.skip (toN (Tr.seq (Tr.block ?_)))
   refine Tr.cutB (fun (x12 : Bool)=>⟨look [(1,(i_ state2)),(2,(i_ event3)),(3,.ptr (Γ.n0 + 3) 0),(7,(i_ i4)),(32,(b_ x12))],Qp Γ.n0 (bxs [(3,.cells ((Qd a1)))]) M,Γ.n0 + 39⟩) h (fun z h=>?_) (fun z h=>?_)
   ·refine Tr.rgn (Rn.fldP (o':=3) trivial rfl rfl (Rn.load (v:=.d (.lst 3 (List.map Qc a1.Edges))) trivial rfl (Qk rfl) rfl rfl (md rfl ?_)))
    obtain ⟨x7,h8,h⟩:=bnd h
    refine Rn.idxD (e:=Qc) trivial rfl rfl h8 (Rn.fldC trivial rfl (Rn.loadC (x:=.int .i64 x7.From) trivial rfl (md rfl (Rn.bin trivial rfl rfl rfl (md rfl ?_)))))
    refine Qda (x7.From == state2) (fun hb9=>?_) (fun hb9=>?_)
    ·replace h:=bT hb9 h
     refine Rn.fldP (o':=3) (gw rfl hb9) rfl rfl (Rn.load (v:=.d (.lst 3 (List.map Qc a1.Edges))) (gw rfl hb9) rfl (Qk rfl) rfl rfl (Rn.movD (gw rfl hb9) rfl ?_))
     obtain ⟨x10,h11,h⟩:=bnd h
     refine Rn.idxD (e:=Qc) (gw rfl hb9) rfl rfl h11 (Rn.fldC (gw rfl hb9) rfl (Rn.loadC (x:=.int .i64 x10.Event) (gw rfl hb9) rfl (Rn.movD (gw rfl hb9) rfl (Rn.bin (gw rfl hb9) rfl rfl rfl (Rn.pickT (v:=(b_ (x10.Event == event3))) trivial rfl hb9 rfl (Rn.nil ?_))))))
     replace h:=si h; subst h
     exact Qh [] ⟨(sm rfl),(sm rfl),(kPtr rfl),(sm rfl),(sm rfl),trivial⟩ ⟨⟨_,rfl,rfl,(.same rfl)⟩,trivial⟩ rfl
    ·replace h:=bF hb9 h
     refine Rn.sk (nw rfl hb9) (Rn.sk (nw rfl hb9) (Rn.sk (nw rfl hb9) (Rn.sk (nw rfl hb9) (Rn.sk (nw rfl hb9) (Rn.sk (nw rfl hb9) (Rn.sk (nw rfl hb9) (Rn.sk (nw rfl hb9) (Rn.pickF (v:=(b_ false)) trivial rfl hb9 rfl (Rn.nil ?_)))))))))
     replace h:=si h; subst h
     exact Qh [] ⟨(sm rfl),(sm rfl),(kPtr rfl),(sm rfl),(sm rfl),trivial⟩ ⟨⟨_,rfl,rfl,(.same rfl)⟩,trivial⟩ rfl
   ·obtain ⟨x12,rfl⟩ : ∃ x,x = z:=⟨_,rfl⟩
    refine Tr.cond rfl (fun hb13=>?_) (fun hb13=>?_)
    ·replace h:=bT hb13 h
     refine sr ((Rn.fldP (o':=3) trivial rfl rfl (Rn.load (v:=.d (.lst 3 (List.map Qc a1.Edges))) trivial rfl (Qk rfl) rfl rfl (md rfl ?_))))
     obtain ⟨x14,h15,h⟩:=bnd h
     refine Rn.idxD (e:=Qc) trivial rfl rfl h15 (Rn.fldC trivial rfl (Rn.loadC (x:=.int .i64 x14.To) trivial rfl (md rfl (nt ((Tr.ret ?_))))))
     replace h:=si h; subst h
     exact ⟨.inr rfl,(i_ x14.To),rfl,fun _ _ _ _ h=>h,trivial,fun k hk=>Qf hk⟩
    ·replace h:=bF hb13 h
     refine Tr.skip (toN (Tr.rgn (md rfl (Rn.bin trivial rfl rfl rfl (md rfl (Rn.nil ?_))))))
     exact ⟨_,h,(by exact Qm ⟨(sm rfl),(sm rfl),(kPtr rfl),(sm rfl),trivial⟩ ⟨⟨_,rfl,rfl,(.same rfl)⟩,trivial⟩ rfl)⟩
  ·replace h:=ifF hb6 h
   refine Tr.exit (toN (sr ((md rfl (nt ((Tr.ret ?_)))))))
   replace h:=si h; subst h
   exact ⟨.inr rfl,(i_ (-1)),rfl,fun _ _ _ _ h=>h,trivial,fun k hk=>Qf hk⟩
theorem Qyb {P : Program} {c : Nat} (hcf : Qt P c = some Qh0) (fuel : Nat) : Qf1 P c (Qbc fuel):=by
 intro l1 n2 r h
 refine Qcy hcf rfl fun Γ M hP hnt hM=>?_
 subst hP
 refine Tr.init [(0,(l_ l1)),(1,(i_ n2))] rfl ?_
 unfold Qbc at h
 unfold Qh0
 refine sr ((md rfl (nt ((Tr.seq (sr ((md rfl (nt ((Tr.block ?_)))))))))))
 refine Tr.loop (mk:=fun (i3 : Int)=>⟨look [(0,(l_ l1)),(1,(i_ n2)),(5,(i_ i3))],Qp Γ.n0 (bxs []) M,Γ.n0 + 18⟩) h (by exact Qm ⟨(sm rfl),(sm rfl),(sm rfl),trivial⟩ trivial rfl) (fun k4 z h=>?_)
 ·obtain ⟨i3,rfl⟩ : ∃ x,x = z:=⟨_,rfl⟩
  replace h : _ = some _:=h
  refine Tr.seq (sr ((md rfl (md rfl (Rn.lenD trivial rfl (Rn.bin trivial rfl rfl rfl (Rn.nil (toN ?_))))))))
  refine Tr.cond rfl (fun hb5=>?_) (fun hb5=>?_)
  ·replace h:=ifT hb5 h
   refine Tr.skip (toN (Tr.seq (Tr.block (sr ((md rfl (md rfl ?_)))))))
   obtain ⟨x6,h7,h⟩:=bnd h
   refine Rn.idxD (e:=(eI .i64)) trivial rfl rfl h7 (Rn.loadC (x:=.int .i64 x6) trivial rfl (md rfl (Rn.bin trivial rfl rfl rfl (Rn.nil (toN ?_)))))
   refine Tr.cond rfl (fun hb8=>?_) (fun hb8=>?_)
   ·replace h:=bT hb8 h
    refine sr ((md rfl (nt ((Tr.ret ?_)))))
    replace h:=si h; subst h
    exact ⟨.inr rfl,(b_ true),rfl,fun _ _ _ _ h=>h,trivial,fun k hk=>Qf hk⟩
   ·replace h:=bF hb8 h
    refine Tr.skip (toN (Tr.rgn (md rfl (Rn.bin trivial rfl rfl rfl (md rfl (Rn.nil ?_))))))
    exact ⟨_,h,(by exact Qm ⟨(sm rfl),(sm rfl),(sm rfl),trivial⟩ trivial rfl)⟩
  ·replace h:=ifF hb5 h
   refine Tr.exit (toN (sr ((md rfl (nt ((Tr.ret ?_)))))))
   replace h:=si h; subst h
   exact ⟨.inr rfl,(b_ false),rfl,fun _ _ _ _ h=>h,trivial,fun k hk=>Qf hk⟩
theorem Qsg {P : Program} {c : Nat} {Qs : Qb → Int → Int → Option Int} {Qbc : (List Int) → Int → Option Bool}
    (H_overseerref03_Step : Qed P 40 Qs)
    (H_overseerref03_has : Qf1 P 48 Qbc) (hcf : Qt P c = some Qg0) (fuel : Nat) : Qgz P c (Qb0 Qs Qbc fuel):=by
 intro a1 r h
 refine Qcy hcf rfl fun Γ M hP hnt hM=>?_
 subst hP
 refine Tr.init [(0,(Qa a1))] rfl ?_
 unfold Qb0 at h
 unfold Qg0
 refine sr ((Rn.box (v:=(Qa a1)) (cs:=(Qd a1)) trivial rfl rfl rfl rfl rfl (Rn.movTC (v:=.nils 1) trivial (nt ((sr ((Rn.movTC (v:=.nils 1) trivial (Rn.nil (toN ?_))))))))))
 refine Tr.cutB (fun (out5 : List Int)=>⟨look [(1,.ptr (Γ.n0 + 1) 0),(3,.own 1 (List.map (eI .i64) out5))],Qp Γ.n0 (bxs [(1,.cells ((Qd a1)))]) M,Γ.n0 + 50⟩) h (fun z h=>?_) (fun z h=>?_)
 ·refine sr ((Rn.fldP (o':=1) trivial rfl rfl (Rn.load (v:=(i_ a1.States)) trivial rfl (Qk rfl) rfl rfl (Rn.bin trivial rfl rfl rfl (Rn.nil (toN ?_))))))
  refine Tr.cond rfl (fun hb2=>?_) (fun hb2=>?_)
  ·replace h:=ifT hb2 h
   refine Tr.rgn (Rn.movTF (v:=.nils 1) trivial rfl rfl (Rn.bslice (xs:=[(i_ 0)]) (cs:=[(i_ 0)]) trivial rfl rfl rfl rfl ?_))
   refine Rn.weak (by show WeakSt Γ _ ⟨look [(0,(Qa a1)),(1,.ptr (Γ.n0 + 1) 0),(2,.nils 1),(3,.nils 1),(7,.ptr (Γ.n0 + 1) 1),(8,(i_ a1.States)),(9,(b_ (decide (a1.States > 0)))),(10,.own 1 (List.map (eI .i64) [])),(11,.sl 1 (Γ.n0 + 11) 0 1 1)],Qp Γ.n0 (bxs [(1,.cells ((Qd a1))),(11,.cells ([(i_ 0)]))]) M,Γ.n0 + 50⟩; exact Qh [] ⟨(sm rfl),(kPtr rfl),(sm rfl),(sm rfl),(kPtr rfl),(sm rfl),(sm rfl),(WkV.nilsO _),(kSl rfl),trivial⟩ ⟨⟨_,rfl,rfl,(.same rfl)⟩,⟨_,rfl,rfl,(.same rfl)⟩,trivial⟩ rfl) ?_
   obtain ⟨x3,h4,h⟩:=bnd h
   refine Rn.app (e:=(eI .i64)) trivial rfl rfl rfl (Qcp rfl rfl rfl) h4 rfl (Rn.movTO trivial rfl (Rn.nil ?_))
   replace h:=si h; subst h
   exact Qh [11] ⟨(kPtr rfl),(sm rfl),trivial⟩ ⟨⟨_,rfl,rfl,(.same rfl)⟩,trivial⟩ rfl
  ·replace h:=ifF hb2 h
   refine Tr.skip ?_
   replace h:=si h; subst h
   exact Qh [] ⟨(kPtr rfl),(WkV.nilsO _),trivial⟩ ⟨⟨_,rfl,rfl,(.same rfl)⟩,trivial⟩ rfl
 ·obtain ⟨out5,rfl⟩ : ∃ x,x = z:=⟨_,rfl⟩
  refine Tr.cutB (fun (out29 : List Int)=>⟨look [(3,.own 1 (List.map (eI .i64) out29))],Qp Γ.n0 (bxs [(1,.cells ((Qd a1)))]) M,Γ.n0 + 50⟩) h (fun z h=>?_) (fun z h=>?_)
  ·refine sr ((md rfl (nt ((Tr.block ?_)))))
   refine Tr.loop (mk:=fun ((out6,i7) : (List Int) × Int)=>⟨look [(1,.ptr (Γ.n0 + 1) 0),(3,.own 1 (List.map (eI .i64) out6)),(4,(i_ i7))],Qp Γ.n0 (bxs [(1,.cells ((Qd a1)))]) M,Γ.n0 + 50⟩) h (by exact Qm ⟨(kPtr rfl),(sm rfl),(sm rfl),trivial⟩ ⟨⟨_,rfl,rfl,(.same rfl)⟩,trivial⟩ rfl) (fun k8 z h=>?_)
   ·obtain ⟨out6,i7⟩:=z
    replace h : _ = some _:=h
    refine Tr.seq (sr ((md rfl (Rn.mov (v:=(l_ out6)) trivial rfl (Rn.lenD trivial rfl (Rn.bin trivial rfl rfl rfl (Rn.nil (toN ?_))))))))
    refine Tr.cond rfl (fun hb9=>?_) (fun hb9=>?_)
    ·replace h:=ifT hb9 h
     refine Tr.skip (toN ?_)
     refine Tr.cutB (fun (out28 : List Int)=>⟨look [(1,.ptr (Γ.n0 + 1) 0),(3,.own 1 (List.map (eI .i64) out28)),(4,(i_ i7))],Qp Γ.n0 (bxs [(1,.cells ((Qd a1)))]) M,Γ.n0 + 50⟩) h (fun z h=>?_) (fun z h=>?_)
     ·refine Tr.block (sr ((md rfl (nt ((Tr.block ?_))))))
      refine Tr.loop (mk:=fun ((out10,k11) : (List Int) × Int)=>⟨look [(1,.ptr (Γ.n0 + 1) 0),(3,.own 1 (List.map (eI .i64) out10)),(4,(i_ i7)),(5,(i_ k11))],Qp Γ.n0 (bxs [(1,.cells ((Qd a1)))]) M,Γ.n0 + 50⟩) h (by exact Qm ⟨(kPtr rfl),(sm rfl),(sm rfl),(sm rfl),trivial⟩ ⟨⟨_,rfl,rfl,(.same rfl)⟩,trivial⟩ rfl) (fun k12 z h=>?_)
      ·obtain ⟨out10,k11⟩:=z
       replace h : _ = some _:=h
       refine Tr.seq (sr ((md rfl (Rn.fldP (o':=0) trivial rfl rfl (Rn.load (v:=(l_ a1.Alphabet)) trivial rfl (Qk rfl) rfl rfl (Rn.lenD trivial rfl (Rn.bin trivial rfl rfl rfl (Rn.nil (toN ?_)))))))))
       refine Tr.cond rfl (fun hb13=>?_) (fun hb13=>?_)
       ·replace h:=ifT hb13 h
        refine Tr.skip (toN ?_)
        refine Tr.cutB (fun (out27 : List Int)=>⟨look [(1,.ptr (Γ.n0 + 1) 0),(3,.own 1 (List.map (eI .i64) out27)),(4,(i_ i7)),(5,(i_ k11))],Qp Γ.n0 (bxs [(1,.cells ((Qd a1)))]) M,Γ.n0 + 50⟩) h (fun z h=>?_) (fun z h=>?_)
        ·refine Tr.block (Tr.seq ?_)
         refine Tr.rgnD (by decide) ?_
         refine Rn.load (v:=(Qa a1)) trivial rfl (Qk rfl) rfl rfl (Rn.mov (v:=(l_ out10)) trivial rfl (md rfl ?_))
         obtain ⟨x14,h15,h⟩:=bnd h
         refine Rn.idxD (e:=(eI .i64)) trivial rfl rfl h15 (Rn.loadC (x:=.int .i64 x14) trivial rfl (Rn.fldP (o':=0) trivial rfl rfl (Rn.load (v:=(l_ a1.Alphabet)) trivial rfl (Qk rfl) rfl rfl (md rfl ?_))))
         obtain ⟨x16,h17,h⟩:=bnd h
         refine Rn.idxD (e:=(eI .i64)) trivial rfl rfl h17 (Rn.loadC (x:=.int .i64 x16) trivial rfl ?_)
         obtain ⟨x19,h18,h⟩:=bnd h
         refine Rn.call (args:=[(Qa a1),(i_ x14),(i_ x16)]) trivial rfl (H_overseerref03_Step _ _ _ _ h18) pc0 (md rfl ?_)
         refine Rn.nil ⟨rfl,?_⟩
         refine toN ?_
         refine Tr.cutB (fun (x23 : Bool)=>⟨look [(1,.ptr (Γ.n0 + 1) 0),(3,.own 1 (List.map (eI .i64) out10)),(4,(i_ i7)),(5,(i_ k11)),(6,(i_ x19)),(44,(b_ x23))],Qp Γ.n0 (bxs [(1,.cells ((Qd a1)))]) M,Γ.n0 + 50⟩) h (fun z h=>?_) (fun z h=>?_)
         ·refine Tr.rgn (md rfl (Rn.bin trivial rfl rfl rfl (md rfl ?_)))
          refine Qda (decide (x19 ≥ 0)) (fun hb20=>?_) (fun hb20=>?_)
          ·replace h:=ifT hb20 h
           refine Rn.mov (v:=(l_ out10)) (gw rfl hb20) rfl (Rn.movD (gw rfl hb20) rfl ?_)
           obtain ⟨x22,h21,h⟩:=bnd h
           refine Rn.call (args:=[(l_ out10),(i_ x19)]) (gw rfl hb20) rfl (H_overseerref03_has _ _ _ h21) pc9 (Rn.un (gw rfl hb20) rfl rfl (Rn.pickT (v:=(b_ (!x22))) trivial rfl hb20 rfl (Rn.nil ?_)))
           replace h:=si h; subst h
           exact Qh [] ⟨(kPtr rfl),(sm rfl),(sm rfl),(sm rfl),(sm rfl),(sm rfl),trivial⟩ ⟨⟨_,rfl,rfl,(.same rfl)⟩,trivial⟩ rfl
          ·replace h:=ifF hb20 h
           refine Rn.sk (nw rfl hb20) (Rn.sk (nw rfl hb20) (Rn.sk (nw rfl hb20) (Rn.sk (nw rfl hb20) (Rn.pickF (v:=(b_ false)) trivial rfl hb20 rfl (Rn.nil ?_)))))
           replace h:=si h; subst h
           exact Qh [] ⟨(kPtr rfl),(sm rfl),(sm rfl),(sm rfl),(sm rfl),(sm rfl),trivial⟩ ⟨⟨_,rfl,rfl,(.same rfl)⟩,trivial⟩ rfl
         ·obtain ⟨x23,rfl⟩ : ∃ x,x = z:=⟨_,rfl⟩
          refine Tr.cond rfl (fun hb24=>?_) (fun hb24=>?_)
          ·replace h:=bT hb24 h
           refine Tr.rgn (Rn.movTO trivial rfl (md rfl (Rn.bslice (xs:=[(i_ x19)]) (cs:=[(i_ x19)]) trivial rfl rfl rfl rfl ?_)))
           obtain ⟨x25,h26,h⟩:=bnd h
           refine Rn.app (e:=(eI .i64)) trivial rfl rfl rfl (Qcp rfl rfl rfl) h26 rfl (Rn.movTO trivial rfl (Rn.nil ?_))
           replace h:=si h; subst h
           exact Qh [47] ⟨(kPtr rfl),(sm rfl),(sm rfl),(sm rfl),trivial⟩ ⟨⟨_,rfl,rfl,(.same rfl)⟩,trivial⟩ rfl
          ·replace h:=bF hb24 h
           refine Tr.skip ?_
           replace h:=si h; subst h
           exact Qh [] ⟨(kPtr rfl),(sm rfl),(sm rfl),(sm rfl),trivial⟩ ⟨⟨_,rfl,rfl,(.same rfl)⟩,trivial⟩ rfl
        ·obtain ⟨out27,rfl⟩ : ∃ x,x = z:=⟨_,rfl⟩
         refine Tr.rgn (md rfl (Rn.bin trivial rfl rfl rfl (md rfl (Rn.nil ?_))))
         exact ⟨_,h,(by exact Qm ⟨(kPtr rfl),(sm rfl),(sm rfl),(sm rfl),trivial⟩ ⟨⟨_,rfl,rfl,(.same rfl)⟩,trivial⟩ rfl)⟩
       ·replace h:=ifF hb13 h
        refine Tr.exit ?_
        replace h:=si h; subst h
        exact Qh [] ⟨(kPtr rfl),(sm rfl),(sm rfl),trivial⟩ ⟨⟨_,rfl,rfl,(.same rfl)⟩,trivial⟩ rfl
     ·obtain ⟨out28,rfl⟩ : ∃ x,x = z:=⟨_,rfl⟩
      refine Tr.rgn (md rfl (Rn.bin trivial rfl rfl rfl (md rfl (Rn.nil ?_))))
      exact ⟨_,h,(by exact Qm ⟨(kPtr rfl),(sm rfl),(sm rfl),trivial⟩ ⟨⟨_,rfl,rfl,(.same rfl)⟩,trivial⟩ rfl)⟩
    ·replace h:=ifF hb9 h
     refine Tr.exit ?_
     replace h:=si h; subst h
     exact Qh [] ⟨(sm rfl),trivial⟩ ⟨⟨_,rfl,rfl,(.same rfl)⟩,trivial⟩ rfl
  ·obtain ⟨out29,rfl⟩ : ∃ x,x = z:=⟨_,rfl⟩
   refine sr ((Rn.movTO trivial rfl (Rn.movTO trivial rfl (nt ((Tr.ret ?_))))))
   replace h:=si h; subst h
   exact ⟨.inr rfl,(.own 1 (List.map (eI .i64) out29)),rfl,fun _ _ _ _ h=>h,trivial,fun k hk=>Qf hk⟩
theorem Qsh {P : Program} {c : Nat} (hcf : Qt P c = some Qg2) (fuel : Nat) : Qg1 P c (Qb1 fuel):=by
 intro l1 n2 r h
 refine Qcy hcf rfl fun Γ M hP hnt hM=>?_
 subst hP
 refine Tr.init [(0,(l_ l1)),(1,(i_ n2))] rfl ?_
 unfold Qb1 at h
 unfold Qg2
 refine sr ((md rfl (nt ((Tr.seq (sr ((md rfl (nt ((Tr.block ?_)))))))))))
 refine Tr.loop (mk:=fun (i3 : Int)=>⟨look [(0,(l_ l1)),(1,(i_ n2)),(5,(i_ i3))],Qp Γ.n0 (bxs []) M,Γ.n0 + 19⟩) h (by exact Qm ⟨(sm rfl),(sm rfl),(sm rfl),trivial⟩ trivial rfl) (fun k4 z h=>?_)
 ·obtain ⟨i3,rfl⟩ : ∃ x,x = z:=⟨_,rfl⟩
  replace h : _ = some _:=h
  refine Tr.seq (sr ((md rfl (md rfl (Rn.lenD trivial rfl (Rn.bin trivial rfl rfl rfl (Rn.nil (toN ?_))))))))
  refine Tr.cond rfl (fun hb5=>?_) (fun hb5=>?_)
  ·replace h:=ifT hb5 h
   refine Tr.skip (toN (Tr.seq (Tr.block (sr ((md rfl (md rfl ?_)))))))
   obtain ⟨x6,h7,h⟩:=bnd h
   refine Rn.idxD (e:=(eI .i64)) trivial rfl rfl h7 (Rn.loadC (x:=.int .i64 x6) trivial rfl (md rfl (Rn.bin trivial rfl rfl rfl (Rn.nil (toN ?_)))))
   refine Tr.cond rfl (fun hb8=>?_) (fun hb8=>?_)
   ·replace h:=bT hb8 h
    refine sr ((md rfl (md rfl (nt ((Tr.ret ?_))))))
    replace h:=si h; subst h
    exact ⟨.inr rfl,(i_ i3),rfl,fun _ _ _ _ h=>h,trivial,fun k hk=>Qf hk⟩
   ·replace h:=bF hb8 h
    refine Tr.skip (toN (Tr.rgn (md rfl (Rn.bin trivial rfl rfl rfl (md rfl (Rn.nil ?_))))))
    exact ⟨_,h,(by exact Qm ⟨(sm rfl),(sm rfl),(sm rfl),trivial⟩ trivial rfl)⟩
  ·replace h:=ifF hb5 h
   refine Tr.exit (toN (sr ((md rfl (nt ((Tr.ret ?_)))))))
   replace h:=si h; subst h
   exact ⟨.inr rfl,(i_ (-1)),rfl,fun _ _ _ _ h=>h,trivial,fun k hk=>Qf hk⟩
theorem Qnv {P : Program} {c : Nat} {Q0 : (List Int) → Option Qb} {Qs : Qb → Int → Int → Option Int} {Qbc : (List Int) → Int → Option Bool} {Qb0 : Qb → Option ((List Int))} {Qb1 : (List Int) → Int → Option Int}
    (H_overseerref03_Empty : Qe5 P 28 Q0)
    (H_overseerref03_Step : Qed P 40 Qs)
    (H_overseerref03_has : Qf1 P 48 Qbc)
    (H_overseerref03_Found : Qgz P 51 Qb0)
    (H_overseerref03_index : Qg1 P 52 Qb1) (hcf : Qt P c = some Qfe) (fuel : Nat) : Qfd P c (Qbg Q0 Qs Qbc Qb0 Qb1 fuel):=by
 intro a1 r h
 refine Qcy hcf rfl fun Γ M hP hnt hM=>?_
 subst hP
 refine Tr.init [(0,(Qa a1))] rfl ?_
 unfold Qbg at h
 unfold Qfe
 refine sr ((Rn.box (v:=(Qa a1)) (cs:=(Qd a1)) trivial rfl rfl rfl rfl rfl (Rn.alloc trivial rfl (nt ((sr ((Rn.load (v:=(Qa a1)) trivial rfl (Qk rfl) rfl rfl ?_))))))))
 obtain ⟨x3,h2,h⟩:=bnd h
 refine Rn.call (args:=[(Qa a1)]) trivial rfl (H_overseerref03_Found _ _ h2) pc9 (Rn.movTO trivial rfl (nt ((sr ((Rn.fldP (o':=0) trivial rfl rfl (Rn.load (v:=(l_ a1.Alphabet)) trivial rfl (Qk rfl) rfl rfl ?_)))))))
 obtain ⟨x5,h4,h⟩:=bnd h
 refine Rn.call (args:=[(l_ a1.Alphabet)]) trivial rfl (H_overseerref03_Empty _ _ h4) pc9 (Rn.alloc trivial rfl (Rn.storeT (v:=.agg [(l_ x5.Alphabet),(i_ x5.States),.nils 1,.nils 3]) (ds:=[(l_ x5.Alphabet),(i_ x5.States),.nils 1,.nils 3]) (cs':=[(l_ x5.Alphabet),(i_ x5.States),.nils 1,.nils 3]) trivial rfl rfl rfl rfl rfl rfl rfl (nt ((sr ((Rn.mov (v:=(l_ x3)) trivial rfl (Rn.lenD trivial rfl (Rn.fldP (o':=1) trivial rfl rfl (Rn.store (v:=(i_ (x3.length : Int))) (cs':=[(l_ x5.Alphabet),(i_ (x3.length : Int)),.nils 1,.nils 3]) trivial rfl rfl rfl rfl rfl rfl (Rn.nil (toN ?_))))))))))))
 refine Tr.cutB (fun ((c42,c43,c44,out45,out46) : (List Int) × (List Int) × (List Qe) × (List Int) × (List Qe))=>⟨look [(2,.ptr (Γ.n0 + 2) 0),(4,.ptr (Γ.n0 + 4) 0)],Qp Γ.n0 (bxs [(1,.cells ((Qd a1))),(2,.cells ([.own 1 (List.map (eI .i64) c42),(i_ 0),.own 1 (List.map (eI .i64) c43),.own 3 (List.map Qc c44)])),(4,.cells ([(l_ x5.Alphabet),(i_ (x3.length : Int)),.own 1 (List.map (eI .i64) out45),.own 3 (List.map Qc out46)]))]) M,Γ.n0 + 71⟩) h (fun z h=>?_) (fun z h=>?_)
 ·refine sr ((md rfl (nt ((Tr.block ?_)))))
  refine Tr.loop (mk:=fun ((i6,c7,c8,c9,out10,out11) : Int × (List Int) × (List Int) × (List Qe) × (List Int) × (List Qe))=>⟨look [(1,.ptr (Γ.n0 + 1) 0),(2,.ptr (Γ.n0 + 2) 0),(3,.own 1 (List.map (eI .i64) x3)),(4,.ptr (Γ.n0 + 4) 0),(5,(i_ i6))],Qp Γ.n0 (bxs [(1,.cells ((Qd a1))),(2,.cells ([.own 1 (List.map (eI .i64) c7),(i_ 0),.own 1 (List.map (eI .i64) c8),.own 3 (List.map Qc c9)])),(4,.cells ([(l_ x5.Alphabet),(i_ (x3.length : Int)),.own 1 (List.map (eI .i64) out10),.own 3 (List.map Qc out11)]))]) M,Γ.n0 + 71⟩) h (by exact Qm ⟨(kPtr rfl),(kPtr rfl),(sm rfl),(kPtr rfl),(sm rfl),trivial⟩ ⟨⟨_,rfl,rfl,(.same rfl)⟩,⟨_,rfl,rfl,(.cons (WkV.nilsO _) (.cons (sm rfl) (.cons (WkV.nilsO _) (.cons (WkV.nilsO _) .nil))))⟩,⟨_,rfl,rfl,(.cons (sm rfl) (.cons (sm rfl) (.cons (WkV.nilsO _) (.cons (WkV.nilsO _) .nil))))⟩,trivial⟩ rfl) (fun k12 z h=>?_)
  ·obtain ⟨i6,c7,c8,c9,out10,out11⟩:=z
   replace h : _ = some _:=h
   refine Tr.seq (sr ((md rfl (Rn.mov (v:=(l_ x3)) trivial rfl (Rn.lenD trivial rfl (Rn.bin trivial rfl rfl rfl (Rn.nil (toN ?_))))))))
   refine Tr.cond rfl (fun hb13=>?_) (fun hb13=>?_)
   ·replace h:=ifT hb13 h
    refine Tr.skip (toN ?_)
    refine Tr.cutB (fun ((out40,out41) : (List Int) × (List Qe))=>⟨look [(1,.ptr (Γ.n0 + 1) 0),(2,.ptr (Γ.n0 + 2) 0),(3,.own 1 (List.map (eI .i64) x3)),(4,.ptr (Γ.n0 + 4) 0),(5,(i_ i6))],Qp Γ.n0 (bxs [(1,.cells ((Qd a1))),(2,.cells ([.own 1 (List.map (eI .i64) c7),(i_ 0),.own 1 (List.map (eI .i64) c8),.own 3 (List.map Qc c9)])),(4,.cells ([(l_ x5.Alphabet),(i_ (x3.length : Int)),.own 1 (List.map (eI .i64) out40),.own 3 (List.map Qc out41)]))]) M,Γ.n0 + 71⟩) h (fun z h=>?_) (fun z h=>?_)
    ·refine Tr.block ?_
     refine Tr.cutB (fun (out21 : List Int)=>⟨look [(1,.ptr (Γ.n0 + 1) 0),(2,.ptr (Γ.n0 + 2) 0),(3,.own 1 (List.map (eI .i64) x3)),(4,.ptr (Γ.n0 + 4) 0),(5,(i_ i6))],Qp Γ.n0 (bxs [(1,.cells ((Qd a1))),(2,.cells ([.own 1 (List.map (eI .i64) c7),(i_ 0),.own 1 (List.map (eI .i64) c8),.own 3 (List.map Qc c9)])),(4,.cells ([(l_ x5.Alphabet),(i_ (x3.length : Int)),.own 1 (List.map (eI .i64) out21),.own 3 (List.map Qc out11)]))]) M,Γ.n0 + 71⟩) h (fun z h=>?_) (fun z h=>?_)
     ·refine Tr.seq ?_
      refine Tr.rgnD (by decide) ?_
      refine Rn.fldP (o':=2) trivial rfl rfl (Rn.load (v:=(l_ a1.Marked)) trivial rfl (Qk rfl) rfl rfl (Rn.mov (v:=(l_ x3)) trivial rfl (md rfl ?_)))
      obtain ⟨x14,h15,h⟩:=bnd h
      refine Rn.idxD (e:=(eI .i64)) trivial rfl rfl h15 (Rn.loadC (x:=.int .i64 x14) trivial rfl ?_)
      obtain ⟨x17,h16,h⟩:=bnd h
      refine Rn.call (args:=[(l_ a1.Marked),(i_ x14)]) trivial rfl (H_overseerref03_has _ _ _ h16) pc0 ?_
      refine Rn.nil ⟨rfl,?_⟩
      refine toN ?_
      refine Tr.cond rfl (fun hb18=>?_) (fun hb18=>?_)
      ·replace h:=bT hb18 h
       refine Tr.rgn (Rn.fldP (o':=2) trivial rfl rfl (Rn.loadT (cs':=[(l_ x5.Alphabet),(i_ (x3.length : Int)),(l_ out10),.own 3 (List.map Qc out11)]) trivial rfl rfl rfl rfl (md rfl (Rn.bslice (xs:=[(i_ i6)]) (cs:=[(i_ i6)]) trivial rfl rfl rfl rfl ?_))))
       obtain ⟨x19,h20,h⟩:=bnd h
       refine Rn.app (e:=(eI .i64)) trivial rfl rfl rfl (Qcp rfl rfl rfl) h20 rfl (Rn.fldP (o':=2) trivial rfl rfl (Rn.storeO (cs':=[(l_ x5.Alphabet),(i_ (x3.length : Int)),.own 1 (List.map (eI .i64) x19),.own 3 (List.map Qc out11)]) trivial rfl rfl rfl rfl rfl (Rn.nil ?_)))
       replace h:=si h; subst h
       exact Qh [32] ⟨(kPtr rfl),(kPtr rfl),(sm rfl),(kPtr rfl),(sm rfl),trivial⟩ ⟨⟨_,rfl,rfl,(.same rfl)⟩,⟨_,rfl,rfl,(.same rfl)⟩,⟨_,rfl,rfl,(.same rfl)⟩,trivial⟩ rfl
      ·replace h:=bF hb18 h
       refine Tr.skip ?_
       replace h:=si h; subst h
       exact Qh [] ⟨(kPtr rfl),(kPtr rfl),(sm rfl),(kPtr rfl),(sm rfl),trivial⟩ ⟨⟨_,rfl,rfl,(.same rfl)⟩,⟨_,rfl,rfl,(.same rfl)⟩,⟨_,rfl,rfl,(.same rfl)⟩,trivial⟩ rfl
     ·obtain ⟨out21,rfl⟩ : ∃ x,x = z:=⟨_,rfl⟩
      refine sr ((md rfl (nt ((Tr.block ?_)))))
      refine Tr.loop (mk:=fun ((k22,out23) : Int × (List Qe))=>⟨look [(1,.ptr (Γ.n0 + 1) 0),(2,.ptr (Γ.n0 + 2) 0),(3,.own 1 (List.map (eI .i64) x3)),(4,.ptr (Γ.n0 + 4) 0),(5,(i_ i6)),(6,(i_ k22))],Qp Γ.n0 (bxs [(1,.cells ((Qd a1))),(2,.cells ([.own 1 (List.map (eI .i64) c7),(i_ 0),.own 1 (List.map (eI .i64) c8),.own 3 (List.map Qc c9)])),(4,.cells ([(l_ x5.Alphabet),(i_ (x3.length : Int)),.own 1 (List.map (eI .i64) out21),.own 3 (List.map Qc out23)]))]) M,Γ.n0 + 71⟩) h (by exact Qm ⟨(kPtr rfl),(kPtr rfl),(sm rfl),(kPtr rfl),(sm rfl),(sm rfl),trivial⟩ ⟨⟨_,rfl,rfl,(.same rfl)⟩,⟨_,rfl,rfl,(.same rfl)⟩,⟨_,rfl,rfl,(.same rfl)⟩,trivial⟩ rfl) (fun k24 z h=>?_)
      ·obtain ⟨k22,out23⟩:=z
       replace h : _ = some _:=h
       refine Tr.seq (sr ((md rfl (Rn.fldP (o':=0) trivial rfl rfl (Rn.load (v:=(l_ a1.Alphabet)) trivial rfl (Qk rfl) rfl rfl (Rn.lenD trivial rfl (Rn.bin trivial rfl rfl rfl (Rn.nil (toN ?_)))))))))
       refine Tr.cond rfl (fun hb25=>?_) (fun hb25=>?_)
       ·replace h:=ifT hb25 h
        refine Tr.skip (toN ?_)
        refine Tr.cutB (fun (out39 : List Qe)=>⟨look [(1,.ptr (Γ.n0 + 1) 0),(2,.ptr (Γ.n0 + 2) 0),(3,.own 1 (List.map (eI .i64) x3)),(4,.ptr (Γ.n0 + 4) 0),(5,(i_ i6)),(6,(i_ k22))],Qp Γ.n0 (bxs [(1,.cells ((Qd a1))),(2,.cells ([.own 1 (List.map (eI .i64) c7),(i_ 0),.own 1 (List.map (eI .i64) c8),.own 3 (List.map Qc c9)])),(4,.cells ([(l_ x5.Alphabet),(i_ (x3.length : Int)),.own 1 (List.map (eI .i64) out21),.own 3 (List.map Qc out39)]))]) M,Γ.n0 + 71⟩) h (fun z h=>?_) (fun z h=>?_)
        ·refine Tr.block (Tr.seq ?_)
         refine Tr.rgnD (by decide) ?_
         refine Rn.load (v:=(Qa a1)) trivial rfl (Qk rfl) rfl rfl (Rn.mov (v:=(l_ x3)) trivial rfl (md rfl ?_))
         obtain ⟨x26,h27,h⟩:=bnd h
         refine Rn.idxD (e:=(eI .i64)) trivial rfl rfl h27 (Rn.loadC (x:=.int .i64 x26) trivial rfl (Rn.fldP (o':=0) trivial rfl rfl (Rn.load (v:=(l_ a1.Alphabet)) trivial rfl (Qk rfl) rfl rfl (md rfl ?_))))
         obtain ⟨x28,h29,h⟩:=bnd h
         refine Rn.idxD (e:=(eI .i64)) trivial rfl rfl h29 (Rn.loadC (x:=.int .i64 x28) trivial rfl ?_)
         obtain ⟨x31,h30,h⟩:=bnd h
         refine Rn.call (args:=[(Qa a1),(i_ x26),(i_ x28)]) trivial rfl (H_overseerref03_Step _ _ _ _ h30) pc0 (md rfl ?_)
         refine Rn.nil ⟨rfl,?_⟩
         refine toN (sr ((md rfl (Rn.bin trivial rfl rfl rfl (Rn.nil (toN ?_))))))
         refine Tr.cond rfl (fun hb32=>?_) (fun hb32=>?_)
         ·replace h:=ifT hb32 h
          refine Tr.rgnD (by decide) ?_
          refine Rn.fldP (o':=3) trivial rfl rfl (Rn.loadT (cs':=[(l_ x5.Alphabet),(i_ (x3.length : Int)),.own 1 (List.map (eI .i64) out21),.d (.lst 3 (List.map Qc out23))]) trivial rfl rfl rfl rfl (md rfl (Rn.fldP (o':=0) trivial rfl rfl (Rn.load (v:=(l_ a1.Alphabet)) trivial rfl (Qk rfl) rfl rfl (md rfl ?_)))))
          obtain ⟨x33,h34,h⟩:=bnd h
          refine Rn.idxD (e:=(eI .i64)) trivial rfl rfl h34 (Rn.loadC (x:=.int .i64 x33) trivial rfl (Rn.mov (v:=(l_ x3)) trivial rfl (md rfl ?_)))
          obtain ⟨x36,h35,h⟩:=bnd h
          refine Rn.call (args:=[(l_ x3),(i_ x31)]) trivial rfl (H_overseerref03_index _ _ _ h35) pc2 (Rn.build (v:=.agg [(i_ i6),(i_ x33),(i_ x36)]) trivial rfl (Rn.bslice (xs:=[.agg [(i_ i6),(i_ x33),(i_ x36)]]) (cs:=[(i_ i6),(i_ x33),(i_ x36)]) trivial rfl rfl rfl rfl ?_))
          obtain ⟨x37,h38,h⟩:=bnd h
          refine Rn.app (e:=Qc) trivial rfl rfl rfl (Qcp rfl rfl rfl) h38 rfl (Rn.fldP (o':=3) trivial rfl rfl (Rn.storeO (cs':=[(l_ x5.Alphabet),(i_ (x3.length : Int)),.own 1 (List.map (eI .i64) out21),.own 3 (List.map Qc x37)]) trivial rfl rfl rfl rfl rfl ?_))
          refine Rn.nil ⟨rfl,?_⟩
          replace h:=si h; subst h
          exact Qh [67] ⟨(kPtr rfl),(kPtr rfl),(sm rfl),(kPtr rfl),(sm rfl),(sm rfl),trivial⟩ ⟨⟨_,rfl,rfl,(.same rfl)⟩,⟨_,rfl,rfl,(.same rfl)⟩,⟨_,rfl,rfl,(.same rfl)⟩,trivial⟩ rfl
         ·replace h:=ifF hb32 h
          refine Tr.skip ?_
          replace h:=si h; subst h
          exact Qh [] ⟨(kPtr rfl),(kPtr rfl),(sm rfl),(kPtr rfl),(sm rfl),(sm rfl),trivial⟩ ⟨⟨_,rfl,rfl,(.same rfl)⟩,⟨_,rfl,rfl,(.same rfl)⟩,⟨_,rfl,rfl,(.same rfl)⟩,trivial⟩ rfl
        ·obtain ⟨out39,rfl⟩ : ∃ x,x = z:=⟨_,rfl⟩
         refine Tr.rgn (md rfl (Rn.bin trivial rfl rfl rfl (md rfl (Rn.nil ?_))))
         exact ⟨_,h,(by exact Qm ⟨(kPtr rfl),(kPtr rfl),(sm rfl),(kPtr rfl),(sm rfl),(sm rfl),trivial⟩ ⟨⟨_,rfl,rfl,(.same rfl)⟩,⟨_,rfl,rfl,(.same rfl)⟩,⟨_,rfl,rfl,(.same rfl)⟩,trivial⟩ rfl)⟩
       ·replace h:=ifF hb25 h
        refine Tr.exit ?_
        replace h:=si h; subst h
        exact Qh [] ⟨(kPtr rfl),(kPtr rfl),(sm rfl),(kPtr rfl),(sm rfl),trivial⟩ ⟨⟨_,rfl,rfl,(.same rfl)⟩,⟨_,rfl,rfl,(.same rfl)⟩,⟨_,rfl,rfl,(.same rfl)⟩,trivial⟩ rfl
    ·obtain ⟨out40,out41⟩:=z
     refine Tr.rgn (md rfl (Rn.bin trivial rfl rfl rfl (md rfl (Rn.nil ?_))))
     exact ⟨_,h,(by exact Qm ⟨(kPtr rfl),(kPtr rfl),(sm rfl),(kPtr rfl),(sm rfl),trivial⟩ ⟨⟨_,rfl,rfl,(.same rfl)⟩,⟨_,rfl,rfl,(.same rfl)⟩,⟨_,rfl,rfl,(.same rfl)⟩,trivial⟩ rfl)⟩
   ·replace h:=ifF hb13 h
    refine Tr.exit ?_
    replace h:=si h; subst h
    exact Qh [] ⟨(kPtr rfl),(kPtr rfl),trivial⟩ ⟨⟨_,rfl,rfl,(.same rfl)⟩,⟨_,rfl,rfl,(.same rfl)⟩,⟨_,rfl,rfl,(.same rfl)⟩,trivial⟩ rfl
 ·obtain ⟨c42,c43,c44,out45,out46⟩:=z
  refine sr ((Rn.load (v:=.agg [(l_ x5.Alphabet),(i_ (x3.length : Int)),(l_ out45),.d (.lst 3 (List.map Qc out46))]) trivial rfl (Qk rfl) rfl rfl (Rn.storeT (v:=.agg [(l_ x5.Alphabet),(i_ (x3.length : Int)),(l_ out45),.d (.lst 3 (List.map Qc out46))]) (ds:=[(l_ x5.Alphabet),(i_ (x3.length : Int)),(l_ out45),.d (.lst 3 (List.map Qc out46))]) (cs':=[(l_ x5.Alphabet),(i_ (x3.length : Int)),(l_ out45),.d (.lst 3 (List.map Qc out46))]) trivial rfl rfl rfl rfl rfl rfl rfl (nt ((Tr.ret ?_))))))
  replace h:=si h; subst h
  exact ⟨.inr rfl,(.agg [(l_ x5.Alphabet),(i_ (x3.length : Int)),(l_ out45),.d (.lst 3 (List.map Qc out46))]),Qhe rfl rfl rfl rfl,fun _ _ _ _ h=>h,⟨trivial,trivial,trivial,trivial,trivial⟩,fun k hk=>Qf hk⟩
theorem Qvu {P : Program} {c : Nat} {Q0 : (List Int) → Option Qb} {Qbg : Qb → Option Qb}
    (H_overseerref03_Empty : Qe5 P 28 Q0)
    (H_overseerref03_Canonical : Qfd P 29 Qbg) (hcf : Qt P c = some Qho) (fuel : Nat) : Qhn P c (Qb3 Q0 Qbg fuel):=by
 intro alphabet1 g2 r h
 refine Qcy hcf rfl fun Γ M hP hnt hM=>?_
 subst hP
 refine Tr.init [(0,(l_ alphabet1)),(1,.agg [.d (.int .u8 g2.States),.d (.int .u8 g2.Marks),.d (.int .u8 g2.To.1.1),.d (.int .u8 g2.To.1.2.1),.d (.int .u8 g2.To.1.2.2.1),.d (.int .u8 g2.To.1.2.2.2.1),.d (.int .u8 g2.To.1.2.2.2.2),.d (.int .u8 g2.To.2.1.1),.d (.int .u8 g2.To.2.1.2.1),.d (.int .u8 g2.To.2.1.2.2.1),.d (.int .u8 g2.To.2.1.2.2.2.1),.d (.int .u8 g2.To.2.1.2.2.2.2),.d (.int .u8 g2.To.2.2.1.1),.d (.int .u8 g2.To.2.2.1.2.1),.d (.int .u8 g2.To.2.2.1.2.2.1),.d (.int .u8 g2.To.2.2.1.2.2.2.1),.d (.int .u8 g2.To.2.2.1.2.2.2.2),.d (.int .u8 g2.To.2.2.2.1.1),.d (.int .u8 g2.To.2.2.2.1.2.1),.d (.int .u8 g2.To.2.2.2.1.2.2.1),.d (.int .u8 g2.To.2.2.2.1.2.2.2.1),.d (.int .u8 g2.To.2.2.2.1.2.2.2.2),.d (.int .u8 g2.To.2.2.2.2.1),.d (.int .u8 g2.To.2.2.2.2.2.1),.d (.int .u8 g2.To.2.2.2.2.2.2.1),.d (.int .u8 g2.To.2.2.2.2.2.2.2.1),.d (.int .u8 g2.To.2.2.2.2.2.2.2.2)])] rfl ?_
 unfold Qb3 at h
 unfold Qho
 refine sr ((Rn.box (v:=.agg [.d (.int .u8 g2.States),.d (.int .u8 g2.Marks),.d (.int .u8 g2.To.1.1),.d (.int .u8 g2.To.1.2.1),.d (.int .u8 g2.To.1.2.2.1),.d (.int .u8 g2.To.1.2.2.2.1),.d (.int .u8 g2.To.1.2.2.2.2),.d (.int .u8 g2.To.2.1.1),.d (.int .u8 g2.To.2.1.2.1),.d (.int .u8 g2.To.2.1.2.2.1),.d (.int .u8 g2.To.2.1.2.2.2.1),.d (.int .u8 g2.To.2.1.2.2.2.2),.d (.int .u8 g2.To.2.2.1.1),.d (.int .u8 g2.To.2.2.1.2.1),.d (.int .u8 g2.To.2.2.1.2.2.1),.d (.int .u8 g2.To.2.2.1.2.2.2.1),.d (.int .u8 g2.To.2.2.1.2.2.2.2),.d (.int .u8 g2.To.2.2.2.1.1),.d (.int .u8 g2.To.2.2.2.1.2.1),.d (.int .u8 g2.To.2.2.2.1.2.2.1),.d (.int .u8 g2.To.2.2.2.1.2.2.2.1),.d (.int .u8 g2.To.2.2.2.1.2.2.2.2),.d (.int .u8 g2.To.2.2.2.2.1),.d (.int .u8 g2.To.2.2.2.2.2.1),.d (.int .u8 g2.To.2.2.2.2.2.2.1),.d (.int .u8 g2.To.2.2.2.2.2.2.2.1),.d (.int .u8 g2.To.2.2.2.2.2.2.2.2)]) (cs:=[.d (.int .u8 g2.States),.d (.int .u8 g2.Marks),.d (.int .u8 g2.To.1.1),.d (.int .u8 g2.To.1.2.1),.d (.int .u8 g2.To.1.2.2.1),.d (.int .u8 g2.To.1.2.2.2.1),.d (.int .u8 g2.To.1.2.2.2.2),.d (.int .u8 g2.To.2.1.1),.d (.int .u8 g2.To.2.1.2.1),.d (.int .u8 g2.To.2.1.2.2.1),.d (.int .u8 g2.To.2.1.2.2.2.1),.d (.int .u8 g2.To.2.1.2.2.2.2),.d (.int .u8 g2.To.2.2.1.1),.d (.int .u8 g2.To.2.2.1.2.1),.d (.int .u8 g2.To.2.2.1.2.2.1),.d (.int .u8 g2.To.2.2.1.2.2.2.1),.d (.int .u8 g2.To.2.2.1.2.2.2.2),.d (.int .u8 g2.To.2.2.2.1.1),.d (.int .u8 g2.To.2.2.2.1.2.1),.d (.int .u8 g2.To.2.2.2.1.2.2.1),.d (.int .u8 g2.To.2.2.2.1.2.2.2.1),.d (.int .u8 g2.To.2.2.2.1.2.2.2.2),.d (.int .u8 g2.To.2.2.2.2.1),.d (.int .u8 g2.To.2.2.2.2.2.1),.d (.int .u8 g2.To.2.2.2.2.2.2.1),.d (.int .u8 g2.To.2.2.2.2.2.2.2.1),.d (.int .u8 g2.To.2.2.2.2.2.2.2.2)]) trivial rfl rfl rfl rfl rfl (Rn.alloc trivial rfl (nt ((Tr.seq (sr ((Rn.fldP (o':=0) trivial rfl rfl (Rn.load (v:=.d (.int .u8 g2.States)) trivial rfl (Qk rfl) rfl rfl (Rn.bin trivial rfl rfl rfl (Rn.nil (toN ?_)))))))))))))
 refine Tr.cond rfl (fun hb3=>?_) (fun hb3=>?_)
 ·replace h:=ifT hb3 h
  refine sr ((md rfl ?_))
  obtain ⟨x5,h4,h⟩:=bnd h
  refine Rn.call (args:=[(l_ alphabet1)]) trivial rfl (H_overseerref03_Empty _ _ h4) pc9 (Rn.storeT (v:=.agg [(l_ x5.Alphabet),(i_ x5.States),.nils 1,.nils 3]) (ds:=[(l_ x5.Alphabet),(i_ x5.States),.nils 1,.nils 3]) (cs':=[(l_ x5.Alphabet),(i_ x5.States),.nils 1,.nils 3]) trivial rfl rfl rfl rfl rfl rfl rfl (nt ((Tr.ret ?_))))
  replace h:=si h; subst h
  exact ⟨.inr rfl,(.agg [(l_ x5.Alphabet),(i_ x5.States),.nils 1,.nils 3]),Qhe rfl rfl rfl rfl,(WkV.agg (.cons (.same rfl) (.cons (.same rfl) (.cons (WkV.nilsD _) (.cons (WkV.nilsD _) .nil))))).rd,⟨trivial,trivial,trivial,trivial,trivial⟩,fun k hk=>Qf hk⟩
 ·replace h:=ifF hb3 h
  refine Tr.skip (toN (sr ((md rfl ?_))))
  obtain ⟨x7,h6,h⟩:=bnd h
  refine Rn.call (args:=[(l_ alphabet1)]) trivial rfl (H_overseerref03_Empty _ _ h6) pc9 (Rn.alloc trivial rfl (Rn.storeT (v:=.agg [(l_ x7.Alphabet),(i_ x7.States),.nils 1,.nils 3]) (ds:=[(l_ x7.Alphabet),(i_ x7.States),.nils 1,.nils 3]) (cs':=[(l_ x7.Alphabet),(i_ x7.States),.nils 1,.nils 3]) trivial rfl rfl rfl rfl rfl rfl rfl (nt ((sr ((Rn.fldP (o':=0) trivial rfl rfl (Rn.load (v:=.d (.int .u8 g2.States)) trivial rfl (Qk rfl) rfl rfl (Rn.bin trivial rfl rfl rfl (Rn.conv trivial rfl (Rn.bin trivial rfl rfl rfl (Rn.fldP (o':=1) trivial rfl rfl (Rn.store (v:=(i_ (IntKind.wrap .i64 (1 + (IntKind.wrap .i64 (Int.tmod g2.States 5)))))) (cs':=[(l_ x7.Alphabet),(i_ (IntKind.wrap .i64 (1 + (IntKind.wrap .i64 (Int.tmod g2.States 5))))),.nils 1,.nils 3]) trivial rfl rfl rfl rfl rfl rfl (Rn.nil (toN ?_)))))))))))))))
  refine Tr.cutB (fun ((c43,c44,c45,a46,a47,a48) : (List Int) × (List Int) × (List Qe) × Int × (List Int) × (List Qe))=>⟨look [(4,.ptr (Γ.n0 + 4) 0),(5,.ptr (Γ.n0 + 5) 0)],Qp Γ.n0 (bxs [(3,.cells ([.d (.int .u8 g2.States),.d (.int .u8 g2.Marks),.d (.int .u8 g2.To.1.1),.d (.int .u8 g2.To.1.2.1),.d (.int .u8 g2.To.1.2.2.1),.d (.int .u8 g2.To.1.2.2.2.1),.d (.int .u8 g2.To.1.2.2.2.2),.d (.int .u8 g2.To.2.1.1),.d (.int .u8 g2.To.2.1.2.1),.d (.int .u8 g2.To.2.1.2.2.1),.d (.int .u8 g2.To.2.1.2.2.2.1),.d (.int .u8 g2.To.2.1.2.2.2.2),.d (.int .u8 g2.To.2.2.1.1),.d (.int .u8 g2.To.2.2.1.2.1),.d (.int .u8 g2.To.2.2.1.2.2.1),.d (.int .u8 g2.To.2.2.1.2.2.2.1),.d (.int .u8 g2.To.2.2.1.2.2.2.2),.d (.int .u8 g2.To.2.2.2.1.1),.d (.int .u8 g2.To.2.2.2.1.2.1),.d (.int .u8 g2.To.2.2.2.1.2.2.1),.d (.int .u8 g2.To.2.2.2.1.2.2.2.1),.d (.int .u8 g2.To.2.2.2.1.2.2.2.2),.d (.int .u8 g2.To.2.2.2.2.1),.d (.int .u8 g2.To.2.2.2.2.2.1),.d (.int .u8 g2.To.2.2.2.2.2.2.1),.d (.int .u8 g2.To.2.2.2.2.2.2.2.1),.d (.int .u8 g2.To.2.2.2.2.2.2.2.2)])),(4,.cells ([.own 1 (List.map (eI .i64) c43),(i_ 0),.own 1 (List.map (eI .i64) c44),.own 3 (List.map Qc c45)])),(5,.cells ([(l_ x7.Alphabet),(i_ a46),.own 1 (List.map (eI .i64) a47),.own 3 (List.map Qc a48)]))]) M,Γ.n0 + 79⟩) h (fun z h=>?_) (fun z h=>?_)
  ·refine sr ((md rfl (nt ((Tr.block ?_)))))
   refine Tr.loop (mk:=fun ((i8,c9,c10,c11,a12,a13,a14) : Int × (List Int) × (List Int) × (List Qe) × Int × (List Int) × (List Qe))=>⟨look [(0,(l_ alphabet1)),(3,.ptr (Γ.n0 + 3) 0),(4,.ptr (Γ.n0 + 4) 0),(5,.ptr (Γ.n0 + 5) 0),(6,(i_ i8))],Qp Γ.n0 (bxs [(3,.cells ([.d (.int .u8 g2.States),.d (.int .u8 g2.Marks),.d (.int .u8 g2.To.1.1),.d (.int .u8 g2.To.1.2.1),.d (.int .u8 g2.To.1.2.2.1),.d (.int .u8 g2.To.1.2.2.2.1),.d (.int .u8 g2.To.1.2.2.2.2),.d (.int .u8 g2.To.2.1.1),.d (.int .u8 g2.To.2.1.2.1),.d (.int .u8 g2.To.2.1.2.2.1),.d (.int .u8 g2.To.2.1.2.2.2.1),.d (.int .u8 g2.To.2.1.2.2.2.2),.d (.int .u8 g2.To.2.2.1.1),.d (.int .u8 g2.To.2.2.1.2.1),.d (.int .u8 g2.To.2.2.1.2.2.1),.d (.int .u8 g2.To.2.2.1.2.2.2.1),.d (.int .u8 g2.To.2.2.1.2.2.2.2),.d (.int .u8 g2.To.2.2.2.1.1),.d (.int .u8 g2.To.2.2.2.1.2.1),.d (.int .u8 g2.To.2.2.2.1.2.2.1),.d (.int .u8 g2.To.2.2.2.1.2.2.2.1),.d (.int .u8 g2.To.2.2.2.1.2.2.2.2),.d (.int .u8 g2.To.2.2.2.2.1),.d (.int .u8 g2.To.2.2.2.2.2.1),.d (.int .u8 g2.To.2.2.2.2.2.2.1),.d (.int .u8 g2.To.2.2.2.2.2.2.2.1),.d (.int .u8 g2.To.2.2.2.2.2.2.2.2)])),(4,.cells ([.own 1 (List.map (eI .i64) c9),(i_ 0),.own 1 (List.map (eI .i64) c10),.own 3 (List.map Qc c11)])),(5,.cells ([(l_ x7.Alphabet),(i_ a12),.own 1 (List.map (eI .i64) a13),.own 3 (List.map Qc a14)]))]) M,Γ.n0 + 79⟩) h (by exact Qm ⟨(sm rfl),(kPtr rfl),(kPtr rfl),(kPtr rfl),(sm rfl),trivial⟩ ⟨⟨_,rfl,rfl,(.same rfl)⟩,⟨_,rfl,rfl,(.cons (WkV.nilsO _) (.cons (sm rfl) (.cons (WkV.nilsO _) (.cons (WkV.nilsO _) .nil))))⟩,⟨_,rfl,rfl,(.cons (sm rfl) (.cons (sm rfl) (.cons (WkV.nilsO _) (.cons (WkV.nilsO _) .nil))))⟩,trivial⟩ rfl) (fun k15 z h=>?_)
   ·obtain ⟨i8,c9,c10,c11,a12,a13,a14⟩:=z
    replace h : _ = some _:=h
    refine Tr.seq (sr ((md rfl (Rn.fldP (o':=1) trivial rfl rfl (Rn.load (v:=(i_ a12)) trivial rfl (Qk rfl) rfl rfl (Rn.bin trivial rfl rfl rfl (Rn.nil (toN ?_))))))))
    refine Tr.cond rfl (fun hb16=>?_) (fun hb16=>?_)
    ·replace h:=ifT hb16 h
     refine Tr.skip (toN ?_)
     refine Tr.cutB (fun ((a41,a42) : (List Int) × (List Qe))=>⟨look [(0,(l_ alphabet1)),(3,.ptr (Γ.n0 + 3) 0),(4,.ptr (Γ.n0 + 4) 0),(5,.ptr (Γ.n0 + 5) 0),(6,(i_ i8))],Qp Γ.n0 (bxs [(3,.cells ([.d (.int .u8 g2.States),.d (.int .u8 g2.Marks),.d (.int .u8 g2.To.1.1),.d (.int .u8 g2.To.1.2.1),.d (.int .u8 g2.To.1.2.2.1),.d (.int .u8 g2.To.1.2.2.2.1),.d (.int .u8 g2.To.1.2.2.2.2),.d (.int .u8 g2.To.2.1.1),.d (.int .u8 g2.To.2.1.2.1),.d (.int .u8 g2.To.2.1.2.2.1),.d (.int .u8 g2.To.2.1.2.2.2.1),.d (.int .u8 g2.To.2.1.2.2.2.2),.d (.int .u8 g2.To.2.2.1.1),.d (.int .u8 g2.To.2.2.1.2.1),.d (.int .u8 g2.To.2.2.1.2.2.1),.d (.int .u8 g2.To.2.2.1.2.2.2.1),.d (.int .u8 g2.To.2.2.1.2.2.2.2),.d (.int .u8 g2.To.2.2.2.1.1),.d (.int .u8 g2.To.2.2.2.1.2.1),.d (.int .u8 g2.To.2.2.2.1.2.2.1),.d (.int .u8 g2.To.2.2.2.1.2.2.2.1),.d (.int .u8 g2.To.2.2.2.1.2.2.2.2),.d (.int .u8 g2.To.2.2.2.2.1),.d (.int .u8 g2.To.2.2.2.2.2.1),.d (.int .u8 g2.To.2.2.2.2.2.2.1),.d (.int .u8 g2.To.2.2.2.2.2.2.2.1),.d (.int .u8 g2.To.2.2.2.2.2.2.2.2)])),(4,.cells ([.own 1 (List.map (eI .i64) c9),(i_ 0),.own 1 (List.map (eI .i64) c10),.own 3 (List.map Qc c11)])),(5,.cells ([(l_ x7.Alphabet),(i_ a12),.own 1 (List.map (eI .i64) a41),.own 3 (List.map Qc a42)]))]) M,Γ.n0 + 79⟩) h (fun z h=>?_) (fun z h=>?_)
     ·refine Tr.block ?_
      refine Tr.cutB (fun (a22 : List Int)=>⟨look [(0,(l_ alphabet1)),(3,.ptr (Γ.n0 + 3) 0),(4,.ptr (Γ.n0 + 4) 0),(5,.ptr (Γ.n0 + 5) 0),(6,(i_ i8))],Qp Γ.n0 (bxs [(3,.cells ([.d (.int .u8 g2.States),.d (.int .u8 g2.Marks),.d (.int .u8 g2.To.1.1),.d (.int .u8 g2.To.1.2.1),.d (.int .u8 g2.To.1.2.2.1),.d (.int .u8 g2.To.1.2.2.2.1),.d (.int .u8 g2.To.1.2.2.2.2),.d (.int .u8 g2.To.2.1.1),.d (.int .u8 g2.To.2.1.2.1),.d (.int .u8 g2.To.2.1.2.2.1),.d (.int .u8 g2.To.2.1.2.2.2.1),.d (.int .u8 g2.To.2.1.2.2.2.2),.d (.int .u8 g2.To.2.2.1.1),.d (.int .u8 g2.To.2.2.1.2.1),.d (.int .u8 g2.To.2.2.1.2.2.1),.d (.int .u8 g2.To.2.2.1.2.2.2.1),.d (.int .u8 g2.To.2.2.1.2.2.2.2),.d (.int .u8 g2.To.2.2.2.1.1),.d (.int .u8 g2.To.2.2.2.1.2.1),.d (.int .u8 g2.To.2.2.2.1.2.2.1),.d (.int .u8 g2.To.2.2.2.1.2.2.2.1),.d (.int .u8 g2.To.2.2.2.1.2.2.2.2),.d (.int .u8 g2.To.2.2.2.2.1),.d (.int .u8 g2.To.2.2.2.2.2.1),.d (.int .u8 g2.To.2.2.2.2.2.2.1),.d (.int .u8 g2.To.2.2.2.2.2.2.2.1),.d (.int .u8 g2.To.2.2.2.2.2.2.2.2)])),(4,.cells ([.own 1 (List.map (eI .i64) c9),(i_ 0),.own 1 (List.map (eI .i64) c10),.own 3 (List.map Qc c11)])),(5,.cells ([(l_ x7.Alphabet),(i_ a12),.own 1 (List.map (eI .i64) a22),.own 3 (List.map Qc a14)]))]) M,Γ.n0 + 79⟩) h (fun z h=>?_) (fun z h=>?_)
      ·refine sr ((Rn.fldP (o':=1) trivial rfl rfl (Rn.load (v:=.d (.int .u8 g2.Marks)) trivial rfl (Qk rfl) rfl rfl (md rfl ?_))))
       obtain ⟨s17,h18,h⟩:=bnd h
       refine Rn.bin trivial rfl rfl (Qbhc h18) (Rn.bin trivial rfl rfl rfl (Rn.bin trivial rfl rfl rfl (Rn.nil (toN ?_))))
       refine Tr.cond rfl (fun hb19=>?_) (fun hb19=>?_)
       ·replace h:=bT hb19 h
        refine Tr.rgn (Rn.fldP (o':=2) trivial rfl rfl (Rn.loadT (cs':=[(l_ x7.Alphabet),(i_ a12),(l_ a13),.own 3 (List.map Qc a14)]) trivial rfl rfl rfl rfl (md rfl (Rn.bslice (xs:=[(i_ i8)]) (cs:=[(i_ i8)]) trivial rfl rfl rfl rfl ?_))))
        obtain ⟨x20,h21,h⟩:=bnd h
        refine Rn.app (e:=(eI .i64)) trivial rfl rfl rfl (Qcp rfl rfl rfl) h21 rfl (Rn.fldP (o':=2) trivial rfl rfl (Rn.storeO (cs':=[(l_ x7.Alphabet),(i_ a12),.own 1 (List.map (eI .i64) x20),.own 3 (List.map Qc a14)]) trivial rfl rfl rfl rfl rfl (Rn.nil ?_)))
        replace h:=si h; subst h
        exact Qh [37] ⟨(sm rfl),(kPtr rfl),(kPtr rfl),(kPtr rfl),(sm rfl),trivial⟩ ⟨⟨_,rfl,rfl,(.same rfl)⟩,⟨_,rfl,rfl,(.same rfl)⟩,⟨_,rfl,rfl,(.same rfl)⟩,trivial⟩ rfl
       ·replace h:=bF hb19 h
        refine Tr.skip ?_
        replace h:=si h; subst h
        exact Qh [] ⟨(sm rfl),(kPtr rfl),(kPtr rfl),(kPtr rfl),(sm rfl),trivial⟩ ⟨⟨_,rfl,rfl,(.same rfl)⟩,⟨_,rfl,rfl,(.same rfl)⟩,⟨_,rfl,rfl,(.same rfl)⟩,trivial⟩ rfl
      ·obtain ⟨a22,rfl⟩ : ∃ x,x = z:=⟨_,rfl⟩
       refine sr ((md rfl (nt ((Tr.block ?_)))))
       refine Tr.loop (mk:=fun ((k23,a24) : Int × (List Qe))=>⟨look [(0,(l_ alphabet1)),(3,.ptr (Γ.n0 + 3) 0),(4,.ptr (Γ.n0 + 4) 0),(5,.ptr (Γ.n0 + 5) 0),(6,(i_ i8)),(7,(i_ k23))],Qp Γ.n0 (bxs [(3,.cells ([.d (.int .u8 g2.States),.d (.int .u8 g2.Marks),.d (.int .u8 g2.To.1.1),.d (.int .u8 g2.To.1.2.1),.d (.int .u8 g2.To.1.2.2.1),.d (.int .u8 g2.To.1.2.2.2.1),.d (.int .u8 g2.To.1.2.2.2.2),.d (.int .u8 g2.To.2.1.1),.d (.int .u8 g2.To.2.1.2.1),.d (.int .u8 g2.To.2.1.2.2.1),.d (.int .u8 g2.To.2.1.2.2.2.1),.d (.int .u8 g2.To.2.1.2.2.2.2),.d (.int .u8 g2.To.2.2.1.1),.d (.int .u8 g2.To.2.2.1.2.1),.d (.int .u8 g2.To.2.2.1.2.2.1),.d (.int .u8 g2.To.2.2.1.2.2.2.1),.d (.int .u8 g2.To.2.2.1.2.2.2.2),.d (.int .u8 g2.To.2.2.2.1.1),.d (.int .u8 g2.To.2.2.2.1.2.1),.d (.int .u8 g2.To.2.2.2.1.2.2.1),.d (.int .u8 g2.To.2.2.2.1.2.2.2.1),.d (.int .u8 g2.To.2.2.2.1.2.2.2.2),.d (.int .u8 g2.To.2.2.2.2.1),.d (.int .u8 g2.To.2.2.2.2.2.1),.d (.int .u8 g2.To.2.2.2.2.2.2.1),.d (.int .u8 g2.To.2.2.2.2.2.2.2.1),.d (.int .u8 g2.To.2.2.2.2.2.2.2.2)])),(4,.cells ([.own 1 (List.map (eI .i64) c9),(i_ 0),.own 1 (List.map (eI .i64) c10),.own 3 (List.map Qc c11)])),(5,.cells ([(l_ x7.Alphabet),(i_ a12),.own 1 (List.map (eI .i64) a22),.own 3 (List.map Qc a24)]))]) M,Γ.n0 + 79⟩) h (by exact Qm ⟨(sm rfl),(kPtr rfl),(kPtr rfl),(kPtr rfl),(sm rfl),(sm rfl),trivial⟩ ⟨⟨_,rfl,rfl,(.same rfl)⟩,⟨_,rfl,rfl,(.same rfl)⟩,⟨_,rfl,rfl,(.same rfl)⟩,trivial⟩ rfl) (fun k25 z h=>?_)
       ·obtain ⟨k23,a24⟩:=z
        replace h : _ = some _:=h
        refine Tr.seq ?_
        refine Tr.cutB (fun (x27 : Bool)=>⟨look [(0,(l_ alphabet1)),(3,.ptr (Γ.n0 + 3) 0),(4,.ptr (Γ.n0 + 4) 0),(5,.ptr (Γ.n0 + 5) 0),(6,(i_ i8)),(7,(i_ k23)),(47,(b_ x27))],Qp Γ.n0 (bxs [(3,.cells ([.d (.int .u8 g2.States),.d (.int .u8 g2.Marks),.d (.int .u8 g2.To.1.1),.d (.int .u8 g2.To.1.2.1),.d (.int .u8 g2.To.1.2.2.1),.d (.int .u8 g2.To.1.2.2.2.1),.d (.int .u8 g2.To.1.2.2.2.2),.d (.int .u8 g2.To.2.1.1),.d (.int .u8 g2.To.2.1.2.1),.d (.int .u8 g2.To.2.1.2.2.1),.d (.int .u8 g2.To.2.1.2.2.2.1),.d (.int .u8 g2.To.2.1.2.2.2.2),.d (.int .u8 g2.To.2.2.1.1),.d (.int .u8 g2.To.2.2.1.2.1),.d (.int .u8 g2.To.2.2.1.2.2.1),.d (.int .u8 g2.To.2.2.1.2.2.2.1),.d (.int .u8 g2.To.2.2.1.2.2.2.2),.d (.int .u8 g2.To.2.2.2.1.1),.d (.int .u8 g2.To.2.2.2.1.2.1),.d (.int .u8 g2.To.2.2.2.1.2.2.1),.d (.int .u8 g2.To.2.2.2.1.2.2.2.1),.d (.int .u8 g2.To.2.2.2.1.2.2.2.2),.d (.int .u8 g2.To.2.2.2.2.1),.d (.int .u8 g2.To.2.2.2.2.2.1),.d (.int .u8 g2.To.2.2.2.2.2.2.1),.d (.int .u8 g2.To.2.2.2.2.2.2.2.1),.d (.int .u8 g2.To.2.2.2.2.2.2.2.2)])),(4,.cells ([.own 1 (List.map (eI .i64) c9),(i_ 0),.own 1 (List.map (eI .i64) c10),.own 3 (List.map Qc c11)])),(5,.cells ([(l_ x7.Alphabet),(i_ a12),.own 1 (List.map (eI .i64) a22),.own 3 (List.map Qc a24)]))]) M,Γ.n0 + 79⟩) h (fun z h=>?_) (fun z h=>?_)
        ·refine Tr.rgn (md rfl (md rfl (Rn.lenD trivial rfl (Rn.bin trivial rfl rfl rfl (md rfl ?_)))))
         refine Qda (decide (k23 < (alphabet1.length : Int))) (fun hb26=>?_) (fun hb26=>?_)
         ·replace h:=ifT hb26 h
          refine Rn.movD (gw rfl hb26) rfl (Rn.bin (gw rfl hb26) rfl rfl rfl (Rn.pickT (v:=(b_ (decide (k23 < 5)))) trivial rfl hb26 rfl (Rn.nil ?_)))
          replace h:=si h; subst h
          exact Qh [] ⟨(sm rfl),(kPtr rfl),(kPtr rfl),(kPtr rfl),(sm rfl),(sm rfl),(sm rfl),trivial⟩ ⟨⟨_,rfl,rfl,(.same rfl)⟩,⟨_,rfl,rfl,(.same rfl)⟩,⟨_,rfl,rfl,(.same rfl)⟩,trivial⟩ rfl
         ·replace h:=ifF hb26 h
          refine Rn.sk (nw rfl hb26) (Rn.sk (nw rfl hb26) (Rn.pickF (v:=(b_ false)) trivial rfl hb26 rfl (Rn.nil ?_)))
          replace h:=si h; subst h
          exact Qh [] ⟨(sm rfl),(kPtr rfl),(kPtr rfl),(kPtr rfl),(sm rfl),(sm rfl),(sm rfl),trivial⟩ ⟨⟨_,rfl,rfl,(.same rfl)⟩,⟨_,rfl,rfl,(.same rfl)⟩,⟨_,rfl,rfl,(.same rfl)⟩,trivial⟩ rfl
        ·obtain ⟨x27,rfl⟩ : ∃ x,x = z:=⟨_,rfl⟩
         refine Tr.cond rfl (fun hb28=>?_) (fun hb28=>?_)
         ·replace h:=bT hb28 h
          refine Tr.skip (toN ?_)
          refine Tr.cutB (fun (a40 : List Qe)=>⟨look [(0,(l_ alphabet1)),(3,.ptr (Γ.n0 + 3) 0),(4,.ptr (Γ.n0 + 4) 0),(5,.ptr (Γ.n0 + 5) 0),(6,(i_ i8)),(7,(i_ k23))],Qp Γ.n0 (bxs [(3,.cells ([.d (.int .u8 g2.States),.d (.int .u8 g2.Marks),.d (.int .u8 g2.To.1.1),.d (.int .u8 g2.To.1.2.1),.d (.int .u8 g2.To.1.2.2.1),.d (.int .u8 g2.To.1.2.2.2.1),.d (.int .u8 g2.To.1.2.2.2.2),.d (.int .u8 g2.To.2.1.1),.d (.int .u8 g2.To.2.1.2.1),.d (.int .u8 g2.To.2.1.2.2.1),.d (.int .u8 g2.To.2.1.2.2.2.1),.d (.int .u8 g2.To.2.1.2.2.2.2),.d (.int .u8 g2.To.2.2.1.1),.d (.int .u8 g2.To.2.2.1.2.1),.d (.int .u8 g2.To.2.2.1.2.2.1),.d (.int .u8 g2.To.2.2.1.2.2.2.1),.d (.int .u8 g2.To.2.2.1.2.2.2.2),.d (.int .u8 g2.To.2.2.2.1.1),.d (.int .u8 g2.To.2.2.2.1.2.1),.d (.int .u8 g2.To.2.2.2.1.2.2.1),.d (.int .u8 g2.To.2.2.2.1.2.2.2.1),.d (.int .u8 g2.To.2.2.2.1.2.2.2.2),.d (.int .u8 g2.To.2.2.2.2.1),.d (.int .u8 g2.To.2.2.2.2.2.1),.d (.int .u8 g2.To.2.2.2.2.2.2.1),.d (.int .u8 g2.To.2.2.2.2.2.2.2.1),.d (.int .u8 g2.To.2.2.2.2.2.2.2.2)])),(4,.cells ([.own 1 (List.map (eI .i64) c9),(i_ 0),.own 1 (List.map (eI .i64) c10),.own 3 (List.map Qc c11)])),(5,.cells ([(l_ x7.Alphabet),(i_ a12),.own 1 (List.map (eI .i64) a22),.own 3 (List.map Qc a40)]))]) M,Γ.n0 + 79⟩) h (fun z h=>?_) (fun z h=>?_)
          ·refine Tr.block (Tr.seq ?_)
           refine Tr.rgnD (by decide) ?_
           refine md rfl (md rfl (Rn.fldP (o':=2) trivial rfl rfl ?_))
           obtain ⟨⟨⟩,h29,h⟩:=bnd h
           refine Rn.idxArr (o':=2 + (Int.toNat i8 * 5)) trivial rfl rfl rfl h29 ?_
           obtain ⟨⟨⟩,h30,h⟩:=bnd h
           refine Rn.idxArr (o':=2 + (Int.toNat i8 * 5 + Int.toNat k23 * 1)) trivial rfl rfl (Nat.add_assoc ..).symm h30 ?_
           obtain ⟨x31,h32,h⟩:=bnd h
           refine Rn.loadArr (e:=(fun (z : Int)=>.int .u8 z)) (pre:=[.d (.int .u8 g2.States),.d (.int .u8 g2.Marks)]) (post:=[]) trivial rfl rfl (Qk rfl) rfl rfl h32 (Rn.conv trivial rfl (Rn.fldP (o':=1) trivial rfl rfl (Rn.load (v:=(i_ a12)) trivial rfl (Qk rfl) rfl rfl (Rn.bin trivial rfl rfl rfl ?_))))
           obtain ⟨s33,h34,h⟩:=bnd h
           refine Rn.bin trivial rfl rfl (Qbkp h34) (md rfl ?_)
           refine Rn.nil ⟨rfl,?_⟩
           refine toN (sr ((md rfl (Rn.fldP (o':=1) trivial rfl rfl (Rn.load (v:=(i_ a12)) trivial rfl (Qk rfl) rfl rfl (Rn.bin trivial rfl rfl rfl (Rn.nil (toN ?_))))))))
           refine Tr.cond rfl (fun hb35=>?_) (fun hb35=>?_)
           ·replace h:=ifT hb35 h
            refine Tr.rgnD (by decide) ?_
            refine Rn.fldP (o':=3) trivial rfl rfl (Rn.loadT (cs':=[(l_ x7.Alphabet),(i_ a12),.own 1 (List.map (eI .i64) a22),.d (.lst 3 (List.map Qc a24))]) trivial rfl rfl rfl rfl (md rfl (md rfl (md rfl ?_))))
            obtain ⟨x36,h37,h⟩:=bnd h
            refine Rn.idxD (e:=(eI .i64)) trivial rfl rfl h37 (Rn.loadC (x:=.int .i64 x36) trivial rfl (md rfl (Rn.build (v:=.agg [(i_ i8),(i_ x36),(i_ s33)]) trivial rfl (Rn.bslice (xs:=[.agg [(i_ i8),(i_ x36),(i_ s33)]]) (cs:=[(i_ i8),(i_ x36),(i_ s33)]) trivial rfl rfl rfl rfl ?_))))
            obtain ⟨x38,h39,h⟩:=bnd h
            refine Rn.app (e:=Qc) trivial rfl rfl rfl (Qcp rfl rfl rfl) h39 rfl (Rn.fldP (o':=3) trivial rfl rfl (Rn.storeO (cs':=[(l_ x7.Alphabet),(i_ a12),.own 1 (List.map (eI .i64) a22),.own 3 (List.map Qc x38)]) trivial rfl rfl rfl rfl rfl ?_))
            refine Rn.nil ⟨rfl,?_⟩
            replace h:=si h; subst h
            exact Qh [74] ⟨(sm rfl),(kPtr rfl),(kPtr rfl),(kPtr rfl),(sm rfl),(sm rfl),trivial⟩ ⟨⟨_,rfl,rfl,(.same rfl)⟩,⟨_,rfl,rfl,(.same rfl)⟩,⟨_,rfl,rfl,(.same rfl)⟩,trivial⟩ rfl
           ·replace h:=ifF hb35 h
            refine Tr.skip ?_
            replace h:=si h; subst h
            exact Qh [] ⟨(sm rfl),(kPtr rfl),(kPtr rfl),(kPtr rfl),(sm rfl),(sm rfl),trivial⟩ ⟨⟨_,rfl,rfl,(.same rfl)⟩,⟨_,rfl,rfl,(.same rfl)⟩,⟨_,rfl,rfl,(.same rfl)⟩,trivial⟩ rfl
          ·obtain ⟨a40,rfl⟩ : ∃ x,x = z:=⟨_,rfl⟩
           refine Tr.rgn (md rfl (Rn.bin trivial rfl rfl rfl (md rfl (Rn.nil ?_))))
           exact ⟨_,h,(by exact Qm ⟨(sm rfl),(kPtr rfl),(kPtr rfl),(kPtr rfl),(sm rfl),(sm rfl),trivial⟩ ⟨⟨_,rfl,rfl,(.same rfl)⟩,⟨_,rfl,rfl,(.same rfl)⟩,⟨_,rfl,rfl,(.same rfl)⟩,trivial⟩ rfl)⟩
         ·replace h:=bF hb28 h
          refine Tr.exit ?_
          replace h:=si h; subst h
          exact Qh [] ⟨(sm rfl),(kPtr rfl),(kPtr rfl),(kPtr rfl),(sm rfl),trivial⟩ ⟨⟨_,rfl,rfl,(.same rfl)⟩,⟨_,rfl,rfl,(.same rfl)⟩,⟨_,rfl,rfl,(.same rfl)⟩,trivial⟩ rfl
     ·obtain ⟨a41,a42⟩:=z
      refine Tr.rgn (md rfl (Rn.bin trivial rfl rfl rfl (md rfl (Rn.nil ?_))))
      exact ⟨_,h,(by exact Qm ⟨(sm rfl),(kPtr rfl),(kPtr rfl),(kPtr rfl),(sm rfl),trivial⟩ ⟨⟨_,rfl,rfl,(.same rfl)⟩,⟨_,rfl,rfl,(.same rfl)⟩,⟨_,rfl,rfl,(.same rfl)⟩,trivial⟩ rfl)⟩
    ·replace h:=ifF hb16 h
     refine Tr.exit ?_
     replace h:=si h; subst h
     exact Qh [] ⟨(kPtr rfl),(kPtr rfl),trivial⟩ ⟨⟨_,rfl,rfl,(.same rfl)⟩,⟨_,rfl,rfl,(.same rfl)⟩,⟨_,rfl,rfl,(.same rfl)⟩,trivial⟩ rfl
  ·obtain ⟨c43,c44,c45,a46,a47,a48⟩:=z
   refine sr ((Rn.load (v:=.agg [(l_ x7.Alphabet),(i_ a46),(l_ a47),.d (.lst 3 (List.map Qc a48))]) trivial rfl (Qk rfl) rfl rfl ?_))
   obtain ⟨x50,h49,h⟩:=bnd h
   refine Rn.call (args:=[.agg [(l_ x7.Alphabet),(i_ a46),(l_ a47),.d (.lst 3 (List.map Qc a48))]]) trivial rfl (H_overseerref03_Canonical _ _ h49) pc9 (Rn.storeT (v:=(Qa x50)) (ds:=(Qd x50)) (cs':=(Qd x50)) trivial rfl rfl rfl rfl rfl rfl rfl (nt ((Tr.ret ?_))))
   replace h:=si h; subst h
   exact ⟨.inr rfl,(Qa x50),Qhe rfl rfl rfl rfl,fun _ _ _ _ h=>h,⟨trivial,trivial,trivial,trivial,trivial⟩,fun k hk=>Qf hk⟩
theorem Qyc {P : Program} {c : Nat} (hcf : Qt P c = some Qh2) (fuel : Nat) : Qh1 P c (Qce fuel):=by
 intro l1 n2 r h
 refine Qcy hcf rfl fun Γ M hP hnt hM=>?_
 subst hP
 refine Tr.init [(0,(l_ l1)),(1,(i_ n2))] rfl ?_
 unfold Qce at h
 unfold Qh2
 refine sr ((md rfl (nt ((Tr.seq (sr ((md rfl (nt ((Tr.block ?_)))))))))))
 refine Tr.loop (mk:=fun (i3 : Int)=>⟨look [(0,(l_ l1)),(1,(i_ n2)),(5,(i_ i3))],Qp Γ.n0 (bxs []) M,Γ.n0 + 18⟩) h (by exact Qm ⟨(sm rfl),(sm rfl),(sm rfl),trivial⟩ trivial rfl) (fun k4 z h=>?_)
 ·obtain ⟨i3,rfl⟩ : ∃ x,x = z:=⟨_,rfl⟩
  replace h : _ = some _:=h
  refine Tr.seq (sr ((md rfl (md rfl (Rn.lenD trivial rfl (Rn.bin trivial rfl rfl rfl (Rn.nil (toN ?_))))))))
  refine Tr.cond rfl (fun hb5=>?_) (fun hb5=>?_)
  ·replace h:=ifT hb5 h
   refine Tr.skip (toN (Tr.seq (Tr.block (sr ((md rfl (md rfl ?_)))))))
   obtain ⟨x6,h7,h⟩:=bnd h
   refine Rn.idxD (e:=(eI .i64)) trivial rfl rfl h7 (Rn.loadC (x:=.int .i64 x6) trivial rfl (md rfl (Rn.bin trivial rfl rfl rfl (Rn.nil (toN ?_)))))
   refine Tr.cond rfl (fun hb8=>?_) (fun hb8=>?_)
   ·replace h:=bT hb8 h
    refine sr ((md rfl (nt ((Tr.ret ?_)))))
    replace h:=si h; subst h
    exact ⟨.inr rfl,(b_ true),rfl,fun _ _ _ _ h=>h,trivial,fun k hk=>Qf hk⟩
   ·replace h:=bF hb8 h
    refine Tr.skip (toN (Tr.rgn (md rfl (Rn.bin trivial rfl rfl rfl (md rfl (Rn.nil ?_))))))
    exact ⟨_,h,(by exact Qm ⟨(sm rfl),(sm rfl),(sm rfl),trivial⟩ trivial rfl)⟩
  ·replace h:=ifF hb5 h
   refine Tr.exit (toN (sr ((md rfl (nt ((Tr.ret ?_)))))))
   replace h:=si h; subst h
   exact ⟨.inr rfl,(b_ false),rfl,fun _ _ _ _ h=>h,trivial,fun k hk=>Qf hk⟩
theorem Qj3 {P : Program} {c : Nat} {Qce : (List Int) → Int → Option Bool} {Ql : (List Int) → (List Int) → Option Bool} {Qs : Qb → Int → Int → Option Int}
    (H_overseerlaw03_Has : Qh1 P 17 Qce)
    (H_overseerref03_SameInts : Qb5 P 19 Ql)
    (H_overseerref03_Step : Qed P 40 Qs) (hcf : Qt P c = some Qeb) (fuel : Nat) : Qea P c (Q7 Qce Ql Qs fuel):=by
 intro a1 b2 r h
 refine Qcy hcf rfl fun Γ M hP hnt hM=>?_
 subst hP
 refine Tr.init [(0,(Qa a1)),(1,(Qa b2))] rfl ?_
 unfold Q7 at h
 unfold Qeb
 refine sr ((Rn.box (v:=(Qa a1)) (cs:=(Qd a1)) trivial rfl rfl rfl rfl rfl (Rn.box (v:=(Qa b2)) (cs:=(Qd b2)) trivial rfl rfl rfl rfl rfl (md rfl (nt ((Tr.seq ?_)))))))
 refine Tr.cutB (fun (x6 : Bool)=>⟨look [(2,.ptr (Γ.n0 + 2) 0),(3,.ptr (Γ.n0 + 3) 0),(27,(b_ x6))],Qp Γ.n0 (bxs [(2,.cells ((Qd a1))),(3,.cells ((Qd b2)))]) M,Γ.n0 + 120⟩) h (fun z h=>?_) (fun z h=>?_)
 ·refine Tr.rgn (Rn.fldP (o':=0) trivial rfl rfl (Rn.load (v:=(l_ a1.Alphabet)) trivial rfl (Qk rfl) rfl rfl (Rn.fldP (o':=0) trivial rfl rfl (Rn.load (v:=(l_ b2.Alphabet)) trivial rfl (Qk rfl) rfl rfl ?_))))
  obtain ⟨x4,h3,h⟩:=bnd h
  refine Rn.call (args:=[(l_ a1.Alphabet),(l_ b2.Alphabet)]) trivial rfl (H_overseerref03_SameInts _ _ _ h3) pc9 (Rn.un trivial rfl rfl (md rfl ?_))
  refine Qda x4 (fun hb5=>?_) (fun hb5=>?_)
  ·replace h:=bT hb5 h
   refine Rn.fldP (o':=1) (gw rfl (nT hb5)) rfl rfl (Rn.load (v:=(i_ a1.States)) (gw rfl (nT hb5)) rfl (Qk rfl) rfl rfl (Rn.bin (gw rfl (nT hb5)) rfl rfl rfl (Rn.fldP (o':=1) (gw rfl (nT hb5)) rfl rfl (Rn.load (v:=(i_ b2.States)) (gw rfl (nT hb5)) rfl (Qk rfl) rfl rfl (Rn.bin (gw rfl (nT hb5)) rfl rfl rfl (Rn.bin (gw rfl (nT hb5)) rfl rfl rfl (Rn.pickF (v:=(b_ (!((decide (a1.States > 0)) == (decide (b2.States > 0)))))) trivial rfl (nT hb5) rfl (Rn.nil ?_))))))))
   replace h:=si h; subst h
   exact Qh [] ⟨(kPtr rfl),(kPtr rfl),(sm rfl),trivial⟩ ⟨⟨_,rfl,rfl,(.same rfl)⟩,⟨_,rfl,rfl,(.same rfl)⟩,trivial⟩ rfl
  ·replace h:=bF hb5 h
   refine Rn.sk (nw rfl (nF hb5)) (Rn.sk (nw rfl (nF hb5)) (Rn.sk (nw rfl (nF hb5)) (Rn.sk (nw rfl (nF hb5)) (Rn.sk (nw rfl (nF hb5)) (Rn.sk (nw rfl (nF hb5)) (Rn.sk (nw rfl (nF hb5)) (Rn.pickT (v:=(b_ true)) trivial rfl (nF hb5) rfl (Rn.nil ?_))))))))
   replace h:=si h; subst h
   exact Qh [] ⟨(kPtr rfl),(kPtr rfl),(sm rfl),trivial⟩ ⟨⟨_,rfl,rfl,(.same rfl)⟩,⟨_,rfl,rfl,(.same rfl)⟩,trivial⟩ rfl
 ·obtain ⟨x6,rfl⟩ : ∃ x,x = z:=⟨_,rfl⟩
  refine Tr.cond rfl (fun hb7=>?_) (fun hb7=>?_)
  ·replace h:=bT hb7 h
   refine sr ((md rfl (nt ((Tr.ret ?_)))))
   replace h:=si h; subst h
   exact ⟨.inr rfl,(b_ false),rfl,fun _ _ _ _ h=>h,trivial,fun k hk=>Qf hk⟩
  ·replace h:=bF hb7 h
   refine Tr.skip (toN (sr ((Rn.movTC (v:=.nils 2) trivial (Rn.nil (toN ?_))))))
   refine Tr.cutB (fun (l11 : List (Int × Int))=>⟨look [(2,.ptr (Γ.n0 + 2) 0),(3,.ptr (Γ.n0 + 3) 0),(5,.own 2 (List.map (fun p : Int × Int=>[.int .i64 p.1,.int .i64 p.2]) l11))],Qp Γ.n0 (bxs [(2,.cells ((Qd a1))),(3,.cells ((Qd b2)))]) M,Γ.n0 + 120⟩) h (fun z h=>?_) (fun z h=>?_)
   ·refine sr ((Rn.fldP (o':=1) trivial rfl rfl (Rn.load (v:=(i_ a1.States)) trivial rfl (Qk rfl) rfl rfl (Rn.bin trivial rfl rfl rfl (Rn.nil (toN ?_))))))
    refine Tr.cond rfl (fun hb8=>?_) (fun hb8=>?_)
    ·replace h:=ifT hb8 h
     refine Tr.rgn (Rn.movTF (v:=.nils 2) trivial rfl rfl (Rn.build (v:=.agg [(i_ 0),(i_ 0)]) trivial rfl (Rn.bslice (xs:=[.agg [(i_ 0),(i_ 0)]]) (cs:=[(i_ 0),(i_ 0)]) trivial rfl rfl rfl rfl ?_)))
     refine Rn.weak (by show WeakSt Γ _ ⟨look [(2,.ptr (Γ.n0 + 2) 0),(3,.ptr (Γ.n0 + 3) 0),(5,.nils 2),(27,(b_ x6)),(28,.ptr (Γ.n0 + 2) 1),(29,(i_ a1.States)),(30,(b_ (decide (a1.States > 0)))),(31,.own 2 (List.map (fun p : Int × Int=>[.int .i64 p.1,.int .i64 p.2]) [])),(32,.agg [(i_ 0),(i_ 0)]),(33,.sl 2 (Γ.n0 + 33) 0 1 1)],Qp Γ.n0 (bxs [(2,.cells ((Qd a1))),(3,.cells ((Qd b2))),(33,.cells ([(i_ 0),(i_ 0)]))]) M,Γ.n0 + 120⟩; exact Qh [] ⟨(kPtr rfl),(kPtr rfl),(sm rfl),(sm rfl),(kPtr rfl),(sm rfl),(sm rfl),(WkV.nilsO _),(sm rfl),(kSl rfl),trivial⟩ ⟨⟨_,rfl,rfl,(.same rfl)⟩,⟨_,rfl,rfl,(.same rfl)⟩,⟨_,rfl,rfl,(.same rfl)⟩,trivial⟩ rfl) ?_
     obtain ⟨x9,h10,h⟩:=bnd h
     refine Rn.app (e:=(fun p : Int × Int=>[.int .i64 p.1,.int .i64 p.2])) trivial rfl rfl rfl (Qcp rfl rfl rfl) h10 rfl (Rn.movTO trivial rfl (Rn.nil ?_))
     replace h:=si h; subst h
     exact Qh [33] ⟨(kPtr rfl),(kPtr rfl),(sm rfl),trivial⟩ ⟨⟨_,rfl,rfl,(.same rfl)⟩,⟨_,rfl,rfl,(.same rfl)⟩,trivial⟩ rfl
    ·replace h:=ifF hb8 h
     refine Tr.skip ?_
     replace h:=si h; subst h
     exact Qh [] ⟨(kPtr rfl),(kPtr rfl),(WkV.nilsO _),trivial⟩ ⟨⟨_,rfl,rfl,(.same rfl)⟩,⟨_,rfl,rfl,(.same rfl)⟩,trivial⟩ rfl
   ·obtain ⟨l11,rfl⟩ : ∃ x,x = z:=⟨_,rfl⟩
    refine Tr.seq (sr ((md rfl (nt ((Tr.block ?_))))))
    refine Tr.loop (mk:=fun ((l12,i13) : (List (Int × Int)) × Int)=>⟨look [(2,.ptr (Γ.n0 + 2) 0),(3,.ptr (Γ.n0 + 3) 0),(5,.own 2 (List.map (fun p : Int × Int=>[.int .i64 p.1,.int .i64 p.2]) l12)),(6,(i_ i13))],Qp Γ.n0 (bxs [(2,.cells ((Qd a1))),(3,.cells ((Qd b2)))]) M,Γ.n0 + 120⟩) h (by exact Qm ⟨(kPtr rfl),(kPtr rfl),(sm rfl),(sm rfl),trivial⟩ ⟨⟨_,rfl,rfl,(.same rfl)⟩,⟨_,rfl,rfl,(.same rfl)⟩,trivial⟩ rfl) (fun k14 z h=>?_)
    ·obtain ⟨l12,i13⟩:=z
     replace h : _ = some _:=h
     refine Tr.seq (sr ((md rfl (Rn.mov (v:=.d (.lst 2 (List.map (fun p : Int × Int=>[.int .i64 p.1,.int .i64 p.2]) l12))) trivial rfl (Rn.lenD trivial rfl (Rn.bin trivial rfl rfl rfl (Rn.nil (toN ?_))))))))
     refine Tr.cond rfl (fun hb15=>?_) (fun hb15=>?_)
     ·replace h:=ifT hb15 h
      refine Tr.skip (toN (Tr.seq (Tr.block (Tr.seq (Tr.seq ?_)))))
      refine Tr.rgnD (by decide) ?_
      refine Rn.fldP (o':=2) trivial rfl rfl (Rn.load (v:=(l_ a1.Marked)) trivial rfl (Qk rfl) rfl rfl (Rn.mov (v:=.d (.lst 2 (List.map (fun p : Int × Int=>[.int .i64 p.1,.int .i64 p.2]) l12))) trivial rfl (md rfl ?_)))
      obtain ⟨x16,h17,h⟩:=bnd h
      refine Rn.idxD (e:=(fun p : Int × Int=>[.int .i64 p.1,.int .i64 p.2])) trivial rfl rfl h17 (Rn.k (v:=.cref ((fun p : Int × Int=>[.int .i64 p.1,.int .i64 p.2]) x16)) trivial rfl rfl rfl (Rn.loadC (x:=.int .i64 x16.1) trivial rfl ?_))
      obtain ⟨x19,h18,h⟩:=bnd h
      refine Rn.call (args:=[(l_ a1.Marked),(i_ x16.1)]) trivial rfl (H_overseerlaw03_Has _ _ _ h18) (fun _=>Q2k hM rfl) (Rn.fldP (o':=2) trivial rfl rfl (Rn.load (v:=(l_ b2.Marked)) trivial rfl (Qk rfl) rfl rfl (Rn.mov (v:=.d (.lst 2 (List.map (fun p : Int × Int=>[.int .i64 p.1,.int .i64 p.2]) l12))) trivial rfl (md rfl ?_))))
      obtain ⟨x20,h21,h⟩:=bnd h
      refine Rn.idxD (e:=(fun p : Int × Int=>[.int .i64 p.1,.int .i64 p.2])) trivial rfl rfl h21 (Rn.k (v:=.cref (List.drop 1 ((fun p : Int × Int=>[.int .i64 p.1,.int .i64 p.2]) x20))) trivial rfl rfl rfl (Rn.loadC (x:=.int .i64 x20.2) trivial rfl ?_))
      obtain ⟨x23,h22,h⟩:=bnd h
      refine Rn.call (args:=[(l_ b2.Marked),(i_ x20.2)]) trivial rfl (H_overseerlaw03_Has _ _ _ h22) (fun _=>Q2k hM rfl) (Rn.bin trivial rfl rfl rfl ?_)
      refine Rn.nil ⟨rfl,?_⟩
      refine toN ?_
      refine Tr.cond rfl (fun hb24=>?_) (fun hb24=>?_)
      ·have hb24:=nT' hb24
       replace h:=bF hb24 h
       refine sr ((md rfl (nt ((Tr.ret ?_)))))
       replace h:=si h; subst h
       exact ⟨.inr rfl,(b_ false),rfl,fun _ _ _ _ h=>h,trivial,fun k hk=>Qf hk⟩
      ·have hb24:=nF' hb24
       replace h:=bT hb24 h
       refine Tr.skip (toN (sr ((md rfl (nt ((Tr.block ?_)))))))
       refine Tr.loop (mk:=fun ((l25,k26) : (List (Int × Int)) × Int)=>⟨look [(2,.ptr (Γ.n0 + 2) 0),(3,.ptr (Γ.n0 + 3) 0),(5,.own 2 (List.map (fun p : Int × Int=>[.int .i64 p.1,.int .i64 p.2]) l25)),(6,(i_ i13)),(7,(i_ k26))],Qp Γ.n0 (bxs [(2,.cells ((Qd a1))),(3,.cells ((Qd b2)))]) M,Γ.n0 + 120⟩) h (by exact Qm ⟨(kPtr rfl),(kPtr rfl),(sm rfl),(sm rfl),(sm rfl),trivial⟩ ⟨⟨_,rfl,rfl,(.same rfl)⟩,⟨_,rfl,rfl,(.same rfl)⟩,trivial⟩ rfl) (fun k27 z h=>?_)
       ·obtain ⟨l25,k26⟩:=z
        replace h : _ = some _:=h
        refine Tr.seq (sr ((md rfl (Rn.fldP (o':=0) trivial rfl rfl (Rn.load (v:=(l_ a1.Alphabet)) trivial rfl (Qk rfl) rfl rfl (Rn.lenD trivial rfl (Rn.bin trivial rfl rfl rfl (Rn.nil (toN ?_)))))))))
        refine Tr.cond rfl (fun hb28=>?_) (fun hb28=>?_)
        ·replace h:=ifT hb28 h
         refine Tr.skip (toN ?_)
         refine Tr.cutJ (fun ((l54,next55,next56) : (List (Int × Int)) × Int × Int)=>⟨look [(2,.ptr (Γ.n0 + 2) 0),(3,.ptr (Γ.n0 + 3) 0),(5,.own 2 (List.map (fun p : Int × Int=>[.int .i64 p.1,.int .i64 p.2]) l54)),(6,(i_ i13)),(7,(i_ k26))],Qp Γ.n0 (bxs [(2,.cells ((Qd a1))),(3,.cells ((Qd b2))),(10,.cells ([(i_ next55),(i_ next56)]))]) M,Γ.n0 + 120⟩) h (fun J57 h=>?_) (fun z h=>?_)
         ·refine Tr.block (Tr.seq ?_)
          refine Tr.rgnD (by decide) ?_
          refine Rn.load (v:=(Qa a1)) trivial rfl (Qk rfl) rfl rfl (Rn.mov (v:=.d (.lst 2 (List.map (fun p : Int × Int=>[.int .i64 p.1,.int .i64 p.2]) l25))) trivial rfl (md rfl ?_))
          obtain ⟨x29,h30,h⟩:=bnd h
          refine Rn.idxD (e:=(fun p : Int × Int=>[.int .i64 p.1,.int .i64 p.2])) trivial rfl rfl h30 (Rn.k (v:=.cref ((fun p : Int × Int=>[.int .i64 p.1,.int .i64 p.2]) x29)) trivial rfl rfl rfl (Rn.loadC (x:=.int .i64 x29.1) trivial rfl (Rn.fldP (o':=0) trivial rfl rfl (Rn.load (v:=(l_ a1.Alphabet)) trivial rfl (Qk rfl) rfl rfl (md rfl ?_)))))
          obtain ⟨x31,h32,h⟩:=bnd h
          refine Rn.idxD (e:=(eI .i64)) trivial rfl rfl h32 (Rn.loadC (x:=.int .i64 x31) trivial rfl ?_)
          obtain ⟨x34,h33,h⟩:=bnd h
          refine Rn.call (args:=[(Qa a1),(i_ x29.1),(i_ x31)]) trivial rfl (H_overseerref03_Step _ _ _ _ h33) (fun _=>Q2k hM rfl) (Rn.load (v:=(Qa b2)) trivial rfl (Qk rfl) rfl rfl (Rn.mov (v:=.d (.lst 2 (List.map (fun p : Int × Int=>[.int .i64 p.1,.int .i64 p.2]) l25))) trivial rfl (md rfl ?_)))
          obtain ⟨x35,h36,h⟩:=bnd h
          refine Rn.idxD (e:=(fun p : Int × Int=>[.int .i64 p.1,.int .i64 p.2])) trivial rfl rfl h36 (Rn.k (v:=.cref (List.drop 1 ((fun p : Int × Int=>[.int .i64 p.1,.int .i64 p.2]) x35))) trivial rfl rfl rfl (Rn.loadC (x:=.int .i64 x35.2) trivial rfl (Rn.fldP (o':=0) trivial rfl rfl (Rn.load (v:=(l_ a1.Alphabet)) trivial rfl (Qk rfl) rfl rfl (md rfl ?_)))))
          obtain ⟨x37,h38,h⟩:=bnd h
          refine Rn.idxD (e:=(eI .i64)) trivial rfl rfl h38 (Rn.loadC (x:=.int .i64 x37) trivial rfl ?_)
          obtain ⟨x40,h39,h⟩:=bnd h
          refine Rn.call (args:=[(Qa b2),(i_ x35.2),(i_ x37)]) trivial rfl (H_overseerref03_Step _ _ _ _ h39) (fun _=>Q2k hM rfl) (md rfl (md rfl ?_))
          refine Rn.nil ⟨rfl,?_⟩
          refine toN (Tr.seq (sr ((md rfl (Rn.bin trivial rfl rfl rfl (md rfl (Rn.bin trivial rfl rfl rfl (Rn.bin trivial rfl rfl rfl (Rn.nil (toN ?_))))))))))
          refine Tr.cond rfl (fun hb41=>?_) (fun hb41=>?_)
          ·have hb41:=nT' hb41
           replace h:=bF hb41 h
           refine sr ((md rfl (nt ((Tr.ret ?_)))))
           replace h:=si h; subst h
           exact ⟨.inr rfl,(b_ false),rfl,fun _ _ _ _ h=>h,trivial,fun k hk=>Qf hk⟩
          ·have hb41:=nF' hb41
           replace h:=bT hb41 h
           refine Tr.skip (toN (sr ((md rfl (md rfl (Rn.build (v:=.agg [(i_ x34),(i_ x40)]) trivial rfl (Rn.alloc trivial rfl (Rn.store (v:=.agg [(i_ x34),(i_ x40)]) (cs':=[(i_ x34),(i_ x40)]) trivial rfl rfl rfl rfl rfl rfl (nt ((sr ((md rfl (Rn.bin trivial rfl rfl rfl (md rfl (Rn.nil (toN ?_)))))))))))))))))
           refine Tr.cutB (fun (seen50 : Bool)=>⟨look [(2,.ptr (Γ.n0 + 2) 0),(3,.ptr (Γ.n0 + 3) 0),(5,.own 2 (List.map (fun p : Int × Int=>[.int .i64 p.1,.int .i64 p.2]) l25)),(6,(i_ i13)),(7,(i_ k26)),(10,.ptr (Γ.n0 + 10) 0),(11,(b_ seen50))],Qp Γ.n0 (bxs [(2,.cells ((Qd a1))),(3,.cells ((Qd b2))),(10,.cells ([(i_ x34),(i_ x40)]))]) M,Γ.n0 + 120⟩) h (fun z h=>?_) (fun z h=>?_)
           ·refine sr ((md rfl (nt ((Tr.block ?_)))))
            refine Tr.loop (mk:=fun ((seen42,m43) : Bool × Int)=>⟨look [(2,.ptr (Γ.n0 + 2) 0),(3,.ptr (Γ.n0 + 3) 0),(5,.own 2 (List.map (fun p : Int × Int=>[.int .i64 p.1,.int .i64 p.2]) l25)),(6,(i_ i13)),(7,(i_ k26)),(10,.ptr (Γ.n0 + 10) 0),(11,(b_ seen42)),(12,(i_ m43))],Qp Γ.n0 (bxs [(2,.cells ((Qd a1))),(3,.cells ((Qd b2))),(10,.cells ([(i_ x34),(i_ x40)]))]) M,Γ.n0 + 120⟩) h (by exact Qm ⟨(kPtr rfl),(kPtr rfl),(sm rfl),(sm rfl),(sm rfl),(kPtr rfl),(sm rfl),(sm rfl),trivial⟩ ⟨⟨_,rfl,rfl,(.same rfl)⟩,⟨_,rfl,rfl,(.same rfl)⟩,⟨_,rfl,rfl,(.same rfl)⟩,trivial⟩ rfl) (fun k44 z h=>?_)
            ·obtain ⟨seen42,m43⟩:=z
             replace h : _ = some _:=h
             refine Tr.seq (sr ((md rfl (Rn.mov (v:=.d (.lst 2 (List.map (fun p : Int × Int=>[.int .i64 p.1,.int .i64 p.2]) l25))) trivial rfl (Rn.lenD trivial rfl (Rn.bin trivial rfl rfl rfl (Rn.nil (toN ?_))))))))
             refine Tr.cond rfl (fun hb45=>?_) (fun hb45=>?_)
             ·replace h:=ifT hb45 h
              refine Tr.skip (toN ?_)
              refine Tr.cutB (fun (seen49 : Bool)=>⟨look [(2,.ptr (Γ.n0 + 2) 0),(3,.ptr (Γ.n0 + 3) 0),(5,.own 2 (List.map (fun p : Int × Int=>[.int .i64 p.1,.int .i64 p.2]) l25)),(6,(i_ i13)),(7,(i_ k26)),(10,.ptr (Γ.n0 + 10) 0),(11,(b_ seen49)),(12,(i_ m43))],Qp Γ.n0 (bxs [(2,.cells ((Qd a1))),(3,.cells ((Qd b2))),(10,.cells ([(i_ x34),(i_ x40)]))]) M,Γ.n0 + 120⟩) h (fun z h=>?_) (fun z h=>?_)
              ·refine Tr.block ?_
               refine Tr.rgnD (by decide) ?_
               refine md rfl (md rfl ?_)
               refine Qda seen42 (fun hb46=>?_) (fun hb46=>?_)
               ·replace h:=bT hb46 h
                refine Rn.sk (nw rfl hb46) (Rn.sk (nw rfl hb46) (Rn.sk (nw rfl hb46) (Rn.sk (nw rfl hb46) (Rn.sk (nw rfl hb46) (Rn.sk (nw rfl hb46) (Rn.pickT (v:=(b_ true)) trivial rfl hb46 rfl (md rfl ?_)))))))
                refine Rn.nil ⟨rfl,?_⟩
                replace h:=si h; subst h
                exact Qh [] ⟨(kPtr rfl),(kPtr rfl),(sm rfl),(sm rfl),(sm rfl),(kPtr rfl),(sm rfl),(sm rfl),trivial⟩ ⟨⟨_,rfl,rfl,(.same rfl)⟩,⟨_,rfl,rfl,(.same rfl)⟩,⟨_,rfl,rfl,(.same rfl)⟩,trivial⟩ rfl
               ·replace h:=bF hb46 h
                refine Rn.mov (v:=.d (.lst 2 (List.map (fun p : Int × Int=>[.int .i64 p.1,.int .i64 p.2]) l25))) (gw rfl hb46) rfl (Rn.movD (gw rfl hb46) rfl ?_)
                obtain ⟨x47,h48,h⟩:=bnd h
                refine Rn.idxD (e:=(fun p : Int × Int=>[.int .i64 p.1,.int .i64 p.2])) (gw rfl hb46) rfl rfl h48 (Rn.loadCA (vs:=[(i_ x47.1),(i_ x47.2)]) (gw rfl hb46) rfl rfl rfl (Rn.load (v:=.agg [(i_ x34),(i_ x40)]) (gw rfl hb46) rfl (Qk rfl) rfl rfl (Rn.eqa (r:=((x47.1 == x34) && ((x47.2 == x40) && true))) (gw rfl hb46) rfl rfl rfl (Rn.pickF (v:=(b_ ((x47.1 == x34) && ((x47.2 == x40) && true)))) trivial rfl hb46 rfl (md rfl ?_)))))
                refine Rn.nil ⟨rfl,?_⟩
                replace h:=si h; subst h
                exact Qh [] ⟨(kPtr rfl),(kPtr rfl),(sm rfl),(sm rfl),(sm rfl),(kPtr rfl),(sm rfl),(sm rfl),trivial⟩ ⟨⟨_,rfl,rfl,(.same rfl)⟩,⟨_,rfl,rfl,(.same rfl)⟩,⟨_,rfl,rfl,(.same rfl)⟩,trivial⟩ rfl
              ·obtain ⟨seen49,rfl⟩ : ∃ x,x = z:=⟨_,rfl⟩
               refine Tr.rgn (md rfl (Rn.bin trivial rfl rfl rfl (md rfl (Rn.nil ?_))))
               exact ⟨_,h,(by exact Qm ⟨(kPtr rfl),(kPtr rfl),(sm rfl),(sm rfl),(sm rfl),(kPtr rfl),(sm rfl),(sm rfl),trivial⟩ ⟨⟨_,rfl,rfl,(.same rfl)⟩,⟨_,rfl,rfl,(.same rfl)⟩,⟨_,rfl,rfl,(.same rfl)⟩,trivial⟩ rfl)⟩
             ·replace h:=ifF hb45 h
              refine Tr.exit ?_
              replace h:=si h; subst h
              exact Qh [] ⟨(kPtr rfl),(kPtr rfl),(sm rfl),(sm rfl),(sm rfl),(kPtr rfl),(sm rfl),trivial⟩ ⟨⟨_,rfl,rfl,(.same rfl)⟩,⟨_,rfl,rfl,(.same rfl)⟩,⟨_,rfl,rfl,(.same rfl)⟩,trivial⟩ rfl
           ·obtain ⟨seen50,rfl⟩ : ∃ x,x = z:=⟨_,rfl⟩
            refine sr ((md rfl (Rn.un trivial rfl rfl (Rn.nil (toN ?_)))))
            refine Tr.cond rfl (fun hb51=>?_) (fun hb51=>?_)
            ·have hb51:=nT' hb51
             replace h:=bF hb51 h
             refine Tr.rgn (Rn.movTO trivial rfl (Rn.load (v:=.agg [(i_ x34),(i_ x40)]) trivial rfl (Qk rfl) rfl rfl (Rn.bslice (xs:=[.agg [(i_ x34),(i_ x40)]]) (cs:=[(i_ x34),(i_ x40)]) trivial rfl rfl rfl rfl ?_)))
             obtain ⟨x52,h53,h⟩:=bnd h
             refine Rn.app (e:=(fun p : Int × Int=>[.int .i64 p.1,.int .i64 p.2])) trivial rfl rfl rfl (Qcp rfl rfl rfl) h53 rfl (Rn.movTO trivial rfl (Rn.nil ?_))
             exact ⟨_,h,(by exact Qh [118] ⟨(kPtr rfl),(kPtr rfl),(sm rfl),(sm rfl),(sm rfl),trivial⟩ ⟨⟨_,rfl,rfl,(.same rfl)⟩,⟨_,rfl,rfl,(.same rfl)⟩,⟨_,rfl,rfl,(.same rfl)⟩,trivial⟩ rfl)⟩
            ·have hb51:=nF' hb51
             replace h:=bT hb51 h
             refine Tr.skip ?_
             exact ⟨_,h,(by exact Qh [] ⟨(kPtr rfl),(kPtr rfl),(sm rfl),(sm rfl),(sm rfl),trivial⟩ ⟨⟨_,rfl,rfl,(.same rfl)⟩,⟨_,rfl,rfl,(.same rfl)⟩,⟨_,rfl,rfl,(.same rfl)⟩,trivial⟩ rfl)⟩
         ·obtain ⟨l54,next55,next56⟩:=z
          refine Tr.rgn (md rfl (Rn.bin trivial rfl rfl rfl (md rfl (Rn.nil ?_))))
          exact ⟨_,h,(by exact Qm ⟨(kPtr rfl),(kPtr rfl),(sm rfl),(sm rfl),(sm rfl),trivial⟩ ⟨⟨_,rfl,rfl,(.same rfl)⟩,⟨_,rfl,rfl,(.same rfl)⟩,trivial⟩ rfl)⟩
        ·replace h:=ifF hb28 h
         refine Tr.exit (toN (Tr.rgn (md rfl (Rn.bin trivial rfl rfl rfl (md rfl (Rn.nil ?_))))))
         exact ⟨_,h,(by exact Qm ⟨(kPtr rfl),(kPtr rfl),(sm rfl),(sm rfl),trivial⟩ ⟨⟨_,rfl,rfl,(.same rfl)⟩,⟨_,rfl,rfl,(.same rfl)⟩,trivial⟩ rfl)⟩
     ·replace h:=ifF hb15 h
      refine Tr.exit (toN (sr ((md rfl (nt ((Tr.ret ?_)))))))
      replace h:=si h; subst h
      exact ⟨.inr rfl,(b_ true),rfl,fun _ _ _ _ h=>h,trivial,fun k hk=>Qf hk⟩
theorem Qiq {P : Program} {c : Nat} {Qb9 : Option Bool} {Qb3 : (List Int) → Q3 → Option Qb} {Qba : Int → Option ((List Int))} {Q9 : Qb → Qb → Option Bool} {Qw : Qb → (List Int) → Option (Qb × (List (List Int)) × Int)} {Ql : (List Int) → (List Int) → Option Bool} {Q7 : Qb → Qb → Option Bool}
    (H_overseerlaw07_known : Qgw P 7 Qb9)
    (H_overseerlaw03_Make : Qhn P 9 Qb3)
    (H_overseerlaw03_Set_Events : Qe0 P 10 Qba)
    (H_overseerref03_Same : Qfl P 12 Q9)
    (H_projection_Project : Qfk P 14 Qw)
    (H_overseerref03_SameInts : Qb5 P 19 Ql)
    (H_overseerlaw07_sameLanguages : Qea P 20 Q7) (hcf : Qt P c = some Qdo) (fuel : Nat) : Qft P c (Qcv Qb9 Qb3 Qba Q9 Qw Ql Q7 fuel):=by
 intro s1 g2 r h
 refine Qcy hcf rfl fun Γ M hP hnt hM=>?_
 subst hP
 refine Tr.init [(0,.agg [.d (.int .u8 s1.1),.d (.int .u8 s1.2.1),.d (.int .u8 s1.2.2)]),(1,.agg [.d (.int .u8 g2.States),.d (.int .u8 g2.Marks),.d (.int .u8 g2.To.1.1),.d (.int .u8 g2.To.1.2.1),.d (.int .u8 g2.To.1.2.2.1),.d (.int .u8 g2.To.1.2.2.2.1),.d (.int .u8 g2.To.1.2.2.2.2),.d (.int .u8 g2.To.2.1.1),.d (.int .u8 g2.To.2.1.2.1),.d (.int .u8 g2.To.2.1.2.2.1),.d (.int .u8 g2.To.2.1.2.2.2.1),.d (.int .u8 g2.To.2.1.2.2.2.2),.d (.int .u8 g2.To.2.2.1.1),.d (.int .u8 g2.To.2.2.1.2.1),.d (.int .u8 g2.To.2.2.1.2.2.1),.d (.int .u8 g2.To.2.2.1.2.2.2.1),.d (.int .u8 g2.To.2.2.1.2.2.2.2),.d (.int .u8 g2.To.2.2.2.1.1),.d (.int .u8 g2.To.2.2.2.1.2.1),.d (.int .u8 g2.To.2.2.2.1.2.2.1),.d (.int .u8 g2.To.2.2.2.1.2.2.2.1),.d (.int .u8 g2.To.2.2.2.1.2.2.2.2),.d (.int .u8 g2.To.2.2.2.2.1),.d (.int .u8 g2.To.2.2.2.2.2.1),.d (.int .u8 g2.To.2.2.2.2.2.2.1),.d (.int .u8 g2.To.2.2.2.2.2.2.2.1),.d (.int .u8 g2.To.2.2.2.2.2.2.2.2)])] rfl ?_
 unfold Qcv at h
 unfold Qdo
 refine sr ((Rn.box (v:=.agg [.d (.int .u8 s1.1),.d (.int .u8 s1.2.1),.d (.int .u8 s1.2.2)]) (cs:=[.d (.int .u8 s1.1),.d (.int .u8 s1.2.1),.d (.int .u8 s1.2.2)]) trivial rfl rfl rfl rfl rfl (Rn.box (v:=.agg [.d (.int .u8 g2.States),.d (.int .u8 g2.Marks),.d (.int .u8 g2.To.1.1),.d (.int .u8 g2.To.1.2.1),.d (.int .u8 g2.To.1.2.2.1),.d (.int .u8 g2.To.1.2.2.2.1),.d (.int .u8 g2.To.1.2.2.2.2),.d (.int .u8 g2.To.2.1.1),.d (.int .u8 g2.To.2.1.2.1),.d (.int .u8 g2.To.2.1.2.2.1),.d (.int .u8 g2.To.2.1.2.2.2.1),.d (.int .u8 g2.To.2.1.2.2.2.2),.d (.int .u8 g2.To.2.2.1.1),.d (.int .u8 g2.To.2.2.1.2.1),.d (.int .u8 g2.To.2.2.1.2.2.1),.d (.int .u8 g2.To.2.2.1.2.2.2.1),.d (.int .u8 g2.To.2.2.1.2.2.2.2),.d (.int .u8 g2.To.2.2.2.1.1),.d (.int .u8 g2.To.2.2.2.1.2.1),.d (.int .u8 g2.To.2.2.2.1.2.2.1),.d (.int .u8 g2.To.2.2.2.1.2.2.2.1),.d (.int .u8 g2.To.2.2.2.1.2.2.2.2),.d (.int .u8 g2.To.2.2.2.2.1),.d (.int .u8 g2.To.2.2.2.2.2.1),.d (.int .u8 g2.To.2.2.2.2.2.2.1),.d (.int .u8 g2.To.2.2.2.2.2.2.2.1),.d (.int .u8 g2.To.2.2.2.2.2.2.2.2)]) (cs:=[.d (.int .u8 g2.States),.d (.int .u8 g2.Marks),.d (.int .u8 g2.To.1.1),.d (.int .u8 g2.To.1.2.1),.d (.int .u8 g2.To.1.2.2.1),.d (.int .u8 g2.To.1.2.2.2.1),.d (.int .u8 g2.To.1.2.2.2.2),.d (.int .u8 g2.To.2.1.1),.d (.int .u8 g2.To.2.1.2.1),.d (.int .u8 g2.To.2.1.2.2.1),.d (.int .u8 g2.To.2.1.2.2.2.1),.d (.int .u8 g2.To.2.1.2.2.2.2),.d (.int .u8 g2.To.2.2.1.1),.d (.int .u8 g2.To.2.2.1.2.1),.d (.int .u8 g2.To.2.2.1.2.2.1),.d (.int .u8 g2.To.2.2.1.2.2.2.1),.d (.int .u8 g2.To.2.2.1.2.2.2.2),.d (.int .u8 g2.To.2.2.2.1.1),.d (.int .u8 g2.To.2.2.2.1.2.1),.d (.int .u8 g2.To.2.2.2.1.2.2.1),.d (.int .u8 g2.To.2.2.2.1.2.2.2.1),.d (.int .u8 g2.To.2.2.2.1.2.2.2.2),.d (.int .u8 g2.To.2.2.2.2.1),.d (.int .u8 g2.To.2.2.2.2.2.1),.d (.int .u8 g2.To.2.2.2.2.2.2.1),.d (.int .u8 g2.To.2.2.2.2.2.2.2.1),.d (.int .u8 g2.To.2.2.2.2.2.2.2.2)]) trivial rfl rfl rfl rfl rfl (md rfl (nt ((Tr.seq (Tr.seq (Tr.rgn ?_)))))))))
 obtain ⟨x4,h3,h⟩:=bnd h
 refine Rn.call (args:=[]) trivial rfl (H_overseerlaw07_known _ h3) pc9 (Rn.un trivial rfl rfl (Rn.nil (toN ?_)))
 refine Tr.cond rfl (fun hb5=>?_) (fun hb5=>?_)
 ·have hb5:=nT' hb5
  replace h:=bF hb5 h
  refine sr ((md rfl (nt ((Tr.ret ?_)))))
  replace h:=si h; subst h
  exact ⟨.inr rfl,(b_ false),rfl,fun _ _ _ _ h=>h,trivial,fun k hk=>Qf hk⟩
 ·have hb5:=nF' hb5
  replace h:=bT hb5 h
  refine Tr.skip (toN (Tr.seq ?_))
  refine Tr.rgnD (by decide) ?_
  refine Rn.k (v:=.ptr (Γ.n0 + 2) 0) trivial rfl rfl rfl (Rn.load (v:=.d (.int .u8 s1.1)) trivial rfl (Qk rfl) rfl rfl ?_)
  obtain ⟨x7,h6,h⟩:=bnd h
  refine Rn.call (args:=[.d (.int .u8 s1.1)]) trivial rfl (H_overseerlaw03_Set_Events _ _ h6) (fun _=>Q2k hM rfl) (Rn.load (v:=.agg [.d (.int .u8 g2.States),.d (.int .u8 g2.Marks),.d (.int .u8 g2.To.1.1),.d (.int .u8 g2.To.1.2.1),.d (.int .u8 g2.To.1.2.2.1),.d (.int .u8 g2.To.1.2.2.2.1),.d (.int .u8 g2.To.1.2.2.2.2),.d (.int .u8 g2.To.2.1.1),.d (.int .u8 g2.To.2.1.2.1),.d (.int .u8 g2.To.2.1.2.2.1),.d (.int .u8 g2.To.2.1.2.2.2.1),.d (.int .u8 g2.To.2.1.2.2.2.2),.d (.int .u8 g2.To.2.2.1.1),.d (.int .u8 g2.To.2.2.1.2.1),.d (.int .u8 g2.To.2.2.1.2.2.1),.d (.int .u8 g2.To.2.2.1.2.2.2.1),.d (.int .u8 g2.To.2.2.1.2.2.2.2),.d (.int .u8 g2.To.2.2.2.1.1),.d (.int .u8 g2.To.2.2.2.1.2.1),.d (.int .u8 g2.To.2.2.2.1.2.2.1),.d (.int .u8 g2.To.2.2.2.1.2.2.2.1),.d (.int .u8 g2.To.2.2.2.1.2.2.2.2),.d (.int .u8 g2.To.2.2.2.2.1),.d (.int .u8 g2.To.2.2.2.2.2.1),.d (.int .u8 g2.To.2.2.2.2.2.2.1),.d (.int .u8 g2.To.2.2.2.2.2.2.2.1),.d (.int .u8 g2.To.2.2.2.2.2.2.2.2)]) trivial rfl (Qk rfl) rfl rfl ?_)
  obtain ⟨x9,h8,h⟩:=bnd h
  refine Rn.call (args:=[(l_ x7),.agg [.d (.int .u8 g2.States),.d (.int .u8 g2.Marks),.d (.int .u8 g2.To.1.1),.d (.int .u8 g2.To.1.2.1),.d (.int .u8 g2.To.1.2.2.1),.d (.int .u8 g2.To.1.2.2.2.1),.d (.int .u8 g2.To.1.2.2.2.2),.d (.int .u8 g2.To.2.1.1),.d (.int .u8 g2.To.2.1.2.1),.d (.int .u8 g2.To.2.1.2.2.1),.d (.int .u8 g2.To.2.1.2.2.2.1),.d (.int .u8 g2.To.2.1.2.2.2.2),.d (.int .u8 g2.To.2.2.1.1),.d (.int .u8 g2.To.2.2.1.2.1),.d (.int .u8 g2.To.2.2.1.2.2.1),.d (.int .u8 g2.To.2.2.1.2.2.2.1),.d (.int .u8 g2.To.2.2.1.2.2.2.2),.d (.int .u8 g2.To.2.2.2.1.1),.d (.int .u8 g2.To.2.2.2.1.2.1),.d (.int .u8 g2.To.2.2.2.1.2.2.1),.d (.int .u8 g2.To.2.2.2.1.2.2.2.1),.d (.int .u8 g2.To.2.2.2.1.2.2.2.2),.d (.int .u8 g2.To.2.2.2.2.1),.d (.int .u8 g2.To.2.2.2.2.2.1),.d (.int .u8 g2.To.2.2.2.2.2.2.1),.d (.int .u8 g2.To.2.2.2.2.2.2.2.1),.d (.int .u8 g2.To.2.2.2.2.2.2.2.2)]]) trivial rfl (H_overseerlaw03_Make _ _ _ h8) (fun _=>Q2k hM rfl) (Rn.alloc trivial rfl (Rn.storeT (v:=(Qa x9)) (ds:=(Qd x9)) (cs':=(Qd x9)) trivial rfl rfl rfl rfl rfl rfl rfl ?_))
  refine Rn.nil ⟨rfl,?_⟩
  refine toN (Tr.seq ?_)
  refine Tr.rgnD (by decide) ?_
  refine Rn.k (v:=.ptr (Γ.n0 + 2) 1) trivial rfl rfl rfl (Rn.load (v:=.d (.int .u8 s1.2.1)) trivial rfl (Qk rfl) rfl rfl ?_)
  obtain ⟨x11,h10,h⟩:=bnd h
  refine Rn.call (args:=[.d (.int .u8 s1.2.1)]) trivial rfl (H_overseerlaw03_Set_Events _ _ h10) (fun _=>Q2k hM rfl) (Rn.k (v:=.ptr (Γ.n0 + 2) 1) trivial rfl rfl rfl (Rn.load (v:=.d (.int .u8 s1.2.1)) trivial rfl (Qk rfl) rfl rfl (Rn.k (v:=.ptr (Γ.n0 + 2) 2) trivial rfl rfl rfl (Rn.load (v:=.d (.int .u8 s1.2.2)) trivial rfl (Qk rfl) rfl rfl (Rn.bin trivial rfl rfl rfl ?_)))))
  obtain ⟨x13,h12,h⟩:=bnd h
  refine Rn.call (args:=[.d (.int .u8 (andI .u8 s1.2.1 s1.2.2))]) trivial rfl (H_overseerlaw03_Set_Events _ _ h12) (fun _=>Q2k hM rfl) (Rn.movTO trivial rfl (Rn.movTO trivial rfl ?_))
  refine Rn.nil ⟨rfl,?_⟩
  refine toN (sr ((Rn.load (v:=(Qa x9)) trivial rfl (Qk rfl) rfl rfl (Rn.mov (v:=(l_ x11)) trivial rfl ?_))))
  obtain ⟨⟨r15,r16,r17⟩,h14,h⟩:=bnd h
  refine Rn.call (args:=[(Qa x9),(l_ x11)]) trivial rfl (H_projection_Project _ _ _ h14) pc9 (Rn.mov (v:=.tup [(Qa r15),.d (.lst 1 (List.map (eL 1 (eI .i64)) r16)),(i_ r17)]) trivial rfl (Rn.ext (v:=(Qa r15)) (vs:=[(Qa r15),.d (.lst 1 (List.map (eL 1 (eI .i64)) r16)),(i_ r17)]) trivial rfl rfl rfl (Rn.extTD (vs:=[(Qa r15),.d (.lst 1 (List.map (eL 1 (eI .i64)) r16)),(i_ r17)]) trivial rfl rfl rfl (Rn.ext (v:=(i_ r17)) (vs:=[(Qa r15),.d (.lst 1 (List.map (eL 1 (eI .i64)) r16)),(i_ r17)]) trivial rfl rfl rfl (Rn.alloc trivial rfl (Rn.storeT (v:=(Qa r15)) (ds:=(Qd r15)) (cs':=(Qd r15)) trivial rfl rfl rfl rfl rfl rfl rfl (Rn.movTD trivial rfl (md rfl (nt ((sr ((Rn.load (v:=(Qa r15)) trivial rfl (Qk rfl) rfl rfl (Rn.mov (v:=(l_ x13)) trivial rfl ?_))))))))))))))
  obtain ⟨⟨r19,r20,r21⟩,h18,h⟩:=bnd h
  refine Rn.call (args:=[(Qa r15),(l_ x13)]) trivial rfl (H_projection_Project _ _ _ h18) pc9 (Rn.mov (v:=.tup [(Qa r19),.d (.lst 1 (List.map (eL 1 (eI .i64)) r20)),(i_ r21)]) trivial rfl (Rn.ext (v:=(Qa r19)) (vs:=[(Qa r19),.d (.lst 1 (List.map (eL 1 (eI .i64)) r20)),(i_ r21)]) trivial rfl rfl rfl (Rn.extTD (vs:=[(Qa r19),.d (.lst 1 (List.map (eL 1 (eI .i64)) r20)),(i_ r21)]) trivial rfl rfl rfl (Rn.ext (v:=(i_ r21)) (vs:=[(Qa r19),.d (.lst 1 (List.map (eL 1 (eI .i64)) r20)),(i_ r21)]) trivial rfl rfl rfl (Rn.alloc trivial rfl (Rn.storeT (v:=(Qa r19)) (ds:=(Qd r19)) (cs':=(Qd r19)) trivial rfl rfl rfl rfl rfl rfl rfl (Rn.movTD trivial rfl (md rfl (nt ((sr ((Rn.load (v:=(Qa x9)) trivial rfl (Qk rfl) rfl rfl (Rn.mov (v:=(l_ x13)) trivial rfl ?_))))))))))))))
  obtain ⟨⟨r23,r24,r25⟩,h22,h⟩:=bnd h
  refine Rn.call (args:=[(Qa x9),(l_ x13)]) trivial rfl (H_projection_Project _ _ _ h22) pc9 (Rn.mov (v:=.tup [(Qa r23),.d (.lst 1 (List.map (eL 1 (eI .i64)) r24)),(i_ r25)]) trivial rfl (Rn.ext (v:=(Qa r23)) (vs:=[(Qa r23),.d (.lst 1 (List.map (eL 1 (eI .i64)) r24)),(i_ r25)]) trivial rfl rfl rfl (Rn.extTD (vs:=[(Qa r23),.d (.lst 1 (List.map (eL 1 (eI .i64)) r24)),(i_ r25)]) trivial rfl rfl rfl (Rn.ext (v:=(i_ r25)) (vs:=[(Qa r23),.d (.lst 1 (List.map (eL 1 (eI .i64)) r24)),(i_ r25)]) trivial rfl rfl rfl (Rn.alloc trivial rfl (Rn.storeT (v:=(Qa r23)) (ds:=(Qd r23)) (cs':=(Qd r23)) trivial rfl rfl rfl rfl rfl rfl rfl (Rn.movTD trivial rfl (md rfl (nt ((sr ((Rn.load (v:=(Qa x9)) trivial rfl (Qk rfl) rfl rfl (Rn.fldP (o':=0) trivial rfl rfl (Rn.load (v:=(l_ x9.Alphabet)) trivial rfl (Qk rfl) rfl rfl ?_)))))))))))))))
  obtain ⟨⟨r27,r28,r29⟩,h26,h⟩:=bnd h
  refine Rn.call (args:=[(Qa x9),(l_ x9.Alphabet)]) trivial rfl (H_projection_Project _ _ _ h26) pc9 (Rn.mov (v:=.tup [(Qa r27),.d (.lst 1 (List.map (eL 1 (eI .i64)) r28)),(i_ r29)]) trivial rfl (Rn.ext (v:=(Qa r27)) (vs:=[(Qa r27),.d (.lst 1 (List.map (eL 1 (eI .i64)) r28)),(i_ r29)]) trivial rfl rfl rfl (Rn.extTD (vs:=[(Qa r27),.d (.lst 1 (List.map (eL 1 (eI .i64)) r28)),(i_ r29)]) trivial rfl rfl rfl (Rn.ext (v:=(i_ r29)) (vs:=[(Qa r27),.d (.lst 1 (List.map (eL 1 (eI .i64)) r28)),(i_ r29)]) trivial rfl rfl rfl (Rn.alloc trivial rfl (Rn.storeT (v:=(Qa r27)) (ds:=(Qd r27)) (cs':=(Qd r27)) trivial rfl rfl rfl rfl rfl rfl rfl (Rn.movTD trivial rfl (md rfl (nt ((Tr.seq ?_)))))))))))
  refine Tr.cutB (fun (x31 : Bool)=>⟨look [(5,.ptr (Γ.n0 + 5) 0),(10,(i_ r17)),(11,.ptr (Γ.n0 + 11) 0),(13,(i_ r21)),(14,.ptr (Γ.n0 + 14) 0),(16,(i_ r25)),(17,.ptr (Γ.n0 + 17) 0),(18,.d (.lst 1 (List.map (eL 1 (eI .i64)) r28))),(19,(i_ r29)),(72,(b_ x31))],Qp Γ.n0 (bxs [(2,.cells ([.d (.int .u8 s1.1),.d (.int .u8 s1.2.1),.d (.int .u8 s1.2.2)])),(3,.cells ([.d (.int .u8 g2.States),.d (.int .u8 g2.Marks),.d (.int .u8 g2.To.1.1),.d (.int .u8 g2.To.1.2.1),.d (.int .u8 g2.To.1.2.2.1),.d (.int .u8 g2.To.1.2.2.2.1),.d (.int .u8 g2.To.1.2.2.2.2),.d (.int .u8 g2.To.2.1.1),.d (.int .u8 g2.To.2.1.2.1),.d (.int .u8 g2.To.2.1.2.2.1),.d (.int .u8 g2.To.2.1.2.2.2.1),.d (.int .u8 g2.To.2.1.2.2.2.2),.d (.int .u8 g2.To.2.2.1.1),.d (.int .u8 g2.To.2.2.1.2.1),.d (.int .u8 g2.To.2.2.1.2.2.1),.d (.int .u8 g2.To.2.2.1.2.2.2.1),.d (.int .u8 g2.To.2.2.1.2.2.2.2),.d (.int .u8 g2.To.2.2.2.1.1),.d (.int .u8 g2.To.2.2.2.1.2.1),.d (.int .u8 g2.To.2.2.2.1.2.2.1),.d (.int .u8 g2.To.2.2.2.1.2.2.2.1),.d (.int .u8 g2.To.2.2.2.1.2.2.2.2),.d (.int .u8 g2.To.2.2.2.2.1),.d (.int .u8 g2.To.2.2.2.2.2.1),.d (.int .u8 g2.To.2.2.2.2.2.2.1),.d (.int .u8 g2.To.2.2.2.2.2.2.2.1),.d (.int .u8 g2.To.2.2.2.2.2.2.2.2)])),(5,.cells ((Qd x9))),(8,.cells ((Qd r15))),(11,.cells ((Qd r19))),(14,.cells ((Qd r23))),(17,.cells ((Qd r27)))]) M,Γ.n0 + 120⟩) h (fun z h=>?_) (fun z h=>?_)
  ·refine Tr.rgn (md rfl (Rn.bin trivial rfl rfl rfl (md rfl ?_)))
   refine Qda (r21 == 3) (fun hb30=>?_) (fun hb30=>?_)
   ·replace h:=bT hb30 h
    refine Rn.fldP (o':=1) (gw rfl hb30) rfl rfl (Rn.load (v:=(i_ r15.States)) (gw rfl hb30) rfl (Qk rfl) rfl rfl (Rn.bin (gw rfl hb30) rfl rfl rfl (Rn.pickT (v:=(b_ (decide (r15.States > 12)))) trivial rfl hb30 rfl (Rn.nil ?_))))
    replace h:=si h; subst h
    exact Qh [] ⟨(kPtr rfl),(sm rfl),(kPtr rfl),(sm rfl),(kPtr rfl),(sm rfl),(kPtr rfl),(sm rfl),(sm rfl),(sm rfl),trivial⟩ ⟨⟨_,rfl,rfl,(.same rfl)⟩,⟨_,rfl,rfl,(.same rfl)⟩,⟨_,rfl,rfl,(.same rfl)⟩,⟨_,rfl,rfl,(.same rfl)⟩,⟨_,rfl,rfl,(.same rfl)⟩,⟨_,rfl,rfl,(.same rfl)⟩,⟨_,rfl,rfl,(.same rfl)⟩,trivial⟩ rfl
   ·replace h:=bF hb30 h
    refine Rn.sk (nw rfl hb30) (Rn.sk (nw rfl hb30) (Rn.sk (nw rfl hb30) (Rn.pickF (v:=(b_ false)) trivial rfl hb30 rfl (Rn.nil ?_))))
    replace h:=si h; subst h
    exact Qh [] ⟨(kPtr rfl),(sm rfl),(kPtr rfl),(sm rfl),(kPtr rfl),(sm rfl),(kPtr rfl),(sm rfl),(sm rfl),(sm rfl),trivial⟩ ⟨⟨_,rfl,rfl,(.same rfl)⟩,⟨_,rfl,rfl,(.same rfl)⟩,⟨_,rfl,rfl,(.same rfl)⟩,⟨_,rfl,rfl,(.same rfl)⟩,⟨_,rfl,rfl,(.same rfl)⟩,⟨_,rfl,rfl,(.same rfl)⟩,⟨_,rfl,rfl,(.same rfl)⟩,trivial⟩ rfl
  ·obtain ⟨x31,rfl⟩ : ∃ x,x = z:=⟨_,rfl⟩
   refine Tr.cond rfl (fun hb32=>?_) (fun hb32=>?_)
   ·replace h:=bT hb32 h
    refine sr ((md rfl (nt ((Tr.ret ?_)))))
    replace h:=si h; subst h
    exact ⟨.inr rfl,(b_ true),rfl,fun _ _ _ _ h=>h,trivial,fun k hk=>Qf hk⟩
   ·replace h:=bF hb32 h
    refine Tr.skip (toN (Tr.seq ?_))
    refine Tr.cutB (fun (x43 : Bool)=>⟨look [(18,.d (.lst 1 (List.map (eL 1 (eI .i64)) r28))),(105,(b_ x43))],Qp Γ.n0 (bxs [(2,.cells ([.d (.int .u8 s1.1),.d (.int .u8 s1.2.1),.d (.int .u8 s1.2.2)])),(3,.cells ([.d (.int .u8 g2.States),.d (.int .u8 g2.Marks),.d (.int .u8 g2.To.1.1),.d (.int .u8 g2.To.1.2.1),.d (.int .u8 g2.To.1.2.2.1),.d (.int .u8 g2.To.1.2.2.2.1),.d (.int .u8 g2.To.1.2.2.2.2),.d (.int .u8 g2.To.2.1.1),.d (.int .u8 g2.To.2.1.2.1),.d (.int .u8 g2.To.2.1.2.2.1),.d (.int .u8 g2.To.2.1.2.2.2.1),.d (.int .u8 g2.To.2.1.2.2.2.2),.d (.int .u8 g2.To.2.2.1.1),.d (.int .u8 g2.To.2.2.1.2.1),.d (.int .u8 g2.To.2.2.1.2.2.1),.d (.int .u8 g2.To.2.2.1.2.2.2.1),.d (.int .u8 g2.To.2.2.1.2.2.2.2),.d (.int .u8 g2.To.2.2.2.1.1),.d (.int .u8 g2.To.2.2.2.1.2.1),.d (.int .u8 g2.To.2.2.2.1.2.2.1),.d (.int .u8 g2.To.2.2.2.1.2.2.2.1),.d (.int .u8 g2.To.2.2.2.1.2.2.2.2),.d (.int .u8 g2.To.2.2.2.2.1),.d (.int .u8 g2.To.2.2.2.2.2.1),.d (.int .u8 g2.To.2.2.2.2.2.2.1),.d (.int .u8 g2.To.2.2.2.2.2.2.2.1),.d (.int .u8 g2.To.2.2.2.2.2.2.2.2)])),(5,.cells ((Qd x9))),(8,.cells ((Qd r15))),(11,.cells ((Qd r19))),(14,.cells ((Qd r23))),(17,.cells ((Qd r27)))]) M,Γ.n0 + 120⟩) h (fun z h=>?_) (fun z h=>?_)
    ·refine Tr.rgn (md rfl (Rn.bin trivial rfl rfl rfl (md rfl ?_)))
     refine Qda (r17 != 0) (fun hb33=>?_) (fun hb33=>?_)
     ·replace h:=bT hb33 h
      refine Rn.sk (nw rfl hb33) (Rn.sk (nw rfl hb33) (Rn.pickT (v:=(b_ true)) trivial rfl hb33 rfl (md rfl (Rn.sk (nw (b:=true) rfl rfl) (Rn.sk (nw (b:=true) rfl rfl) (Rn.pickT (v:=(b_ true)) trivial rfl rfl rfl (md rfl (Rn.sk (nw (b:=true) rfl rfl) (Rn.sk (nw (b:=true) rfl rfl) (Rn.pickT (v:=(b_ true)) trivial rfl rfl rfl (md rfl (Rn.sk (nw (b:=true) rfl rfl) (Rn.sk (nw (b:=true) rfl rfl) (Rn.sk (nw (b:=true) rfl rfl) (Rn.sk (nw (b:=true) rfl rfl) (Rn.pickT (v:=(b_ true)) trivial rfl rfl rfl (md rfl (Rn.sk (nw (b:=true) rfl rfl) (Rn.sk (nw (b:=true) rfl rfl) (Rn.sk (nw (b:=true) rfl rfl) (Rn.sk (nw (b:=true) rfl rfl) (Rn.pickT (v:=(b_ true)) trivial rfl rfl rfl (md rfl (Rn.sk (nw (b:=true) rfl rfl) (Rn.sk (nw (b:=true) rfl rfl) (Rn.sk (nw (b:=true) rfl rfl) (Rn.sk (nw (b:=true) rfl rfl) (Rn.sk (nw (b:=true) rfl rfl) (Rn.pickT (v:=(b_ true)) trivial rfl rfl rfl (Rn.nil ?_))))))))))))))))))))))))))))))
      replace h:=si h; subst h
      exact Qh [] ⟨(sm rfl),(sm rfl),trivial⟩ ⟨⟨_,rfl,rfl,(.same rfl)⟩,⟨_,rfl,rfl,(.same rfl)⟩,⟨_,rfl,rfl,(.same rfl)⟩,⟨_,rfl,rfl,(.same rfl)⟩,⟨_,rfl,rfl,(.same rfl)⟩,⟨_,rfl,rfl,(.same rfl)⟩,⟨_,rfl,rfl,(.same rfl)⟩,trivial⟩ rfl
     ·replace h:=bF hb33 h
      refine Rn.movD (gw rfl hb33) rfl (Rn.bin (gw rfl hb33) rfl rfl rfl (Rn.pickF (v:=(b_ (r21 != 0))) trivial rfl hb33 rfl (md rfl ?_)))
      refine Qda (r21 != 0) (fun hb34=>?_) (fun hb34=>?_)
      ·replace h:=bT hb34 h
       refine Rn.sk (nw rfl hb34) (Rn.sk (nw rfl hb34) (Rn.pickT (v:=(b_ true)) trivial rfl hb34 rfl (md rfl (Rn.sk (nw (b:=true) rfl rfl) (Rn.sk (nw (b:=true) rfl rfl) (Rn.pickT (v:=(b_ true)) trivial rfl rfl rfl (md rfl (Rn.sk (nw (b:=true) rfl rfl) (Rn.sk (nw (b:=true) rfl rfl) (Rn.sk (nw (b:=true) rfl rfl) (Rn.sk (nw (b:=true) rfl rfl) (Rn.pickT (v:=(b_ true)) trivial rfl rfl rfl (md rfl (Rn.sk (nw (b:=true) rfl rfl) (Rn.sk (nw (b:=true) rfl rfl) (Rn.sk (nw (b:=true) rfl rfl) (Rn.sk (nw (b:=true) rfl rfl) (Rn.pickT (v:=(b_ true)) trivial rfl rfl rfl (md rfl (Rn.sk (nw (b:=true) rfl rfl) (Rn.sk (nw (b:=true) rfl rfl) (Rn.sk (nw (b:=true) rfl rfl) (Rn.sk (nw (b:=true) rfl rfl) (Rn.sk (nw (b:=true) rfl rfl) (Rn.pickT (v:=(b_ true)) trivial rfl rfl rfl (Rn.nil ?_))))))))))))))))))))))))))
       replace h:=si h; subst h
       exact Qh [] ⟨(sm rfl),(sm rfl),trivial⟩ ⟨⟨_,rfl,rfl,(.same rfl)⟩,⟨_,rfl,rfl,(.same rfl)⟩,⟨_,rfl,rfl,(.same rfl)⟩,⟨_,rfl,rfl,(.same rfl)⟩,⟨_,rfl,rfl,(.same rfl)⟩,⟨_,rfl,rfl,(.same rfl)⟩,⟨_,rfl,rfl,(.same rfl)⟩,trivial⟩ rfl
      ·replace h:=bF hb34 h
       refine Rn.movD (gw rfl hb34) rfl (Rn.bin (gw rfl hb34) rfl rfl rfl (Rn.pickF (v:=(b_ (r25 != 0))) trivial rfl hb34 rfl (md rfl ?_)))
       refine Qda (r25 != 0) (fun hb35=>?_) (fun hb35=>?_)
       ·replace h:=bT hb35 h
        refine Rn.sk (nw rfl hb35) (Rn.sk (nw rfl hb35) (Rn.pickT (v:=(b_ true)) trivial rfl hb35 rfl (md rfl (Rn.sk (nw (b:=true) rfl rfl) (Rn.sk (nw (b:=true) rfl rfl) (Rn.sk (nw (b:=true) rfl rfl) (Rn.sk (nw (b:=true) rfl rfl) (Rn.pickT (v:=(b_ true)) trivial rfl rfl rfl (md rfl (Rn.sk (nw (b:=true) rfl rfl) (Rn.sk (nw (b:=true) rfl rfl) (Rn.sk (nw (b:=true) rfl rfl) (Rn.sk (nw (b:=true) rfl rfl) (Rn.pickT (v:=(b_ true)) trivial rfl rfl rfl (md rfl (Rn.sk (nw (b:=true) rfl rfl) (Rn.sk (nw (b:=true) rfl rfl) (Rn.sk (nw (b:=true) rfl rfl) (Rn.sk (nw (b:=true) rfl rfl) (Rn.sk (nw (b:=true) rfl rfl) (Rn.pickT (v:=(b_ true)) trivial rfl rfl rfl (Rn.nil ?_))))))))))))))))))))))
        replace h:=si h; subst h
        exact Qh [] ⟨(sm rfl),(sm rfl),trivial⟩ ⟨⟨_,rfl,rfl,(.same rfl)⟩,⟨_,rfl,rfl,(.same rfl)⟩,⟨_,rfl,rfl,(.same rfl)⟩,⟨_,rfl,rfl,(.same rfl)⟩,⟨_,rfl,rfl,(.same rfl)⟩,⟨_,rfl,rfl,(.same rfl)⟩,⟨_,rfl,rfl,(.same rfl)⟩,trivial⟩ rfl
       ·replace h:=bF hb35 h
        refine Rn.movD (gw rfl hb35) rfl (Rn.bin (gw rfl hb35) rfl rfl rfl (Rn.pickF (v:=(b_ (r29 != 0))) trivial rfl hb35 rfl (md rfl ?_)))
        refine Qda (r29 != 0) (fun hb36=>?_) (fun hb36=>?_)
        ·replace h:=bT hb36 h
         refine Rn.sk (nw rfl hb36) (Rn.sk (nw rfl hb36) (Rn.sk (nw rfl hb36) (Rn.sk (nw rfl hb36) (Rn.pickT (v:=(b_ true)) trivial rfl hb36 rfl (md rfl (Rn.sk (nw (b:=true) rfl rfl) (Rn.sk (nw (b:=true) rfl rfl) (Rn.sk (nw (b:=true) rfl rfl) (Rn.sk (nw (b:=true) rfl rfl) (Rn.pickT (v:=(b_ true)) trivial rfl rfl rfl (md rfl (Rn.sk (nw (b:=true) rfl rfl) (Rn.sk (nw (b:=true) rfl rfl) (Rn.sk (nw (b:=true) rfl rfl) (Rn.sk (nw (b:=true) rfl rfl) (Rn.sk (nw (b:=true) rfl rfl) (Rn.pickT (v:=(b_ true)) trivial rfl rfl rfl (Rn.nil ?_))))))))))))))))))
         replace h:=si h; subst h
         exact Qh [] ⟨(sm rfl),(sm rfl),trivial⟩ ⟨⟨_,rfl,rfl,(.same rfl)⟩,⟨_,rfl,rfl,(.same rfl)⟩,⟨_,rfl,rfl,(.same rfl)⟩,⟨_,rfl,rfl,(.same rfl)⟩,⟨_,rfl,rfl,(.same rfl)⟩,⟨_,rfl,rfl,(.same rfl)⟩,⟨_,rfl,rfl,(.same rfl)⟩,trivial⟩ rfl
        ·replace h:=bF hb36 h
         refine Rn.load (v:=(Qa r19)) (gw rfl hb36) rfl (Qk rfl) rfl rfl (Rn.load (v:=(Qa r23)) (gw rfl hb36) rfl (Qk rfl) rfl rfl ?_)
         obtain ⟨x38,h37,h⟩:=bnd h
         refine Rn.call (args:=[(Qa r19),(Qa r23)]) (gw rfl hb36) rfl (H_overseerlaw07_sameLanguages _ _ _ h37) pc9 (Rn.un (gw rfl hb36) rfl rfl (Rn.pickF (v:=(b_ (!x38))) trivial rfl hb36 rfl (md rfl ?_)))
         refine Qda x38 (fun hb39=>?_) (fun hb39=>?_)
         ·replace h:=bT hb39 h
          refine Rn.load (v:=(Qa r27)) (gw rfl (nT hb39)) rfl (Qk rfl) rfl rfl (Rn.load (v:=(Qa x9)) (gw rfl (nT hb39)) rfl (Qk rfl) rfl rfl ?_)
          obtain ⟨x41,h40,h⟩:=bnd h
          refine Rn.call (args:=[(Qa r27),(Qa x9)]) (gw rfl (nT hb39)) rfl (H_overseerref03_Same _ _ _ h40) pc9 (Rn.un (gw rfl (nT hb39)) rfl rfl (Rn.pickF (v:=(b_ (!x41))) trivial rfl (nT hb39) rfl (md rfl ?_)))
          refine Qda x41 (fun hb42=>?_) (fun hb42=>?_)
          ·replace h:=bT hb42 h
           refine Rn.movD (gw rfl (nT hb42)) rfl (Rn.lenD (gw rfl (nT hb42)) rfl (Rn.fldP (o':=1) (gw rfl (nT hb42)) rfl rfl (Rn.load (v:=(i_ x9.States)) (gw rfl (nT hb42)) rfl (Qk rfl) rfl rfl (Rn.bin (gw rfl (nT hb42)) rfl rfl rfl (Rn.pickF (v:=(b_ ((r28.length : Int) != x9.States))) trivial rfl (nT hb42) rfl (Rn.nil ?_))))))
           replace h:=si h; subst h
           exact Qh [] ⟨(sm rfl),(sm rfl),trivial⟩ ⟨⟨_,rfl,rfl,(.same rfl)⟩,⟨_,rfl,rfl,(.same rfl)⟩,⟨_,rfl,rfl,(.same rfl)⟩,⟨_,rfl,rfl,(.same rfl)⟩,⟨_,rfl,rfl,(.same rfl)⟩,⟨_,rfl,rfl,(.same rfl)⟩,⟨_,rfl,rfl,(.same rfl)⟩,trivial⟩ rfl
          ·replace h:=bF hb42 h
           refine Rn.sk (nw rfl (nF hb42)) (Rn.sk (nw rfl (nF hb42)) (Rn.sk (nw rfl (nF hb42)) (Rn.sk (nw rfl (nF hb42)) (Rn.sk (nw rfl (nF hb42)) (Rn.pickT (v:=(b_ true)) trivial rfl (nF hb42) rfl (Rn.nil ?_))))))
           replace h:=si h; subst h
           exact Qh [] ⟨(sm rfl),(sm rfl),trivial⟩ ⟨⟨_,rfl,rfl,(.same rfl)⟩,⟨_,rfl,rfl,(.same rfl)⟩,⟨_,rfl,rfl,(.same rfl)⟩,⟨_,rfl,rfl,(.same rfl)⟩,⟨_,rfl,rfl,(.same rfl)⟩,⟨_,rfl,rfl,(.same rfl)⟩,⟨_,rfl,rfl,(.same rfl)⟩,trivial⟩ rfl
         ·replace h:=bF hb39 h
          refine Rn.sk (nw rfl (nF hb39)) (Rn.sk (nw rfl (nF hb39)) (Rn.sk (nw rfl (nF hb39)) (Rn.sk (nw rfl (nF hb39)) (Rn.pickT (v:=(b_ true)) trivial rfl (nF hb39) rfl (md rfl (Rn.sk (nw (b:=true) rfl rfl) (Rn.sk (nw (b:=true) rfl rfl) (Rn.sk (nw (b:=true) rfl rfl) (Rn.sk (nw (b:=true) rfl rfl) (Rn.sk (nw (b:=true) rfl rfl) (Rn.pickT (v:=(b_ true)) trivial rfl rfl rfl (Rn.nil ?_))))))))))))
          replace h:=si h; subst h
          exact Qh [] ⟨(sm rfl),(sm rfl),trivial⟩ ⟨⟨_,rfl,rfl,(.same rfl)⟩,⟨_,rfl,rfl,(.same rfl)⟩,⟨_,rfl,rfl,(.same rfl)⟩,⟨_,rfl,rfl,(.same rfl)⟩,⟨_,rfl,rfl,(.same rfl)⟩,⟨_,rfl,rfl,(.same rfl)⟩,⟨_,rfl,rfl,(.same rfl)⟩,trivial⟩ rfl
    ·obtain ⟨x43,rfl⟩ : ∃ x,x = z:=⟨_,rfl⟩
     refine Tr.cond rfl (fun hb44=>?_) (fun hb44=>?_)
     ·replace h:=bT hb44 h
      refine sr ((md rfl (nt ((Tr.ret ?_)))))
      replace h:=si h; subst h
      exact ⟨.inr rfl,(b_ false),rfl,fun _ _ _ _ h=>h,trivial,fun k hk=>Qf hk⟩
     ·replace h:=bF hb44 h
      refine Tr.skip (toN (Tr.seq (sr ((md rfl (nt ((Tr.block ?_))))))))
      refine Tr.loop (mk:=fun (k45 : Int)=>⟨look [(18,.d (.lst 1 (List.map (eL 1 (eI .i64)) r28))),(20,(i_ k45))],Qp Γ.n0 (bxs [(2,.cells ([.d (.int .u8 s1.1),.d (.int .u8 s1.2.1),.d (.int .u8 s1.2.2)])),(3,.cells ([.d (.int .u8 g2.States),.d (.int .u8 g2.Marks),.d (.int .u8 g2.To.1.1),.d (.int .u8 g2.To.1.2.1),.d (.int .u8 g2.To.1.2.2.1),.d (.int .u8 g2.To.1.2.2.2.1),.d (.int .u8 g2.To.1.2.2.2.2),.d (.int .u8 g2.To.2.1.1),.d (.int .u8 g2.To.2.1.2.1),.d (.int .u8 g2.To.2.1.2.2.1),.d (.int .u8 g2.To.2.1.2.2.2.1),.d (.int .u8 g2.To.2.1.2.2.2.2),.d (.int .u8 g2.To.2.2.1.1),.d (.int .u8 g2.To.2.2.1.2.1),.d (.int .u8 g2.To.2.2.1.2.2.1),.d (.int .u8 g2.To.2.2.1.2.2.2.1),.d (.int .u8 g2.To.2.2.1.2.2.2.2),.d (.int .u8 g2.To.2.2.2.1.1),.d (.int .u8 g2.To.2.2.2.1.2.1),.d (.int .u8 g2.To.2.2.2.1.2.2.1),.d (.int .u8 g2.To.2.2.2.1.2.2.2.1),.d (.int .u8 g2.To.2.2.2.1.2.2.2.2),.d (.int .u8 g2.To.2.2.2.2.1),.d (.int .u8 g2.To.2.2.2.2.2.1),.d (.int .u8 g2.To.2.2.2.2.2.2.1),.d (.int .u8 g2.To.2.2.2.2.2.2.2.1),.d (.int .u8 g2.To.2.2.2.2.2.2.2.2)])),(5,.cells ((Qd x9))),(8,.cells ((Qd r15))),(11,.cells ((Qd r19))),(14,.cells ((Qd r23))),(17,.cells ((Qd r27)))]) M,Γ.n0 + 120⟩) h (by exact Qm ⟨(sm rfl),(sm rfl),trivial⟩ ⟨⟨_,rfl,rfl,(.same rfl)⟩,⟨_,rfl,rfl,(.same rfl)⟩,⟨_,rfl,rfl,(.same rfl)⟩,⟨_,rfl,rfl,(.same rfl)⟩,⟨_,rfl,rfl,(.same rfl)⟩,⟨_,rfl,rfl,(.same rfl)⟩,⟨_,rfl,rfl,(.same rfl)⟩,trivial⟩ rfl) (fun k46 z h=>?_)
      ·obtain ⟨k45,rfl⟩ : ∃ x,x = z:=⟨_,rfl⟩
       replace h : _ = some _:=h
       refine Tr.seq (sr ((md rfl (md rfl (Rn.lenD trivial rfl (Rn.bin trivial rfl rfl rfl (Rn.nil (toN ?_))))))))
       refine Tr.cond rfl (fun hb47=>?_) (fun hb47=>?_)
       ·replace h:=ifT hb47 h
        refine Tr.skip (toN (Tr.seq (Tr.block (sr ((md rfl (md rfl ?_)))))))
        obtain ⟨x48,h49,h⟩:=bnd h
        refine Rn.idxD (e:=(eL 1 (eI .i64))) trivial rfl rfl h49 (Rn.loadC (x:=.lst 1 (List.map (eI .i64) x48)) trivial rfl (md rfl (Rn.bslice (xs:=[(i_ k45)]) (cs:=[(i_ k45)]) trivial rfl rfl rfl rfl ?_)))
        refine Rn.weak (by show WeakSt Γ _ ⟨look [(18,.d (.lst 1 (List.map (eL 1 (eI .i64)) r28))),(20,(i_ k45)),(106,(i_ k45)),(107,.d (.lst 1 (List.map (eL 1 (eI .i64)) r28))),(108,(i_ (r28.length : Int))),(109,(b_ (decide (k45 < (r28.length : Int))))),(112,.d (.lst 1 (List.map (eL 1 (eI .i64)) r28))),(113,(i_ k45)),(114,.cref ((eL 1 (eI .i64)) x48)),(115,(l_ x48)),(116,(i_ k45)),(117,(l_ [k45]))],Qp Γ.n0 (bxs [(2,.cells ([.d (.int .u8 s1.1),.d (.int .u8 s1.2.1),.d (.int .u8 s1.2.2)])),(3,.cells ([.d (.int .u8 g2.States),.d (.int .u8 g2.Marks),.d (.int .u8 g2.To.1.1),.d (.int .u8 g2.To.1.2.1),.d (.int .u8 g2.To.1.2.2.1),.d (.int .u8 g2.To.1.2.2.2.1),.d (.int .u8 g2.To.1.2.2.2.2),.d (.int .u8 g2.To.2.1.1),.d (.int .u8 g2.To.2.1.2.1),.d (.int .u8 g2.To.2.1.2.2.1),.d (.int .u8 g2.To.2.1.2.2.2.1),.d (.int .u8 g2.To.2.1.2.2.2.2),.d (.int .u8 g2.To.2.2.1.1),.d (.int .u8 g2.To.2.2.1.2.1),.d (.int .u8 g2.To.2.2.1.2.2.1),.d (.int .u8 g2.To.2.2.1.2.2.2.1),.d (.int .u8 g2.To.2.2.1.2.2.2.2),.d (.int .u8 g2.To.2.2.2.1.1),.d (.int .u8 g2.To.2.2.2.1.2.1),.d (.int .u8 g2.To.2.2.2.1.2.2.1),.d (.int .u8 g2.To.2.2.2.1.2.2.2.1),.d (.int .u8 g2.To.2.2.2.1.2.2.2.2),.d (.int .u8 g2.To.2.2.2.2.1),.d (.int .u8 g2.To.2.2.2.2.2.1),.d (.int .u8 g2.To.2.2.2.2.2.2.1),.d (.int .u8 g2.To.2.2.2.2.2.2.2.1),.d (.int .u8 g2.To.2.2.2.2.2.2.2.2)])),(5,.cells ((Qd x9))),(8,.cells ((Qd r15))),(11,.cells ((Qd r19))),(14,.cells ((Qd r23))),(17,.cells ((Qd r27)))]) M,Γ.n0 + 120⟩; exact Qcd 117 [.int .i64 k45] rfl rfl ⟨(.same rfl),(.same rfl),(.same rfl),(.same rfl),(.same rfl),(.same rfl),(.same rfl),(.same rfl),(.same rfl),(.same rfl),(.same rfl),(fSl rfl rfl),trivial⟩ ⟨⟨_,rfl,rfl,(.same rfl)⟩,⟨_,rfl,rfl,(.same rfl)⟩,⟨_,rfl,rfl,(.same rfl)⟩,⟨_,rfl,rfl,(.same rfl)⟩,⟨_,rfl,rfl,(.same rfl)⟩,⟨_,rfl,rfl,(.same rfl)⟩,⟨_,rfl,rfl,(.same rfl)⟩,trivial⟩ rfl) ?_
        obtain ⟨x51,h50,h⟩:=bnd h
        refine Rn.call (args:=[(l_ x48),(l_ [k45])]) trivial rfl (H_overseerref03_SameInts _ _ _ h50) pc9 (Rn.un trivial rfl rfl (Rn.nil (toN ?_)))
        refine Tr.cond rfl (fun hb52=>?_) (fun hb52=>?_)
        ·have hb52:=nT' hb52
         replace h:=bF hb52 h
         refine sr ((md rfl (nt ((Tr.ret ?_)))))
         replace h:=si h; subst h
         exact ⟨.inr rfl,(b_ false),rfl,fun _ _ _ _ h=>h,trivial,fun k hk=>Qf hk⟩
        ·have hb52:=nF' hb52
         replace h:=bT hb52 h
         refine Tr.skip (toN (Tr.rgn (md rfl (Rn.bin trivial rfl rfl rfl (md rfl (Rn.nil ?_))))))
         exact ⟨_,h,(by exact Qm ⟨(sm rfl),(sm rfl),trivial⟩ ⟨⟨_,rfl,rfl,(.same rfl)⟩,⟨_,rfl,rfl,(.same rfl)⟩,⟨_,rfl,rfl,(.same rfl)⟩,⟨_,rfl,rfl,(.same rfl)⟩,⟨_,rfl,rfl,(.same rfl)⟩,⟨_,rfl,rfl,(.same rfl)⟩,⟨_,rfl,rfl,(.same rfl)⟩,trivial⟩ rfl)⟩
       ·replace h:=ifF hb47 h
        refine Tr.exit (toN (sr ((md rfl (nt ((Tr.ret ?_)))))))
        replace h:=si h; subst h
        exact ⟨.inr rfl,(b_ true),rfl,fun _ _ _ _ h=>h,trivial,fun k hk=>Qf hk⟩
end Go.Abs
end
section
namespace Go.Proofs
open Go.Abs
set_option maxRecDepth 100000
theorem Qk9 : Qt Try.prog 5 = some Qdo:=by kernel_rfl
theorem Qzx : Qt Try.prog 7 = some Qgx:=by kernel_rfl
theorem Q15 : Qt Try.prog 9 = some Qho:=by kernel_rfl
theorem Qp0 : Qt Try.prog 10 = some Qe1:=by kernel_rfl
theorem Q16 : Qt Try.prog 11 = some Qhk:=by kernel_rfl
theorem Q17 : Qt Try.prog 12 = some Qhl:=by kernel_rfl
theorem Q18 : Qt Try.prog 14 = some Qhi:=by kernel_rfl
theorem Q5h : Qt Try.prog 16 = some Qkl:=by kernel_rfl
theorem Q3k : Qt Try.prog 17 = some Qh2:=by kernel_rfl
theorem Qsi : Qt Try.prog 19 = some Qfs:=by kernel_rfl
theorem Qmt : Qt Try.prog 20 = some Qeb:=by kernel_rfl
theorem Qvv : Qt Try.prog 26 = some Qf0:=by kernel_rfl
theorem Qqu : Qt Try.prog 27 = some Qfc:=by kernel_rfl
theorem Qzy : Qt Try.prog 28 = some Qgy:=by kernel_rfl
theorem Qqv : Qt Try.prog 29 = some Qfe:=by kernel_rfl
theorem Q4i : Qt Try.prog 30 = some Qiw:=by kernel_rfl
theorem Q3l : Qt Try.prog 31 = some Qhx:=by kernel_rfl
theorem Q3m : Qt Try.prog 32 = some Qhz:=by kernel_rfl
theorem Qzz : Qt Try.prog 35 = some Qgp:=by kernel_rfl
theorem Qyd : Qt Try.prog 37 = some Qgf:=by kernel_rfl
theorem Qz0 : Qt Try.prog 38 = some Qgv:=by kernel_rfl
theorem Q19 : Qt Try.prog 40 = some Qhm:=by kernel_rfl
theorem Q2a : Qt Try.prog 41 = some Qhh:=by kernel_rfl
theorem Qpe : Qt Try.prog 42 = some Qeo:=by kernel_rfl
theorem Qlw : Qt Try.prog 44 = some Qdx:=by kernel_rfl
theorem Qp1 : Qt Try.prog 45 = some Qez:=by kernel_rfl
theorem Qpf : Qt Try.prog 46 = some Qeq:=by kernel_rfl
theorem Q4j : Qt Try.prog 47 = some Qix:=by kernel_rfl
theorem Q3n : Qt Try.prog 48 = some Qh0:=by kernel_rfl
theorem Qz1 : Qt Try.prog 49 = some Qgr:=by kernel_rfl
theorem Qpg : Qt Try.prog 50 = some Qem:=by kernel_rfl
theorem Qz2 : Qt Try.prog 51 = some Qg0:=by kernel_rfl
theorem Qz3 : Qt Try.prog 52 = some Qg2:=by kernel_rfl
theorem Q5i : Qt Try.prog 53 = some Qke:=by kernel_rfl
theorem Q4k : Qt Try.prog 57 = some Qiv:=by kernel_rfl
theorem Qz4 : Qt Try.prog 59 = some Qgt:=by kernel_rfl
theorem Qqw : Qt Try.prog 62 = some Qe8:=by kernel_rfl
theorem Qj4 : Qt Try.prog 63 = some Qdi:=by kernel_rfl
theorem Qmu : Qt Try.prog 64 = some Qd7:=by kernel_rfl
theorem Qmv : Qt Try.prog 65 = some Qd5:=by kernel_rfl
theorem Q2b : Qt Try.prog 66 = some Qhg:=by kernel_rfl
theorem Qye : Qt Try.prog 67 = some Qgc:=by kernel_rfl
theorem Q8k : Qt Try.prog 74 = some Qqq:=by kernel_rfl
theorem Qqx : Qt Try.prog 87 = some Qfa:=by kernel_rfl
theorem Q7j : Qt Try.prog 88 = some Qot:=by kernel_rfl
theorem Qyf : Qt Try.prog 91 = some Qge:=by kernel_rfl
theorem Q7k : Qt Try.prog 97 = some Qoi:=by kernel_rfl
theorem Q4l : Qt Try.prog 101 = some Qiz:=by kernel_rfl
theorem Qmw : Qt Try.prog 102 = some Qd9:=by kernel_rfl
theorem Q5j : Qt Try.prog 103 = some Qkw:=by kernel_rfl
theorem Q5k : Qt Try.prog 104 = some Qky:=by kernel_rfl
end Go.Proofs
end
section
namespace Go.Abs
open Go Go.Sort
set_option linter.unusedVariables false
section plain
variable {β : Type}
def insB (lt : β → β → Bool) (x : β) : List β → List β
 | []=>[x]
 | y :: ys=>if lt y x then y :: insB lt x ys else x :: y :: ys
def Qha (lt : β → β → Bool) : List β → List β
 | []=>[]
 | x :: xs=>insB lt x (Qha lt xs)
def Q8l (lt : β → β → Bool) : List β → Bool
 | []=>true
 | x :: xs=>xs.all (fun y=>lt x y || lt y x) && Q8l lt xs
def Qbks (ok : β → Bool) (lt : β → β → Bool) (l : List β) : Option (List β):=if l.all ok && Q8l lt l then some (Qha lt l) else none
theorem Q7l (lt : β → β → Bool) (x : β) : ∀ l,(insB lt x l).Perm (x :: l)
 | []=>.refl _
 | y :: ys=>by
  unfold insB; split
  ·exact ((Q7l lt x ys).cons y).trans (.swap x y ys)
  ·exact .refl _
theorem Qh4 (lt : β → β → Bool) : ∀ l,(Qha lt l).Perm l
 | []=>.refl _
 | x :: xs=>(Q7l lt x _).trans ((Qh4 lt xs).cons x)
theorem Qg9 (lt : β → β → Bool) (l : List β) : (Qha lt l).length = l.length:=(Qh4 lt l).length_eq
theorem Q7m {lt : β → β → Bool} (h : SWO lt) (x : β) : ∀ l,l.Pairwise (fun a b=>lt b a = false) → (insB lt x l).Pairwise fun a b=>lt b a = false
 | [],_=>by simp [insB]
 | y :: ys,hl=>by
  obtain ⟨h1,h2⟩:=List.pairwise_cons.1 hl
  unfold insB; split
  ·rename_i hc
   refine List.pairwise_cons.2 ⟨fun z hz=>?_,Q7m h x ys h2⟩
   rcases List.mem_cons.1 ((Q7l lt x ys).mem_iff.1 hz) with rfl | hz
   ·cases hb : lt z y with
    | false=>rfl
    | true=>have:=h.trans _ _ _ hc hb; rw [h.irrefl] at this; cases this
   ·exact h1 z hz
  ·rename_i hc
   have hc : lt y x = false:=by cases h : lt y x <;> simp_all
   refine List.pairwise_cons.2 ⟨fun z hz=>?_,hl⟩
   rcases List.mem_cons.1 hz with rfl | hz
   ·exact hc
   ·exact h.ntrans _ _ _ (h1 z hz) hc
theorem Qjb {lt : β → β → Bool} (h : SWO lt) : ∀ l,(Qha lt l).Pairwise fun a b=>lt b a = false
 | []=>.nil
 | x :: xs=>Q7m h x _ (Qjb h xs)
theorem Q9e {lt : β → β → Bool} : ∀ {l : List β},Q8l lt l = true → ∀ a b,a ∈ l → b ∈ l → lt a b = false → lt b a = false → a = b
 | [],_,a,_,ha,_,_,_=>by cases ha
 | x :: xs,h,a,b,ha,hb,h1,h2=>by
  simp only [Q8l,Bool.and_eq_true,List.all_eq_true] at h
  obtain ⟨k1,k2⟩:=h
  rcases List.mem_cons.1 ha with e1 | ha' <;> rcases List.mem_cons.1 hb with e2 | hb'
  ·rw [e1,e2]
  ·subst e1; have:=k1 b hb'; simp [h1,h2] at this
  ·subst e2; have:=k1 a ha'; simp [h1,h2] at this
  ·exact Q9e k2 a b ha' hb' h1 h2
theorem Qbam {lt : β → β → Bool} (h : SWO lt) {l m : List β} (hd : Q8l lt l = true) (hp : m.Perm l) (hs : m.Pairwise fun a b=>lt b a = false) : m = Qha lt l:=by
 refine List.Perm.eq_of_pairwise (le:=fun a b=>lt b a = false) (fun a b ha hb h1 h2=>?_) hs (Qjb h l) (hp.trans (Qh4 lt l).symm)
 exact Q9e hd a b (hp.mem_iff.1 ha) ((Qh4 lt l).mem_iff.1 hb) h2 h1
theorem Qbeh {α : Type} (f : α → β) (lt : β → β → Bool) (x : α) : ∀ l : List α,insB lt (f x) (l.map f) = (insB (fun a b=>lt (f a) (f b)) x l).map f
 | []=>rfl
 | y :: ys=>by
  simp only [List.map_cons,insB]; split
  ·simp only [List.map_cons,Qbeh f lt x ys]
  ·rfl
theorem Q9f {α : Type} (f : α → β) (lt : β → β → Bool) : ∀ l : List α,Qha lt (l.map f) = (Qha (fun a b=>lt (f a) (f b)) l).map f
 | []=>rfl
 | x :: xs=>by simp only [List.map_cons,Qha,Q9f f lt xs,Qbeh]
theorem Qbbx {α : Type} (f : α → β) (lt : β → β → Bool) : ∀ l : List α,Q8l lt (l.map f) = Q8l (fun a b=>lt (f a) (f b)) l
 | []=>rfl
 | x :: xs=>by simp only [List.map_cons,Q8l,Qbbx f lt xs,List.all_map]; rfl
end plain
def Qev (a b : Int) : Bool:=decide (a < b)
end Go.Abs
end
section
namespace Go.Abs
open Go Go.Sort Go.RowKit
set_option linter.unusedVariables false
theorem Q7n {P : Program} {f : FuncId} {ex : Array Value} {exV : List V} {sz nb : Nat} {M : Mem} (hb : Qga P f = true) (hex : ∀ g w us,RFs g w exV us → us = ex.toList)
  (h : ∀ (p : Option Addr) (cap : Nat) (w : World),Calls P f (#[.slice p 0 cap] ++ ex) w fun e' w'=>e' = .returned (.tuple #[]) ∧ w' = w) :
  ACalls P f (.d (.lst sz []) :: exV) M nb (.tup []) M nb:=by
 refine ⟨hb,Nat.le_refl _,fun w g us hm hMon hfresh hus hfl hons=>?_⟩
 obtain ⟨u0,us',rfl,hu0,hus'⟩:=hus
 have h1:=hex _ _ _ hus'
 subst h1
 have h2 : ∃ p cap,u0 = .slice p 0 cap:=by
  have:=RF_d.1 hu0
  obtain ⟨a,cap,rfl,_,_⟩:=this
  exact ⟨a,cap,rfl⟩
 obtain ⟨p,cap,rfl⟩:=h2
 have e1 : (Value.slice p 0 cap :: ex.toList).toArray = #[.slice p 0 cap] ++ ex:=by apply Array.ext'; simp
 rw [e1]
 refine (h p cap w).mono ?_
 rintro e' w' ⟨rfl,rfl⟩
 exact ⟨_,g,rfl,hm,⟨[],rfl,rfl⟩,trivial,hMon,Fr.refl _ _ _⟩
theorem Qbc9 (l : List Int) : (l.mergeSort fun x y=>decide (x ≤ y)) = Qha Qev l:=by
 have hO : Go.Sort.SWO Qev:=⟨fun x=>by simp [Qev],fun x y z h1 h2=>by simp [Qev] at *; omega,fun x y z h1 h2=>by simp [Qev] at *; omega⟩
 refine List.Perm.eq_of_pairwise (le:=fun a b=>Qev b a = false) (fun a b _ _ h1 h2=>by simp [Qev] at *; omega) ?_ (Qjb hO l) ((List.mergeSort_perm _ _).trans (Qh4 _ l).symm)
 have:=List.pairwise_mergeSort (le:=fun x y : Int=>decide (x ≤ y)) (fun a b c h1 h2=>by simp at *; omega) (fun a b=>by simp; omega) l
 exact this.imp fun h=>by simp [Qev] at *; omega
end Go.Abs
end
section
namespace Go.Abs
def sortI (l : List Int) : Option (List Int):=if l.length ≤ lim then some (Qha Qev l) else none
def Qbei (l : List Int) : Option (List Int):=if l.length ≤ lim then some (Lib.compact l) else none
def okE (x : Qe) : Bool:=decide (0 ≤ x.From ∧ x.From < 4611686018427387904 ∧ 0 ≤ x.Event ∧ x.Event < 4611686018427387904)
def ltE (x y : Qe) : Bool:=decide (x.From < y.From ∨ (x.From = y.From ∧ x.Event < y.Event))
def Qbj0 (l : List Qe) : Option (List Qe):=if l.length ≤ 65536 then Qbks okE ltE l else none
def Qbkt (n : Int) : Option (List Int):=if 0 ≤ n ∧ n ≤ lim then some [] else none
def keyB (l : List Int) : ByteArray:=⟨(l.flatMap fun x=>Lib.encodeRune (x + 1)).toArray⟩
def keyS (l : List Int) : Option ByteArray:=if l.length ≤ lim ∧ ∀ x ∈ l,0 ≤ x ∧ x < 50000 then some (keyB l) else none
end Go.Abs
end
section
namespace Go.Abs
open Go Go.Abs
set_option linter.unusedVariables false
set_option maxRecDepth 10000
set_option maxHeartbeats 4000000
def Qbn : Nat:=1099511627776
def Qjc:=Qby
def Qfm:=Qbv Qbn
def Qgm:=Qck Qbn
def Q5:=Qg Qgm
def Qeu:=Qbs Q5 Qbn
def Qfu:=Qbl Qfm Qeu
def Qg3:=Qb6 Qbn
def Qdd:=Qx Qg3 Qfu
def Qee:=Q8 Q5 Qbn
def Q2:=Q1
def Qcs:=Qr sortI Q5 Q2 Qbn
def Qde:=Qbb Qcs
def Qdj:=Qz Q5
def Qgh:=Qbt Qbn
def Qcz:=Qv Qgh
def Qcx:=Q4 Qcz Qdj
def Qdl:=Qbf Qcs Qbn
def Qbw:=Qw Qdd Qee Qde keyS Qcx Qdl Qbn
def Qf3:=Qbe Q5
def Qg4:=Qbi Qcz Qf3
def Qjd:=Qbm
def Qsj:=Qc5 Qdd Q5 Qee Qg4 Qjd Qbn
def Qph:=Qcq
def Qpi:=Qcr Qbkt Qbn
def Qyg:=Qgg
def Qz5:=Qdc
def Q2l:=Qeh Qz5
def Qqa:=Qcl
def Qhr:=Qbp Q2l Qqa Qbn
def Qf4:=Q6 Qbn
def Qsk:=Qc6
def Qsl:=Qc7
def Qz6:=Qdy Qf4 Qsk Qsl
def Qlx:=Qb7 Qjd Qhr Qz6 Qbn
def Qly:=Qb8 Qfu Qlx
def Qmx:=Qch Qdd Qph Qpi sortI Qbei Q5 Qbj0 Qly Qbn
def Qbu:=Ql Qbn
def Qef:=Q9 Qbu Qbn
def Qhs:=Qbq Qbu Qbn
def Qg5:=Qb9 Qmx Qef Qbw Qsj Qbu Qjc Qhs
def Qcb:=Qba Qbn
def Qdz:=Q0
def Qbx:=Qs Qbn
def Qct:=Qbc Qbn
def Qe6:=Qb0 Qbx Qct Qbn
def Qd0:=Qb1 Qbn
def Qdt:=Qbg Qdz Qbx Qct Qe6 Qd0 Qbn
def Qfn:=Qb3 Qdz Qdt Qbn
def Qh5:=Qce Qbn
def Qc1:=Q7 Qh5 Qbu Qbx Qbn
def Qdp:=Qcv Qg5 Qfn Qcb Qef Qbw Qbu Qc1 Qbn
end Go.Abs
end
section
namespace Go.Abs
open Go Go.Sort Go.Shelf Go.RowKit Go.Lib Go.Proofs
set_option linter.unusedVariables false
set_option linter.unusedSectionVars false
theorem Qbby {α : Type} [Inhabited α] {enc : α → List Value} {k : Nat} (hk : ∀ x, (enc x).length = k) (h0 : 0 < k) : ∀ (l : List α) (t : Nat), t < l.length * k → (l.map enc).flatten[t]? = some (enc l[t / k]!)[t % k]!
  | [], t, h => by simp at h
  | x :: xs, t, h => by
    rw [List.map_cons, List.flatten_cons]
    by_cases hl : t < k
    · rw [List.getElem?_append_left (by rw [hk]; exact hl), Nat.div_eq_of_lt hl, Nat.mod_eq_of_lt hl]
      have : t < (enc x).length := by rw [hk]; exact hl
      simp [this]
    · have hge : k ≤ t := by omega
      have h2 : t - k < xs.length * k := by simp only [List.length_cons, Nat.add_mul, Nat.one_mul] at h; omega
      rw [List.getElem?_append_right (by rw [hk]; exact hge), hk, Qbby hk h0 xs (t - k) h2]
      have e1 : t / k = (t - k) / k + 1 := by rw [← Nat.add_div_right _ h0, Nat.sub_add_cancel hge]
      have e2 : t % k = (t - k) % k := by rw [Nat.mod_eq_sub_mod hge]
      rw [e1, e2]; simp
theorem Qbbz {α : Type} [Inhabited α] {enc : α → List Value} {k : Nat} (hk : ∀ x, (enc x).length = k) (h0 : 0 < k) (l : List α) : flatK enc k l.toArray = (l.map enc).flatten.toArray := by
  have hs : (l.map enc).flatten.length = l.length * k := by
    induction l with
    | nil => simp
    | cons x xs ih => rw [List.map_cons, List.flatten_cons, List.length_append, ih, hk]; simp [Nat.add_mul]; omega
  refine ext_get! (by simp [hs]) fun t ht => ?_
  have ht' : t < l.length * k := by simpa using ht
  rw [get_flatK _ _ _ _ (by simpa using ht')]
  have := Qbby hk h0 l t ht'
  obtain ⟨h1, h2⟩ := List.getElem?_eq_some_iff.1 this
  rw [getElem!_pos _ t (by simpa using h1)]
  simp only [List.getElem_toArray, h2]
  simp
theorem Qbb0 {α : Type} (e : α → List D) (xs : List α) : rowV e xs = (xs.map fun x => (e x).map D.val).flatten := by
  unfold rowV; rw [List.map_flatten, List.map_map]; rfl
theorem Q8m {P : Program} {ρ : Ren} {α : Type} [Inhabited α] (L : SlLaysF0.n6 P ρ) {k : Nat} (aE : ∀ w, (isAgg (ρ.t 24)).run P w = .ok true w) (zE : ∀ w, (Go.sizeOf (ρ.t 24)).run P w = .ok k w) (e : α → List D) (hk : ∀ x, (e x).length = k) (h0 : 0 < k) (hsc : ∀ x, (e x).all D.scalar = true)
    (cf : α → α → Int) (hO : SWO (ltOf cf)) (g : Nat) (cb : Array Value) (eg : ∀ args w, (callFunc g args).run P w = .ok (.enter g args) w)
    (hcmp : ∀ (x y : α) (W : World), Calls P g (#[.agg ((e x).map D.val).toArray, .agg ((e y).map D.val).toArray] ++ cb) W fun r w' => r = .returned (.int .i64 (cf x y)) ∧ ∃ q os', w' = grow (W.drewN q) os') :
    Qbhk P (ρ.f 6) e #[.func (.func g) #[] cb] (fun xs => (pdq (ltOf cf) xs.toArray 0 xs.length (Lib.bitLen xs.length) true true).toList) := by
  intro blk cap xs w hc hblk hsz
  have henc : ∀ x, ((fun x => (e x).map D.val) x).length = k := fun x => by simp [hk]
  have h1 : ∀ x : α, ∀ v ∈ (e x).map D.val, v.oneCell' = true := by
    intro x v hv
    obtain ⟨d, hd, rfl⟩ := List.mem_map.1 hv
    exact Qbc8 (List.all_eq_true.1 (hsc x) d hd)
  have hH : HoldsK (fun x => (e x).map D.val) k w blk 0 xs.toArray := by
    unfold HoldsK
    rw [Qbbz henc h0, ← Qbb0]
    intro j hj
    have hj' : j < (rowV e xs).length := by simpa using hj
    obtain ⟨k1, k2⟩ := hc j hj'
    rw [Nat.zero_add]
    refine ⟨k1.trans ?_, k2⟩
    rw [List.getElem?_eq_getElem hj', getElem!_pos _ j hj]; rfl
  have hcl : CmpLays P g cb (fun x => (e x).map D.val) k cf blk 0 xs.toArray.size w := fun _ _ _ _ x y => hcmp x y _
  have := AnyQ.slices_SortFunc_eq L k aE zE (fun x => (e x).map D.val) henc h1 cf hO g cb blk 0 cap xs.toArray w eg hcl hH hblk (by simpa using hsz)
  refine this.mono ?_
  rintro r w' ⟨rfl, n, os, rfl⟩
  refine ⟨rfl, n, os, ?_⟩
  unfold sortWorldK putRowK
  have hrow : flatK (fun x => (e x).map D.val) k (pdq (ltOf cf) xs.toArray 0 xs.toArray.size (Lib.bitLen xs.toArray.size) true true) = (rowV e (pdq (ltOf cf) xs.toArray 0 xs.length (Lib.bitLen xs.length) true true).toList).toArray := by
    rw [Qbb0, ← Qbbz henc h0]; simp
  rw [hrow]
section
variable {α : Type} [Inhabited α]
theorem Qban {lt : α → α → Bool} (hO : SWO lt) (xs : List α) (k : Nat) : (pdq lt xs.toArray 0 xs.length k true true).toList.Perm xs ∧ (pdq lt xs.toArray 0 xs.length k true true).toList.Pairwise fun a b => lt b a = false := by
  obtain ⟨⟨h1, _, h2⟩, h3⟩ := pdq_sorts lt hO xs.toArray 0 xs.length k true true (Nat.zero_le _) (by simp) (Or.inl rfl)
  generalize pdq lt xs.toArray 0 xs.length k true true = d at *
  have hs : d.size = xs.length := by simpa using h1
  refine ⟨?_, ?_⟩
  · have e1 : d.extract 0 xs.length = d := by rw [← hs]; exact Array.extract_size
    have e2 : xs.toArray.extract 0 xs.length = xs.toArray := by have : xs.length = xs.toArray.size := by simp
                                                                rw [this]; exact Array.extract_size
    rw [e1, e2] at h2
    simpa using h2
  · rw [List.pairwise_iff_getElem]
    intro i j hi hj hij
    have hi' : i < d.size := by simpa using hi
    have hj' : j < d.size := by simpa using hj
    have := h3 i j (Nat.zero_le _) hij (by omega)
    rw [getElem!_pos d i hi', getElem!_pos d j hj'] at this
    simpa using this
theorem Qbhs {lt : α → α → Bool} (hO : SWO lt) (xs : List α) (k : Nat) (hd : Q8l lt xs = true) : (pdq lt xs.toArray 0 xs.length k true true).toList = Qha lt xs :=
  Qbam hO hd (Qban hO xs k).1 (Qban hO xs k).2
end
theorem Qbht {β : Type} {P : Program} {c : Nat} {e : β → List D} {sz N : Nat} {ok : β → Bool} {lt : β → β → Bool} [Inhabited {x : β // ok x = true}] {lt' : {x : β // ok x = true} → {x : β // ok x = true} → Bool}
    (hN : N < 4611686018427387904) (hk : ∀ x, (e x).length = sz) (hsc : ∀ x, (e x).all D.scalar = true) (hO : SWO lt') (hlt : ∀ x y, lt' x y = lt x.1 y.1) (hb : Qga P c = true) {ex : Array Value} {exV : List V} (hex : ∀ g w us, RFs g w exV us → us = ex.toList)
    (hrow : Qbhk P c (fun x : {x : β // ok x = true} => e x.1) ex (fun xs => (pdq lt' xs.toArray 0 xs.length (Lib.bitLen xs.length) true true).toList))
    (hnone : ∀ (p : Option Addr) (cap : Nat) (w : World), Calls P c (#[.slice p 0 cap] ++ ex) w fun e' w' => e' = .returned (.tuple #[]) ∧ w' = w) :
    RowK P c e sz exV (fun l => if l.length ≤ N then Qbks ok lt l else none) := by
  intro xs ys h
  dsimp only at h
  split at h <;> try (cases h; done)
  rename_i hlN
  unfold Qbks at h
  split at h <;> cases h
  rename_i hok
  simp only [Bool.and_eq_true, List.all_eq_true] at hok
  obtain ⟨ho, hd⟩ := hok
  obtain ⟨zs, rfl⟩ : ∃ zs : List {x : β // ok x = true}, xs = zs.map Subtype.val := ⟨xs.pmap Subtype.mk ho, by rw [List.map_pmap]; simp⟩
  have hd' : Q8l lt' zs = true := by
    rw [Qbbx] at hd
    rw [show lt' = fun a b => lt a.1 b.1 from funext fun a => funext fun b => hlt a b]; exact hd
  have e1 : Qha lt (zs.map Subtype.val) = (Qha lt' zs).map Subtype.val := by
    rw [Q9f, show lt' = fun a b => lt a.1 b.1 from funext fun a => funext fun b => hlt a b]
  refine ⟨Qg9 _ _, fun h0 => ?_, fun hl cap k0 M nb hM => ?_⟩
  · simp only [List.map_eq_nil_iff] at h0
    subst h0
    exact ⟨rfl, fun M nb => Q7n hb hex hnone⟩
  · have hM' : M k0 = some (.cells (Qbk (zs.map fun x => e x.1) ((cap - zs.length) * sz))) := by
      rw [hM, List.map_map, List.length_map]; rfl
    have := Q9c (fun x => hk x.1) (fun x => hsc x.1) (fun xs => (Qban hO xs _).1.length_eq) hex hb hrow zs cap k0 M nb hM' (by rw [List.length_map] at hlN; omega)
    rw [Qbhs hO zs _ hd'] at this
    rw [e1, List.map_map, List.length_map]
    exact this
end Go.Abs
end
section
namespace Go.Abs
open Go Go.RowKit
set_option linter.unusedVariables false
end Go.Abs
end
section
namespace Go.Abs
open Go Go.Sort Go.RowKit
set_option linter.unusedVariables false
theorem Q7o (xs : List Int) : rowV (eI .i64) xs = xs.map (Value.int .i64):=by
 unfold rowV
 induction xs with
 | nil=>rfl
 | cons x xs ih=>simp only [List.map_cons,List.flatten_cons,List.map_append,ih]; rfl
theorem Qbhu {P : Program} {c : Nat} (hb : Qga P c = true)
  (hs : ∀ (blk off cap : Nat) (zs : List Int) (w : World),Holds (Value.int .i64) w blk off zs.toArray → blk < w.heap.size → zs.length < 4611686018427387904 →
   Calls P c #[.slice (some ⟨blk,off,none⟩) zs.length cap] w fun e w'=>e = .returned (.tuple #[]) ∧ ∃ n os,w' = grow (putRow (Value.int .i64) (Sort.ahead w n) blk off (zs.mergeSort fun x y=>decide (x ≤ y)).toArray) os)
  (hnone : ∀ (p : Option Addr) (cap : Nat) (w : World),Calls P c (#[.slice p 0 cap] ++ #[]) w fun e' w'=>e' = .returned (.tuple #[]) ∧ w' = w) :
  RowK P c (eI .i64) 1 [] (fun l=>if l.length ≤ lim then some (Qha Qev l) else none):=by
 have hrow : Qbhk P c (eI .i64) #[] (fun xs=>Qha Qev xs):=by
  intro blk cap xs w hcell hblk hsz
  refine Calls.mono (hs blk 0 cap xs w ?_ hblk hsz) ?_
  ·intro j hj
   have hj' : j < xs.length:=by simpa using hj
   have:=hcell j (by rw [Q7o]; simpa using hj')
   rw [Q7o] at this
   rw [Nat.zero_add]
   refine ⟨?_,this.2⟩
   rw [this.1,getElem!_pos xs.toArray j hj]
   simp [hj']
  ·rintro e w' ⟨rfl,n,os,rfl⟩
   refine ⟨rfl,n,os,?_⟩
   rw [Qbc9,Q7o]
   congr 1
   unfold putRow
   congr 1
   funext c
   unfold putCells
   congr 1
   funext k x
   simp only [List.size_toArray,List.length_map]
   split
   ·rename_i h
    simp only [id]
    rw [getElem!_pos _ _ (by simp; omega),getElem!_pos _ _ (by simp; omega)]
    simp
   ·rfl
 intro xs ys h
 dsimp only at h
 split at h <;> cases h
 rename_i hl
 refine ⟨Qg9 _ _,fun h0=>?_,fun hl2 cap k0 M nb hM=>?_⟩
 ·subst h0
  exact ⟨rfl,fun M nb=>Q7n (ex:=#[]) (exV:=[]) hb (fun _ _ _ h=>h) hnone⟩
 ·exact Q9c (e:=eI .i64) (fun _=>rfl) (fun _=>rfl) (fun xs=>Qg9 _ _) (ex:=#[]) (exV:=[]) (fun _ _ _ h=>h) hb hrow xs cap k0 M nb hM (by unfold lim at hl; omega)
end Go.Abs
end
section
namespace Go.Abs
open Go Go.Sort Go.RowKit Go.Lib
set_option linter.unusedVariables false
theorem Q7p (zs : List Int) : (Lib.compact zs).length ≤ zs.length:=by
 unfold Lib.compact Lib.compactUpTo
 rw [List.length_map]
 exact Nat.le_trans (List.length_filter_le _ _) (by simp)
theorem Qbku (l : List Int) : (l.map (eI .i64)).flatten = l.map (D.int .i64):=by
 induction l with
 | nil=>rfl
 | cons x l ih=>simp only [List.map_cons,List.flatten_cons,ih]; rfl
theorem Qbfj {P : Program} {c : Nat} (hb : Qga P c = true)
  (hs : ∀ (blk off cap : Nat) (zs : List Int) (w : World),Holds (Value.int .i64) w blk off zs.toArray → zs.length ≤ 9223372036854775807 → zs.length ≤ cap →
   Calls P c #[.slice (some ⟨blk,off,none⟩) zs.length cap] w fun e w'=>e = .returned (.slice (some ⟨blk,off,none⟩) (Lib.compact zs).length cap) ∧ ∃ n,w' = putRow (Value.int .i64) (Sort.ahead w n) blk off (Lib.compact zs ++ List.replicate (zs.length - (Lib.compact zs).length) 0).toArray)
  (hnone : ∀ (p : Option Addr) (cap : Nat) (w : World),Calls P c #[.slice p 0 cap] w fun e' w'=>e' = .returned (.slice p 0 cap) ∧ w' = w) :
  CompK P c (fun l=>if l.length ≤ lim then some (Lib.compact l) else none):=by
 intro xs ys hf
 dsimp only at hf
 split at hf <;> cases hf
 rename_i hl
 refine ⟨Q7p xs,fun h0=>?_,fun cap k0 M nb hcap hM=>?_⟩
 ·subst h0
  refine ⟨rfl,fun M nb=>⟨hb,Nat.le_refl _,fun w g us hm hMon hfresh hus hfl hons=>?_⟩⟩
  obtain ⟨u0,us',rfl,hu0,rfl⟩:=hus
  have h2:=RF_d.1 hu0
  obtain ⟨a,cp,rfl,_,_⟩:=id h2
  refine (hnone a cp w).mono ?_
  rintro e' w' ⟨rfl,rfl⟩
  exact ⟨_,g,rfl,hm,hu0 _,trivial,hMon,Fr.refl _ _ _⟩
 refine ⟨hb,Nat.le_refl _,fun w g us hm hMon hfresh hus hfl hons=>?_⟩
 obtain ⟨u0,us',rfl,hu0,rfl⟩:=hus
 have h0:=Q8h.1 hu0
 subst h0
 obtain ⟨hk0,hown,vals,et,hh,hrv,hone⟩:=hm.box k0 _ hM
 have hlt : g.box k0 < w.heap.size:=(Array.getElem?_eq_some_iff.1 hh).1
 obtain ⟨hvl,hvr⟩:=(Qcc _ _ _ _).1 hrv
 simp only [Qbk,Qbku,List.map_map,List.length_append,List.length_map,List.length_replicate,Nat.mul_one] at hvl hvr
 have hcell : ∀ (j : Nat) (x : Int),xs[j]? = some x → vals[j]? = some (.int .i64 x):=by
  intro j x hx
  have hj:=(List.getElem?_eq_some_iff.1 hx).1
  have hjv : j < vals.length:=by omega
  have hc : (List.map (V.d ∘ D.int .i64) xs ++ List.replicate (cap - xs.length) V.und)[j]? = some (.d (.int .i64 x)):=by
   rw [List.getElem?_append_left (by rw [List.length_map]; exact hj),List.getElem?_map,hx]; rfl
  have:=hvr j _ _ hc (List.getElem?_eq_getElem hjv)
  have h2 : vals[j] = .int .i64 x:=this
  rw [List.getElem?_eq_getElem hjv,h2]
 have hH : Holds (Value.int .i64) w (g.box k0) 0 xs.toArray:=by
  intro j hj
  have hj' : j < xs.length:=by simpa using hj
  have:=hcell j xs[j] (List.getElem?_eq_getElem hj')
  rw [Nat.zero_add]
  refine ⟨?_,by simp [World.frozen?,hh]⟩
  rw [getElem!_pos xs.toArray j hj]
  simp [World.cell?,hh,this]
 refine (hs (g.box k0) 0 cap xs w hH (by unfold lim at hl; omega) hcap).mono ?_
 rintro e' w' ⟨rfl,n,rfl⟩
 have hyl:=Q7p xs
 generalize Lib.compact xs = ys at hyl ⊢
 generalize hF : (ys ++ List.replicate (xs.length - ys.length) 0).toArray = F
 have hFs : F.size = xs.length:=by rw [← hF]; simp; omega
 have hput : putRow (Value.int .i64) (Sort.ahead w n) (g.box k0) 0 F = grow (putRow id (Sort.ahead w n) (g.box k0) 0 (F.map (Value.int .i64))) #[]:=by
  have e1 : ∀ W : World,grow W #[] = W:=fun W=>by unfold grow; simp
  rw [e1]
  unfold putRow
  congr 1
  funext c
  unfold putCells
  congr 1
  funext k x
  simp only [Array.size_map]
  split
  ·rename_i h
   simp only [id]
   rw [getElem!_pos _ _ (by omega),getElem!_pos _ _ (by simp; omega)]
   simp
  ·rfl
 rw [hput]
 generalize hF' : F.map (Value.int .i64) = F'
 have hFs' : F'.size = xs.length:=by rw [← hF',Array.size_map,hFs]
 have hFv : ∀ j (h : j < ys.length),F'[j]'(by omega) = Value.int .i64 ys[j]:=by
  intro j h
  subst hF'
  subst hF
  simp only [List.getElem_toArray,Array.getElem_map]
  rw [List.getElem_append_left h]
 have hFi : ∀ j (h : j < F'.size),∃ z : Int,F'[j] = Value.int .i64 z:=by
  intro j h
  subst hF'
  exact ⟨_,Array.getElem_map ..⟩
 have hblk:=Q7f w n (g.box k0) F' #[] hh
 have hoth : ∀ b,b ≠ g.box k0 → b < w.heap.size → (grow (putRow id (Sort.ahead w n) (g.box k0) 0 F') #[]).heap[b]? = w.heap[b]?:=fun b hb hlt=>Qq1 w n _ F' #[] hb hlt
 have hsize : w.heap.size ≤ (grow (putRow id (Sort.ahead w n) (g.box k0) 0 F') #[]).heap.size:=by
  simp [putRow,mapBlock,Sort.ahead]
 generalize hw' : grow (putRow id (Sort.ahead w n) (g.box k0) 0 F') #[] = w' at hblk hoth hsize
 have himm : Imm g.imm g.imm w w':=by
  refine ⟨fun _ _ h=>h,fun b o h=>?_⟩
  obtain ⟨k1,k2⟩:=hm.imm b o h
  have hne : b ≠ g.box k0:=by rintro rfl; exact k2 k0 hown
  simp only [World.cell?,hoth b hne k1]
 have hkept : Kept g w g w' (There M) (fun o=>o ≠ .box k0):=⟨himm,fun _ _=>rfl,fun b hb hl=>⟨rfl,hoth b (by rintro rfl; exact hb hown) hl,fun _=>Iff.rfl⟩⟩
 have hsub : ∀ (o : Owner) i,o ≠ .box k0 → o.sub i ≠ .box k0:=by intro o i _; cases o <;> simp [Owner.sub]
 have hnew : ∀ p : Nat → Prop,V.ons p (Qbk (ys.map (eI .i64)) ((cap - ys.length) * 1)):=by
  intro p
  rw [Qfy]
  intro v hv
  simp only [Qbk,List.mem_append,List.mem_map,List.mem_replicate] at hv
  rcases hv with ⟨x,_,rfl⟩ | ⟨_,rfl⟩ <;> trivial
 have hth : There (M.put k0 (.cells (Qbk (ys.map (eI .i64)) ((cap - ys.length) * 1)))) k0:=by simp [There,Mem.put]
 refine ⟨_,g,rfl,⟨fun k b hk=>?_,fun b o h=>⟨Nat.lt_of_lt_of_le (hm.imm b o h).1 hsize,(hm.imm b o h).2⟩⟩,by simp [RV],hth,fun k cs hk=>?_,?_⟩
 ·by_cases hkk : k = k0
  ·subst hkk
   rw [Qfi] at hk; cases hk
   refine ⟨hk0,hown,(putCells id 0 F' vals.toArray).toList,et,by simpa using hblk,(Qcc _ _ _ _).2 ⟨?_,fun j cc x hc hx=>?_⟩,fun x hx=>?_⟩
   ·simp only [Qbk,Qbku,List.map_map,List.length_append,List.length_map,List.length_replicate,Nat.mul_one]
    simp [putCells]
    omega
   ·have hx' : (putCells id 0 F' vals.toArray)[j]? = some x:=by simpa using hx
    simp only [putCells,Array.getElem?_mapIdx,List.getElem?_toArray,Option.map_eq_some_iff] at hx'
    obtain ⟨y,hy,rfl⟩:=hx'
    simp only [Qbk,Qbku,List.map_map,Nat.mul_one] at hc
    by_cases hj : j < ys.length
    ·rw [List.getElem?_append_left (by rw [List.length_map]; exact hj),List.getElem?_map,List.getElem?_eq_getElem hj,Option.map_some,Option.some.injEq] at hc
     subst hc
     rw [if_pos ⟨Nat.zero_le _,by omega⟩]
     simp only [Nat.sub_zero,id]
     rw [getElem!_pos F' j (by omega),hFv j hj]
     simp [RV,RD]
    ·rw [List.getElem?_append_right (by rw [List.length_map]; omega)] at hc
     have : cc = .und:=(List.mem_replicate.1 (List.mem_of_getElem? hc)).2
     subst this; simp [RV]
   ·obtain ⟨j,hj⟩:=List.getElem?_of_mem hx
    have hx' : (putCells id 0 F' vals.toArray)[j]? = some x:=by simpa using hj
    simp only [putCells,Array.getElem?_mapIdx,List.getElem?_toArray,Option.map_eq_some_iff] at hx'
    obtain ⟨y,hy,rfl⟩:=hx'
    split
    ·rename_i hr
     simp only [id]
     rw [getElem!_pos F' _ (by omega)]
     obtain ⟨z,hz⟩:=hFi (j - 0) (by omega)
     rw [hz]
     exact Qbc8 (x:=.int .i64 z) rfl
    ·exact hone y (List.mem_of_getElem? hy)
  ·rw [Qcj _ _ hkk] at hk
   obtain ⟨k1,k2,k3⟩:=hm.box k b hk
   cases b with
   | mp es c =>
    obtain ⟨ents,q1,q2⟩:=k3
    have hne : g.box k ≠ g.box k0:=by
     intro h; rw [h,hown] at k2; cases k2; exact hkk rfl
    exact ⟨k1,k2,ents,(hoth _ hne (Array.getElem?_eq_some_iff.1 q1).1).trans q1,Qn8 (g:=g) (g':=g) hkept.imm q2⟩
   | cells cs =>
    obtain ⟨vals2,e2,q1,q2,q3⟩:=k3
    have hne : g.box k ≠ g.box k0:=by
     intro h; rw [h,hown] at k2; cases k2; exact hkk rfl
    refine ⟨k1,k2,vals2,e2,(hoth _ hne (Array.getElem?_eq_some_iff.1 q1).1).trans q1,?_,q3⟩
    exact RVs_mono hkept hsub (by simp) cs (.box k) 0 vals2 (by simpa using hkk) (hMon k cs hk) q2
 ·by_cases hkk : k = k0
  ·subst hkk
   rw [Qfi] at hk; cases hk
   exact hnew _
  ·rw [Qcj _ _ hkk] at hk
   exact ons_mono (fun j hj=>There.put hj) _ (hMon k cs hk)
 ·refine ⟨by rw [← hw']; rfl,by rw [← hw']; rfl,by rw [← hw']; rfl,hsize,himm,fun _ _=>rfl,fun b hb ho=>⟨rfl,hoth b ?_ hb,fun _=>Iff.rfl⟩⟩
  rintro rfl
  rw [hown] at ho
  exact ho
end Go.Abs
end
section
namespace Go.Proofs
open Go.Shelf
def Try.sortI_ren : Go.Shelf.Ren:=⟨fun | 5=>33 | 8=>56 | 7=>55 | 19=>77 | 20=>78 | 10=>68 | 11=>69 | 12=>70 | 13=>71 | 14=>72 | 15=>73 | 16=>74 | 17=>75 | 18=>76 | 30=>92 | 31=>93 | 32=>94 | 33=>95 | 34=>96 | 35=>97 | 40=>107 | n=>n,fun | 23=>27 | 25=>3 | 3=>3 | 32=>99 | 22=>27 | 0=>0 | 44=>123 | 46=>125 | 4=>4 | 36=>116 | 35=>115 | 41=>84 | 5=>5 | 9=>9 | 53=>136 | 57=>140 | 63=>148 | 64=>149 | n=>n,fun | n=>n⟩
theorem Try.sortI : Go.Proofs.SlLaysM.n5 Try.prog Try.sortI_ren:={
 mixed:=by kernel_rfl
 f5:=⟨Try.f33.name,by decide,Try.func33.trans (congrArg some (by kernel_rfl))⟩
 f7:=⟨Try.f55.name,by decide,Try.func55.trans (congrArg some (by kernel_rfl))⟩
 f8:=Try.func56.trans (congrArg some (by kernel_rfl))
 f10:=⟨Try.f68.name,by decide,Try.func68.trans (congrArg some (by kernel_rfl))⟩
 f11:=⟨Try.f69.name,by decide,Try.func69.trans (congrArg some (by kernel_rfl))⟩
 f12:=⟨Try.f70.name,by decide,Try.func70.trans (congrArg some (by kernel_rfl))⟩
 f13:=⟨Try.f71.name,by decide,Try.func71.trans (congrArg some (by kernel_rfl))⟩
 f14:=⟨Try.f72.name,by decide,Try.func72.trans (congrArg some (by kernel_rfl))⟩
 f15:=⟨Try.f73.name,by decide,Try.func73.trans (congrArg some (by kernel_rfl))⟩
 f16:=⟨Try.f74.name,by decide,Try.func74.trans (congrArg some (by kernel_rfl))⟩
 f17:=⟨Try.f75.name,by decide,Try.func75.trans (congrArg some (by kernel_rfl))⟩
 f18:=⟨Try.f76.name,by decide,Try.func76.trans (congrArg some (by kernel_rfl))⟩
 f19:=Try.func77.trans (congrArg some (by kernel_rfl))
 f20:=Try.func78.trans (congrArg some (by kernel_rfl))
 f30:=⟨Try.f92.name,by decide,Try.func92.trans (congrArg some (by kernel_rfl))⟩
 f31:=Try.func93.trans (congrArg some (by kernel_rfl))
 f32:=Try.func94.trans (congrArg some (by kernel_rfl))
 f33:=⟨Try.f95.name,by decide,Try.func95.trans (congrArg some (by kernel_rfl))⟩
 f34:=⟨Try.f96.name,by decide,Try.func96.trans (congrArg some (by kernel_rfl))⟩
 f35:=⟨Try.f97.name,by decide,Try.func97.trans (congrArg some (by kernel_rfl))⟩
 f40:=⟨Try.f107.name,by decide,Try.func107.trans (congrArg some (by kernel_rfl))⟩
 t0:=Try.underlying0
 a0:=Try.isAgg0
 z0:=Try.sizeOf0
 v0:=Try.zeroValue0
 t3:=Try.underlying3
 a3:=Try.isAgg3
 z3:=Try.sizeOf3
 v3:=Try.zeroValue3
 t4:=Try.underlying4
 a4:=Try.isAgg4
 z4:=Try.sizeOf4
 v4:=Try.zeroValue4
 t5:=Try.underlying5
 a5:=Try.isAgg5
 z5:=Try.sizeOf5
 v5:=Try.zeroValue5
 t9:=Try.underlying9
 a9:=Try.isAgg9
 z9:=Try.sizeOf9
 v9:=Try.zeroValue9
 t22:=Try.underlying27
 a22:=Try.isAgg27
 z22:=Try.sizeOf27
 v22:=Try.zeroValue27
 t23:=Try.underlying27
 a23:=Try.isAgg27
 z23:=Try.sizeOf27
 v23:=Try.zeroValue27
 t25:=Try.underlying3
 a25:=Try.isAgg3
 z25:=Try.sizeOf3
 v25:=Try.zeroValue3
 t32:=Try.underlying99
 a32:=Try.isAgg99
 z32:=Try.sizeOf99
 v32:=Try.zeroValue99
 t35:=Try.underlying115
 a35:=Try.isAgg115
 z35:=Try.sizeOf115
 v35:=Try.zeroValue115
 t36:=Try.underlying116
 a36:=Try.isAgg116
 z36:=Try.sizeOf116
 v36:=Try.zeroValue116
 t41:=Try.underlying84
 a41:=Try.isAgg84
 z41:=Try.sizeOf84
 v41:=Try.zeroValue84
 t44:=Try.underlying123
 a44:=Try.isAgg123
 z44:=Try.sizeOf123
 v44:=Try.zeroValue123
 t46:=Try.underlying125
 a46:=Try.isAgg125
 z46:=Try.sizeOf125
 v46:=Try.zeroValue125
 t53:=Try.underlying136
 a53:=Try.isAgg136
 z53:=Try.sizeOf136
 v53:=Try.zeroValue136
 t57:=Try.underlying140
 a57:=Try.isAgg140
 z57:=Try.sizeOf140
 v57:=Try.zeroValue140
 t63:=Try.underlying148
 a63:=Try.isAgg148
 z63:=Try.sizeOf148
 v63:=Try.zeroValue148
 t64:=Try.underlying149
 a64:=Try.isAgg149
 z64:=Try.sizeOf149
 v64:=Try.zeroValue149 }
def Try.sortE_ren : Go.Shelf.Ren:=⟨fun | 6=>36 | 15=>56 | 14=>58 | 28=>77 | 29=>78 | 20=>79 | 21=>80 | 22=>81 | 23=>82 | 24=>83 | 25=>84 | 26=>85 | 27=>86 | 46=>98 | 47=>93 | 48=>94 | 49=>99 | 50=>100 | 57=>108 | n=>n,fun | 22=>31 | 24=>63 | 25=>73 | 3=>3 | 39=>99 | 0=>0 | 53=>123 | 55=>125 | 4=>4 | 46=>116 | 45=>115 | 50=>84 | 5=>5 | 9=>9 | 66=>136 | 70=>140 | 76=>148 | 77=>149 | n=>n,fun | n=>n⟩
theorem Try.sortE : Go.Proofs.SlLaysF0.n6 Try.prog Try.sortE_ren:={
 mixed:=by kernel_rfl
 f6:=⟨Try.f36.name,by decide,Try.func36.trans (congrArg some (by kernel_rfl))⟩
 f14:=⟨Try.f58.name,by decide,Try.func58.trans (congrArg some (by kernel_rfl))⟩
 f15:=Try.func56.trans (congrArg some (by kernel_rfl))
 f20:=⟨Try.f79.name,by decide,Try.func79.trans (congrArg some (by kernel_rfl))⟩
 f21:=⟨Try.f80.name,by decide,Try.func80.trans (congrArg some (by kernel_rfl))⟩
 f22:=⟨Try.f81.name,by decide,Try.func81.trans (congrArg some (by kernel_rfl))⟩
 f23:=⟨Try.f82.name,by decide,Try.func82.trans (congrArg some (by kernel_rfl))⟩
 f24:=⟨Try.f83.name,by decide,Try.func83.trans (congrArg some (by kernel_rfl))⟩
 f25:=⟨Try.f84.name,by decide,Try.func84.trans (congrArg some (by kernel_rfl))⟩
 f26:=⟨Try.f85.name,by decide,Try.func85.trans (congrArg some (by kernel_rfl))⟩
 f27:=⟨Try.f86.name,by decide,Try.func86.trans (congrArg some (by kernel_rfl))⟩
 f28:=Try.func77.trans (congrArg some (by kernel_rfl))
 f29:=Try.func78.trans (congrArg some (by kernel_rfl))
 f46:=⟨Try.f98.name,by decide,Try.func98.trans (congrArg some (by kernel_rfl))⟩
 f47:=Try.func93.trans (congrArg some (by kernel_rfl))
 f48:=Try.func94.trans (congrArg some (by kernel_rfl))
 f49:=⟨Try.f99.name,by decide,Try.func99.trans (congrArg some (by kernel_rfl))⟩
 f50:=⟨Try.f100.name,by decide,Try.func100.trans (congrArg some (by kernel_rfl))⟩
 f57:=⟨Try.f108.name,by decide,Try.func108.trans (congrArg some (by kernel_rfl))⟩
 t0:=Try.underlying0
 a0:=Try.isAgg0
 z0:=Try.sizeOf0
 v0:=Try.zeroValue0
 t3:=Try.underlying3
 a3:=Try.isAgg3
 z3:=Try.sizeOf3
 v3:=Try.zeroValue3
 t4:=Try.underlying4
 a4:=Try.isAgg4
 z4:=Try.sizeOf4
 v4:=Try.zeroValue4
 t5:=Try.underlying5
 a5:=Try.isAgg5
 z5:=Try.sizeOf5
 v5:=Try.zeroValue5
 t9:=Try.underlying9
 a9:=Try.isAgg9
 z9:=Try.sizeOf9
 v9:=Try.zeroValue9
 t22:=Try.underlying31
 a22:=Try.isAgg31
 z22:=Try.sizeOf31
 v22:=Try.zeroValue31
 t25:=Try.underlying73
 a25:=Try.isAgg73
 z25:=Try.sizeOf73
 v25:=Try.zeroValue73
 t39:=Try.underlying99
 a39:=Try.isAgg99
 z39:=Try.sizeOf99
 v39:=Try.zeroValue99
 t45:=Try.underlying115
 a45:=Try.isAgg115
 z45:=Try.sizeOf115
 v45:=Try.zeroValue115
 t46:=Try.underlying116
 a46:=Try.isAgg116
 z46:=Try.sizeOf116
 v46:=Try.zeroValue116
 t50:=Try.underlying84
 a50:=Try.isAgg84
 z50:=Try.sizeOf84
 v50:=Try.zeroValue84
 t53:=Try.underlying123
 a53:=Try.isAgg123
 z53:=Try.sizeOf123
 v53:=Try.zeroValue123
 t55:=Try.underlying125
 a55:=Try.isAgg125
 z55:=Try.sizeOf125
 v55:=Try.zeroValue125
 t66:=Try.underlying136
 a66:=Try.isAgg136
 z66:=Try.sizeOf136
 v66:=Try.zeroValue136
 t70:=Try.underlying140
 a70:=Try.isAgg140
 z70:=Try.sizeOf140
 v70:=Try.zeroValue140
 t76:=Try.underlying148
 a76:=Try.isAgg148
 z76:=Try.sizeOf148
 v76:=Try.zeroValue148
 t77:=Try.underlying149
 a77:=Try.isAgg149
 z77:=Try.sizeOf149
 v77:=Try.zeroValue149 }
def Try.laysC_ren : Go.Shelf.Ren:=⟨fun | 20=>34 | n=>n,fun | 22=>27 | 3=>3 | 4=>4 | 0=>0 | n=>n,fun | n=>n⟩
theorem Try.laysC : Go.Proofs.Lays2.n20 Try.prog Try.laysC_ren:={
 mixed:=by kernel_rfl
 f20:=Try.func34.trans (congrArg some (by kernel_rfl))
 t0:=Try.underlying0
 a0:=Try.isAgg0
 z0:=Try.sizeOf0
 v0:=Try.zeroValue0
 t3:=Try.underlying3
 a3:=Try.isAgg3
 z3:=Try.sizeOf3
 v3:=Try.zeroValue3
 t4:=Try.underlying4
 a4:=Try.isAgg4
 z4:=Try.sizeOf4
 v4:=Try.zeroValue4
 t22:=Try.underlying27
 a22:=Try.isAgg27
 z22:=Try.sizeOf27
 v22:=Try.zeroValue27
 i3:=by kernel_rfl }
open Go.RowKit Go.Sort in
theorem Try.slices_Sort_int (blk off cap : Nat) (zs : List Int) (w : World) (hH : Holds (Value.int .i64) w blk off zs.toArray) (hblk : blk < w.heap.size) (hsz : zs.length < 4611686018427387904) :
  Calls Try.prog 33 #[.slice (some ⟨blk,off,none⟩) zs.length cap] w fun e w' =>
   e = .returned (.tuple #[]) ∧ ∃ n os,w' = grow (putRow (Value.int .i64) (Sort.ahead w n) blk off (zs.mergeSort fun x y=>decide (x ≤ y)).toArray) os:=AnyM.slices_Sort_int Try.sortI blk off cap zs w hH hblk hsz
open Go.RowKit Go.Sort in
theorem Try.slices_Sort_int_none (p : Option Addr) (cap : Nat) (w : World) :
  Calls Try.prog 33 #[.slice p 0 cap] w fun e w'=>e = .returned (.tuple #[]) ∧ w' = w:=AnyM.slices_Sort_int_none Try.sortI p cap w
open Go.RowKit Go.Lib Go.Sort in
theorem Try.slices_Compact_int (blk off cap : Nat) (zs : List Int) (w : World) (hH : Holds (Value.int .i64) w blk off zs.toArray) (hsz : zs.length ≤ 9223372036854775807) (hcap : zs.length ≤ cap) :
  Calls Try.prog 34 #[.slice (some ⟨blk,off,none⟩) zs.length cap] w fun e w'=>e = .returned (.slice (some ⟨blk,off,none⟩) (Lib.compact zs).length cap) ∧ ∃ q,w' = putRow (Value.int .i64) (Sort.ahead w q) blk off (Lib.compact zs ++ List.replicate (zs.length - (Lib.compact zs).length) 0).toArray:=Any.slices_Compact_int Try.laysC blk off cap zs w hH hsz hcap
open Go.RowKit Go.Lib Go.Sort in
theorem Try.slices_Compact_int_empty (a : Option Addr) (cap : Nat) (w : World) :
  Calls Try.prog 34 #[.slice a 0 cap] w fun e w'=>e = .returned (.slice a 0 cap) ∧ w' = w:=Any.slices_Compact_int_empty Try.laysC a cap w
end Go.Proofs
end
section
namespace Go.Proofs
open Go.Shelf Go.RowKit Go.Lib Go.Sort Go.Abs
abbrev Q9g:={x : Qe // okE x = true}
instance : Inhabited Q9g:=⟨⟨⟨0,0,0⟩,rfl⟩⟩
def cfE (x y : Q9g) : Int:=if x.1.From = y.1.From then x.1.Event - y.1.Event else x.1.From - y.1.From
theorem Q6g (x y : Q9g) : ltOf cfE x y = ltE x.1 y.1:=by
 unfold ltOf cfE ltE
 apply decide_eq_decide.2
 split <;> omega
theorem swoE : SWO (ltOf cfE):={
 irrefl x:=by rw [Q6g]; simp [ltE]
 trans x y z h1 h2:=by rw [Q6g] at *; simp only [ltE,decide_eq_true_eq] at *; omega
 ntrans x y z h1 h2:=by rw [Q6g] at *; simp only [ltE,decide_eq_false_iff_not] at *; omega }
set_option maxHeartbeats 1000000 in
theorem Try.edges37 (x y : Q9g) (W : World) : Calls Try.prog 37 #[.agg ((Qc x.1).map D.val).toArray,.agg ((Qc y.1).map D.val).toArray] W fun e w'=>e = .returned (.int .i64 (cfE x y)) ∧ ∃ q os',w' = grow (W.drewN q) os':=by
 obtain ⟨⟨a,b,c⟩,hx0⟩:=x
 obtain ⟨⟨a',b',c'⟩,hy0⟩:=y
 have hx:=hx0
 have hy:=hy0
 simp only [okE,decide_eq_true_eq] at hx hy
 have w1 : IntKind.i64.wrap (a - a') = a - a':=by simp [IntKind.wrap,IntKind.bits,IntKind.signed]; omega
 have w2 : IntKind.i64.wrap (b - b') = b - b':=by simp [IntKind.wrap,IntKind.bits,IntKind.signed]; omega
 have hr : cfE ⟨⟨a,b,c⟩,hx0⟩ ⟨⟨a',b',c'⟩,hy0⟩ = if a = a' then b - b' else a - a':=rfl
 generalize cfE ⟨⟨a,b,c⟩,hx0⟩ ⟨⟨a',b',c'⟩,hy0⟩ = r at hr ⊢
 simp only [Qc,List.map_cons,List.map_nil,D.val]
 go_enter Try.func37,Try.ntmps37
 go_wp2
 ·rename_i h
  have h : a ≠ a':=by simpa using h
  go_ret
  exact ⟨by rw [hr,if_neg h]; rfl,0,_,by rw [alloc_eq_grow,alloc_eq_grow,grow_grow]; rfl⟩
 ·rename_i h
  have h : a = a':=by simpa using h
  go_ret
  exact ⟨by rw [hr,if_pos h]; rfl,0,_,by rw [alloc_eq_grow,alloc_eq_grow,grow_grow]; rfl⟩
set_option maxHeartbeats 1000000 in
theorem Try.row36 : Qbhk Try.prog 36 (fun x : Q9g=>Qc x.1) #[.func (.func 37) #[] #[]] (fun xs=>(pdq (ltOf cfE) xs.toArray 0 xs.length (Lib.bitLen xs.length) true true).toList) :=
 Q8m Try.sortE Try.isAgg63 Try.sizeOf63 (fun x : Q9g=>Qc x.1) (fun _=>rfl) (by decide) (fun _=>rfl) cfE swoE 37 #[] (enters_of Try.func37 (by kernel_rfl) rfl) (fun x y W=>Try.edges37 x y W)
set_option maxHeartbeats 1000000 in
theorem Try.none36 (p : Option Addr) (cap : Nat) (w : World) : Calls Try.prog 36 (#[.slice p 0 cap] ++ #[.func (.func 37) #[] #[]]) w fun e' w'=>e' = .returned (.tuple #[]) ∧ w' = w :=
 AnyF.slices_SortFunc_none Try.sortE p cap (.func (.func 37) #[] #[]) w
theorem Try.rowK36 : Go.Abs.RowK Try.prog 36 Qc 3 [.clo 37 []] Qbj0 :=
 Qbht (e:=Qc) (sz:=3) (N:=65536) (by decide) (fun _=>rfl) (fun _=>rfl) swoE Q6g (by kernel_rfl) (ex:=#[.func (.func 37) #[] #[]]) (exV:=[.clo 37 []]) (fun g w us h=>by
  obtain ⟨u,us',rfl,hu,hus⟩:=h
  simp only [RFs] at hus
  subst hus
  have:=hu .free
  simp only [RV] at this
  obtain ⟨vs,rfl,hv⟩:=this
  simp only [RVs] at hv
  subst hv
  rfl) Try.row36 Try.none36
theorem Try.rowK33 : Go.Abs.RowK Try.prog 33 (eI .i64) 1 [] Go.Abs.sortI :=
 Qbhu (by kernel_rfl) Try.slices_Sort_int Try.slices_Sort_int_none
theorem Try.compK34 : Go.Abs.CompK Try.prog 34 Qbei :=
 Qbfj (by kernel_rfl) Try.slices_Compact_int Try.slices_Compact_int_empty
end Go.Proofs
end
section
namespace Go.Proofs
open Go.Shelf
def Try.lays169_ren : Go.Shelf.Ren:=⟨fun | 169=>61 | n=>n,fun | 70=>101 | 9=>9 | 0=>0 | 72=>104 | 37=>102 | 127=>134 | 3=>3 | 5=>5 | n=>n,fun | n=>n⟩
theorem Try.lays169 : Go.Proofs.Lays.n169 Try.prog Try.lays169_ren:={
 mixed:=by kernel_rfl
 f169:=Try.func61.trans (congrArg some (by kernel_rfl))
 t0:=Try.underlying0
 a0:=Try.isAgg0
 z0:=Try.sizeOf0
 v0:=Try.zeroValue0
 t3:=Try.underlying3
 a3:=Try.isAgg3
 z3:=Try.sizeOf3
 v3:=Try.zeroValue3
 t9:=Try.underlying9
 a9:=Try.isAgg9
 z9:=Try.sizeOf9
 v9:=Try.zeroValue9
 t37:=Try.underlying102
 a37:=Try.isAgg102
 z37:=Try.sizeOf102
 v37:=Try.zeroValue102
 t70:=Try.underlying101
 a70:=Try.isAgg101
 z70:=Try.sizeOf101
 v70:=Try.zeroValue101
 t72:=Try.underlying104
 a72:=Try.isAgg104
 z72:=Try.sizeOf104
 v72:=Try.zeroValue104
 t127:=Try.underlying134
 a127:=Try.isAgg134
 z127:=Try.sizeOf134
 v127:=Try.zeroValue134 }
theorem Try.Builder_Extra_169 : Builder.Extra Try.prog Try.lays169_ren:={
 sizeBuilder:=by kernel_rfl
 liesBuilder:=by kernel_rfl
 t5:=Try.underlying5
 a5:=Try.isAgg5
 z5:=Try.sizeOf5
 v5:=Try.zeroValue5
 infoByte:=by kernel_rfl
 cellsByte:=by kernel_rfl
 sizeByte:=by kernel_rfl
 neB5:=by decide }
open Go.RowKit in
theorem Try.Builder_String_any_k (B b : Nat) (l : List UInt8) (w : World) (h : Lib.IsBuilderF 104 5 B b (Lib.byteCells l) w) (hBw : B ≤ w.heap.size) :
  Calls Try.prog 61 #[.pointer (some ⟨b,0,none⟩)] w fun e w'=>e = .returned (.string ⟨l.toArray⟩) ∧ (Lib.IsBuilderF 104 5 B b (Lib.byteCells l) w' ∧ Below B w w' ∧ Lib.OthersKept 5 (some b) w w'):=Any.Builder_String_any_k Try.lays169 Try.Builder_Extra_169 B b l w h hBw
def Try.lays168_ren : Go.Shelf.Ren:=⟨fun | 168=>60 | 240=>89 | 242=>90 | 276=>105 | 278=>106 | n=>n,fun | 0=>0 | 3=>3 | 4=>4 | 5=>5 | 9=>9 | 20=>20 | 21=>21 | 37=>102 | 46=>99 | 51=>123 | 70=>101 | 72=>104 | 75=>106 | 80=>109 | 164=>146 | n=>n,fun | n=>n⟩
theorem Try.lays168 : Go.Proofs.Lays.n168 Try.prog Try.lays168_ren:={
 mixed:=by kernel_rfl
 f168:=Try.func60.trans (congrArg some (by kernel_rfl))
 f240:=Try.func89.trans (congrArg some (by kernel_rfl))
 f242:=Try.func90.trans (congrArg some (by kernel_rfl))
 f276:=Try.func105.trans (congrArg some (by kernel_rfl))
 f278:=Try.func106.trans (congrArg some (by kernel_rfl))
 t0:=Try.underlying0
 a0:=Try.isAgg0
 z0:=Try.sizeOf0
 v0:=Try.zeroValue0
 t3:=Try.underlying3
 a3:=Try.isAgg3
 z3:=Try.sizeOf3
 v3:=Try.zeroValue3
 t4:=Try.underlying4
 a4:=Try.isAgg4
 z4:=Try.sizeOf4
 v4:=Try.zeroValue4
 t5:=Try.underlying5
 a5:=Try.isAgg5
 z5:=Try.sizeOf5
 v5:=Try.zeroValue5
 t9:=Try.underlying9
 a9:=Try.isAgg9
 z9:=Try.sizeOf9
 v9:=Try.zeroValue9
 t20:=Try.underlying20
 a20:=Try.isAgg20
 z20:=Try.sizeOf20
 v20:=Try.zeroValue20
 t21:=Try.underlying21
 a21:=Try.isAgg21
 z21:=Try.sizeOf21
 v21:=Try.zeroValue21
 t37:=Try.underlying102
 a37:=Try.isAgg102
 z37:=Try.sizeOf102
 v37:=Try.zeroValue102
 t46:=Try.underlying99
 a46:=Try.isAgg99
 z46:=Try.sizeOf99
 v46:=Try.zeroValue99
 t51:=Try.underlying123
 a51:=Try.isAgg123
 z51:=Try.sizeOf123
 v51:=Try.zeroValue123
 t70:=Try.underlying101
 a70:=Try.isAgg101
 z70:=Try.sizeOf101
 v70:=Try.zeroValue101
 t72:=Try.underlying104
 a72:=Try.isAgg104
 z72:=Try.sizeOf104
 v72:=Try.zeroValue104
 t75:=Try.underlying106
 a75:=Try.isAgg106
 z75:=Try.sizeOf106
 v75:=Try.zeroValue106
 t164:=Try.underlying146
 a164:=Try.isAgg146
 z164:=Try.sizeOf146
 v164:=Try.zeroValue146 }
theorem Try.Builder_Extra_168 : Builder.Extra Try.prog Try.lays168_ren:={
 sizeBuilder:=by kernel_rfl
 liesBuilder:=by kernel_rfl
 t5:=Try.underlying5
 a5:=Try.isAgg5
 z5:=Try.sizeOf5
 v5:=Try.zeroValue5
 infoByte:=by kernel_rfl
 cellsByte:=by kernel_rfl
 sizeByte:=by kernel_rfl
 neB5:=by decide }
open Go.RowKit in
theorem Try.Builder_WriteRune_k (B b : Nat) (bs : List Value) (r : Int) (hr0 : -2147483648 ≤ r) (hr1 : r ≤ 2147483647) (w : World) (h : Lib.IsBuilderF 104 5 B b bs w) (hlen : bs.length + 4 ≤ 140737488355328) (hBw : B ≤ w.heap.size) :
  Calls Try.prog 60 #[.pointer (some ⟨b,0,none⟩),.int .i32 r] w fun e w'=>e = .returned (.tuple #[.int .i64 (Lib.runeCells r).length,.nilIface]) ∧ (Lib.BuilderAtF 104 5 B b (.pointer (some ⟨b,0,none⟩)) (bs ++ Lib.runeCells r) w' ∧ Below B w w' ∧ Lib.OthersKept 5 (some b) w w'):=Any.Builder_WriteRune_k Try.lays168 Try.Builder_Extra_168 B b bs r hr0 hr1 w h hlen hBw
def Try.laysGrow_ren : Go.Shelf.Ren:=⟨fun | 4=>54 | n=>n,fun | 22=>27 | 25=>3 | 3=>3 | 4=>4 | 9=>9 | 20=>20 | 0=>0 | n=>n,fun | n=>n⟩
theorem Try.laysGrow : Go.Proofs.Lays8.n4 Try.prog Try.laysGrow_ren:={
 mixed:=by kernel_rfl
 f4:=⟨Try.f54.name,by decide,Try.func54.trans (congrArg some (by kernel_rfl))⟩
 t0:=Try.underlying0
 a0:=Try.isAgg0
 z0:=Try.sizeOf0
 v0:=Try.zeroValue0
 t3:=Try.underlying3
 a3:=Try.isAgg3
 z3:=Try.sizeOf3
 v3:=Try.zeroValue3
 t4:=Try.underlying4
 a4:=Try.isAgg4
 z4:=Try.sizeOf4
 v4:=Try.zeroValue4
 t9:=Try.underlying9
 a9:=Try.isAgg9
 z9:=Try.sizeOf9
 v9:=Try.zeroValue9
 t20:=Try.underlying20
 a20:=Try.isAgg20
 z20:=Try.sizeOf20
 v20:=Try.zeroValue20
 t22:=Try.underlying27
 a22:=Try.isAgg27
 z22:=Try.sizeOf27
 v22:=Try.zeroValue27 }
end Go.Proofs
end
section
namespace Go.Abs
open Go Go.RowKit
set_option linter.unusedVariables false
set_option linter.unusedSimpArgs false
theorem MR.cellOld {g : G} {w w' : World} {M : Mem} {nb : Nat} (hm : MR g w M nb) (hbw : Below w.heap.size w w') : ∀ b o,g.imm b o → w'.cell? ⟨b,o,none⟩ = w.cell? ⟨b,o,none⟩:=by
 intro b o hi
 have hlt:=(hm.imm b o hi).1
 simp only [World.cell?]
 rw [hbw.block b hlt]
theorem Qbao {P : Program} {f : FuncId} {args : List V} {x : D} (hx : x.scalar = true) (hb : Qga P f = true)
  (h : ∀ (w : World) (g : G) (us : List Value),(∀ b o,g.imm b o → b < w.heap.size) → RFs g w args us → Calls P f us.toArray w fun e w'=>e = .returned x.val ∧ Below w.heap.size w w') (M : Mem) (nb : Nat) : ACalls P f args M nb (.d x) M nb:=by
 refine ⟨hb,Nat.le_refl _,fun w g us hm hMon hfresh hus hfl hons=>?_⟩
 refine Calls.mono (h w g us (fun b o hi=>(hm.imm b o hi).1) hus) ?_
 rintro e w' ⟨rfl,hbw⟩
 have hI : Imm g.imm g.imm w w':=⟨fun _ _ h=>h,fun b o hi=>hm.cellOld hbw b o hi⟩
 have hk : Kept g w g w' (There M) (fun _=>True):=⟨hI,fun _ _=>rfl,fun b _ hlt=>⟨rfl,hbw.block b hlt,fun _=>Iff.rfl⟩⟩
 refine ⟨_,g,rfl,hm.kept hk hMon (fun _ _ _=>trivial) trivial (fun _ _=>trivial) (fun b o hi=>?_),?_,trivial,hMon,?_⟩
 ·obtain ⟨h1,h2⟩:=hm.imm b o hi
  exact ⟨Nat.lt_of_lt_of_le h1 hbw.size,h2⟩
 ·simp only [RV]; exact (Qbhj hx).2 rfl
 ·exact ⟨hbw.os,hbw.tape,hbw.output,hbw.size,hI,fun _ _=>rfl,fun b hb _=>⟨rfl,hbw.block b hb,fun _=>Iff.rfl⟩⟩
theorem Qbda {P : Program} {f : FuncId} {args : List V} {sz : Nat} (hb : Qga P f = true)
  (h : ∀ (w : World) (g : G) (us : List Value),RFs g w args us → Calls P f us.toArray w fun e w'=>(∃ a,e = .returned (.slice a 0 0) ∧ w' = w) ∨
   ∃ cap row t,e = .returned (.slice (some ⟨w.heap.size,0,none⟩) 0 cap) ∧ w' = w.drew.alloc (.cells row t) ∧ row.size = cap * sz ∧ cap ≤ maxLen ∧ ∀ u ∈ row.toList,u.oneCell' = true) (M : Mem) (nb : Nat) : ACalls P f args M nb (.own sz []) M nb:=by
 refine ⟨hb,Nat.le_refl _,fun w g us hm hMon hfresh hus hfl hons=>?_⟩
 refine Calls.mono (h w g us hus) ?_
 rintro e w' (⟨a,rfl,rfl⟩ | ⟨cap,row,t,rfl,rfl,hrow,hcap,hone⟩)
 ·exact ⟨_,g,rfl,hm,by simp only [RV]; exact .inl ⟨⟨a,rfl⟩,trivial⟩,trivial,hMon,Fr.refl _ _ _⟩
 ·let g' : G:={ box:=g.box,imm:=g.imm,own:=fun b=>if b = w.heap.size then .res [] else g.own b }
  have hold : ∀ b,b < w.heap.size → (w.drew.alloc (.cells row t)).heap[b]? = w.heap[b]?:=fun b hlt=>RowKit.Below.heap_alloc w.drew _ b (by simpa using hlt)
  have hown : ∀ b,b < w.heap.size → g'.own b = g.own b:=fun b hlt=>by simp only [g']; rw [if_neg (by omega)]
  have hI : Imm g.imm g'.imm w (w.drew.alloc (.cells row t)):=⟨fun _ _ h=>h,fun b o hi=>by
   have hlt:=(hm.imm b o hi).1
   simp only [World.cell?]
   rw [hold b hlt]⟩
  have hk : Kept g w g' (w.drew.alloc (.cells row t)) (There M) (fun _=>True):=⟨hI,fun _ _=>rfl,fun b _ hlt=>⟨hown b hlt,hold b hlt,fun _=>Iff.rfl⟩⟩
  refine ⟨_,g',rfl,hm.kept hk hMon (fun _ _ _=>trivial) trivial (fun _ _=>trivial) (fun b o hi=>?_),?_,trivial,hMon,?_⟩
  ·obtain ⟨h1,h2⟩:=hm.imm b o hi
   refine ⟨by simp; omega,fun k=>?_⟩
   rw [hown b h1]; exact h2 k
  ·simp only [RV]
   refine .inr ⟨w.heap.size,cap,row,t,rfl,by simp [g'],heap_alloc_new w.drew _,Nat.zero_le _,hcap,⟨hrow,hone⟩,fun o=>?_,by simp [RDL]⟩
   constructor
   ·intro hi; have:=(hm.imm _ _ hi).1; omega
   ·intro hi; simp at hi
  ·exact ⟨rfl,rfl,rfl,by simp,hI,fun _ _=>rfl,fun b hb _=>⟨hown b hb,hold b hb,fun _=>Iff.rfl⟩⟩
theorem Qbkv {g : G} {w : World} {l : List Int} {k : IntKind} {u : Value} (h : RF g w (.d (.lst 1 (l.map (fun n=>[.int k n])))) u) :
  ∃ a cap,u = .slice a l.length cap ∧ l.length ≤ cap ∧ (l = [] ∨ ∃ b o,a = some ⟨b,o,none⟩ ∧ ∀ (i : Nat) n,l[i]? = some n → g.imm b (o + i) ∧ w.cell? ⟨b,o + i,none⟩ = some (.int k n)):=by
 have h:=RF_d.1 h
 simp only [RD,List.length_map] at h
 obtain ⟨a,cap,rfl,hc,hl⟩:=h
 refine ⟨a,cap,rfl,hc,?_⟩
 rcases hl with hl | ⟨b,o,rfl,hl⟩
 ·exact .inl (by simpa using hl)
 ·refine .inr ⟨b,o,rfl,fun i n hi=>?_⟩
  have:=(Q6o hl i [.int k n] (by simp [hi])).2
  simp only [RDc,Nat.mul_one,RD] at this
  obtain ⟨h1,⟨u,h2,rfl⟩,_⟩:=this
  exact ⟨h1,h2⟩
end Go.Abs
end
section
namespace Go.Proofs
open Go.RowKit Go.Abs
def keyL (l : List Int) : List UInt8:=l.flatMap fun x=>Lib.encodeRune (x + 1)
theorem Qbhv : ∀ l : List Int,(keyL l).length ≤ 4 * l.length
 | []=>by simp [keyL]
 | x :: l=>by
  have h:=Lib.runeCells_le (x + 1)
  rw [Lib.runeCells_length] at h
  have ih:=Qbhv l
  simp only [keyL,List.flatMap_cons,List.length_append,List.length_cons] at *
  omega
set_option maxHeartbeats 4000000 in
set_option maxRecDepth 1000000 in
theorem Try.key_walk (l : List Int) (hl : l.length ≤ lim) (hx : ∀ x ∈ l,0 ≤ x ∧ x < 50000) (a : Option Addr) (cap : Nat) (w : World)
  (hc : ∀ (i : Nat) n,l[i]? = some n → ∃ b o,a = some ⟨b,o,none⟩ ∧ b < w.heap.size ∧ w.cell? ⟨b,o + i,none⟩ = some (.int .i64 n)) :
  Calls Try.prog 43 #[.slice a l.length cap] w fun e w'=>e = .returned (.string (keyB l)) ∧ Below w.heap.size w w':=by
 have hlim : l.length ≤ 1099511627776:=hl
 go_enter Try.func43,Try.ntmps43
 go_wp2
 go_loopw [8] (fun vi wr=>∃ (k : Nat),vi = .int .i64 k ∧ k ≤ l.length ∧ Lib.IsBuilderF 104 5 w.heap.size w.heap.size (Lib.byteCells (keyL (l.take k))) wr ∧ Below w.heap.size w wr) (fun vi _=>l.length - (intOf vi).toNat)
 case atStart =>
  refine ⟨0,rfl,by omega,?_,((Below.refl _ w).alloc (Nat.le_refl _) _)⟩
  exact Lib.IsBuilderF.of (Lib.fresh_isBuilder 104 5 w)
 case round =>
  obtain ⟨k,rfl,hk,hI,hbw⟩:=hrel
  by_cases hlt : k < l.length
  ·obtain ⟨b,o,rfl,hb,hcell⟩:=hc k l[k] (List.getElem?_eq_getElem hlt)
   have hcr : wr.cell? ⟨b,o + k,none⟩ = some (.int .i64 l[k]):=by
    rw [← hcell]; simp only [World.cell?]; rw [hbw.block b hb]
   have hxk:=hx l[k] (List.getElem_mem hlt)
   have w1 : IntKind.i64.wrap (l[k] + 1) = l[k] + 1:=by simp [IntKind.wrap,IntKind.bits,IntKind.signed]; omega
   have w2 : IntKind.i32.wrap (l[k] + 1) = l[k] + 1:=by simp [IntKind.wrap,IntKind.bits,IntKind.signed]; omega
   have hsz : w.heap.size ≤ wr.heap.size:=hbw.size
   have hkl:=Qbhv (l.take k)
   rw [List.length_take] at hkl
   go_wp2_with (go_at_call 60; refine (Try.Builder_WriteRune_k w.heap.size w.heap.size _ (l[k] + 1) (by omega) (by omega) _ hI (by rw [Lib.byteCells_length]; omega) hsz).mono ?_)
   rintro e W1 ⟨rfl,h1,b1,k1⟩
   go_wp2
   go_roundw
   case rel =>
    refine ⟨k + 1,by simp,by omega,?_,hbw.trans b1⟩
    have e1 : keyL (l.take (k + 1)) = keyL (l.take k) ++ Lib.encodeRune (l[k] + 1):=by
     rw [List.take_succ_eq_append_getElem hlt]; simp only [keyL,List.flatMap_append,List.flatMap_cons,List.flatMap_nil,List.append_nil]
    rw [e1,Lib.byteCells_append,Lib.byteCells_encodeRune]; exact Or.inr h1
   case measure =>
    simp [intOf]; omega
  ·have hk2 : k = l.length:=by omega
   subst hk2
   go_wp2_with (go_at_call 61; refine (Try.Builder_String_any_k w.heap.size w.heap.size _ _ hI hbw.size).mono ?_)
   rintro e W1 ⟨rfl,_,b1,_⟩
   go_wp2
   go_ret
   exact ⟨rfl,hbw.trans b1⟩
theorem Try.keyK : Go.Abs.K_projection_key Try.prog 43 keyS:=by
 intro l r h
 unfold keyS at h
 split at h <;> cases h
 rename_i hc
 intro M nb
 refine Qbao rfl (by kernel_rfl) (fun w g us himm hus=>?_) M nb
 obtain ⟨u,us',rfl,hu,hus'⟩:=hus
 simp only [RFs] at hus'
 subst hus'
 obtain ⟨a,cap,rfl,hcap,hl⟩:=Qbkv hu
 refine Try.key_walk l hc.1 hc.2 a cap w fun i n hi=>?_
 rcases hl with rfl | ⟨b,o,rfl,hl⟩
 ·simp at hi
 ·exact ⟨b,o,rfl,himm _ _ (hl i n hi).1,(hl i n hi).2⟩
theorem Try.growK : Go.Abs.K_slices_Grow_int Try.prog 54 Qbkt:=by
 intro n r h
 unfold Qbkt at h
 split at h <;> cases h
 rename_i hc
 have hlim : n ≤ 1099511627776:=hc.2
 intro M nb
 refine Qbda (by kernel_rfl) (fun w g us hus=>?_) M nb
 obtain ⟨u,us',rfl,hu,u2,us2,rfl,hu2,hus'⟩:=hus
 simp only [RFs] at hus'
 subst hus'
 have hu:=hu .free
 simp only [RV] at hu
 obtain ⟨a,rfl⟩:=hu
 have h2:=Qm2 hu2
 subst h2
 by_cases h0 : n = 0
 ·subst h0
  refine (Any8.slices_Grow_room Try.laysGrow a 0 0 0 w (by omega) (by omega) (by omega) (by omega)).mono ?_
  rintro e w' ⟨rfl,rfl⟩
  exact .inl ⟨a,rfl,rfl⟩
 ·obtain ⟨m,rfl⟩ : ∃ m : Nat,n = m:=⟨n.toNat,by omega⟩
  obtain ⟨i,zv,hi,hzv,hcz,_⟩:=Qlf Try.prog (t:=3) (z:=[.d (.int .i64 0)]) (by kernel_rfl)
  have hsz : i.size = 1:=(Qd1 Try.prog hi).symm.trans (by kernel_rfl)
  have hby : i.bytes = 8:=by
   have : Try.prog.bytesOf 3 = 8:=by kernel_rfl
   simpa [Program.bytesOf,hi] using this
  have hzs : zv.cells.size = 1:=by have:=(hcz g w).len; simpa using this
  have hz1 : ∀ q,∀ u ∈ (Builtin.zeroCells zv.cells q).toList,u.oneCell' = true:=by
   intro q u hu
   refine (hcz g w).one u ?_
   simp only [Builtin.zeroCells] at hu
   have hu' : ∃ a,a < q * zv.cells.size ∧ zv.cells[a % zv.cells.size]! = u:=by simpa using hu
   obtain ⟨j,hj,rfl⟩:=hu'
   have hlt : j % zv.cells.size < zv.cells.size:=Nat.mod_lt _ (by omega)
   rw [getElem!_pos zv.cells _ hlt]
   simp
  have hge:=grownCap_ge w (0 + m) 0 3
  have hle:=grownCap_le_maxLen w (0 + m) 0 3 (by simp only [maxLen]; omega)
  refine (Any8.slices_Grow_grow Try.laysGrow i zv hi hzv (by omega) a 0 0 m [] w (by omega) (by omega) (by rw [hby]; omega) (by omega) (by simp) (fun _=>rfl) (fun _ _ j v hj=>by simp at hj)).mono ?_
  rintro e w' ⟨rfl,rfl⟩
  refine .inr ⟨_,_,_,rfl,rfl,?_,hle,fun u hu=>?_⟩
  ·simp only [Array.size_append,size_zeroCells,hzs,List.size_toArray,List.length_nil]
   show _ = grownCap w (0 + m) 0 3 * 1
   simp only [show (Try.laysGrow_ren.t 25) = 3 from rfl]
   omega
  ·simp only [Array.toList_append,List.mem_append,List.nil_append] at hu
   rcases hu with hu | hu
   ·exact hz1 _ u hu
   ·exact hz1 _ u hu
end Go.Proofs
end
section
namespace Go.Proofs
open Go Go.Abs
set_option linter.unusedVariables false
set_option maxRecDepth 10000
set_option maxHeartbeats 4000000
theorem Qsm : Qfz Try.prog 26 Qjc:=Qpz Qvv
theorem Qz7 : Qhf Try.prog 66 Qfm:=Qvo Q2b Qbn
theorem Q3o : Qiu Try.prog 57 Qgm:=Qzt Q4k Qbn
theorem Qci : Qbz Try.prog 35 Q5:=Qsa Q3o Qzz
theorem Qvw : Qgb Try.prog 67 Qeu:=Qqr Qci Qye Qbn
theorem Qqb : Qg8 Try.prog 53 Qfu:=Q11 Qz7 Qvw Q5i
theorem Qyh : Qgq Try.prog 49 Qg3:=Qsb Qz1 Qbn
theorem Qh6 : Qe4 Try.prog 30 Qdd:=Qzu Qyh Qqb Q4i
theorem Qlz : Qfj Try.prog 41 Qee:=Qvp Qci Q2a Qbn
theorem Ql0 : Qd4 Try.prog 65 Q2:=Qj0 Qmv
theorem Qgn : Qdb Try.prog 50 Qcs:=Qlt Try.rowK33 Qci Ql0 Qpg Qbn
theorem Qnw : Qen Try.prog 42 Qde:=Qlu Qgn Qpe
theorem Qje : Qdh Try.prog 63 Qdj:=Qh3 Qci Qj4
theorem Qvx : Qgd Try.prog 91 Qgh:=Qqs Qyf Qbn
theorem Qhb : Qds Try.prog 62 Qcz:=Qns Qvx Qqw
theorem Qla : Qdw Try.prog 44 Qcx:=Qja Qhb Qje Qlw
theorem Qpj : Qey Try.prog 45 Qdl:=Qmr Qgn Qp1 Qbn
theorem Ql1 : Qfk Try.prog 14 Qbw:=Qvq Qh6 Qlz Qnw Try.keyK Qla Qpj Q18 Qbn
theorem Ql2 : Qd6 Try.prog 64 Qf3:=Qj1 Qci Qmu
theorem Qnx : Qep Try.prog 46 Qg4:=Qlv Qhb Ql2 Qpf
theorem Qpk : Qgl Try.prog 47 Qjd:=Qzv Q4j
theorem Q4m : Qkk Try.prog 16 Qsj:=Q12 Qh6 Qci Qlz Qnx Qpk Q5h Qbn
theorem Q2c : Qhw Try.prog 31 Qph:=Qx9 Q3l
theorem Q2d : Qhy Try.prog 32 Qpi:=Qya Try.growK Q3m Qbn
theorem Qbap : Qj6 Try.prog 37 Qyg:=Qqt Qyd
theorem Q57 : Qoh Try.prog 97 Qz5:=Q4g Q7k
theorem Q7q : Qqp Try.prog 74 Q2l:=Q5g Q57 Q8k
theorem Q3p : Qiy Try.prog 101 Qqa:=Qzw Q4l
theorem Qp2 : Qe9 Try.prog 87 Qhr:=Qnt Q7q Q3p Qqx Qbn
theorem Ql3 : Qd8 Try.prog 102 Qf4:=Qj2 Qmw Qbn
theorem Q4n : Qkv Try.prog 103 Qsk:=Q13 Q5j
theorem Q4o : Qkx Try.prog 104 Qsl:=Q14 Q5k
theorem Q58 : Qos Try.prog 88 Qz6:=Q4h Ql3 Q4n Q4o Q7j
theorem Qyi : Qgs Try.prog 59 Qlx:=Qsc Qpk Qp2 Q58 Qz4 Qbn
theorem Qyj : Qgu Try.prog 38 Qly:=Qsd Qqb Qyi Qz0
theorem Qz8 : Qhj Try.prog 11 Qmx:=Qvr Qh6 Q2c Q2d Try.rowK33 Try.compK34 Qci Try.rowK36 Qyj Q16 Qbn
theorem Qc0 : Qb5 Try.prog 19 Qbu:=Qpd Qsi Qbn
theorem Ql4 : Qfl Try.prog 12 Qef:=Qvs Qc0 Q17 Qbn
theorem Qp3 : Qfb Try.prog 27 Qhs:=Qnu Qc0 Qqu Qbn
theorem Qyk : Qgw Try.prog 7 Qg5:=Qse Qz8 Ql4 Ql1 Q4m Qc0 Qsm Qp3 Qzx
theorem Qpl : Qe0 Try.prog 10 Qcb:=Qms Qp0 Qbn
theorem Qj7 : Qe5 Try.prog 28 Qdz:=Qsf Qzy
theorem Qg6 : Qed Try.prog 40 Qbx:=Qvt Q19 Qbn
theorem Qmy : Qf1 Try.prog 48 Qct:=Qyb Q3n Qbn
theorem Qyl : Qgz Try.prog 51 Qe6:=Qsg Qg6 Qmy Qz2 Qbn
theorem Qym : Qg1 Try.prog 52 Qd0:=Qsh Qz3 Qbn
theorem Qp4 : Qfd Try.prog 29 Qdt:=Qnv Qj7 Qg6 Qmy Qyl Qym Qqv Qbn
theorem Qz9 : Qhn Try.prog 9 Qfn:=Qvu Qj7 Qp4 Q15 Qbn
theorem Q2e : Qh1 Try.prog 17 Qh5:=Qyc Q3k Qbn
theorem Ql5 : Qea Try.prog 20 Qc1:=Qj3 Q2e Qc0 Qg6 Qmt Qbn
theorem Q4v : Qft Try.prog 5 Qdp:=Qiq Qyk Qz9 Qpl Ql4 Ql1 Qc0 Ql5 Qk9 Qbn
end Go.Proofs
end
section
namespace Go.Abs
open Go Go.ChangeShapes Go.WideShapes Go.ChangeAt Go.RowKit
set_option linter.unusedVariables false
set_option linter.unusedSimpArgs false
def live (w : World) : Nat → Nat → Prop:=fun b o=>(w.cell? ⟨b,o,none⟩).isSome = true
def RDs (w : World) : List D → List Value → Prop
 | [],vs=>vs = []
 | x :: xs,vs=>∃ u us,vs = u :: us ∧ RD (live w) w x u ∧ RDs w xs us
theorem Q9h {w : World} : ∀ {xs ys : List D} {us vs : List Value},RDs w xs us → RDs w ys vs → RDs w (xs ++ ys) (us ++ vs)
 | [],ys,us,vs,h,k=>by simp only [RDs] at h; subst h; simpa using k
 | x :: xs,ys,us,vs,⟨u,us',e,r,h⟩,k=>by subst e; exact ⟨u,us' ++ vs,by simp,r,Q9h h k⟩
def RDat (w : World) (cs : List Value) (off : Nat) (xs : List D) : Prop:=RDs w xs ((cs.drop off).take xs.length)
theorem RDat.app {w : World} {cs : List Value} {off : Nat} {xs ys : List D} (h : RDat w cs off xs) {n : Nat} (hn : n = off + xs.length) (k : RDat w cs n ys) : RDat w cs off (xs ++ ys):=by
 subst hn
 have:=Q9h h k
 unfold RDat
 rw [List.length_append,List.take_add,List.drop_drop]
 exact this
theorem RDat.nil {w : World} {cs : List Value} {off : Nat} : RDat w cs off []:=by simp [RDat,RDs]
theorem RDat.all {w : World} {cs : List Value} {xs : List D} (h : RDat w cs 0 xs) (hl : cs.length = xs.length) : RDs w xs cs:=by
 unfold RDat at h
 rw [List.drop_zero,← hl,List.take_length] at h
 exact h
def Qbaq {α : Type} (P : Program) (t : TypeId) (e : α → List D) (wf : α → Prop) : Prop :=
 ∀ {H : Type} {enc : TypeId × Value → H} {w : World} {base : Nat} {spare : Nat → Bool} {held : Bool} {fuel : Nat} {cs : List Value} {x : DataW H × List MemPlace},
  DataW.trod enc P w base spare held fuel t cs = some x → ∃ a,wf a ∧ RDs w (e a) cs
def wfI (k : IntKind) (n : Int) : Prop:=(Lit.int k n).wf = true
variable {P : Program} {t : TypeId}
theorem Qbb1 {k : IntKind} (ht : P.underlying t = some (.int k)) : Qbaq P t (fun n : Int=>[.int k n]) (wfI k):=by
 intro H enc w base spare held fuel cs x h
 obtain ⟨n,rfl,_,hw⟩:=DataW.trod_int ht h
 exact ⟨n,hw,_,_,rfl,by simp [RD],rfl⟩
theorem Qfo {α : Type} {el : TypeId} {e : α → List D} {wf : α → Prop} {sz : Nat} (he : Qbaq P el e wf) (hsz : P.cellsOf el = sz) (hlen : ∀ a,(e a).length = sz)
  {H : Type} {enc : TypeId × Value → H} {w : World} {base : Nat} {spare : Nat → Bool} {held : Bool} {fuel off : Nat} {cs : List Value} {x : DataW H × List MemPlace}
  (h : DataW.trod enc P w base spare held fuel el ((cs.drop off).take (P.cellsOf el)) = some x) : ∃ a,wf a ∧ RDat w cs off (e a):=by
 obtain ⟨a,h1,h2⟩:=he h
 refine ⟨a,h1,?_⟩
 unfold RDat
 rw [hlen,← hsz]; exact h2
theorem Qbhw {H : Type} {enc : TypeId × Value → H} {w : World} {base : Nat} {spare : Nat → Bool} {held : Bool} {fuel : Nat} {cs : List Value} {x : DataW H × List MemPlace} {fs : Array Field}
  (ht : P.underlying t = some (.struct fs)) (h : DataW.trod enc P w base spare held fuel t cs = some x) :
  cs.length = P.cellsOf t ∧ ∃ n,∀ (i : Nat) (f : Field),fs[i]? = some f → ∃ y,DataW.trod enc P w base spare held n f.type ((cs.drop f.offset).take (P.cellsOf f.type)) = some y:=by
 obtain ⟨xs,n,_,_,h1,h2,h3⟩:=DataW.trod_struct ht h
 refine ⟨h1,n,fun i f hf=>?_⟩
 have hi : i < fs.size:=(Array.getElem?_eq_some_iff.1 hf).1
 exact ⟨xs[i]'(by omega),by rw [h3 i f hf]; exact List.getElem?_eq_getElem (by omega)⟩
theorem Qbi7 {H : Type} {enc : TypeId × Value → H} {w : World} {base : Nat} {spare : Nat → Bool} {held : Bool} {fuel : Nat} {cs : List Value} {x : DataW H × List MemPlace} {n : Nat} {el : TypeId}
  (ht : P.underlying t = some (.array n el)) (h : DataW.trod enc P w base spare held fuel t cs = some x) :
  cs.length = P.cellsOf t ∧ ∃ m,∀ i,i < n → ∃ y,DataW.trod enc P w base spare held m el ((cs.drop (i * P.cellsOf el)).take (P.cellsOf el)) = some y:=by
 obtain ⟨xs,m,_,_,h1,h2,h3⟩:=DataW.trod_array ht h
 exact ⟨h1,m,fun i hi=>⟨xs[i]'(by omega),by rw [h3 i hi]; exact List.getElem?_eq_getElem (by omega)⟩⟩
def Q4p {α : Type} (P : Program) (t : TypeId) (v : α → V) (wf : α → Prop) : Prop :=
 ∀ {H : Type} {enc : TypeId × Value → H} {w : World} {base b0 : Nat} {spare : Nat → Bool} {held : Bool} {u : Value} {d : DataW H} {ps : List MemPlace},
  Value.okWide P w .any b0 t u → DataW.Trod enc P w base spare held t u d ps → ∃ a,wf a ∧ RF ⟨fun _=>0,live w,fun _=>.ext⟩ w (v a) u
theorem Qblu {imm : Nat → Nat → Prop} {w : World} {x : D} {u : Value} (h : RD imm w x u) : u.oneCell' = true:=by
 cases x with
 | int k n=>simp only [RD] at h; subst h; rfl
 | bool b=>simp only [RD] at h; subst h; rfl
 | str s=>simp only [RD] at h; subst h; rfl
 | lst sz l=>simp only [RD] at h; obtain ⟨a,cap,rfl,_⟩:=h; cases a <;> rfl
theorem Qbhx {w : World} {g : G} (hg : g.imm = live w) : ∀ {xs : List D} {us : List Value} {ℓ : Owner} {i : Nat},RDs w xs us → RVs g w (xs.map V.d) ℓ i us ∧ ∀ u ∈ us,u.oneCell' = true
 | [],us,ℓ,i,h=>by simp only [RDs] at h; subst h; simp [RVs]
 | x :: xs,us,ℓ,i,⟨u,us',e,r,h⟩=>by
  subst e
  obtain ⟨h1,h2⟩:=Qbhx hg (ℓ:=ℓ) (i:=i + 1) h
  refine ⟨⟨u,us',rfl,by simpa [RV,hg] using r,h1⟩,fun v hv=>?_⟩
  rcases List.mem_cons.1 hv with rfl | hv
  ·exact Qblu r
  ·exact h2 v hv
theorem Qbhy {α : Type} {e : α → List D} {wf : α → Prop} (he : Qbaq P t e wf) (hagg : (∃ fs,P.underlying t = some (.struct fs)) ∨ ∃ n el,P.underlying t = some (.array n el)) : Q4p P t (fun a=>.agg ((e a).map V.d)) wf:=by
 intro H enc w base b0 spare held u d ps hok hd
 obtain ⟨cs,rfl⟩ : ∃ cs,u = .agg cs:=by
  rcases hagg with ⟨fs,ht⟩ | ⟨n,el,ht⟩
  ·simp only [Value.okWide,ht] at hok; obtain ⟨cs,rfl,_⟩:=hok; exact ⟨cs,rfl⟩
  ·simp only [Value.okWide,ht] at hok; obtain ⟨cs,rfl,_⟩:=hok; exact ⟨cs,rfl⟩
 obtain ⟨fuel,hf⟩:=hd
 obtain ⟨a,h1,h2⟩:=he hf
 refine ⟨a,h1,fun ℓ=>?_⟩
 simp only [RV]
 obtain ⟨h3,h4⟩:=Qbhx (g:=⟨fun _=>0,live w,fun _=>.ext⟩) rfl (ℓ:=ℓ) (i:=0) h2
 exact ⟨cs.toList,by simp,h3,h4⟩
def Qblv (P : Program) (f : FuncId) (ts : List TypeId) : Prop :=
 ∀ {H : Type} {enc : TypeId × Value → H} {w : World} {b0 : Nat} {us : List Value} {ds : List (DataW H)} {ps : List MemPlace},
  (∀ (j : Nat) t u,ts[j]? = some t → us[j]? = some u → Value.okWide P w .any b0 t u) → DataW.TrodAll enc P w 0 (fun _=>true) true ts us ds ps →
  ∃ vs,RFs ⟨fun _=>0,live w,fun _=>.ext⟩ w vs us ∧ (∀ x ∈ vs,Flat x) ∧ V.lt.go 0 vs = true ∧ ∀ M nb,ACalls P f vs M nb (.d (.bool true)) M nb
theorem Q4q (hl : laidOutB P = true) {W W' : World} {sp : Nat → Bool} {H : Type} {enc : TypeId × Value → H} : ∀ {ts : List TypeId} {us : List Value} {ds : List (DataW H)} {ps : List MemPlace},
  (∀ t ∈ ts,P.readableRec t = true ∧ t < P.types.size) → DataW.TrodAll enc P W 0 (fun _=>true) true ts us ds ps → (∀ p ∈ ps,W.sameAt W' p) → (∀ p ∈ ps,sp p.block = true) → DataW.TrodAll enc P W' 0 sp true ts us ds ps
 | [],[],[],ps,_,h,_,_=>h
 | t :: ts,u :: us,d :: ds,ps,hr,⟨p,q,h1,h2,e⟩,hs,hp=>by
  subst e
  obtain ⟨r1,r2⟩:=hr t (by simp)
  exact ⟨p,q,WideElems.Trod_stays hl r1 r2 h1 (fun x hx=>hs x (by simp [hx])) (fun x hx=>hp x (by simp [hx])),Q4q hl (fun t ht=>hr t (by simp [ht])) h2 (fun x hx=>hs x (by simp [hx])) (fun x hx=>hp x (by simp [hx])),rfl⟩
 | [],[],_ :: _,_,_,h,_,_=>h.elim
 | [],_ :: _,_,_,_,h,_,_=>h.elim
 | _ :: _,[],_,_,_,h,_,_=>h.elim
 | _ :: _,_ :: _,[],_,_,h,_,_=>h.elim
theorem Q7r {W : World} {sp : Nat → Bool} {held : Bool} {base : Nat} {H : Type} {enc : TypeId × Value → H} : ∀ {ts : List TypeId} {us : List Value} {ds : List (DataW H)} {ps : List MemPlace},
  DataW.TrodAll enc P W base sp held ts us ds ps → ds.length = ts.length ∧ us.length = ts.length
 | [],[],[],ps,h=>⟨rfl,rfl⟩
 | t :: ts,u :: us,d :: ds,ps,⟨p,q,h1,h2,e⟩=>by have:=Q7r h2; simp [this.1,this.2]
 | [],[],_ :: _,_,h=>h.elim
 | [],_ :: _,_,_,h=>h.elim
 | _ :: _,[],_,_,h=>h.elim
 | _ :: _,_ :: _,[],_,h=>h.elim
theorem Qbkw {C : Checked} {f : FuncId} {fn : Func} {s : ChangeSpec} {conds : List PathCond} {bt : TypeId} {os : Os} {H : Type} {enc : TypeId × Value → H}
  (own : ownKnob C.prog.godebug = none) (started : os.Started) (noInit : C.prog.inits.idxOf? f = none) (hfn : C.prog.funcs[f]? = some fn)
  (witness : ∃ (w : World) (tape : Tape) (i : Input),w.os = os ∧ (w.forCall tape i).Shaped C.prog ∧ i.vars = [] ∧ Input.okWide C.prog (w.forCall tape i) .any w.heap.size f i ∧
   s.pre6 enc C.prog fn conds false (w.forCall tape i).memory i.args ∧ ({} : Assume).holds C.prog (lone (Frame.enter C.prog f i.args .normal) [] (w.forCall tape i)))
  (hvars : s.vars = []) (hres : fn.resultTypes = #[bt]) (hbt : C.prog.underlying bt = some .bool)
  (hl : laidOutB C.prog = true) (hread : ∀ t ∈ fn.params.toList,C.prog.readableRec t = true ∧ t < C.prog.types.size)
  (hspec : ∀ ds : List (DataW H),ds.length = fn.params.size → s.fn H ds = { results:=[.lit (.bool true)],args:=ds })
  (law : Qblv C.prog f fn.params.toList) :
  ReturnsInHanded {} C os f .any (s.pre6 enc C.prog fn conds false) (s.post enc C.prog fn false true false false):=by
 refine returnsInHanded_of_change own started noInit hfn witness ?_
 intro W base args ds gs before hval hW hcnd _
 have hW':=hW
 obtain ⟨p,q,hA,hV,hps,hfz,hnd⟩:=hW
 rw [hvars] at hV
 obtain ⟨rfl,rfl⟩ : gs = [] ∧ q = []:=by
  cases gs with
  | nil=>exact ⟨rfl,hV⟩
  | cons _ _=>exact hV.elim
 obtain ⟨vs,h1,h2,h3,h4⟩:=law (fun j t u ht hu=>hval j t u (by simpa using ht) (by simpa using hu)) hA
 obtain ⟨hb,_,h5⟩:=h4 (fun _=>none) 0
 have hlv : ∀ b o,live W b o → b < W.heap.size:=by
  intro b o h
  simp only [live] at h
  obtain ⟨v,hv⟩:=Option.isSome_iff_exists.1 h
  unfold World.cell? at hv
  split at hv
  ·rename_i hh; exact (Array.getElem?_eq_some_iff.1 hh).1
  ·cases hv
 have hmr : MR ⟨fun _=>0,live W,fun _=>.ext⟩ W (fun _=>none) 0:=⟨fun k b h=>(by cases h),fun b o h=>⟨hlv b o h,fun k h=>by cases h⟩⟩
 have h6:=h5 W ⟨fun _=>0,live W,fun _=>.ext⟩ args.toList hmr (fun k cs h=>by cases h) (fun b=>⟨fun t p h=>(by cases h),fun p h=>(by cases h)⟩) h1 h2 (ons_mono (fun k hk=>absurd hk (Nat.not_lt_zero k)) _ (ons_lt vs h3))
 refine Calls.mono h6 fun e W' ⟨v,g',he,_,hr,_,_,hf⟩=>?_
 subst he
 have hv : v = .bool true:=by simpa [RV,RD] using hr
 subst hv
 have hbelow : Below W.heap.size W W':=⟨hf.os,hf.tape,hf.output,hf.size,fun k hk=>(hf.old k hk trivial).2.1⟩
 have hrl : (Value.bool true).resultList fn.resultTypes.size = [.bool true]:=by rw [hres]; rfl
 have hsp : s.fn H (ds ++ []) = { results:=[.lit (.bool true)],args:=ds }:=by
  rw [List.append_nil]
  exact hspec ds (by have:=(Q7r hA).1; simpa using this)
 have hlt : ∀ p ∈ before,p.block < W.heap.size:=fun x hx=>hW'.lt x hx
 have hst : ∀ sp : Nat → Bool,(∀ p ∈ before,sp p.block = true) → DataW.TrodAll enc C.prog W' 0 sp true fn.params.toList args.toList ds before:=by
  intro sp hsp'
  have e : p = before:=by rw [hps,List.append_nil]
  subst e
  exact Q4q hl hread hA (fun x hx=>hbelow.same (hlt x hx)) hsp'
 refine ⟨_,rfl,ds,[],before,[],before,[],hW',?_,?_,?_,World.keptBut_mono (fun p hp=>⟨hp,.inr (.inl hp)⟩) (hbelow.frame (· ∈ before)),fun h=>by cases h⟩
 ·rw [hsp,hrl,hres]
  exact ⟨[],[],⟨1,by simp [DataW.trod,Value.cells,hbt]⟩,rfl,rfl⟩
 ·rw [hsp]
  exact hst _ fun p hp=>by simpa using hlt p hp
 ·rw [hsp,hvars]; rfl
section
variable {α β γ δ : Type} {f : FuncId} {ta tb tc td : TypeId} {va : α → V} {vb : β → V} {vc : γ → V} {vd : δ → V} {wa : α → Prop} {wb : β → Prop} {wc : γ → Prop} {wd : δ → Prop}
theorem Q7s {H : Type} {enc : TypeId × Value → H} {w : World} {base : Nat} {sp : Nat → Bool} {held : Bool} {t : TypeId} {ts : List TypeId} {us : List Value} {ds : List (DataW H)} {ps : List MemPlace} (h : DataW.TrodAll enc P w base sp held (t :: ts) us ds ps) :
  ∃ u us' d ds' p q,us = u :: us' ∧ ds = d :: ds' ∧ DataW.Trod enc P w base sp held t u d p ∧ DataW.TrodAll enc P w base sp held ts us' ds' q:=by
 match us,ds,h with
 | u :: us',d :: ds',⟨p,q,h1,h2,_⟩=>exact ⟨u,us',d,ds',p,q,rfl,rfl,h1,h2⟩
 | [],[],h=>exact h.elim
 | [],_ :: _,h=>exact h.elim
 | _ :: _,[],h=>exact h.elim
theorem Qbdb {H : Type} {enc : TypeId × Value → H} {w : World} {base : Nat} {sp : Nat → Bool} {held : Bool} {us : List Value} {ds : List (DataW H)} {ps : List MemPlace} (h : DataW.TrodAll enc P w base sp held [] us ds ps) : us = []:=by
 match us,ds,h with
 | [],[],_=>rfl
 | [],_ :: _,h=>exact h.elim
 | _ :: _,[],h=>exact h.elim
 | _ :: _,_ :: _,h=>exact h.elim
theorem Qbma (ra : Q4p P ta va wa) (fa : ∀ a,(va a).dem = va a) (la : ∀ a,(va a).lt 0 = true) (rb : Q4p P tb vb wb) (fb : ∀ a,(vb a).dem = vb a) (lb : ∀ a,(vb a).lt 0 = true)
  (law : ∀ a b,wa a → wb b → ∀ M nb,ACalls P f [va a,vb b] M nb (.d (.bool true)) M nb) : Qblv P f [ta,tb]:=by
 intro H enc w b0 us ds ps hok hT
 obtain ⟨u,us',d,ds',p,q,rfl,rfl,h1,hT⟩:=Q7s hT
 obtain ⟨u2,us',d2,ds',p2,q2,rfl,rfl,h2,hT⟩:=Q7s hT
 obtain rfl:=Qbdb hT
 obtain ⟨a,ha,hra⟩:=ra (hok 0 _ _ rfl rfl) h1
 obtain ⟨b,hb,hrb⟩:=rb (hok 1 _ _ rfl rfl) h2
 refine ⟨[va a,vb b],⟨u,_,rfl,hra,u2,_,rfl,hrb,rfl⟩,?_,by simp [V.lt.go,la,lb],law a b ha hb⟩
 intro x hx
 simp only [List.mem_cons,List.not_mem_nil,or_false] at hx
 rcases hx with rfl | rfl
 ·exact fa a
 ·exact fb b
end
theorem Qbhz {H : Type} {enc : TypeId × Value → H} {w : World} {base : Nat} {spare : Nat → Bool} {held : Bool} {fuel : Nat} {cs : List Value} {x : DataW H × List MemPlace} {n sz : Nat} {el : TypeId}
  (ht : P.underlying t = some (.array n el)) (hsz : P.cellsOf el = sz) (h : DataW.trod enc P w base spare held fuel t cs = some x) :
  cs.length = P.cellsOf t ∧ ∃ m,∀ i,i < n → ∃ y,DataW.trod enc P w base spare held m el ((cs.drop (i * sz)).take (P.cellsOf el)) = some y:=by
 obtain ⟨h1,m,h2⟩:=Qbi7 ht h
 exact ⟨h1,m,fun i hi=>by have:=h2 i hi; rwa [show i * P.cellsOf el = i * sz from by rw [hsz]] at this⟩
end Go.Abs
end
section
namespace Go.Proofs
open Go Go.Abs
set_option linter.unusedVariables false
set_option maxRecDepth 100000
def W_22 (x : Int) : Prop:=wfI .u8 x
theorem R_22 : Qbaq Try.prog 22 (eI .u8) W_22:=Qbb1 Try.underlying22
def W_53 (x : Int × Int × Int) : Prop:=W_22 x.1 ∧ W_22 x.2.1 ∧ W_22 x.2.2
theorem R_53 : Qbaq Try.prog 53 (fun p : Int × Int × Int=>[.int .u8 p.1,.int .u8 p.2.1,.int .u8 p.2.2]) W_53:=by
  intro H enc w base spare held fuel cs x h
  obtain ⟨hl,n,hf⟩:=Qbhz (sz:=1) Try.underlying53 (by kernel_rfl) h
  obtain ⟨y0,h0⟩:=hf 0 (by decide)
  obtain ⟨a0,w0,r0⟩:=Qfo (off:=0 * 1) (sz:=1) R_22 (by kernel_rfl) (fun _=>rfl) h0
  obtain ⟨y1,h1⟩:=hf 1 (by decide)
  obtain ⟨a1,w1,r1⟩:=Qfo (off:=1 * 1) (sz:=1) R_22 (by kernel_rfl) (fun _=>rfl) h1
  obtain ⟨y2,h2⟩:=hf 2 (by decide)
  obtain ⟨a2,w2,r2⟩:=Qfo (off:=2 * 1) (sz:=1) R_22 (by kernel_rfl) (fun _=>rfl) h2
  exact ⟨(a0,a1,a2),⟨w0,w1,w2⟩,RDat.all (xs:=(fun p : Int × Int × Int=>[.int .u8 p.1,.int .u8 p.2.1,.int .u8 p.2.2]) (a0,a1,a2)) (RDat.app r0 rfl (RDat.app r1 rfl r2)) (hl.trans (by kernel_rfl))⟩
theorem A_53 : Q4p Try.prog 53 (fun (a : Int × Int × Int)=>.agg [.d (.int .u8 a.1),.d (.int .u8 a.2.1),.d (.int .u8 a.2.2)]) W_53:=Qbhy R_53 (.inr ⟨_,_,Try.underlying53⟩)
def W_5 (x : Int) : Prop:=wfI .u8 x
theorem R_5 : Qbaq Try.prog 5 (eI .u8) W_5:=Qbb1 Try.underlying5
def W_23 (x : Int × Int × Int × Int × Int) : Prop:=W_5 x.1 ∧ W_5 x.2.1 ∧ W_5 x.2.2.1 ∧ W_5 x.2.2.2.1 ∧ W_5 x.2.2.2.2
theorem R_23 : Qbaq Try.prog 23 (fun p : Int × Int × Int × Int × Int=>[.int .u8 p.1,.int .u8 p.2.1,.int .u8 p.2.2.1,.int .u8 p.2.2.2.1,.int .u8 p.2.2.2.2]) W_23:=by
  intro H enc w base spare held fuel cs x h
  obtain ⟨hl,n,hf⟩:=Qbhz (sz:=1) Try.underlying23 (by kernel_rfl) h
  obtain ⟨y0,h0⟩:=hf 0 (by decide)
  obtain ⟨a0,w0,r0⟩:=Qfo (off:=0 * 1) (sz:=1) R_5 (by kernel_rfl) (fun _=>rfl) h0
  obtain ⟨y1,h1⟩:=hf 1 (by decide)
  obtain ⟨a1,w1,r1⟩:=Qfo (off:=1 * 1) (sz:=1) R_5 (by kernel_rfl) (fun _=>rfl) h1
  obtain ⟨y2,h2⟩:=hf 2 (by decide)
  obtain ⟨a2,w2,r2⟩:=Qfo (off:=2 * 1) (sz:=1) R_5 (by kernel_rfl) (fun _=>rfl) h2
  obtain ⟨y3,h3⟩:=hf 3 (by decide)
  obtain ⟨a3,w3,r3⟩:=Qfo (off:=3 * 1) (sz:=1) R_5 (by kernel_rfl) (fun _=>rfl) h3
  obtain ⟨y4,h4⟩:=hf 4 (by decide)
  obtain ⟨a4,w4,r4⟩:=Qfo (off:=4 * 1) (sz:=1) R_5 (by kernel_rfl) (fun _=>rfl) h4
  exact ⟨(a0,a1,a2,a3,a4),⟨w0,w1,w2,w3,w4⟩,RDat.all (xs:=(fun p : Int × Int × Int × Int × Int=>[.int .u8 p.1,.int .u8 p.2.1,.int .u8 p.2.2.1,.int .u8 p.2.2.2.1,.int .u8 p.2.2.2.2]) (a0,a1,a2,a3,a4)) (RDat.app r0 rfl (RDat.app r1 rfl (RDat.app r2 rfl (RDat.app r3 rfl r4)))) (hl.trans (by kernel_rfl))⟩
def W_24 (x : (Int × Int × Int × Int × Int) × (Int × Int × Int × Int × Int) × (Int × Int × Int × Int × Int) × (Int × Int × Int × Int × Int) × (Int × Int × Int × Int × Int)) : Prop:=W_23 x.1 ∧ W_23 x.2.1 ∧ W_23 x.2.2.1 ∧ W_23 x.2.2.2.1 ∧ W_23 x.2.2.2.2
theorem R_24 : Qbaq Try.prog 24 (fun p : (Int × Int × Int × Int × Int) × (Int × Int × Int × Int × Int) × (Int × Int × Int × Int × Int) × (Int × Int × Int × Int × Int) × (Int × Int × Int × Int × Int)=>[.int .u8 p.1.1,.int .u8 p.1.2.1,.int .u8 p.1.2.2.1,.int .u8 p.1.2.2.2.1,.int .u8 p.1.2.2.2.2,.int .u8 p.2.1.1,.int .u8 p.2.1.2.1,.int .u8 p.2.1.2.2.1,.int .u8 p.2.1.2.2.2.1,.int .u8 p.2.1.2.2.2.2,.int .u8 p.2.2.1.1,.int .u8 p.2.2.1.2.1,.int .u8 p.2.2.1.2.2.1,.int .u8 p.2.2.1.2.2.2.1,.int .u8 p.2.2.1.2.2.2.2,.int .u8 p.2.2.2.1.1,.int .u8 p.2.2.2.1.2.1,.int .u8 p.2.2.2.1.2.2.1,.int .u8 p.2.2.2.1.2.2.2.1,.int .u8 p.2.2.2.1.2.2.2.2,.int .u8 p.2.2.2.2.1,.int .u8 p.2.2.2.2.2.1,.int .u8 p.2.2.2.2.2.2.1,.int .u8 p.2.2.2.2.2.2.2.1,.int .u8 p.2.2.2.2.2.2.2.2]) W_24:=by
  intro H enc w base spare held fuel cs x h
  obtain ⟨hl,n,hf⟩:=Qbhz (sz:=5) Try.underlying24 (by kernel_rfl) h
  obtain ⟨y0,h0⟩:=hf 0 (by decide)
  obtain ⟨a0,w0,r0⟩:=Qfo (off:=0 * 5) (sz:=5) R_23 (by kernel_rfl) (fun _=>rfl) h0
  obtain ⟨y1,h1⟩:=hf 1 (by decide)
  obtain ⟨a1,w1,r1⟩:=Qfo (off:=1 * 5) (sz:=5) R_23 (by kernel_rfl) (fun _=>rfl) h1
  obtain ⟨y2,h2⟩:=hf 2 (by decide)
  obtain ⟨a2,w2,r2⟩:=Qfo (off:=2 * 5) (sz:=5) R_23 (by kernel_rfl) (fun _=>rfl) h2
  obtain ⟨y3,h3⟩:=hf 3 (by decide)
  obtain ⟨a3,w3,r3⟩:=Qfo (off:=3 * 5) (sz:=5) R_23 (by kernel_rfl) (fun _=>rfl) h3
  obtain ⟨y4,h4⟩:=hf 4 (by decide)
  obtain ⟨a4,w4,r4⟩:=Qfo (off:=4 * 5) (sz:=5) R_23 (by kernel_rfl) (fun _=>rfl) h4
  exact ⟨(a0,a1,a2,a3,a4),⟨w0,w1,w2,w3,w4⟩,RDat.all (xs:=(fun p : (Int × Int × Int × Int × Int) × (Int × Int × Int × Int × Int) × (Int × Int × Int × Int × Int) × (Int × Int × Int × Int × Int) × (Int × Int × Int × Int × Int)=>[.int .u8 p.1.1,.int .u8 p.1.2.1,.int .u8 p.1.2.2.1,.int .u8 p.1.2.2.2.1,.int .u8 p.1.2.2.2.2,.int .u8 p.2.1.1,.int .u8 p.2.1.2.1,.int .u8 p.2.1.2.2.1,.int .u8 p.2.1.2.2.2.1,.int .u8 p.2.1.2.2.2.2,.int .u8 p.2.2.1.1,.int .u8 p.2.2.1.2.1,.int .u8 p.2.2.1.2.2.1,.int .u8 p.2.2.1.2.2.2.1,.int .u8 p.2.2.1.2.2.2.2,.int .u8 p.2.2.2.1.1,.int .u8 p.2.2.2.1.2.1,.int .u8 p.2.2.2.1.2.2.1,.int .u8 p.2.2.2.1.2.2.2.1,.int .u8 p.2.2.2.1.2.2.2.2,.int .u8 p.2.2.2.2.1,.int .u8 p.2.2.2.2.2.1,.int .u8 p.2.2.2.2.2.2.1,.int .u8 p.2.2.2.2.2.2.2.1,.int .u8 p.2.2.2.2.2.2.2.2]) (a0,a1,a2,a3,a4)) (RDat.app r0 rfl (RDat.app r1 rfl (RDat.app r2 rfl (RDat.app r3 rfl r4)))) (hl.trans (by kernel_rfl))⟩
def W_26 (x : Q3) : Prop:=W_5 x.States ∧ W_5 x.Marks ∧ W_24 x.To
theorem R_26 : Qbaq Try.prog 26 Qli W_26:=by
  intro H enc w base spare held fuel cs x h
  obtain ⟨hl,n,hf⟩:=Qbhw Try.underlying26 h
  obtain ⟨y0,h0⟩:=hf 0 _ rfl
  obtain ⟨a0,w0,r0⟩:=Qfo (off:=0) (sz:=1) R_5 (by kernel_rfl) (fun _=>rfl) h0
  obtain ⟨y1,h1⟩:=hf 1 _ rfl
  obtain ⟨a1,w1,r1⟩:=Qfo (off:=1) (sz:=1) R_5 (by kernel_rfl) (fun _=>rfl) h1
  obtain ⟨y2,h2⟩:=hf 2 _ rfl
  obtain ⟨a2,w2,r2⟩:=Qfo (off:=2) (sz:=25) R_24 (by kernel_rfl) (fun _=>rfl) h2
  exact ⟨⟨a0,a1,a2⟩,⟨w0,w1,w2⟩,RDat.all (xs:=Qli ⟨a0,a1,a2⟩) (RDat.app r0 rfl (RDat.app r1 rfl r2)) (hl.trans (by kernel_rfl))⟩
theorem A_26 : Q4p Try.prog 26 (fun (a : Q3)=>.agg [.d (.int .u8 a.States),.d (.int .u8 a.Marks),.d (.int .u8 a.To.1.1),.d (.int .u8 a.To.1.2.1),.d (.int .u8 a.To.1.2.2.1),.d (.int .u8 a.To.1.2.2.2.1),.d (.int .u8 a.To.1.2.2.2.2),.d (.int .u8 a.To.2.1.1),.d (.int .u8 a.To.2.1.2.1),.d (.int .u8 a.To.2.1.2.2.1),.d (.int .u8 a.To.2.1.2.2.2.1),.d (.int .u8 a.To.2.1.2.2.2.2),.d (.int .u8 a.To.2.2.1.1),.d (.int .u8 a.To.2.2.1.2.1),.d (.int .u8 a.To.2.2.1.2.2.1),.d (.int .u8 a.To.2.2.1.2.2.2.1),.d (.int .u8 a.To.2.2.1.2.2.2.2),.d (.int .u8 a.To.2.2.2.1.1),.d (.int .u8 a.To.2.2.2.1.2.1),.d (.int .u8 a.To.2.2.2.1.2.2.1),.d (.int .u8 a.To.2.2.2.1.2.2.2.1),.d (.int .u8 a.To.2.2.2.1.2.2.2.2),.d (.int .u8 a.To.2.2.2.2.1),.d (.int .u8 a.To.2.2.2.2.2.1),.d (.int .u8 a.To.2.2.2.2.2.2.1),.d (.int .u8 a.To.2.2.2.2.2.2.2.1),.d (.int .u8 a.To.2.2.2.2.2.2.2.2)]) W_26:=Qbhy R_26 (.inl ⟨_,Try.underlying26⟩)
end Go.Proofs
end
section
namespace Go.Abs
open Go
theorem Qei {X R : Type} {F : (X → Option R) → X → Option R} (I : X → Prop) (m : X → Nat) (Q : X → Option R → Prop)
  (step : ∀ (k : X → Option R) (x : X),I x → (∀ y,I y → m y < m x → Q y (k y)) → Q x (F k x)) : ∀ (fuel : Nat) (x : X),I x → m x < fuel → Q x (Qcn F fuel x)
 | 0,x,_,h=>absurd h (Nat.not_lt_zero _)
 | fuel + 1,x,hi,h=>step _ x hi fun y hy hm=>Qei I m Q step fuel y hy (by omega)
theorem Qbej {X R : Type} {F : (X → Option R) → X → Option R} {fuel : Nat} {x : X} (I : X → Prop) (m : X → Nat) (q : Option R) (hi : I x) (hm : m x < fuel)
  (step : ∀ (k : X → Option R) (x : X),I x → (∀ y,I y → m y < m x → k y = q) → F k x = q) : Qcn F fuel x = q :=
 Qei I m (fun _ r=>r = q) step fuel x hi hm
theorem Q5l {x : Int} (h1 : -9223372036854775808 ≤ x) (h2 : x ≤ 9223372036854775807) : IntKind.wrap .i64 x = x:=by
 simp [IntKind.wrap,IntKind.bits,IntKind.signed]; omega
theorem Qbkx {x : Int} (h1 : 0 ≤ x) (h2 : x < 256) : IntKind.wrap .u8 x = x:=by
 simp [IntKind.wrap,IntKind.bits,IntKind.signed]; omega
theorem Qbj {n : Nat} (h : n < 9223372036854775807) : IntKind.wrap .i64 ((n : Int) + 1) = ((n + 1 : Nat) : Int):=by
 rw [Q5l (by omega) (by omega)]; omega
theorem Qcf {α : Type} {l : List α} {n : Nat} (h : n < l.length) : getO l (n : Int) = some l[n]:=by
 simp [getO,h]
theorem Qjf {α : Type} {l : List α} {i : Int} {x : α} : getO l i = some x ↔ 0 ≤ i ∧ l[i.toNat]? = some x:=by
 unfold getO; split
 ·rename_i h; simp [h]
 ·rename_i h; simp only [reduceCtorEq,false_iff,not_and]; exact fun h'=>absurd h' h
theorem Qdn {α : Type} {l m : List α} (h : l.length + m.length ≤ lim) : appO l m = some (l ++ m):=by
 unfold appO; rw [if_pos h]
theorem Qbb2 {α : Type} {s t : List α} {k : Nat} (hs : k < s.length) (ht : k < t.length) (h : s.take k = t.take k) (he : s[k] = t[k]) : s.take (k + 1) = t.take (k + 1):=by
 rw [List.take_add_one,List.take_add_one,h,List.getElem?_eq_getElem hs,List.getElem?_eq_getElem ht,he]
theorem Qpm {R : Type} {F : (Int → Option R) → Int → Option R} {len fuel : Nat} (G : Nat → Option R) (hf : len < fuel)
  (step : ∀ (k : Int → Option R) (n : Nat),n < len → k ((n + 1 : Nat) : Int) = G (n + 1) → F k (n : Int) = G n) (last : ∀ k : Int → Option R,F k (len : Int) = G len) : Qcn F fuel 0 = G 0:=by
 have:=Qei (F:=F) (fun x=>∃ n : Nat,x = (n : Int) ∧ n ≤ len) (fun x=>len - x.toNat) (fun x r=>∀ n : Nat,x = (n : Int) → r = G n) (fun k x hx ih=>by
  obtain ⟨n,rfl,hn⟩:=hx
  intro m hm
  obtain rfl : n = m:=by omega
  by_cases h : n < len
  ·exact step k n h (ih _ ⟨n + 1,rfl,by omega⟩ (by omega) (n + 1) rfl)
  ·obtain rfl : n = len:=by omega
   exact last k) fuel 0 ⟨0,rfl,by omega⟩ (by simpa using hf)
 exact this 0 rfl
theorem Qbb3 {n : Nat} (h0 : 0 < n) (h : n < 9223372036854775807) : IntKind.wrap .i64 ((n : Int) - 1) = ((n - 1 : Nat) : Int):=by
 rw [Q5l (by omega) (by omega)]; omega
theorem Qbi8 {X S R : Type} {F : (X → Option R) → X → Option R} {len : Nat} (mk : Nat → S → X) (G : Nat → S → Option R)
  (step : ∀ (k : X → Option R) (n : Nat) (s : S),n < len → (∀ s',k (mk (n + 1) s') = G (n + 1) s') → F k (mk n s) = G n s) (last : ∀ (k : X → Option R) (s : S),F k (mk len s) = G len s) :
  ∀ (fuel n : Nat) (s : S),n ≤ len → len - n < fuel → Qcn F fuel (mk n s) = G n s
 | 0,n,s,_,h=>by omega
 | fuel + 1,n,s,hn,h=>by
  show F (Qcn F fuel) (mk n s) = _
  by_cases hlt : n < len
  ·exact step _ n s hlt fun s'=>Qbi8 mk G step last fuel (n + 1) s' (by omega) (by omega)
  ·obtain rfl : n = len:=by omega
   exact last _ s
theorem Qbfk : ∀ {l m : List Int},l.Pairwise (· < ·) → m.Pairwise (· < ·) → (∀ x,x ∈ l ↔ x ∈ m) → l = m
 | l,m,h1,h2,h=>by
  have n1 : l.Nodup:=h1.imp fun h=>by omega
  have n2 : m.Nodup:=h2.imp fun h=>by omega
  have hp : l.Perm m:=(List.perm_ext_iff_of_nodup n1 n2).2 h
  exact List.Perm.eq_of_pairwise (le:=(· < ·)) (fun a b _ _ h1 h2=>by omega) h1 h2 hp
section
variable {α : Type} {p : α → Bool}
end
theorem Qjg {X S R : Type} {F : (X → Option R) → X → Option R} {len : Nat} (mk : Nat → S → X) (I : Nat → S → Prop) (G : Nat → S → Option R)
  (step : ∀ (k : X → Option R) (n : Nat) (s : S),n < len → I n s → (∀ s',I (n + 1) s' → k (mk (n + 1) s') = G (n + 1) s') → F k (mk n s) = G n s) (last : ∀ (k : X → Option R) (s : S),I len s → F k (mk len s) = G len s) :
  ∀ (fuel n : Nat) (s : S),n ≤ len → len - n < fuel → I n s → Qcn F fuel (mk n s) = G n s
 | 0,n,s,_,h,_=>by omega
 | fuel + 1,n,s,hn,h,hi=>by
  show F (Qcn F fuel) (mk n s) = _
  by_cases hlt : n < len
  ·exact step _ n s hlt hi fun s' hi'=>Qjg mk I G step last fuel (n + 1) s' (by omega) (by omega) hi'
  ·obtain rfl : n = len:=by omega
   exact last _ s hi
theorem Qfv : ∀ {l : List Int} {a b : Int},l.Pairwise (· < ·) → (∀ x ∈ l,a ≤ x ∧ x < b) → l.length ≤ (b - a).toNat
 | [],_,_,_,_=>by simp
 | x :: xs,a,b,h,hr=>by
  obtain ⟨h1,h2⟩:=List.pairwise_cons.1 h
  have:=Qfv (a:=x + 1) (b:=b) h2 fun y hy=>⟨by have:=h1 y hy; omega,(hr y (by simp [hy])).2⟩
  have:=hr x (by simp)
  simp only [List.length_cons]
  omega
end Go.Abs
end
section
namespace Go.Abs
abbrev big : Nat:=1000000000000
def small (a : Qb) : Prop:=a.Alphabet.length < big ∧ a.Marked.length < big ∧ a.Edges.length < big
end Go.Abs
end
section
namespace Go.Abs
open Go
set_option linter.unusedSimpArgs false
def Qe2 (n : Int) : Option Int → List Int → Int
 | _,[]=>0
 | p,x :: xs=>if x < 0 ∨ x ≥ n then 2 else if ∃ y,p = some y ∧ x ≤ y then 5 else Qe2 n (some x) xs
def Qht (al : List Int) (st : Int) : Option Qe → List Qe → Int
 | _,[]=>0
 | p,x :: xs=>if x.From < 0 ∨ x.From ≥ st ∨ x.To < 0 ∨ x.To ≥ st then 2 else if x.Event ∉ al then 9 else if ∃ y,p = some y ∧ (x.From < y.From ∨ x.From = y.From ∧ x.Event ≤ y.Event) then 5 else Qht al st (some x) xs
def Qvy (a : Qb) : Int :=
 if Qe2 32 none a.Alphabet ≠ 0 then Qe2 32 none a.Alphabet else if a.States < 0 then 2 else if a.States > 4096 then 3 else
 if Qe2 a.States none a.Marked ≠ 0 then Qe2 a.States none a.Marked else Qht a.Alphabet a.States none a.Edges
def ahead {α : Type} (l : List α) (n : Nat) : Option α:=if n = 0 then none else l[n - 1]?
theorem Q0p {α : Type} (l : List α) : ahead l 0 = none:=rfl
theorem Q9i {α : Type} (l : List α) {n : Nat} (h : n < l.length) : ahead l (n + 1) = some l[n]:=by simp [ahead,h]
theorem Qbb4 {α : Type} (l : List α) {n : Nat} (h0 : 0 < n) (h : n ≤ l.length) : ahead l n = some (l[n - 1]'(by omega)):=by
 simp [ahead,show n ≠ 0 from by omega,show n - 1 < l.length from by omega]
theorem Qbb5 {n : Int} {l : List Int} {k : Nat} (h : k < l.length) : Qe2 n (ahead l k) (l.drop k) = if l[k] < 0 ∨ l[k] ≥ n then 2 else if ∃ y,ahead l k = some y ∧ l[k] ≤ y then 5 else Qe2 n (ahead l (k + 1)) (l.drop (k + 1)):=by
 rw [List.drop_eq_getElem_cons h,Qe2,Q9i l h]
theorem Qbar {al : List Int} {n : Int} {l : List Qe} {k : Nat} (h : k < l.length) : Qht al n (ahead l k) (l.drop k) = if l[k].From < 0 ∨ l[k].From ≥ n ∨ l[k].To < 0 ∨ l[k].To ≥ n then 2 else if l[k].Event ∉ al then 9 else if ∃ y,ahead l k = some y ∧ (l[k].From < y.From ∨ l[k].From = y.From ∧ l[k].Event ≤ y.Event) then 5 else Qht al n (ahead l (k + 1)) (l.drop (k + 1)):=by
 rw [List.drop_eq_getElem_cons h,Qht,Q9i l h]
theorem Q3q {l : List Int} {n : Int} (hl : l.length < big) : Qfm l n = some (Qe2 n none l):=by
 unfold Qfm Qbv
 refine (Qpm (len:=l.length) (fun k=>some (Qe2 n (ahead l k) (l.drop k))) (by unfold Qbn; unfold big at hl; omega) ?_ ?_).trans (by simp [Q0p])
 ·intro k i hi ih
  have hb : i < 1000000000000:=by unfold big at hl; omega
  rw [Qbb5 hi]
  try dsimp only
  rw [if_pos (by omega),Qcf hi,Qbj (by omega),ih]
  simp only [Option.bind_some]
  by_cases h1 : l[i] < 0
  ·simp [h1]
  ·by_cases h2 : l[i] ≥ n
   ·simp [h1,h2]
   ·by_cases h0 : 0 < i
    ·rw [Qbb3 h0 (by omega),Qcf (by omega : i - 1 < l.length),Qbb4 l h0 (by omega)]
     by_cases h3 : l[i] ≤ l[i - 1] <;> simp [h1,h2,h3,h0]
    ·obtain rfl : i = 0:=by omega
     simp [h1,h2,Q0p]
 ·intro k; simp [Qe2]
theorem Qbi9 {l : List Int} {v : Int} (hl : l.length < big) : Qgm l v = some (if v ∈ l then (l.idxOf v : Int) else -1):=by
 unfold Qgm Qck
 refine (Qpm (len:=l.length) (fun k=>some (if v ∈ l.drop k then ((k + (l.drop k).idxOf v : Nat) : Int) else -1)) (by unfold Qbn; unfold big at hl; omega) ?_ ?_).trans (by simp)
 ·intro k i hi ih
  have hb : i < 1000000000000:=by unfold big at hl; omega
  try dsimp only
  rw [if_pos (by omega),Qcf hi,Qbj (by omega),ih,List.drop_eq_getElem_cons hi]
  simp only [Option.bind_some,List.mem_cons,List.idxOf_cons]
  by_cases h : v = l[i]
  ·simp [← h]
  ·have : ¬ l[i] = v:=fun e=>h e.symm
   have hbq : (l[i] == v) = false:=by simp [this]
   by_cases h2 : v ∈ l.drop (i + 1) <;> simp [h,h2,hbq]
   omega
 ·intro k; simp
theorem Qpn {l : List Int} {v : Int} (hl : l.length < big) : Q5 l v = some (decide (v ∈ l)):=by
 unfold Q5 Qg
 rw [Qbi9 hl]
 simp only [Option.bind_some,Option.some.injEq]
 by_cases h : v ∈ l <;> simp [h]
theorem Qbh0 {l : List Int} {v : Int} (hl : l.length < big) : Qct l v = some (decide (v ∈ l)):=by
 unfold Qct Qbc
 refine (Qpm (len:=l.length) (fun k=>some (decide (v ∈ l.drop k))) (by unfold Qbn; unfold big at hl; omega) ?_ ?_).trans (by simp)
 ·intro k i hi ih
  have hb : i < 1000000000000:=by unfold big at hl; omega
  try dsimp only
  rw [if_pos (by omega),Qcf hi,Qbj (by omega),ih,List.drop_eq_getElem_cons hi]
  simp only [Option.bind_some,List.mem_cons]
  by_cases h : l[i] = v
  ·simp [h]
  ·have : ¬ v = l[i]:=fun e=>h e.symm
   simp [h,this]
 ·intro k; simp
theorem Qbas {a : Qb} (h : small a) : Qeu a = some (Qht a.Alphabet a.States none a.Edges):=by
 obtain ⟨hal,_,hl⟩:=h
 unfold Qeu Qbs
 refine (Qpm (len:=a.Edges.length) (fun k=>some (Qht a.Alphabet a.States (ahead a.Edges k) (a.Edges.drop k))) (by unfold Qbn; unfold big at hl; omega) ?_ ?_).trans (by simp [Q0p])
 ·intro k i hi ih
  have hb : i < 1000000000000:=by unfold big at hl; omega
  rw [Qbar hi]
  unfold letJ
  try dsimp only
  rw [if_pos (by omega),Qcf hi,Qbj (by omega),ih]
  simp only [Option.bind_some,Qpn hal]
  generalize a.Edges[i] = x
  by_cases h1 : x.From < 0
  ·simp [h1]
  by_cases h2 : x.From ≥ a.States
  ·simp [h1,h2]
  by_cases h3 : x.To < 0
  ·simp [h1,h2,h3]
  by_cases h4 : x.To ≥ a.States
  ·simp [h1,h2,h3,h4]
  by_cases h5 : x.Event ∈ a.Alphabet
  ·by_cases h0 : 0 < i
   ·rw [Qbb3 h0 (by omega),Qcf (by omega : i - 1 < a.Edges.length),Qbb4 a.Edges h0 (by omega)]
    generalize a.Edges[i - 1] = y
    have hi0 : i ≠ 0:=by omega
    by_cases h6 : x.From < y.From
    ·simp [h1,h2,h3,h4,h5,h6,hi0]
    by_cases h7 : y.From = x.From
    ·by_cases h8 : x.Event ≤ y.Event <;> simp [h1,h2,h3,h4,h5,h6,h7,h8,hi0]
    ·have h7' : ¬ x.From = y.From:=fun e=>h7 e.symm
     simp [h1,h2,h3,h4,h5,h6,h7,hi0,h7']
   ·obtain rfl : i = 0:=by omega
    simp [h1,h2,h3,h4,h5,Q0p]
  ·simp [h1,h2,h3,h4,h5]
 ·intro k; unfold letJ; simp [Qht]
theorem Qbja {a : Qb} (h : small a) : Qfu a = some (Qvy a):=by
 unfold Qfu Qbl Qvy
 rw [Q3q h.1,Q3q h.2.1,Qbas h]
 simp only [Option.bind_some]
 by_cases h1 : Qe2 32 none a.Alphabet = 0
 ·by_cases h2 : a.States < 0
  ·simp [h1,h2]
  by_cases h3 : a.States > 4096
  ·simp [h1,h2,h3]
  by_cases h4 : Qe2 a.States none a.Marked = 0 <;> simp [h1,h2,h3,h4]
 ·simp [h1]
end Go.Abs
end
