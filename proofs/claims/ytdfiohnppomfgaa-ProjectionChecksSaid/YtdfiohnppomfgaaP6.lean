/-
  Part 6 of the proof: see the last text.
-/
import Derived.Test.YtdfiohnppomfgaaP5
import Derived.Test.YtdfiohnppomfgaaProg
import Derived.KernelRfl
import Derived.Sort.Statements
import Derived.Lib.SlicesCompact
import Derived.Lib.RuneBytes
import Derived.Shelf.SlSortCmp.NoneTotal
import Derived.Shelf.SlGeneric
import Derived.Ground.SlgmProg
import Derived.Shelf.SortM.Plain
import Derived.Shelf.SortM.SortNone
import Derived.Shelf.Small.Bits
import Derived.Ground.Names2Prog
import Derived.Shelf.Slices.CompactI
import Derived.WalkKit
import Derived.Shelf.Strings.BuilderK
import Derived.Shelf.Strings.BuilderRune
import Derived.Shelf.Strconv.Itoa0
import Derived.Shelf.Spec.SlicesGrow
import Derived.Ground.Names8Prog
import Derived.BigCall
import Derived.Lib.OthersKept
import Derived.OpenShut
import Derived.ProofKit
import Derived.Carry
import GoSem.Claim
import GoSem.ClaimJoined
import Derived.JoinedTies
set_option linter.unusedVariables false
set_option linter.unusedSimpArgs false
set_option linter.unusedSectionVars false
section
namespace Go.Abs
open Go
set_option linter.unusedVariables false
set_option maxRecDepth 10000
set_option maxHeartbeats 4000000
theorem Qst {P : Program} {c : Nat} {Qp : Qb → (List Int) → Option Int} {Qcf : (List Qh) → Option ((List Qh))} {Qcg : (List (List Int)) → Option ((List Int))} {f_slices_Sort_int : List Int → Option (List Int)} {f_slices_Compact_int : List Int → Option (List Int)} {Qi : (List Int) → Int → Option Bool} {f_slices_SortFunc_Edge : List Qh → Option (List Qh)} {Qby : Qb → Option (Qb × Int)}
    (H_projection_check : Qcm P 30 Qp)
    (H_slices_Clone_Edge : Qg4 P 31 Qcf)
    (H_slices_Concat_int : Qg6 P 32 Qcg)
    (H_slices_Sort_int : RowK P 33 (eI .i64) 1 [] f_slices_Sort_int)
    (H_slices_Compact_int : CompK P 34 f_slices_Compact_int)
    (H_slices_Contains_int : Qbp P 35 Qi)
    (H_slices_SortFunc_Edge : RowK P 36 Qc 3 [.clo 37 []] f_slices_SortFunc_Edge)
    (H_automaton_Canonical : Qf5 P 38 Qby) (hcf : Qz P c = some Qgq) (fuel : Nat) : Qex P c (Q7 Qp Qcf Qcg f_slices_Sort_int f_slices_Compact_int Qi f_slices_SortFunc_Edge Qby fuel) := by
 intro a1 alphabet2 r h
 refine Qbct hcf (args' := [.agg [.f (.lst 1 (List.map (eI .i64) a1.Alphabet)), (i_ a1.States), .f (.lst 1 (List.map (eI .i64) a1.Marked)), .f (.lst 3 (List.map Qc a1.Edges))], .f (.lst 1 (List.map (eI .i64) alphabet2))]) rfl rfl rfl rfl rfl rfl fun Γ M hP hnt hG hM0 hM => ?_
 subst hP
 refine Tr.init [(0, .agg [.f (.lst 1 (List.map (eI .i64) a1.Alphabet)), (i_ a1.States), .f (.lst 1 (List.map (eI .i64) a1.Marked)), .f (.lst 3 (List.map Qc a1.Edges))]), (1, .f (.lst 1 (List.map (eI .i64) alphabet2)))] rfl ?_
 unfold Q7 at h
 unfold Qgq
 refine sr ((Rn.box (v := .agg [.f (.lst 1 (List.map (eI .i64) a1.Alphabet)), (i_ a1.States), .f (.lst 1 (List.map (eI .i64) a1.Marked)), .f (.lst 3 (List.map Qc a1.Edges))]) (cs := [.f (.lst 1 (List.map (eI .i64) a1.Alphabet)), (i_ a1.States), .f (.lst 1 (List.map (eI .i64) a1.Marked)), .f (.lst 3 (List.map Qc a1.Edges))]) trivial rfl rfl rfl rfl rfl (Rn.alloc trivial rfl (md rfl (nt ((Tr.seq (sr ((Rn.load (v := .agg [.f (.lst 1 (List.map (eI .i64) a1.Alphabet)), (i_ a1.States), .f (.lst 1 (List.map (eI .i64) a1.Marked)), .f (.lst 3 (List.map Qc a1.Edges))]) trivial rfl (Ql rfl) rfl rfl (Rn.mov (v := .f (.lst 1 (List.map (eI .i64) alphabet2))) trivial rfl ?_)))))))))))
 obtain ⟨x4, h3, h⟩ := bnd h
 refine Rn.call (args := [.agg [.f (.lst 1 (List.map (eI .i64) a1.Alphabet)), (i_ a1.States), .f (.lst 1 (List.map (eI .i64) a1.Marked)), .f (.lst 3 (List.map Qc a1.Edges))], .f (.lst 1 (List.map (eI .i64) alphabet2))]) trivial rfl (fun M2 nb2 => ACalls.weak (args' := [(Qa a1), (l_ alphabet2)]) (H_projection_check _ _ _ h3 M2 nb2) (.cons (WkV.agg (.cons fToD (.cons (sm rfl) (.cons fToD (.cons fToD .nil))))) (.cons fToD .nil)) rfl) pc9 ?_
 refine md rfl (nt ((sr ((md rfl (Rn.bin trivial rfl rfl rfl (Rn.nil (toN ?_))))))))
 refine Tr.cond rfl (fun hb5 => ?_) (fun hb5 => ?_)
 ·replace h := bT hb5 h
  refine sr ((Rn.build (v := .agg [.nils 1, (i_ 0), .nils 1, .nils 3]) trivial rfl (md rfl (Rn.storeT (v := .agg [.nils 1, (i_ 0), .nils 1, .nils 3]) (ds := [.nils 1, (i_ 0), .nils 1, .nils 3]) (cs' := [.nils 1, (i_ 0), .nils 1, .nils 3]) trivial rfl rfl rfl rfl rfl rfl rfl (md rfl (nt ((Tr.ret ?_))))))))
  replace h := si h; subst h
  exact ⟨.inr rfl, .tup [.agg [.nils 1, (i_ 0), .nils 1, .nils 3], (i_ x4)], res2 (Qj8 rfl rfl rfl rfl) rfl, (WkV.tup (.cons (WkV.agg (.cons (WkV.nilsD _) (.cons (.same rfl) (.cons (WkV.nilsD _) (.cons (WkV.nilsD _) .nil))))) (.cons (.same rfl) .nil))).rd, ⟨⟨trivial, trivial, trivial, trivial, trivial⟩, trivial, trivial⟩, fun k hk => Qg hk⟩
 ·replace h := bF hb5 h
  refine Tr.skip (toN (Tr.seq ?_))
  refine Tr.rgnD (by decide) ?_
  refine Rn.fldP (o' := 1) trivial rfl rfl (Rn.load (v := (i_ a1.States)) trivial rfl (Ql rfl) rfl rfl (Rn.fldP (o' := 2) trivial rfl rfl (Rn.load (v := .f (.lst 1 (List.map (eI .i64) a1.Marked))) trivial rfl (Ql rfl) rfl rfl (Rn.fldP (o' := 3) trivial rfl rfl (Rn.load (v := .f (.lst 3 (List.map Qc a1.Edges))) trivial rfl (Ql rfl) rfl rfl ?_)))))
  obtain ⟨x7, h6, h⟩ := bnd h
  refine Rn.call (args := [.f (.lst 3 (List.map Qc a1.Edges))]) trivial rfl (fun M2 nb2 => ACalls.weak (args' := [.d (.lst 3 (List.map Qc a1.Edges))]) (H_slices_Clone_Edge _ _ h6 M2 nb2) (.cons fToD .nil) rfl) (fun _ => Qbcp hM rfl) ?_
  refine Rn.buildT (v := .agg [.nils 1, (i_ a1.States), .f (.lst 1 (List.map (eI .i64) a1.Marked)), .own 3 (List.map Qc x7)]) trivial rfl (Rn.alloc trivial rfl (Rn.storeT (v := .agg [.nils 1, (i_ a1.States), .f (.lst 1 (List.map (eI .i64) a1.Marked)), .own 3 (List.map Qc x7)]) (ds := [.nils 1, (i_ a1.States), .f (.lst 1 (List.map (eI .i64) a1.Marked)), .own 3 (List.map Qc x7)]) (cs' := [.nils 1, (i_ a1.States), .f (.lst 1 (List.map (eI .i64) a1.Marked)), .own 3 (List.map Qc x7)]) trivial rfl rfl rfl rfl rfl rfl rfl ?_))
  refine Rn.nil ⟨rfl, ?_⟩
  refine toN (sr ((Rn.fldP (o' := 0) trivial rfl rfl (Rn.load (v := .f (.lst 1 (List.map (eI .i64) a1.Alphabet))) trivial rfl (Ql rfl) rfl rfl (Rn.mov (v := .f (.lst 1 (List.map (eI .i64) alphabet2))) trivial rfl ?_)))))
  refine Rn.weak (by show WeakSt Γ _ ⟨look [(0, .agg [.f (.lst 1 (List.map (eI .i64) a1.Alphabet)), (i_ a1.States), .f (.lst 1 (List.map (eI .i64) a1.Marked)), .f (.lst 3 (List.map Qc a1.Edges))]), (1, .f (.lst 1 (List.map (eI .i64) alphabet2))), (2, .ptr (Γ.n0 + 2) 0), (4, .ptr (Γ.n0 + 4) 0), (5, (i_ 0)), (6, (i_ x4)), (7, .ptr (Γ.n0 + 7) 0), (11, .agg [.f (.lst 1 (List.map (eI .i64) a1.Alphabet)), (i_ a1.States), .f (.lst 1 (List.map (eI .i64) a1.Marked)), .f (.lst 3 (List.map Qc a1.Edges))]), (12, .f (.lst 1 (List.map (eI .i64) alphabet2))), (13, (i_ x4)), (14, (i_ x4)), (15, (b_ (x4 != 0))), (18, .ptr (Γ.n0 + 2) 1), (19, (i_ a1.States)), (20, .ptr (Γ.n0 + 2) 2), (21, .f (.lst 1 (List.map (eI .i64) a1.Marked))), (22, .ptr (Γ.n0 + 2) 3), (23, .f (.lst 3 (List.map Qc a1.Edges))), (24, .d (.lst 3 (List.map Qc x7))), (25, .agg [.nils 1, (i_ a1.States), .f (.lst 1 (List.map (eI .i64) a1.Marked)), .d (.lst 3 (List.map Qc x7))]), (26, .ptr (Γ.n0 + 2) 0), (27, (l_ a1.Alphabet)), (28, (l_ alphabet2))], Qo Γ.n0 (bxs [(2, .cells ([.f (.lst 1 (List.map (eI .i64) a1.Alphabet)), (i_ a1.States), .f (.lst 1 (List.map (eI .i64) a1.Marked)), .f (.lst 3 (List.map Qc a1.Edges))])), (4, .cells ([.nils 1, (i_ 0), .nils 1, .nils 3])), (7, .cells ([.nils 1, (i_ a1.States), .f (.lst 1 (List.map (eI .i64) a1.Marked)), .own 3 (List.map Qc x7)]))]) M, Γ.n0 + 74⟩; exact Qm [] ⟨(sm rfl), (sm rfl), (kPtr rfl), (kPtr rfl), (sm rfl), (sm rfl), (kPtr rfl), (sm rfl), (sm rfl), (sm rfl), (sm rfl), (sm rfl), (kPtr rfl), (sm rfl), (kPtr rfl), (sm rfl), (kPtr rfl), (sm rfl), (sm rfl), (sm rfl), (kPtr rfl), fToD, fToD, trivial⟩ ⟨⟨_, rfl, rfl, (.same rfl)⟩, ⟨_, rfl, rfl, (.same rfl)⟩, ⟨_, rfl, rfl, (.same rfl)⟩, trivial⟩ rfl) ?_
  refine Rn.bslice (xs := [(l_ a1.Alphabet), (l_ alphabet2)]) (cs := [(l_ a1.Alphabet), (l_ alphabet2)]) trivial rfl rfl rfl rfl ?_
  refine Rn.weak (by show WeakSt Γ _ ⟨look [(0, .agg [.f (.lst 1 (List.map (eI .i64) a1.Alphabet)), (i_ a1.States), .f (.lst 1 (List.map (eI .i64) a1.Marked)), .f (.lst 3 (List.map Qc a1.Edges))]), (1, .f (.lst 1 (List.map (eI .i64) alphabet2))), (2, .ptr (Γ.n0 + 2) 0), (4, .ptr (Γ.n0 + 4) 0), (5, (i_ 0)), (6, (i_ x4)), (7, .ptr (Γ.n0 + 7) 0), (11, .agg [.f (.lst 1 (List.map (eI .i64) a1.Alphabet)), (i_ a1.States), .f (.lst 1 (List.map (eI .i64) a1.Marked)), .f (.lst 3 (List.map Qc a1.Edges))]), (12, .f (.lst 1 (List.map (eI .i64) alphabet2))), (13, (i_ x4)), (14, (i_ x4)), (15, (b_ (x4 != 0))), (18, .ptr (Γ.n0 + 2) 1), (19, (i_ a1.States)), (20, .ptr (Γ.n0 + 2) 2), (21, .f (.lst 1 (List.map (eI .i64) a1.Marked))), (22, .ptr (Γ.n0 + 2) 3), (23, .f (.lst 3 (List.map Qc a1.Edges))), (24, .d (.lst 3 (List.map Qc x7))), (25, .agg [.nils 1, (i_ a1.States), .f (.lst 1 (List.map (eI .i64) a1.Marked)), .d (.lst 3 (List.map Qc x7))]), (26, .ptr (Γ.n0 + 2) 0), (27, (l_ a1.Alphabet)), (28, (l_ alphabet2)), (29, .d (.lst 1 (List.map (eL 1 (eI .i64)) [a1.Alphabet, alphabet2])))], Qo Γ.n0 (bxs [(2, .cells ([.f (.lst 1 (List.map (eI .i64) a1.Alphabet)), (i_ a1.States), .f (.lst 1 (List.map (eI .i64) a1.Marked)), .f (.lst 3 (List.map Qc a1.Edges))])), (4, .cells ([.nils 1, (i_ 0), .nils 1, .nils 3])), (7, .cells ([.nils 1, (i_ a1.States), .f (.lst 1 (List.map (eI .i64) a1.Marked)), .own 3 (List.map Qc x7)]))]) M, Γ.n0 + 74⟩; exact Qb0 29 [.lst 1 (List.map (eI .i64) a1.Alphabet), .lst 1 (List.map (eI .i64) alphabet2)] rfl rfl ⟨(.same rfl), (.same rfl), (fPtr rfl), (fPtr rfl), (.same rfl), (.same rfl), (fPtr rfl), (.same rfl), (.same rfl), (.same rfl), (.same rfl), (.same rfl), (fPtr rfl), (.same rfl), (fPtr rfl), (.same rfl), (fPtr rfl), (.same rfl), (.same rfl), (.same rfl), (fPtr rfl), (.same rfl), (.same rfl), (fSl rfl rfl), trivial⟩ ⟨⟨_, rfl, rfl, (.same rfl)⟩, ⟨_, rfl, rfl, (.same rfl)⟩, ⟨_, rfl, rfl, (.same rfl)⟩, trivial⟩ rfl) ?_
  obtain ⟨x9, h8, h⟩ := bnd h
  refine Rn.call (args := [.d (.lst 1 (List.map (eL 1 (eI .i64)) [a1.Alphabet, alphabet2]))]) trivial rfl (H_slices_Concat_int _ _ h8) pc9 (Rn.fldP (o' := 0) trivial rfl rfl (Rn.storeO (cs' := [.own 1 (List.map (eI .i64) x9), (i_ a1.States), .f (.lst 1 (List.map (eI .i64) a1.Marked)), .own 3 (List.map Qc x7)]) trivial rfl rfl rfl rfl rfl (Rn.nil (toN ?_))))
  obtain ⟨row10, hs11, h⟩ := bnd h
  obtain ⟨hl12, hn13, hr14⟩ := H_slices_Sort_int _ _ hs11
  obtain ⟨row16, hs17, h⟩ := bnd h
  obtain ⟨hl18, hn19, hr20⟩ := H_slices_Compact_int _ _ hs17
  refine Tr.seqW2 ⟨look [(2, .ptr (Γ.n0 + 2) 0), (4, .ptr (Γ.n0 + 4) 0), (7, .ptr (Γ.n0 + 7) 0)], Qo Γ.n0 (bxs [(2, .cells ([.f (.lst 1 (List.map (eI .i64) a1.Alphabet)), (i_ a1.States), .f (.lst 1 (List.map (eI .i64) a1.Marked)), .f (.lst 3 (List.map Qc a1.Edges))])), (4, .cells ([.nils 1, (i_ 0), .nils 1, .nils 3])), (7, .cells ([.f (.lst 1 (List.map (eI .i64) row16)), (i_ a1.States), .f (.lst 1 (List.map (eI .i64) a1.Marked)), .own 3 (List.map Qc x7)]))]) M, Γ.n0 + 74⟩ ?_ ?_
  ·by_cases hx15 : x9 = []
   ·obtain ⟨hyx, hn13b⟩ := hn13 hx15
    replace hyx := hyx.symm
    subst hyx
    replace hn13 := And.intro trivial hn13b
    obtain ⟨hyx2, hn19b⟩ := hn19 hx15
    replace hyx2 := hyx2.symm
    subst hyx2
    replace hn19 := And.intro trivial hn19b
    refine Tr.rgn (Rn.fldP (o' := 0) trivial rfl rfl (Rn.load (v := (l_ x9)) trivial rfl (Ql rfl) rfl rfl (Rn.call (args := [.d (.lst 1 (List.map (eI .i64) x9))]) trivial rfl (hn13.2) pc9 (nt ((Tr.rgn (Rn.fldP (o' := 0) trivial rfl rfl (Rn.load (v := (l_ x9)) trivial rfl (Ql rfl) rfl rfl (Rn.call (args := [.d (.lst 1 (List.map (eI .i64) x9))]) (r := .d (.lst 1 (List.map (eI .i64) x9))) trivial rfl (hn19.2) pc9 (Rn.fldP (o' := 0) trivial rfl rfl (Rn.storeD (cs' := [(l_ x9), (i_ a1.States), .f (.lst 1 (List.map (eI .i64) a1.Marked)), .own 3 (List.map Qc x7)]) trivial rfl rfl rfl rfl rfl ?_)))))))))))
    refine Rn.nil ⟨rfl, (by exact Qm [] ⟨(kPtr rfl), (kPtr rfl), (kPtr rfl), trivial⟩ ⟨⟨_, rfl, rfl, (.same rfl)⟩, ⟨_, rfl, rfl, (.same rfl)⟩, ⟨_, rfl, rfl, (.cons (Qbeb hx15) (.cons (sm rfl) (.cons (sm rfl) (.cons (sm rfl) .nil))))⟩, trivial⟩ rfl)⟩
   ·refine Tr.weak (by show WeakSt Γ _ ⟨look [(2, .ptr (Γ.n0 + 2) 0), (4, .ptr (Γ.n0 + 4) 0), (7, .ptr (Γ.n0 + 7) 0)], Qo Γ.n0 (bxs [(2, .cells ([.f (.lst 1 (List.map (eI .i64) a1.Alphabet)), (i_ a1.States), .f (.lst 1 (List.map (eI .i64) a1.Marked)), .f (.lst 3 (List.map Qc a1.Edges))])), (4, .cells ([.nils 1, (i_ 0), .nils 1, .nils 3])), (7, .cells ([.own 1 (List.map (eI .i64) x9), (i_ a1.States), .f (.lst 1 (List.map (eI .i64) a1.Marked)), .own 3 (List.map Qc x7)]))]) M, Γ.n0 + 74⟩; exact Qm [] ⟨(kPtr rfl), (kPtr rfl), (kPtr rfl), trivial⟩ ⟨⟨_, rfl, rfl, (.same rfl)⟩, ⟨_, rfl, rfl, (.same rfl)⟩, ⟨_, rfl, rfl, (.same rfl)⟩, trivial⟩ rfl) ?_
    refine Qba2 hG hM0 7 0 34 hx15 (fun _ => rfl) rfl rfl rfl rfl ⟨rfl, rfl, rfl, trivial⟩ ⟨⟨rfl, rfl, rfl, rfl, trivial⟩, ⟨rfl, rfl, rfl, rfl, trivial⟩, ⟨rfl, rfl, rfl, (Qbb7 (fun _ => rfl)), trivial⟩, trivial⟩ (fun c21 hc22 hc23 => ?_)
    refine Tr.rgn (Rn.fldP (o' := 0) trivial rfl rfl (Rn.load (v := .sl 1 (Γ.n0 + 34) 0 x9.length c21) trivial rfl (Ql rfl) rfl rfl ?_))
    refine Rn.callRow (t := 34) (cs := Qbc (List.map (eI .i64) x9) ((c21 - x9.length) * 1)) (cs' := Qbc (List.map (eI .i64) row10) ((c21 - x9.length) * 1)) trivial rfl rfl (fun M2 hM2 => hr14 hc23 _ _ _ _ hM2) rfl ?_
    refine nt ((Tr.rgn (Rn.fldP (o' := 0) trivial rfl rfl (Rn.load (v := .sl 1 (Γ.n0 + 34) 0 x9.length c21) trivial rfl (Ql rfl) rfl rfl ?_))))
    refine Rn.callRow (t := 34) (cs := Qbc (List.map (eI .i64) row10) ((c21 - x9.length) * 1)) (cs' := Qbc (List.map (eI .i64) row16) ((c21 - row16.length) * 1)) trivial rfl rfl (fun M2 hM2 => Qbca hr20 hl12 hc22 hM2) rfl ?_
    refine Rn.fldP (o' := 0) trivial rfl rfl (Rn.storeV (v := .sl 1 (Γ.n0 + 34) 0 row16.length c21) (cs' := [.sl 1 (Γ.n0 + 34) 0 row16.length c21, (i_ a1.States), .f (.lst 1 (List.map (eI .i64) a1.Marked)), .own 3 (List.map Qc x7)]) trivial rfl rfl rfl rfl rfl rfl rfl rfl ?_)
    refine Rn.weak (by show WeakSt Γ _ ⟨look [(2, .ptr (Γ.n0 + 2) 0), (4, .ptr (Γ.n0 + 4) 0), (7, .ptr (Γ.n0 + 7) 0), (32, .ptr (Γ.n0 + 7) 0), (34, .tup []), (35, .ptr (Γ.n0 + 7) 0), (37, .f (.lst 1 (List.map (eI .i64) row16))), (38, .ptr (Γ.n0 + 7) 0)], Qo Γ.n0 (bxs [(2, .cells ([.f (.lst 1 (List.map (eI .i64) a1.Alphabet)), (i_ a1.States), .f (.lst 1 (List.map (eI .i64) a1.Marked)), .f (.lst 3 (List.map Qc a1.Edges))])), (4, .cells ([.nils 1, (i_ 0), .nils 1, .nils 3])), (7, .cells ([.f (.lst 1 (List.map (eI .i64) row16)), (i_ a1.States), .f (.lst 1 (List.map (eI .i64) a1.Marked)), .own 3 (List.map Qc x7)]))]) M, Γ.n0 + 74⟩; exact Qm9 34 _ rfl Qbdi ⟨(fPtr rfl), (fPtr rfl), (fPtr rfl), (fPtr rfl), (.same rfl), (fPtr rfl), (Qbb9 (fun _ => rfl) (fun _ => rfl) rfl (Nat.le_trans (Nat.le_trans hl18 (Nat.le_of_eq hl12)) hc22)), (fPtr rfl), trivial⟩ ⟨⟨_, rfl, rfl, (.cons (.same rfl) (.cons (.same rfl) (.cons (.same rfl) (.cons (.same rfl) .nil))))⟩, ⟨_, rfl, rfl, (.cons (.same rfl) (.cons (.same rfl) (.cons (.same rfl) (.cons (.same rfl) .nil))))⟩, ⟨_, rfl, rfl, (.cons (Qbb9 (fun _ => rfl) (fun _ => rfl) rfl (Nat.le_trans (Nat.le_trans hl18 (Nat.le_of_eq hl12)) hc22)) (.cons (.same rfl) (.cons (.same rfl) (.cons (.same rfl) .nil))))⟩, trivial⟩ rfl) ?_
    refine Rn.nil ⟨rfl, (by exact Qm [] ⟨(kPtr rfl), (kPtr rfl), (kPtr rfl), trivial⟩ ⟨⟨_, rfl, rfl, (.same rfl)⟩, ⟨_, rfl, rfl, (.same rfl)⟩, ⟨_, rfl, rfl, (.same rfl)⟩, trivial⟩ rfl)⟩
  ·refine Tr.cutB (fun (r41 : List Qh) => ⟨look [(4, .ptr (Γ.n0 + 4) 0), (7, .ptr (Γ.n0 + 7) 0)], Qo Γ.n0 (bxs [(2, .cells ([.f (.lst 1 (List.map (eI .i64) a1.Alphabet)), (i_ a1.States), .f (.lst 1 (List.map (eI .i64) a1.Marked)), .f (.lst 3 (List.map Qc a1.Edges))])), (4, .cells ([.nils 1, (i_ 0), .nils 1, .nils 3])), (7, .cells ([.f (.lst 1 (List.map (eI .i64) row16)), (i_ a1.States), .f (.lst 1 (List.map (eI .i64) a1.Marked)), .own 3 (List.map Qc r41)]))]) M, Γ.n0 + 74⟩) h (fun z h => ?_) (fun z h => ?_)
   ·refine sr ((Rn.fldP (o' := 1) trivial rfl rfl (Rn.load (v := (i_ a1.States)) trivial rfl (Ql rfl) rfl rfl (md rfl (nt ((Tr.block ?_)))))))
    refine Tr.loop (mk := fun ((x24, r25) : Int × (List Qh)) => ⟨look [(2, .ptr (Γ.n0 + 2) 0), (4, .ptr (Γ.n0 + 4) 0), (7, .ptr (Γ.n0 + 7) 0), (40, (i_ a1.States)), (41, (i_ x24))], Qo Γ.n0 (bxs [(2, .cells ([.f (.lst 1 (List.map (eI .i64) a1.Alphabet)), (i_ a1.States), .f (.lst 1 (List.map (eI .i64) a1.Marked)), .f (.lst 3 (List.map Qc a1.Edges))])), (4, .cells ([.nils 1, (i_ 0), .nils 1, .nils 3])), (7, .cells ([.f (.lst 1 (List.map (eI .i64) row16)), (i_ a1.States), .f (.lst 1 (List.map (eI .i64) a1.Marked)), .own 3 (List.map Qc r25)]))]) M, Γ.n0 + 74⟩) h (by exact Qr ⟨(kPtr rfl), (kPtr rfl), (kPtr rfl), (sm rfl), (sm rfl), trivial⟩ ⟨⟨_, rfl, rfl, (.same rfl)⟩, ⟨_, rfl, rfl, (.same rfl)⟩, ⟨_, rfl, rfl, (.same rfl)⟩, trivial⟩ rfl) (fun k26 z h => ?_)
    ·obtain ⟨x24, r25⟩ := z
     replace h : _ = some _ := h
     refine sr ((Rn.bin trivial rfl rfl rfl (nt ((Tr.seq ?_)))))
     refine Tr.cond rfl (fun hb27 => ?_) (fun hb27 => ?_)
     ·replace h := ifT hb27 h
      refine Tr.skip (toN ?_)
      refine Tr.cutB (fun (r40 : List Qh) => ⟨look [(2, .ptr (Γ.n0 + 2) 0), (4, .ptr (Γ.n0 + 4) 0), (7, .ptr (Γ.n0 + 7) 0), (40, (i_ a1.States)), (41, (i_ x24))], Qo Γ.n0 (bxs [(2, .cells ([.f (.lst 1 (List.map (eI .i64) a1.Alphabet)), (i_ a1.States), .f (.lst 1 (List.map (eI .i64) a1.Marked)), .f (.lst 3 (List.map Qc a1.Edges))])), (4, .cells ([.nils 1, (i_ 0), .nils 1, .nils 3])), (7, .cells ([.f (.lst 1 (List.map (eI .i64) row16)), (i_ a1.States), .f (.lst 1 (List.map (eI .i64) a1.Marked)), .own 3 (List.map Qc r40)]))]) M, Γ.n0 + 74⟩) h (fun z h => ?_) (fun z h => ?_)
      ·refine Tr.block (sr ((md rfl (md rfl (nt ((sr ((Rn.fldP (o' := 0) trivial rfl rfl (Rn.load (v := .f (.lst 1 (List.map (eI .i64) row16))) trivial rfl (Ql rfl) rfl rfl ?_))))))))))
       refine Rn.weak (by show WeakSt Γ _ ⟨look [(2, .ptr (Γ.n0 + 2) 0), (4, .ptr (Γ.n0 + 4) 0), (7, .ptr (Γ.n0 + 7) 0), (8, (i_ x24)), (40, (i_ a1.States)), (41, (i_ x24)), (42, (b_ (decide (x24 < a1.States)))), (43, (i_ x24)), (44, .ptr (Γ.n0 + 7) 0), (45, (l_ row16))], Qo Γ.n0 (bxs [(2, .cells ([.f (.lst 1 (List.map (eI .i64) a1.Alphabet)), (i_ a1.States), .f (.lst 1 (List.map (eI .i64) a1.Marked)), .f (.lst 3 (List.map Qc a1.Edges))])), (4, .cells ([.nils 1, (i_ 0), .nils 1, .nils 3])), (7, .cells ([.f (.lst 1 (List.map (eI .i64) row16)), (i_ a1.States), .f (.lst 1 (List.map (eI .i64) a1.Marked)), .own 3 (List.map Qc r25)]))]) M, Γ.n0 + 74⟩; exact Qm [] ⟨(kPtr rfl), (kPtr rfl), (kPtr rfl), (sm rfl), (sm rfl), (sm rfl), (sm rfl), (sm rfl), (kPtr rfl), fToD, trivial⟩ ⟨⟨_, rfl, rfl, (.same rfl)⟩, ⟨_, rfl, rfl, (.same rfl)⟩, ⟨_, rfl, rfl, (.same rfl)⟩, trivial⟩ rfl) ?_
       refine Rn.lenD trivial rfl (md rfl (nt ((Tr.block ?_))))
       refine Tr.loop (mk := fun ((x28, r29) : Int × (List Qh)) => ⟨look [(2, .ptr (Γ.n0 + 2) 0), (4, .ptr (Γ.n0 + 4) 0), (7, .ptr (Γ.n0 + 7) 0), (8, (i_ x24)), (40, (i_ a1.States)), (41, (i_ x24)), (45, (l_ row16)), (46, (i_ (row16.length : Int))), (47, (i_ x28))], Qo Γ.n0 (bxs [(2, .cells ([.f (.lst 1 (List.map (eI .i64) a1.Alphabet)), (i_ a1.States), .f (.lst 1 (List.map (eI .i64) a1.Marked)), .f (.lst 3 (List.map Qc a1.Edges))])), (4, .cells ([.nils 1, (i_ 0), .nils 1, .nils 3])), (7, .cells ([.f (.lst 1 (List.map (eI .i64) row16)), (i_ a1.States), .f (.lst 1 (List.map (eI .i64) a1.Marked)), .own 3 (List.map Qc r29)]))]) M, Γ.n0 + 74⟩) h (by exact Qr ⟨(kPtr rfl), (kPtr rfl), (kPtr rfl), (sm rfl), (sm rfl), (sm rfl), (sm rfl), (sm rfl), (sm rfl), trivial⟩ ⟨⟨_, rfl, rfl, (.same rfl)⟩, ⟨_, rfl, rfl, (.same rfl)⟩, ⟨_, rfl, rfl, (.same rfl)⟩, trivial⟩ rfl) (fun k30 z h => ?_)
       ·obtain ⟨x28, r29⟩ := z
        replace h : _ = some _ := h
        refine sr ((Rn.bin trivial rfl rfl rfl (nt ((Tr.seq ?_)))))
        refine Tr.cond rfl (fun hb31 => ?_) (fun hb31 => ?_)
        ·replace h := ifT hb31 h
         refine Tr.skip (toN ?_)
         refine Tr.cutB (fun (r39 : List Qh) => ⟨look [(2, .ptr (Γ.n0 + 2) 0), (4, .ptr (Γ.n0 + 4) 0), (7, .ptr (Γ.n0 + 7) 0), (8, (i_ x24)), (40, (i_ a1.States)), (41, (i_ x24)), (45, (l_ row16)), (46, (i_ (row16.length : Int))), (47, (i_ x28))], Qo Γ.n0 (bxs [(2, .cells ([.f (.lst 1 (List.map (eI .i64) a1.Alphabet)), (i_ a1.States), .f (.lst 1 (List.map (eI .i64) a1.Marked)), .f (.lst 3 (List.map Qc a1.Edges))])), (4, .cells ([.nils 1, (i_ 0), .nils 1, .nils 3])), (7, .cells ([.f (.lst 1 (List.map (eI .i64) row16)), (i_ a1.States), .f (.lst 1 (List.map (eI .i64) a1.Marked)), .own 3 (List.map Qc r39)]))]) M, Γ.n0 + 74⟩) h (fun z h => ?_) (fun z h => ?_)
         ·refine Tr.block (Tr.seq (Tr.rgn ?_))
          obtain ⟨x32, h33, h⟩ := bnd h
          refine Rn.idxD (e := (eI .i64)) trivial rfl rfl h33 (Rn.loadC (x := .int .i64 x32) trivial rfl (md rfl (nt ((sr ((Rn.fldP (o' := 0) trivial rfl rfl (Rn.load (v := .f (.lst 1 (List.map (eI .i64) a1.Alphabet))) trivial rfl (Ql rfl) rfl rfl (md rfl ?_)))))))))
          obtain ⟨x35, h34, h⟩ := bnd h
          refine Rn.call (args := [.f (.lst 1 (List.map (eI .i64) a1.Alphabet)), (i_ x32)]) trivial rfl (fun M2 nb2 => ACalls.weak (args' := [(l_ a1.Alphabet), (i_ x32)]) (H_slices_Contains_int _ _ _ h34 M2 nb2) (.cons fToD (.cons (sm rfl) .nil)) rfl) pc9 ?_
          refine Rn.un trivial rfl rfl (Rn.nil (toN ?_))
          refine Tr.cond rfl (fun hb36 => ?_) (fun hb36 => ?_)
          ·have hb36 := nT' hb36
           replace h := bF hb36 h
           refine Tr.rgn (Rn.fldP (o' := 3) trivial rfl rfl (Rn.loadT (cs' := [.f (.lst 1 (List.map (eI .i64) row16)), (i_ a1.States), .f (.lst 1 (List.map (eI .i64) a1.Marked)), .d (.lst 3 (List.map Qc r29))]) trivial rfl rfl rfl rfl (md rfl (md rfl (md rfl (Rn.build (v := .agg [(i_ x24), (i_ x32), (i_ x24)]) trivial rfl (Rn.bslice (xs := [.agg [(i_ x24), (i_ x32), (i_ x24)]]) (cs := [(i_ x24), (i_ x32), (i_ x24)]) trivial rfl rfl rfl rfl ?_)))))))
           obtain ⟨x37, h38, h⟩ := bnd h
           refine Rn.app (e := Qc) trivial rfl rfl rfl (Qeg rfl rfl rfl) h38 rfl (Rn.fldP (o' := 3) trivial rfl rfl (Rn.storeO (cs' := [.f (.lst 1 (List.map (eI .i64) row16)), (i_ a1.States), .f (.lst 1 (List.map (eI .i64) a1.Marked)), .own 3 (List.map Qc x37)]) trivial rfl rfl rfl rfl rfl (Rn.nil ?_)))
           replace h := si h; subst h
           exact Qm [62] ⟨(kPtr rfl), (kPtr rfl), (kPtr rfl), (sm rfl), (sm rfl), (sm rfl), (sm rfl), (sm rfl), (sm rfl), trivial⟩ ⟨⟨_, rfl, rfl, (.same rfl)⟩, ⟨_, rfl, rfl, (.same rfl)⟩, ⟨_, rfl, rfl, (.same rfl)⟩, trivial⟩ rfl
          ·have hb36 := nF' hb36
           replace h := bT hb36 h
           refine Tr.skip ?_
           replace h := si h; subst h
           exact Qm [] ⟨(kPtr rfl), (kPtr rfl), (kPtr rfl), (sm rfl), (sm rfl), (sm rfl), (sm rfl), (sm rfl), (sm rfl), trivial⟩ ⟨⟨_, rfl, rfl, (.same rfl)⟩, ⟨_, rfl, rfl, (.same rfl)⟩, ⟨_, rfl, rfl, (.same rfl)⟩, trivial⟩ rfl
         ·obtain ⟨r39, rfl⟩ : ∃ x, x = z := ⟨_, rfl⟩
          refine Tr.rgn (Rn.bin trivial rfl rfl rfl (md rfl (Rn.nil ?_)))
          exact ⟨_, h, (by exact Qr ⟨(kPtr rfl), (kPtr rfl), (kPtr rfl), (sm rfl), (sm rfl), (sm rfl), (sm rfl), (sm rfl), (sm rfl), trivial⟩ ⟨⟨_, rfl, rfl, (.same rfl)⟩, ⟨_, rfl, rfl, (.same rfl)⟩, ⟨_, rfl, rfl, (.same rfl)⟩, trivial⟩ rfl)⟩
        ·replace h := ifF hb31 h
         refine Tr.exit ?_
         replace h := si h; subst h
         exact Qm [] ⟨(kPtr rfl), (kPtr rfl), (kPtr rfl), (sm rfl), (sm rfl), trivial⟩ ⟨⟨_, rfl, rfl, (.same rfl)⟩, ⟨_, rfl, rfl, (.same rfl)⟩, ⟨_, rfl, rfl, (.same rfl)⟩, trivial⟩ rfl
      ·obtain ⟨r40, rfl⟩ : ∃ x, x = z := ⟨_, rfl⟩
       refine Tr.rgn (Rn.bin trivial rfl rfl rfl (md rfl (Rn.nil ?_)))
       exact ⟨_, h, (by exact Qr ⟨(kPtr rfl), (kPtr rfl), (kPtr rfl), (sm rfl), (sm rfl), trivial⟩ ⟨⟨_, rfl, rfl, (.same rfl)⟩, ⟨_, rfl, rfl, (.same rfl)⟩, ⟨_, rfl, rfl, (.same rfl)⟩, trivial⟩ rfl)⟩
     ·replace h := ifF hb27 h
      refine Tr.exit ?_
      replace h := si h; subst h
      exact Qm [] ⟨(kPtr rfl), (kPtr rfl), trivial⟩ ⟨⟨_, rfl, rfl, (.same rfl)⟩, ⟨_, rfl, rfl, (.same rfl)⟩, ⟨_, rfl, rfl, (.same rfl)⟩, trivial⟩ rfl
   ·obtain ⟨r41, rfl⟩ : ∃ x, x = z := ⟨_, rfl⟩
    obtain ⟨row42, hs43, h⟩ := bnd h
    obtain ⟨hl44, hn45, hr46⟩ := H_slices_SortFunc_Edge _ _ hs43
    refine Tr.seqW ⟨look [(4, .ptr (Γ.n0 + 4) 0), (7, .ptr (Γ.n0 + 7) 0)], Qo Γ.n0 (bxs [(2, .cells ([.f (.lst 1 (List.map (eI .i64) a1.Alphabet)), (i_ a1.States), .f (.lst 1 (List.map (eI .i64) a1.Marked)), .f (.lst 3 (List.map Qc a1.Edges))])), (4, .cells ([.nils 1, (i_ 0), .nils 1, .nils 3])), (7, .cells ([.f (.lst 1 (List.map (eI .i64) row16)), (i_ a1.States), .f (.lst 1 (List.map (eI .i64) a1.Marked)), .f (.lst 3 (List.map Qc row42))]))]) M, Γ.n0 + 74⟩ ?_ ?_
    ·by_cases hx47 : r41 = []
     ·obtain ⟨hyx, hn45b⟩ := hn45 hx47
      replace hyx := hyx.symm
      subst hyx
      replace hn45 := And.intro trivial hn45b
      refine Tr.rgn (Rn.fldP (o' := 3) trivial rfl rfl (Rn.load (v := .d (.lst 3 (List.map Qc r41))) trivial rfl (Ql rfl) rfl rfl (Rn.call (args := [.d (.lst 3 (List.map Qc r41)), .clo 37 []]) trivial rfl (hn45.2) pc9 ?_)))
      refine Rn.nil ⟨rfl, (by exact Qm [] ⟨(kPtr rfl), (kPtr rfl), trivial⟩ ⟨⟨_, rfl, rfl, (.same rfl)⟩, ⟨_, rfl, rfl, (.same rfl)⟩, ⟨_, rfl, rfl, (.cons (sm rfl) (.cons (sm rfl) (.cons (sm rfl) (.cons (Qben hx47) .nil))))⟩, trivial⟩ rfl)⟩
     ·refine Tr.weak (by show WeakSt Γ _ ⟨look [(4, .ptr (Γ.n0 + 4) 0), (7, .ptr (Γ.n0 + 7) 0)], Qo Γ.n0 (bxs [(2, .cells ([.f (.lst 1 (List.map (eI .i64) a1.Alphabet)), (i_ a1.States), .f (.lst 1 (List.map (eI .i64) a1.Marked)), .f (.lst 3 (List.map Qc a1.Edges))])), (4, .cells ([.nils 1, (i_ 0), .nils 1, .nils 3])), (7, .cells ([.f (.lst 1 (List.map (eI .i64) row16)), (i_ a1.States), .f (.lst 1 (List.map (eI .i64) a1.Marked)), .own 3 (List.map Qc r41)]))]) M, Γ.n0 + 74⟩; exact Qm [] ⟨(kPtr rfl), (kPtr rfl), trivial⟩ ⟨⟨_, rfl, rfl, (.same rfl)⟩, ⟨_, rfl, rfl, (.same rfl)⟩, ⟨_, rfl, rfl, (.same rfl)⟩, trivial⟩ rfl) ?_
      refine Qba2 hG hM0 7 3 69 hx47 (fun _ => rfl) rfl rfl rfl rfl ⟨rfl, rfl, trivial⟩ ⟨⟨rfl, rfl, rfl, rfl, trivial⟩, ⟨rfl, rfl, rfl, rfl, trivial⟩, ⟨rfl, rfl, rfl, rfl, trivial⟩, trivial⟩ (fun c48 hc49 hc50 => ?_)
      refine Tr.rgn (Rn.fldP (o' := 3) trivial rfl rfl (Rn.load (v := .sl 3 (Γ.n0 + 69) 0 r41.length c48) trivial rfl (Ql rfl) rfl rfl ?_))
      refine Rn.callRow (t := 69) (cs := Qbc (List.map Qc r41) ((c48 - r41.length) * 3)) (cs' := Qbc (List.map Qc row42) ((c48 - r41.length) * 3)) trivial rfl rfl (fun M2 hM2 => hr46 hc50 _ _ _ _ hM2) rfl ?_
      refine Rn.weak (by show WeakSt Γ _ ⟨look [(4, .ptr (Γ.n0 + 4) 0), (7, .ptr (Γ.n0 + 7) 0), (67, .ptr (Γ.n0 + 7) 3), (68, .f (.lst 3 (List.map Qc row42))), (69, .tup [])], Qo Γ.n0 (bxs [(2, .cells ([.f (.lst 1 (List.map (eI .i64) a1.Alphabet)), (i_ a1.States), .f (.lst 1 (List.map (eI .i64) a1.Marked)), .f (.lst 3 (List.map Qc a1.Edges))])), (4, .cells ([.nils 1, (i_ 0), .nils 1, .nils 3])), (7, .cells ([.f (.lst 1 (List.map (eI .i64) row16)), (i_ a1.States), .f (.lst 1 (List.map (eI .i64) a1.Marked)), .f (.lst 3 (List.map Qc row42))]))]) M, Γ.n0 + 74⟩; exact Qm9 69 _ rfl Qbdi ⟨(fPtr rfl), (fPtr rfl), (fPtr rfl), (Qbb9 (fun _ => rfl) (fun _ => rfl) hl44 hc49), (.same rfl), trivial⟩ ⟨⟨_, rfl, rfl, (.cons (.same rfl) (.cons (.same rfl) (.cons (.same rfl) (.cons (.same rfl) .nil))))⟩, ⟨_, rfl, rfl, (.cons (.same rfl) (.cons (.same rfl) (.cons (.same rfl) (.cons (.same rfl) .nil))))⟩, ⟨_, rfl, rfl, (.cons (.same rfl) (.cons (.same rfl) (.cons (.same rfl) (.cons (Qbb9 (fun _ => rfl) (fun _ => rfl) hl44 hc49) .nil))))⟩, trivial⟩ rfl) ?_
      refine Rn.nil ⟨rfl, (by exact Qm [] ⟨(kPtr rfl), (kPtr rfl), trivial⟩ ⟨⟨_, rfl, rfl, (.same rfl)⟩, ⟨_, rfl, rfl, (.same rfl)⟩, ⟨_, rfl, rfl, (.same rfl)⟩, trivial⟩ rfl)⟩
    ·refine sr ((Rn.load (v := .agg [.f (.lst 1 (List.map (eI .i64) row16)), (i_ a1.States), .f (.lst 1 (List.map (eI .i64) a1.Marked)), .f (.lst 3 (List.map Qc row42))]) trivial rfl (Ql rfl) rfl rfl ?_))
     obtain ⟨⟨r52, r53⟩, h51, h⟩ := bnd h
     refine Rn.call (args := [.agg [.f (.lst 1 (List.map (eI .i64) row16)), (i_ a1.States), .f (.lst 1 (List.map (eI .i64) a1.Marked)), .f (.lst 3 (List.map Qc row42))]]) trivial rfl (fun M2 nb2 => ACalls.weak (args' := [.agg [(l_ row16), (i_ a1.States), (l_ a1.Marked), .d (.lst 3 (List.map Qc row42))]]) (H_automaton_Canonical _ _ h51 M2 nb2) (.cons (WkV.agg (.cons fToD (.cons (sm rfl) (.cons fToD (.cons fToD .nil))))) .nil) rfl) pc9 ?_
     refine Rn.ext (v := (Qa r52)) (vs := [(Qa r52), (i_ r53)]) trivial rfl rfl rfl (Rn.ext (v := (i_ r53)) (vs := [(Qa r52), (i_ r53)]) trivial rfl rfl rfl (Rn.storeT (v := (Qa r52)) (ds := (Qd r52)) (cs' := (Qd r52)) trivial rfl rfl rfl rfl rfl rfl rfl (md rfl (nt ((Tr.ret ?_))))))
     replace h := si h; subst h
     exact ⟨.inr rfl, .tup [(Qa r52), (i_ r53)], res2 (Qj8 rfl rfl rfl rfl) rfl, (WkV.tup (.cons (.same rfl) (.cons (.same rfl) .nil))).rd, ⟨⟨trivial, trivial, trivial, trivial, trivial⟩, trivial, trivial⟩, fun k hk => Qg hk⟩
theorem Qmm {P : Program} {c : Nat} (hcf : Qz P c = some Qe3) (fuel : Nat) : Qcs P c (Qv fuel) := by
 intro a1 b2 r h
 refine Qcv hcf rfl fun Γ M hP hnt hM => ?_
 subst hP
 refine Tr.init [(0, (l_ a1)), (1, (l_ b2))] rfl ?_
 unfold Qv at h
 unfold Qe3
 refine sr ((md rfl (nt ((Tr.seq (sr ((md rfl (Rn.lenD trivial rfl (md rfl (Rn.lenD trivial rfl (Rn.bin trivial rfl rfl rfl (Rn.nil (toN ?_))))))))))))))
 refine Tr.cond rfl (fun hb3 => ?_) (fun hb3 => ?_)
 ·replace h := bT hb3 h
  refine sr ((md rfl (nt ((Tr.ret ?_)))))
  replace h := si h; subst h
  exact ⟨.inr rfl, (b_ false), rfl, fun _ _ _ _ h => h, trivial, fun k hk => Qg hk⟩
 ·replace h := bF hb3 h
  refine Tr.skip (toN (Tr.seq (sr ((md rfl (nt ((Tr.block ?_))))))))
  refine Tr.loop (mk := fun (i4 : Int) => ⟨look [(0, (l_ a1)), (1, (l_ b2)), (5, (i_ i4))], Qo Γ.n0 (bxs []) M, Γ.n0 + 26⟩) h (by exact Qr ⟨(sm rfl), (sm rfl), (sm rfl), trivial⟩ trivial rfl) (fun k5 z h => ?_)
  ·obtain ⟨i4, rfl⟩ : ∃ x, x = z := ⟨_, rfl⟩
   replace h : _ = some _ := h
   refine Tr.seq (sr ((md rfl (md rfl (Rn.lenD trivial rfl (Rn.bin trivial rfl rfl rfl (Rn.nil (toN ?_))))))))
   refine Tr.cond rfl (fun hb6 => ?_) (fun hb6 => ?_)
   ·replace h := ifT hb6 h
    refine Tr.skip (toN (Tr.seq (Tr.block (Tr.seq ?_))))
    refine Tr.rgnD (by decide) ?_
    refine md rfl (md rfl ?_)
    obtain ⟨x7, h8, h⟩ := bnd h
    refine Rn.idxD (e := (eI .i64)) trivial rfl rfl h8 (Rn.loadC (x := .int .i64 x7) trivial rfl (md rfl (md rfl ?_)))
    obtain ⟨x9, h10, h⟩ := bnd h
    refine Rn.idxD (e := (eI .i64)) trivial rfl rfl h10 (Rn.loadC (x := .int .i64 x9) trivial rfl (Rn.bin trivial rfl rfl rfl ?_))
    refine Rn.nil ⟨rfl, ?_⟩
    refine toN ?_
    refine Tr.cond rfl (fun hb11 => ?_) (fun hb11 => ?_)
    ·replace h := bT hb11 h
     refine sr ((md rfl (nt ((Tr.ret ?_)))))
     replace h := si h; subst h
     exact ⟨.inr rfl, (b_ false), rfl, fun _ _ _ _ h => h, trivial, fun k hk => Qg hk⟩
    ·replace h := bF hb11 h
     refine Tr.skip (toN (Tr.rgn (md rfl (Rn.bin trivial rfl rfl rfl (md rfl (Rn.nil ?_))))))
     exact ⟨_, h, (by exact Qr ⟨(sm rfl), (sm rfl), (sm rfl), trivial⟩ trivial rfl)⟩
   ·replace h := ifF hb6 h
    refine Tr.exit (toN (sr ((md rfl (nt ((Tr.ret ?_)))))))
    replace h := si h; subst h
    exact ⟨.inr rfl, (b_ true), rfl, fun _ _ _ _ h => h, trivial, fun k hk => Qg hk⟩
theorem Qsu {P : Program} {c : Nat} {Qv : (List Int) → (List Int) → Option Bool}
    (H_overseerref03_SameInts : Qcs P 19 Qv) (hcf : Qz P c = some Qgs) (fuel : Nat) : Qgr P c (Qb3 Qv fuel) := by
 intro a1 b2 r h
 refine Qcv hcf rfl fun Γ M hP hnt hM => ?_
 subst hP
 refine Tr.init [(0, (Qa a1)), (1, (Qa b2))] rfl ?_
 unfold Qb3 at h
 unfold Qgs
 refine sr ((Rn.box (v := (Qa a1)) (cs := (Qd a1)) trivial rfl rfl rfl rfl rfl (Rn.box (v := (Qa b2)) (cs := (Qd b2)) trivial rfl rfl rfl rfl rfl (md rfl (nt ((Tr.seq ?_)))))))
 refine Tr.cutB (fun (x10 : Bool) => ⟨look [(2, .ptr (Γ.n0 + 2) 0), (3, .ptr (Γ.n0 + 3) 0), (35, (b_ x10))], Qo Γ.n0 (bxs [(2, .cells ((Qd a1))), (3, .cells ((Qd b2)))]) M, Γ.n0 + 54⟩) h (fun z h => ?_) (fun z h => ?_)
 ·refine Tr.rgn (Rn.fldP (o' := 0) trivial rfl rfl (Rn.load (v := (l_ a1.Alphabet)) trivial rfl (Ql rfl) rfl rfl (Rn.fldP (o' := 0) trivial rfl rfl (Rn.load (v := (l_ b2.Alphabet)) trivial rfl (Ql rfl) rfl rfl ?_))))
  obtain ⟨x4, h3, h⟩ := bnd h
  refine Rn.call (args := [(l_ a1.Alphabet), (l_ b2.Alphabet)]) trivial rfl (H_overseerref03_SameInts _ _ _ h3) pc9 (Rn.un trivial rfl rfl (md rfl ?_))
  refine Qbw x4 (fun hb5 => ?_) (fun hb5 => ?_)
  ·replace h := bT hb5 h
   refine Rn.fldP (o' := 1) (gw rfl (nT hb5)) rfl rfl (Rn.load (v := (i_ a1.States)) (gw rfl (nT hb5)) rfl (Ql rfl) rfl rfl (Rn.fldP (o' := 1) (gw rfl (nT hb5)) rfl rfl (Rn.load (v := (i_ b2.States)) (gw rfl (nT hb5)) rfl (Ql rfl) rfl rfl (Rn.bin (gw rfl (nT hb5)) rfl rfl rfl (Rn.pickF (v := (b_ (a1.States != b2.States))) trivial rfl (nT hb5) rfl (md rfl ?_))))))
   refine Qbw (a1.States != b2.States) (fun hb6 => ?_) (fun hb6 => ?_)
   ·replace h := bT hb6 h
    refine Rn.sk (nw rfl hb6) (Rn.sk (nw rfl hb6) (Rn.sk (nw rfl hb6) (Rn.sk (nw rfl hb6) (Rn.sk (nw rfl hb6) (Rn.sk (nw rfl hb6) (Rn.pickT (v := (b_ true)) trivial rfl hb6 rfl (md rfl (Rn.sk (nw (b := true) rfl rfl) (Rn.sk (nw (b := true) rfl rfl) (Rn.sk (nw (b := true) rfl rfl) (Rn.sk (nw (b := true) rfl rfl) (Rn.sk (nw (b := true) rfl rfl) (Rn.sk (nw (b := true) rfl rfl) (Rn.sk (nw (b := true) rfl rfl) (Rn.pickT (v := (b_ true)) trivial rfl rfl rfl (Rn.nil ?_))))))))))))))))
    replace h := si h; subst h
    exact Qm [] ⟨(kPtr rfl), (kPtr rfl), (sm rfl), trivial⟩ ⟨⟨_, rfl, rfl, (.same rfl)⟩, ⟨_, rfl, rfl, (.same rfl)⟩, trivial⟩ rfl
   ·replace h := bF hb6 h
    refine Rn.fldP (o' := 2) (gw rfl hb6) rfl rfl (Rn.load (v := (l_ a1.Marked)) (gw rfl hb6) rfl (Ql rfl) rfl rfl (Rn.fldP (o' := 2) (gw rfl hb6) rfl rfl (Rn.load (v := (l_ b2.Marked)) (gw rfl hb6) rfl (Ql rfl) rfl rfl ?_)))
    obtain ⟨x8, h7, h⟩ := bnd h
    refine Rn.call (args := [(l_ a1.Marked), (l_ b2.Marked)]) (gw rfl hb6) rfl (H_overseerref03_SameInts _ _ _ h7) pc9 (Rn.un (gw rfl hb6) rfl rfl (Rn.pickF (v := (b_ (!x8))) trivial rfl hb6 rfl (md rfl ?_)))
    refine Qbw x8 (fun hb9 => ?_) (fun hb9 => ?_)
    ·replace h := bT hb9 h
     refine Rn.fldP (o' := 3) (gw rfl (nT hb9)) rfl rfl (Rn.load (v := .d (.lst 3 (List.map Qc a1.Edges))) (gw rfl (nT hb9)) rfl (Ql rfl) rfl rfl (Rn.lenD (gw rfl (nT hb9)) rfl (Rn.fldP (o' := 3) (gw rfl (nT hb9)) rfl rfl (Rn.load (v := .d (.lst 3 (List.map Qc b2.Edges))) (gw rfl (nT hb9)) rfl (Ql rfl) rfl rfl (Rn.lenD (gw rfl (nT hb9)) rfl (Rn.bin (gw rfl (nT hb9)) rfl rfl rfl (Rn.pickF (v := (b_ ((a1.Edges.length : Int) != (b2.Edges.length : Int)))) trivial rfl (nT hb9) rfl (Rn.nil ?_))))))))
     replace h := si h; subst h
     exact Qm [] ⟨(kPtr rfl), (kPtr rfl), (sm rfl), trivial⟩ ⟨⟨_, rfl, rfl, (.same rfl)⟩, ⟨_, rfl, rfl, (.same rfl)⟩, trivial⟩ rfl
    ·replace h := bF hb9 h
     refine Rn.sk (nw rfl (nF hb9)) (Rn.sk (nw rfl (nF hb9)) (Rn.sk (nw rfl (nF hb9)) (Rn.sk (nw rfl (nF hb9)) (Rn.sk (nw rfl (nF hb9)) (Rn.sk (nw rfl (nF hb9)) (Rn.sk (nw rfl (nF hb9)) (Rn.pickT (v := (b_ true)) trivial rfl (nF hb9) rfl (Rn.nil ?_))))))))
     replace h := si h; subst h
     exact Qm [] ⟨(kPtr rfl), (kPtr rfl), (sm rfl), trivial⟩ ⟨⟨_, rfl, rfl, (.same rfl)⟩, ⟨_, rfl, rfl, (.same rfl)⟩, trivial⟩ rfl
  ·replace h := bF hb5 h
   refine Rn.sk (nw rfl (nF hb5)) (Rn.sk (nw rfl (nF hb5)) (Rn.sk (nw rfl (nF hb5)) (Rn.sk (nw rfl (nF hb5)) (Rn.sk (nw rfl (nF hb5)) (Rn.pickT (v := (b_ true)) trivial rfl (nF hb5) rfl (md rfl (Rn.sk (nw (b := true) rfl rfl) (Rn.sk (nw (b := true) rfl rfl) (Rn.sk (nw (b := true) rfl rfl) (Rn.sk (nw (b := true) rfl rfl) (Rn.sk (nw (b := true) rfl rfl) (Rn.sk (nw (b := true) rfl rfl) (Rn.pickT (v := (b_ true)) trivial rfl rfl rfl (md rfl (Rn.sk (nw (b := true) rfl rfl) (Rn.sk (nw (b := true) rfl rfl) (Rn.sk (nw (b := true) rfl rfl) (Rn.sk (nw (b := true) rfl rfl) (Rn.sk (nw (b := true) rfl rfl) (Rn.sk (nw (b := true) rfl rfl) (Rn.sk (nw (b := true) rfl rfl) (Rn.pickT (v := (b_ true)) trivial rfl rfl rfl (Rn.nil ?_)))))))))))))))))))))))
   replace h := si h; subst h
   exact Qm [] ⟨(kPtr rfl), (kPtr rfl), (sm rfl), trivial⟩ ⟨⟨_, rfl, rfl, (.same rfl)⟩, ⟨_, rfl, rfl, (.same rfl)⟩, trivial⟩ rfl
 ·obtain ⟨x10, rfl⟩ : ∃ x, x = z := ⟨_, rfl⟩
  refine Tr.cond rfl (fun hb11 => ?_) (fun hb11 => ?_)
  ·replace h := bT hb11 h
   refine sr ((md rfl (nt ((Tr.ret ?_)))))
   replace h := si h; subst h
   exact ⟨.inr rfl, (b_ false), rfl, fun _ _ _ _ h => h, trivial, fun k hk => Qg hk⟩
  ·replace h := bF hb11 h
   refine Tr.skip (toN (Tr.seq (sr ((md rfl (nt ((Tr.block ?_))))))))
   refine Tr.loop (mk := fun (i12 : Int) => ⟨look [(2, .ptr (Γ.n0 + 2) 0), (3, .ptr (Γ.n0 + 3) 0), (5, (i_ i12))], Qo Γ.n0 (bxs [(2, .cells ((Qd a1))), (3, .cells ((Qd b2)))]) M, Γ.n0 + 54⟩) h (by exact Qr ⟨(kPtr rfl), (kPtr rfl), (sm rfl), trivial⟩ ⟨⟨_, rfl, rfl, (.same rfl)⟩, ⟨_, rfl, rfl, (.same rfl)⟩, trivial⟩ rfl) (fun k13 z h => ?_)
   ·obtain ⟨i12, rfl⟩ : ∃ x, x = z := ⟨_, rfl⟩
    replace h : _ = some _ := h
    refine Tr.seq (sr ((md rfl (Rn.fldP (o' := 3) trivial rfl rfl (Rn.load (v := .d (.lst 3 (List.map Qc a1.Edges))) trivial rfl (Ql rfl) rfl rfl (Rn.lenD trivial rfl (Rn.bin trivial rfl rfl rfl (Rn.nil (toN ?_)))))))))
    refine Tr.cond rfl (fun hb14 => ?_) (fun hb14 => ?_)
    ·replace h := ifT hb14 h
     refine Tr.skip (toN (Tr.seq (Tr.block (Tr.seq ?_))))
     refine Tr.rgnD (by decide) ?_
     refine Rn.fldP (o' := 3) trivial rfl rfl (Rn.load (v := .d (.lst 3 (List.map Qc a1.Edges))) trivial rfl (Ql rfl) rfl rfl (md rfl ?_))
     obtain ⟨x15, h16, h⟩ := bnd h
     refine Rn.idxD (e := Qc) trivial rfl rfl h16 (Rn.loadCA (vs := (Q8 x15)) trivial rfl rfl rfl (Rn.fldP (o' := 3) trivial rfl rfl (Rn.load (v := .d (.lst 3 (List.map Qc b2.Edges))) trivial rfl (Ql rfl) rfl rfl (md rfl ?_))))
     obtain ⟨x17, h18, h⟩ := bnd h
     refine Rn.idxD (e := Qc) trivial rfl rfl h18 (Rn.loadCA (vs := (Q8 x17)) trivial rfl rfl rfl (Rn.eqa (r := ((x15.From == x17.From) && ((x15.Event == x17.Event) && ((x15.To == x17.To) && true)))) trivial rfl rfl rfl ?_))
     refine Rn.nil ⟨rfl, ?_⟩
     refine toN ?_
     refine Tr.cond rfl (fun hb19 => ?_) (fun hb19 => ?_)
     ·have hb19 := nT' hb19
      replace h := bF hb19 h
      refine sr ((md rfl (nt ((Tr.ret ?_)))))
      replace h := si h; subst h
      exact ⟨.inr rfl, (b_ false), rfl, fun _ _ _ _ h => h, trivial, fun k hk => Qg hk⟩
     ·have hb19 := nF' hb19
      replace h := bT hb19 h
      refine Tr.skip (toN (Tr.rgn (md rfl (Rn.bin trivial rfl rfl rfl (md rfl (Rn.nil ?_))))))
      exact ⟨_, h, (by exact Qr ⟨(kPtr rfl), (kPtr rfl), (sm rfl), trivial⟩ ⟨⟨_, rfl, rfl, (.same rfl)⟩, ⟨_, rfl, rfl, (.same rfl)⟩, trivial⟩ rfl)⟩
    ·replace h := ifF hb14 h
     refine Tr.exit (toN (sr ((md rfl (nt ((Tr.ret ?_)))))))
     replace h := si h; subst h
     exact ⟨.inr rfl, (b_ true), rfl, fun _ _ _ _ h => h, trivial, fun k hk => Qg hk⟩
theorem Qlf {P : Program} {c : Nat} {Qv : (List Int) → (List Int) → Option Bool}
    (H_overseerref03_SameInts : Qcs P 19 Qv) (hcf : Qz P c = some Qeo) (fuel : Nat) : Qen P c (Qbi Qv fuel) := by
 intro a1 b2 r h
 refine Qcv hcf rfl fun Γ M hP hnt hM => ?_
 subst hP
 refine Tr.init [(0, .d (.lst 1 (List.map (eL 1 (eI .i64)) a1))), (1, .d (.lst 1 (List.map (eL 1 (eI .i64)) b2)))] rfl ?_
 unfold Qbi at h
 unfold Qeo
 refine sr ((md rfl (nt ((Tr.seq (sr ((md rfl (Rn.lenD trivial rfl (md rfl (Rn.lenD trivial rfl (Rn.bin trivial rfl rfl rfl (Rn.nil (toN ?_))))))))))))))
 refine Tr.cond rfl (fun hb3 => ?_) (fun hb3 => ?_)
 ·replace h := bT hb3 h
  refine sr ((md rfl (nt ((Tr.ret ?_)))))
  replace h := si h; subst h
  exact ⟨.inr rfl, (b_ false), rfl, fun _ _ _ _ h => h, trivial, fun k hk => Qg hk⟩
 ·replace h := bF hb3 h
  refine Tr.skip (toN (Tr.seq (sr ((md rfl (nt ((Tr.block ?_))))))))
  refine Tr.loop (mk := fun (i4 : Int) => ⟨look [(0, .d (.lst 1 (List.map (eL 1 (eI .i64)) a1))), (1, .d (.lst 1 (List.map (eL 1 (eI .i64)) b2))), (5, (i_ i4))], Qo Γ.n0 (bxs []) M, Γ.n0 + 27⟩) h (by exact Qr ⟨(sm rfl), (sm rfl), (sm rfl), trivial⟩ trivial rfl) (fun k5 z h => ?_)
  ·obtain ⟨i4, rfl⟩ : ∃ x, x = z := ⟨_, rfl⟩
   replace h : _ = some _ := h
   refine Tr.seq (sr ((md rfl (md rfl (Rn.lenD trivial rfl (Rn.bin trivial rfl rfl rfl (Rn.nil (toN ?_))))))))
   refine Tr.cond rfl (fun hb6 => ?_) (fun hb6 => ?_)
   ·replace h := ifT hb6 h
    refine Tr.skip (toN (Tr.seq (Tr.block (Tr.seq ?_))))
    refine Tr.rgnD (by decide) ?_
    refine md rfl (md rfl ?_)
    obtain ⟨x7, h8, h⟩ := bnd h
    refine Rn.idxD (e := (eL 1 (eI .i64))) trivial rfl rfl h8 (Rn.loadC (x := .lst 1 (List.map (eI .i64) x7)) trivial rfl (md rfl (md rfl ?_)))
    obtain ⟨x9, h10, h⟩ := bnd h
    refine Rn.idxD (e := (eL 1 (eI .i64))) trivial rfl rfl h10 (Rn.loadC (x := .lst 1 (List.map (eI .i64) x9)) trivial rfl ?_)
    obtain ⟨x12, h11, h⟩ := bnd h
    refine Rn.call (args := [(l_ x7), (l_ x9)]) trivial rfl (H_overseerref03_SameInts _ _ _ h11) pc0 (Rn.un trivial rfl rfl ?_)
    refine Rn.nil ⟨rfl, ?_⟩
    refine toN ?_
    refine Tr.cond rfl (fun hb13 => ?_) (fun hb13 => ?_)
    ·have hb13 := nT' hb13
     replace h := bF hb13 h
     refine sr ((md rfl (nt ((Tr.ret ?_)))))
     replace h := si h; subst h
     exact ⟨.inr rfl, (b_ false), rfl, fun _ _ _ _ h => h, trivial, fun k hk => Qg hk⟩
    ·have hb13 := nF' hb13
     replace h := bT hb13 h
     refine Tr.skip (toN (Tr.rgn (md rfl (Rn.bin trivial rfl rfl rfl (md rfl (Rn.nil ?_))))))
     exact ⟨_, h, (by exact Qr ⟨(sm rfl), (sm rfl), (sm rfl), trivial⟩ trivial rfl)⟩
   ·replace h := ifF hb6 h
    refine Tr.exit (toN (sr ((md rfl (nt ((Tr.ret ?_)))))))
    replace h := si h; subst h
    exact ⟨.inr rfl, (b_ true), rfl, fun _ _ _ _ h => h, trivial, fun k hk => Qg hk⟩
theorem Qpo {P : Program} {c : Nat} {Q7 : Qb → (List Int) → Option (Qb × Int)} {Qb3 : Qb → Qb → Option Bool} {Q6 : Qb → (List Int) → Option (Qb × (List (List Int)) × Int)} {Qbf : Qb → (List Int) → (List Int) → Bool → Option ((List Int) × Bool × Int)} {Qv : (List Int) → (List Int) → Option Bool} {Qbo : Option Qb} {Qbi : (List (List Int)) → (List (List Int)) → Option Bool}
    (H_projection_Inverse : Qex P 11 Q7)
    (H_overseerref03_Same : Qgr P 12 Qb3)
    (H_projection_Project : Qew P 14 Q6)
    (H_projection_Lift : Qgg P 16 Qbf)
    (H_overseerref03_SameInts : Qcs P 19 Qv)
    (H_overseerlaw07_example : Qfb P 26 Qbo)
    (H_overseerlaw03_SameWords : Qen P 27 Qbi) (hcf : Qz P c = some Qf8) : Qf7 P c (Qbq Q7 Qb3 Q6 Qbf Qv Qbo Qbi) := by
 intro  r h
 refine Qcv hcf rfl fun Γ M hP hnt hM => ?_
 subst hP
 refine Tr.init [] rfl ?_
 unfold Qbq at h
 unfold Qf8
 refine sr ((md rfl (nt ((Tr.seq (Tr.rgn ?_))))))
 obtain ⟨x2, h1, h⟩ := bnd h
 refine Rn.call (args := []) trivial rfl (H_overseerlaw07_example _ h1) pc9 (Rn.alloc trivial rfl (Rn.storeT (v := (Qa x2)) (ds := (Qd x2)) (cs' := (Qd x2)) trivial rfl rfl rfl rfl rfl rfl rfl (nt ((sr ((Rn.load (v := (Qa x2)) trivial rfl (Ql rfl) rfl rfl (Rn.bslice (xs := [(i_ 1)]) (cs := [(i_ 1)]) trivial rfl rfl rfl rfl ?_))))))))
 refine Rn.weak (by show WeakSt Γ _ ⟨look [(0, (b_ false)), (1, .ptr (Γ.n0 + 1) 0), (10, (Qa x2)), (12, (Qa x2)), (13, (l_ [1]))], Qo Γ.n0 (bxs [(1, .cells ((Qd x2)))]) M, Γ.n0 + 74⟩; exact Qb0 13 [.int .i64 1] rfl rfl ⟨(.same rfl), (fPtr rfl), (.same rfl), (.same rfl), (fSl rfl rfl), trivial⟩ ⟨⟨_, rfl, rfl, (.same rfl)⟩, trivial⟩ rfl) ?_
 obtain ⟨⟨r4, r5, r6⟩, h3, h⟩ := bnd h
 refine Rn.call (args := [(Qa x2), (l_ [1])]) trivial rfl (H_projection_Project _ _ _ h3) pc9 (Rn.mov (v := .tup [(Qa r4), .d (.lst 1 (List.map (eL 1 (eI .i64)) r5)), (i_ r6)]) trivial rfl (Rn.ext (v := (Qa r4)) (vs := [(Qa r4), .d (.lst 1 (List.map (eL 1 (eI .i64)) r5)), (i_ r6)]) trivial rfl rfl rfl (Rn.extTD (vs := [(Qa r4), .d (.lst 1 (List.map (eL 1 (eI .i64)) r5)), (i_ r6)]) trivial rfl rfl rfl (Rn.ext (v := (i_ r6)) (vs := [(Qa r4), .d (.lst 1 (List.map (eL 1 (eI .i64)) r5)), (i_ r6)]) trivial rfl rfl rfl (Rn.alloc trivial rfl (Rn.storeT (v := (Qa r4)) (ds := (Qd r4)) (cs' := (Qd r4)) trivial rfl rfl rfl rfl rfl rfl rfl (Rn.movTD trivial rfl (md rfl (nt ((sr ((Rn.load (v := (Qa x2)) trivial rfl (Ql rfl) rfl rfl (Rn.bslice (xs := [(i_ 1)]) (cs := [(i_ 1)]) trivial rfl rfl rfl rfl (Rn.bslice (xs := [(i_ 1)]) (cs := [(i_ 1)]) trivial rfl rfl rfl rfl ?_)))))))))))))))
 refine Rn.weak (by show WeakSt Γ _ ⟨look [(0, (b_ false)), (1, .ptr (Γ.n0 + 1) 0), (2, .ptr (Γ.n0 + 2) 0), (3, .d (.lst 1 (List.map (eL 1 (eI .i64)) r5))), (4, (i_ r6)), (10, (Qa x2)), (11, .tup [(Qa r4), .d (.lst 1 (List.map (eL 1 (eI .i64)) r5)), (i_ r6)]), (12, (Qa x2)), (13, (l_ [1])), (14, .tup [(Qa r4), .own 1 (List.map (eL 1 (eI .i64)) r5), (i_ r6)]), (15, (Qa r4)), (16, .d (.lst 1 (List.map (eL 1 (eI .i64)) r5))), (17, (i_ r6)), (19, (Qa x2)), (20, (l_ [1])), (21, .sl 1 (Γ.n0 + 21) 0 1 1)], Qo Γ.n0 (bxs [(1, .cells ((Qd x2))), (2, .cells ((Qd r4))), (21, .cells ([(i_ 1)]))]) M, Γ.n0 + 74⟩; exact Qb0 20 [.int .i64 1] rfl rfl ⟨(.same rfl), (fPtr rfl), (fPtr rfl), (.same rfl), (.same rfl), (.same rfl), (.same rfl), (.same rfl), (.same rfl), (.same rfl), (.same rfl), (.same rfl), (.same rfl), (.same rfl), (fSl rfl rfl), (fSlO rfl), trivial⟩ ⟨⟨_, rfl, rfl, (.same rfl)⟩, ⟨_, rfl, rfl, (.same rfl)⟩, ⟨_, rfl, rfl, (.same rfl)⟩, trivial⟩ rfl) ?_
 refine Rn.weak (by show WeakSt Γ _ ⟨look [(0, (b_ false)), (1, .ptr (Γ.n0 + 1) 0), (2, .ptr (Γ.n0 + 2) 0), (3, .d (.lst 1 (List.map (eL 1 (eI .i64)) r5))), (4, (i_ r6)), (10, (Qa x2)), (11, .tup [(Qa r4), .d (.lst 1 (List.map (eL 1 (eI .i64)) r5)), (i_ r6)]), (12, (Qa x2)), (13, (l_ [1])), (14, .tup [(Qa r4), .own 1 (List.map (eL 1 (eI .i64)) r5), (i_ r6)]), (15, (Qa r4)), (16, .d (.lst 1 (List.map (eL 1 (eI .i64)) r5))), (17, (i_ r6)), (19, (Qa x2)), (20, (l_ [1])), (21, (l_ [1]))], Qo Γ.n0 (bxs [(1, .cells ((Qd x2))), (2, .cells ((Qd r4)))]) M, Γ.n0 + 74⟩; exact Qb0 21 [.int .i64 1] rfl rfl ⟨(.same rfl), (fPtr rfl), (fPtr rfl), (.same rfl), (.same rfl), (.same rfl), (.same rfl), (.same rfl), (.same rfl), (.same rfl), (.same rfl), (.same rfl), (.same rfl), (.same rfl), (.same rfl), (fSl rfl rfl), trivial⟩ ⟨⟨_, rfl, rfl, (.same rfl)⟩, ⟨_, rfl, rfl, (.same rfl)⟩, trivial⟩ rfl) ?_
 obtain ⟨⟨r8, r9, r10⟩, h7, h⟩ := bnd h
 refine Rn.call (args := [(Qa x2), (l_ [1]), (l_ [1]), (b_ true)]) trivial rfl (H_projection_Lift _ _ _ _ _ h7) pc9 (Rn.mov (v := .tup [(l_ r8), (b_ r9), (i_ r10)]) trivial rfl (Rn.extTD (vs := [(l_ r8), (b_ r9), (i_ r10)]) trivial rfl rfl rfl (Rn.ext (v := (b_ r9)) (vs := [(l_ r8), (b_ r9), (i_ r10)]) trivial rfl rfl rfl (Rn.ext (v := (i_ r10)) (vs := [(l_ r8), (b_ r9), (i_ r10)]) trivial rfl rfl rfl (Rn.movTD trivial rfl (md rfl (md rfl (nt ((sr ((Rn.bslice (xs := [(i_ 1)]) (cs := [(i_ 1)]) trivial rfl rfl rfl rfl (Rn.buildT (v := .agg [.sl 1 (Γ.n0 + 27) 0 1 1, (i_ 1), .nils 1, .nils 3]) trivial rfl (Rn.bslice (xs := [(i_ 0), (i_ 1)]) (cs := [(i_ 0), (i_ 1)]) trivial rfl rfl rfl rfl ?_))))))))))))))
 refine Rn.weak (by show WeakSt Γ _ ⟨look [(0, (b_ false)), (1, .ptr (Γ.n0 + 1) 0), (2, .ptr (Γ.n0 + 2) 0), (3, .d (.lst 1 (List.map (eL 1 (eI .i64)) r5))), (4, (i_ r6)), (5, (l_ r8)), (6, (b_ r9)), (7, (i_ r10)), (10, (Qa x2)), (11, .tup [(Qa r4), .d (.lst 1 (List.map (eL 1 (eI .i64)) r5)), (i_ r6)]), (12, (Qa x2)), (13, (l_ [1])), (14, .tup [(Qa r4), .own 1 (List.map (eL 1 (eI .i64)) r5), (i_ r6)]), (15, (Qa r4)), (16, .d (.lst 1 (List.map (eL 1 (eI .i64)) r5))), (17, (i_ r6)), (18, .tup [(l_ r8), (b_ r9), (i_ r10)]), (19, (Qa x2)), (20, (l_ [1])), (21, (l_ [1])), (22, .tup [(l_ r8), (b_ r9), (i_ r10)]), (23, (l_ r8)), (24, (b_ r9)), (25, (i_ r10)), (27, (l_ [1])), (28, .agg [(l_ [1]), (i_ 1), .nils 1, .nils 3]), (29, .sl 1 (Γ.n0 + 29) 0 2 2)], Qo Γ.n0 (bxs [(1, .cells ((Qd x2))), (2, .cells ((Qd r4))), (29, .cells ([(i_ 0), (i_ 1)]))]) M, Γ.n0 + 74⟩; exact Qb0 27 [.int .i64 1] rfl rfl ⟨(.same rfl), (fPtr rfl), (fPtr rfl), (.same rfl), (.same rfl), (.same rfl), (.same rfl), (.same rfl), (.same rfl), (.same rfl), (.same rfl), (.same rfl), (.same rfl), (.same rfl), (.same rfl), (.same rfl), (.same rfl), (.same rfl), (.same rfl), (.same rfl), (.same rfl), (.same rfl), (.same rfl), (.same rfl), (fSl rfl rfl), (WkV.agg (.cons (fSl rfl rfl) (.cons (.same rfl) (.cons (.same rfl) (.cons (.same rfl) .nil))))), (fSlO rfl), trivial⟩ ⟨⟨_, rfl, rfl, (.same rfl)⟩, ⟨_, rfl, rfl, (.same rfl)⟩, ⟨_, rfl, rfl, (.same rfl)⟩, trivial⟩ rfl) ?_
 refine Rn.weak (by show WeakSt Γ _ ⟨look [(0, (b_ false)), (1, .ptr (Γ.n0 + 1) 0), (2, .ptr (Γ.n0 + 2) 0), (3, .d (.lst 1 (List.map (eL 1 (eI .i64)) r5))), (4, (i_ r6)), (5, (l_ r8)), (6, (b_ r9)), (7, (i_ r10)), (10, (Qa x2)), (11, .tup [(Qa r4), .d (.lst 1 (List.map (eL 1 (eI .i64)) r5)), (i_ r6)]), (12, (Qa x2)), (13, (l_ [1])), (14, .tup [(Qa r4), .own 1 (List.map (eL 1 (eI .i64)) r5), (i_ r6)]), (15, (Qa r4)), (16, .d (.lst 1 (List.map (eL 1 (eI .i64)) r5))), (17, (i_ r6)), (18, .tup [(l_ r8), (b_ r9), (i_ r10)]), (19, (Qa x2)), (20, (l_ [1])), (21, (l_ [1])), (22, .tup [(l_ r8), (b_ r9), (i_ r10)]), (23, (l_ r8)), (24, (b_ r9)), (25, (i_ r10)), (27, (l_ [1])), (28, .agg [(l_ [1]), (i_ 1), .nils 1, .nils 3]), (29, (l_ [0, 1]))], Qo Γ.n0 (bxs [(1, .cells ((Qd x2))), (2, .cells ((Qd r4)))]) M, Γ.n0 + 74⟩; exact Qb0 29 [.int .i64 0, .int .i64 1] rfl rfl ⟨(.same rfl), (fPtr rfl), (fPtr rfl), (.same rfl), (.same rfl), (.same rfl), (.same rfl), (.same rfl), (.same rfl), (.same rfl), (.same rfl), (.same rfl), (.same rfl), (.same rfl), (.same rfl), (.same rfl), (.same rfl), (.same rfl), (.same rfl), (.same rfl), (.same rfl), (.same rfl), (.same rfl), (.same rfl), (.same rfl), (.same rfl), (fSl rfl rfl), trivial⟩ ⟨⟨_, rfl, rfl, (.same rfl)⟩, ⟨_, rfl, rfl, (.same rfl)⟩, trivial⟩ rfl) ?_
 obtain ⟨⟨r12, r13⟩, h11, h⟩ := bnd h
 refine Rn.call (args := [.agg [(l_ [1]), (i_ 1), .nils 1, .nils 3], (l_ [0, 1])]) trivial rfl (fun M2 nb2 => ACalls.weak (args' := [.agg [(l_ [1]), (i_ 1), (l_ []), .d (.lst 3 (List.map Qc []))], (l_ [0, 1])]) (H_projection_Inverse _ _ _ h11 M2 nb2) (.cons (WkV.agg (.cons (sm rfl) (.cons (sm rfl) (.cons (WkV.nilsD _) (.cons (WkV.nilsD _) .nil))))) (.cons (sm rfl) .nil)) rfl) pc9 ?_
 refine Rn.mov (v := .tup [(Qa r12), (i_ r13)]) trivial rfl (Rn.ext (v := (Qa r12)) (vs := [(Qa r12), (i_ r13)]) trivial rfl rfl rfl (Rn.ext (v := (i_ r13)) (vs := [(Qa r12), (i_ r13)]) trivial rfl rfl rfl (Rn.alloc trivial rfl (Rn.storeT (v := (Qa r12)) (ds := (Qd r12)) (cs' := (Qd r12)) trivial rfl rfl rfl rfl rfl rfl rfl (md rfl (Rn.nil (toN ?_)))))))
 refine Tr.cutB (fun (x27 : Bool) => ⟨look [(0, (b_ x27))], Qo Γ.n0 (bxs [(1, .cells ((Qd x2))), (2, .cells ((Qd r4))), (8, .cells ((Qd r12)))]) M, Γ.n0 + 74⟩) h (fun z h => ?_) (fun z h => ?_)
 ·refine Tr.rgn (md rfl (Rn.bin trivial rfl rfl rfl (md rfl ?_)))
  refine Qbw (r6 == 0) (fun hb14 => ?_) (fun hb14 => ?_)
  ·replace h := bT hb14 h
   refine Rn.load (v := (Qa r4)) (gw rfl hb14) rfl (Ql rfl) rfl rfl (Rn.bslice (xs := [(i_ 1)]) (cs := [(i_ 1)]) (gw rfl hb14) rfl rfl rfl rfl (Rn.bslice (xs := [(i_ 1)]) (cs := [(i_ 1)]) (gw rfl hb14) rfl rfl rfl rfl (Rn.build (v := .agg [(i_ 0), (i_ 1), (i_ 1)]) (gw rfl hb14) rfl (Rn.build (v := .agg [(i_ 1), (i_ 1), (i_ 1)]) (gw rfl hb14) rfl (Rn.bslice (xs := [.agg [(i_ 0), (i_ 1), (i_ 1)], .agg [(i_ 1), (i_ 1), (i_ 1)]]) (cs := [(i_ 0), (i_ 1), (i_ 1), (i_ 1), (i_ 1), (i_ 1)]) (gw rfl hb14) rfl rfl rfl rfl (Rn.buildT (v := .agg [.sl 1 (Γ.n0 + 37) 0 1 1, (i_ 2), .sl 1 (Γ.n0 + 38) 0 1 1, .sl 3 (Γ.n0 + 41) 0 2 2]) (gw rfl hb14) rfl ?_))))))
   refine Rn.weak (by show WeakSt Γ _ ⟨look [(0, (b_ false)), (1, .ptr (Γ.n0 + 1) 0), (2, .ptr (Γ.n0 + 2) 0), (3, .d (.lst 1 (List.map (eL 1 (eI .i64)) r5))), (4, (i_ r6)), (5, (l_ r8)), (6, (b_ r9)), (7, (i_ r10)), (8, .ptr (Γ.n0 + 8) 0), (9, (i_ r13)), (10, (Qa x2)), (11, .tup [(Qa r4), .d (.lst 1 (List.map (eL 1 (eI .i64)) r5)), (i_ r6)]), (12, (Qa x2)), (13, (l_ [1])), (14, .tup [(Qa r4), .own 1 (List.map (eL 1 (eI .i64)) r5), (i_ r6)]), (15, (Qa r4)), (16, .d (.lst 1 (List.map (eL 1 (eI .i64)) r5))), (17, (i_ r6)), (18, .tup [(l_ r8), (b_ r9), (i_ r10)]), (19, (Qa x2)), (20, (l_ [1])), (21, (l_ [1])), (22, .tup [(l_ r8), (b_ r9), (i_ r10)]), (23, (l_ r8)), (24, (b_ r9)), (25, (i_ r10)), (26, .tup [(Qa r12), (i_ r13)]), (27, (l_ [1])), (28, .agg [(l_ [1]), (i_ 1), .nils 1, .nils 3]), (29, (l_ [0, 1])), (30, .tup [(Qa r12), (i_ r13)]), (31, (Qa r12)), (32, (i_ r13)), (33, (i_ r6)), (34, (b_ (r6 == 0))), (35, (b_ (r6 == 0))), (36, (Qa r4)), (37, (l_ [1])), (38, .sl 1 (Γ.n0 + 38) 0 1 1), (39, .agg [(i_ 0), (i_ 1), (i_ 1)]), (40, .agg [(i_ 1), (i_ 1), (i_ 1)]), (41, .sl 3 (Γ.n0 + 41) 0 2 2), (42, .agg [(l_ [1]), (i_ 2), .sl 1 (Γ.n0 + 38) 0 1 1, .sl 3 (Γ.n0 + 41) 0 2 2])], Qo Γ.n0 (bxs [(1, .cells ((Qd x2))), (2, .cells ((Qd r4))), (8, .cells ((Qd r12))), (38, .cells ([(i_ 1)])), (41, .cells ([(i_ 0), (i_ 1), (i_ 1), (i_ 1), (i_ 1), (i_ 1)]))]) M, Γ.n0 + 74⟩; exact Qb0 37 [.int .i64 1] rfl rfl ⟨(.same rfl), (fPtr rfl), (fPtr rfl), (.same rfl), (.same rfl), (.same rfl), (.same rfl), (.same rfl), (fPtr rfl), (.same rfl), (.same rfl), (.same rfl), (.same rfl), (.same rfl), (.same rfl), (.same rfl), (.same rfl), (.same rfl), (.same rfl), (.same rfl), (.same rfl), (.same rfl), (.same rfl), (.same rfl), (.same rfl), (.same rfl), (.same rfl), (.same rfl), (.same rfl), (.same rfl), (.same rfl), (.same rfl), (.same rfl), (.same rfl), (.same rfl), (.same rfl), (.same rfl), (fSl rfl rfl), (fSlO rfl), (.same rfl), (.same rfl), (fSlO rfl), (WkV.agg (.cons (fSl rfl rfl) (.cons (.same rfl) (.cons (fSlO rfl) (.cons (fSlO rfl) .nil))))), trivial⟩ ⟨⟨_, rfl, rfl, (.same rfl)⟩, ⟨_, rfl, rfl, (.same rfl)⟩, ⟨_, rfl, rfl, (.same rfl)⟩, ⟨_, rfl, rfl, (.same rfl)⟩, ⟨_, rfl, rfl, (.same rfl)⟩, trivial⟩ rfl) ?_
   refine Rn.weak (by show WeakSt Γ _ ⟨look [(0, (b_ false)), (1, .ptr (Γ.n0 + 1) 0), (2, .ptr (Γ.n0 + 2) 0), (3, .d (.lst 1 (List.map (eL 1 (eI .i64)) r5))), (4, (i_ r6)), (5, (l_ r8)), (6, (b_ r9)), (7, (i_ r10)), (8, .ptr (Γ.n0 + 8) 0), (9, (i_ r13)), (10, (Qa x2)), (11, .tup [(Qa r4), .d (.lst 1 (List.map (eL 1 (eI .i64)) r5)), (i_ r6)]), (12, (Qa x2)), (13, (l_ [1])), (14, .tup [(Qa r4), .own 1 (List.map (eL 1 (eI .i64)) r5), (i_ r6)]), (15, (Qa r4)), (16, .d (.lst 1 (List.map (eL 1 (eI .i64)) r5))), (17, (i_ r6)), (18, .tup [(l_ r8), (b_ r9), (i_ r10)]), (19, (Qa x2)), (20, (l_ [1])), (21, (l_ [1])), (22, .tup [(l_ r8), (b_ r9), (i_ r10)]), (23, (l_ r8)), (24, (b_ r9)), (25, (i_ r10)), (26, .tup [(Qa r12), (i_ r13)]), (27, (l_ [1])), (28, .agg [(l_ [1]), (i_ 1), .nils 1, .nils 3]), (29, (l_ [0, 1])), (30, .tup [(Qa r12), (i_ r13)]), (31, (Qa r12)), (32, (i_ r13)), (33, (i_ r6)), (34, (b_ (r6 == 0))), (35, (b_ (r6 == 0))), (36, (Qa r4)), (37, (l_ [1])), (38, (l_ [1])), (39, .agg [(i_ 0), (i_ 1), (i_ 1)]), (40, .agg [(i_ 1), (i_ 1), (i_ 1)]), (41, .sl 3 (Γ.n0 + 41) 0 2 2), (42, .agg [(l_ [1]), (i_ 2), (l_ [1]), .sl 3 (Γ.n0 + 41) 0 2 2])], Qo Γ.n0 (bxs [(1, .cells ((Qd x2))), (2, .cells ((Qd r4))), (8, .cells ((Qd r12))), (41, .cells ([(i_ 0), (i_ 1), (i_ 1), (i_ 1), (i_ 1), (i_ 1)]))]) M, Γ.n0 + 74⟩; exact Qb0 38 [.int .i64 1] rfl rfl ⟨(.same rfl), (fPtr rfl), (fPtr rfl), (.same rfl), (.same rfl), (.same rfl), (.same rfl), (.same rfl), (fPtr rfl), (.same rfl), (.same rfl), (.same rfl), (.same rfl), (.same rfl), (.same rfl), (.same rfl), (.same rfl), (.same rfl), (.same rfl), (.same rfl), (.same rfl), (.same rfl), (.same rfl), (.same rfl), (.same rfl), (.same rfl), (.same rfl), (.same rfl), (.same rfl), (.same rfl), (.same rfl), (.same rfl), (.same rfl), (.same rfl), (.same rfl), (.same rfl), (.same rfl), (.same rfl), (fSl rfl rfl), (.same rfl), (.same rfl), (fSlO rfl), (WkV.agg (.cons (.same rfl) (.cons (.same rfl) (.cons (fSl rfl rfl) (.cons (fSlO rfl) .nil))))), trivial⟩ ⟨⟨_, rfl, rfl, (.same rfl)⟩, ⟨_, rfl, rfl, (.same rfl)⟩, ⟨_, rfl, rfl, (.same rfl)⟩, ⟨_, rfl, rfl, (.same rfl)⟩, trivial⟩ rfl) ?_
   refine Rn.weak (by show WeakSt Γ _ ⟨look [(0, (b_ false)), (1, .ptr (Γ.n0 + 1) 0), (2, .ptr (Γ.n0 + 2) 0), (3, .d (.lst 1 (List.map (eL 1 (eI .i64)) r5))), (4, (i_ r6)), (5, (l_ r8)), (6, (b_ r9)), (7, (i_ r10)), (8, .ptr (Γ.n0 + 8) 0), (9, (i_ r13)), (10, (Qa x2)), (11, .tup [(Qa r4), .d (.lst 1 (List.map (eL 1 (eI .i64)) r5)), (i_ r6)]), (12, (Qa x2)), (13, (l_ [1])), (14, .tup [(Qa r4), .own 1 (List.map (eL 1 (eI .i64)) r5), (i_ r6)]), (15, (Qa r4)), (16, .d (.lst 1 (List.map (eL 1 (eI .i64)) r5))), (17, (i_ r6)), (18, .tup [(l_ r8), (b_ r9), (i_ r10)]), (19, (Qa x2)), (20, (l_ [1])), (21, (l_ [1])), (22, .tup [(l_ r8), (b_ r9), (i_ r10)]), (23, (l_ r8)), (24, (b_ r9)), (25, (i_ r10)), (26, .tup [(Qa r12), (i_ r13)]), (27, (l_ [1])), (28, .agg [(l_ [1]), (i_ 1), .nils 1, .nils 3]), (29, (l_ [0, 1])), (30, .tup [(Qa r12), (i_ r13)]), (31, (Qa r12)), (32, (i_ r13)), (33, (i_ r6)), (34, (b_ (r6 == 0))), (35, (b_ (r6 == 0))), (36, (Qa r4)), (37, (l_ [1])), (38, (l_ [1])), (39, .agg [(i_ 0), (i_ 1), (i_ 1)]), (40, .agg [(i_ 1), (i_ 1), (i_ 1)]), (41, .d (.lst 3 (List.map Qc [(Qh.mk 0 1 1), (Qh.mk 1 1 1)]))), (42, .agg [(l_ [1]), (i_ 2), (l_ [1]), .d (.lst 3 (List.map Qc [(Qh.mk 0 1 1), (Qh.mk 1 1 1)]))])], Qo Γ.n0 (bxs [(1, .cells ((Qd x2))), (2, .cells ((Qd r4))), (8, .cells ((Qd r12)))]) M, Γ.n0 + 74⟩; exact Qb0 41 [.int .i64 0, .int .i64 1, .int .i64 1, .int .i64 1, .int .i64 1, .int .i64 1] rfl rfl ⟨(.same rfl), (fPtr rfl), (fPtr rfl), (.same rfl), (.same rfl), (.same rfl), (.same rfl), (.same rfl), (fPtr rfl), (.same rfl), (.same rfl), (.same rfl), (.same rfl), (.same rfl), (.same rfl), (.same rfl), (.same rfl), (.same rfl), (.same rfl), (.same rfl), (.same rfl), (.same rfl), (.same rfl), (.same rfl), (.same rfl), (.same rfl), (.same rfl), (.same rfl), (.same rfl), (.same rfl), (.same rfl), (.same rfl), (.same rfl), (.same rfl), (.same rfl), (.same rfl), (.same rfl), (.same rfl), (.same rfl), (.same rfl), (.same rfl), (fSl rfl rfl), (WkV.agg (.cons (.same rfl) (.cons (.same rfl) (.cons (.same rfl) (.cons (fSl rfl rfl) .nil))))), trivial⟩ ⟨⟨_, rfl, rfl, (.same rfl)⟩, ⟨_, rfl, rfl, (.same rfl)⟩, ⟨_, rfl, rfl, (.same rfl)⟩, trivial⟩ rfl) ?_
   obtain ⟨x16, h15, h⟩ := bnd h
   refine Rn.call (args := [(Qa r4), .agg [(l_ [1]), (i_ 2), (l_ [1]), .d (.lst 3 (List.map Qc [(Qh.mk 0 1 1), (Qh.mk 1 1 1)]))]]) (gw rfl hb14) rfl (H_overseerref03_Same _ _ _ h15) pc9 (Rn.pickT (v := (b_ x16)) trivial rfl hb14 rfl (md rfl ?_))
   refine Qbw x16 (fun hb17 => ?_) (fun hb17 => ?_)
   ·replace h := bT hb17 h
    refine Rn.movD (gw rfl hb17) rfl (Rn.bslice (xs := [(i_ 0), (i_ 1)]) (cs := [(i_ 0), (i_ 1)]) (gw rfl hb17) rfl rfl rfl rfl (Rn.bslice (xs := [(i_ 0), (i_ 1), (i_ 2)]) (cs := [(i_ 0), (i_ 1), (i_ 2)]) (gw rfl hb17) rfl rfl rfl rfl (Rn.bslice (xs := [.sl 1 (Γ.n0 + 47) 0 2 2, .sl 1 (Γ.n0 + 48) 0 3 3]) (cs := [.sl 1 (Γ.n0 + 47) 0 2 2, .sl 1 (Γ.n0 + 48) 0 3 3]) (gw rfl hb17) rfl rfl rfl rfl ?_)))
    refine Rn.weak (by show WeakSt Γ _ ⟨look [(0, (b_ false)), (1, .ptr (Γ.n0 + 1) 0), (2, .ptr (Γ.n0 + 2) 0), (3, .d (.lst 1 (List.map (eL 1 (eI .i64)) r5))), (4, (i_ r6)), (5, (l_ r8)), (6, (b_ r9)), (7, (i_ r10)), (8, .ptr (Γ.n0 + 8) 0), (9, (i_ r13)), (10, (Qa x2)), (11, .tup [(Qa r4), .d (.lst 1 (List.map (eL 1 (eI .i64)) r5)), (i_ r6)]), (12, (Qa x2)), (13, (l_ [1])), (14, .tup [(Qa r4), .own 1 (List.map (eL 1 (eI .i64)) r5), (i_ r6)]), (15, (Qa r4)), (16, .d (.lst 1 (List.map (eL 1 (eI .i64)) r5))), (17, (i_ r6)), (18, .tup [(l_ r8), (b_ r9), (i_ r10)]), (19, (Qa x2)), (20, (l_ [1])), (21, (l_ [1])), (22, .tup [(l_ r8), (b_ r9), (i_ r10)]), (23, (l_ r8)), (24, (b_ r9)), (25, (i_ r10)), (26, .tup [(Qa r12), (i_ r13)]), (27, (l_ [1])), (28, .agg [(l_ [1]), (i_ 1), .nils 1, .nils 3]), (29, (l_ [0, 1])), (30, .tup [(Qa r12), (i_ r13)]), (31, (Qa r12)), (32, (i_ r13)), (33, (i_ r6)), (34, (b_ (r6 == 0))), (35, (b_ (r6 == 0))), (36, (Qa r4)), (37, (l_ [1])), (38, (l_ [1])), (39, .agg [(i_ 0), (i_ 1), (i_ 1)]), (40, .agg [(i_ 1), (i_ 1), (i_ 1)]), (41, .d (.lst 3 (List.map Qc [(Qh.mk 0 1 1), (Qh.mk 1 1 1)]))), (42, .agg [(l_ [1]), (i_ 2), (l_ [1]), .d (.lst 3 (List.map Qc [(Qh.mk 0 1 1), (Qh.mk 1 1 1)]))]), (43, (b_ x16)), (44, (b_ x16)), (45, (b_ x16)), (46, .d (.lst 1 (List.map (eL 1 (eI .i64)) r5))), (47, (l_ [0, 1])), (48, .sl 1 (Γ.n0 + 48) 0 3 3), (49, .sl 1 (Γ.n0 + 49) 0 2 2)], Qo Γ.n0 (bxs [(1, .cells ((Qd x2))), (2, .cells ((Qd r4))), (8, .cells ((Qd r12))), (48, .cells ([(i_ 0), (i_ 1), (i_ 2)])), (49, .cells ([(l_ [0, 1]), .sl 1 (Γ.n0 + 48) 0 3 3]))]) M, Γ.n0 + 74⟩; exact Qb0 47 [.int .i64 0, .int .i64 1] rfl rfl ⟨(.same rfl), (fPtr rfl), (fPtr rfl), (.same rfl), (.same rfl), (.same rfl), (.same rfl), (.same rfl), (fPtr rfl), (.same rfl), (.same rfl), (.same rfl), (.same rfl), (.same rfl), (.same rfl), (.same rfl), (.same rfl), (.same rfl), (.same rfl), (.same rfl), (.same rfl), (.same rfl), (.same rfl), (.same rfl), (.same rfl), (.same rfl), (.same rfl), (.same rfl), (.same rfl), (.same rfl), (.same rfl), (.same rfl), (.same rfl), (.same rfl), (.same rfl), (.same rfl), (.same rfl), (.same rfl), (.same rfl), (.same rfl), (.same rfl), (.same rfl), (.same rfl), (.same rfl), (.same rfl), (.same rfl), (.same rfl), (fSl rfl rfl), (fSlO rfl), (fSlO rfl), trivial⟩ ⟨⟨_, rfl, rfl, (.same rfl)⟩, ⟨_, rfl, rfl, (.same rfl)⟩, ⟨_, rfl, rfl, (.same rfl)⟩, ⟨_, rfl, rfl, (.same rfl)⟩, ⟨_, rfl, rfl, (.cons (fSl rfl rfl) (.cons (fSlO rfl) .nil))⟩, trivial⟩ rfl) ?_
    refine Rn.weak (by show WeakSt Γ _ ⟨look [(0, (b_ false)), (1, .ptr (Γ.n0 + 1) 0), (2, .ptr (Γ.n0 + 2) 0), (3, .d (.lst 1 (List.map (eL 1 (eI .i64)) r5))), (4, (i_ r6)), (5, (l_ r8)), (6, (b_ r9)), (7, (i_ r10)), (8, .ptr (Γ.n0 + 8) 0), (9, (i_ r13)), (10, (Qa x2)), (11, .tup [(Qa r4), .d (.lst 1 (List.map (eL 1 (eI .i64)) r5)), (i_ r6)]), (12, (Qa x2)), (13, (l_ [1])), (14, .tup [(Qa r4), .own 1 (List.map (eL 1 (eI .i64)) r5), (i_ r6)]), (15, (Qa r4)), (16, .d (.lst 1 (List.map (eL 1 (eI .i64)) r5))), (17, (i_ r6)), (18, .tup [(l_ r8), (b_ r9), (i_ r10)]), (19, (Qa x2)), (20, (l_ [1])), (21, (l_ [1])), (22, .tup [(l_ r8), (b_ r9), (i_ r10)]), (23, (l_ r8)), (24, (b_ r9)), (25, (i_ r10)), (26, .tup [(Qa r12), (i_ r13)]), (27, (l_ [1])), (28, .agg [(l_ [1]), (i_ 1), .nils 1, .nils 3]), (29, (l_ [0, 1])), (30, .tup [(Qa r12), (i_ r13)]), (31, (Qa r12)), (32, (i_ r13)), (33, (i_ r6)), (34, (b_ (r6 == 0))), (35, (b_ (r6 == 0))), (36, (Qa r4)), (37, (l_ [1])), (38, (l_ [1])), (39, .agg [(i_ 0), (i_ 1), (i_ 1)]), (40, .agg [(i_ 1), (i_ 1), (i_ 1)]), (41, .d (.lst 3 (List.map Qc [(Qh.mk 0 1 1), (Qh.mk 1 1 1)]))), (42, .agg [(l_ [1]), (i_ 2), (l_ [1]), .d (.lst 3 (List.map Qc [(Qh.mk 0 1 1), (Qh.mk 1 1 1)]))]), (43, (b_ x16)), (44, (b_ x16)), (45, (b_ x16)), (46, .d (.lst 1 (List.map (eL 1 (eI .i64)) r5))), (47, (l_ [0, 1])), (48, (l_ [0, 1, 2])), (49, .sl 1 (Γ.n0 + 49) 0 2 2)], Qo Γ.n0 (bxs [(1, .cells ((Qd x2))), (2, .cells ((Qd r4))), (8, .cells ((Qd r12))), (49, .cells ([(l_ [0, 1]), (l_ [0, 1, 2])]))]) M, Γ.n0 + 74⟩; exact Qb0 48 [.int .i64 0, .int .i64 1, .int .i64 2] rfl rfl ⟨(.same rfl), (fPtr rfl), (fPtr rfl), (.same rfl), (.same rfl), (.same rfl), (.same rfl), (.same rfl), (fPtr rfl), (.same rfl), (.same rfl), (.same rfl), (.same rfl), (.same rfl), (.same rfl), (.same rfl), (.same rfl), (.same rfl), (.same rfl), (.same rfl), (.same rfl), (.same rfl), (.same rfl), (.same rfl), (.same rfl), (.same rfl), (.same rfl), (.same rfl), (.same rfl), (.same rfl), (.same rfl), (.same rfl), (.same rfl), (.same rfl), (.same rfl), (.same rfl), (.same rfl), (.same rfl), (.same rfl), (.same rfl), (.same rfl), (.same rfl), (.same rfl), (.same rfl), (.same rfl), (.same rfl), (.same rfl), (.same rfl), (fSl rfl rfl), (fSlO rfl), trivial⟩ ⟨⟨_, rfl, rfl, (.same rfl)⟩, ⟨_, rfl, rfl, (.same rfl)⟩, ⟨_, rfl, rfl, (.same rfl)⟩, ⟨_, rfl, rfl, (.cons (.same rfl) (.cons (fSl rfl rfl) .nil))⟩, trivial⟩ rfl) ?_
    refine Rn.weak (by show WeakSt Γ _ ⟨look [(0, (b_ false)), (1, .ptr (Γ.n0 + 1) 0), (2, .ptr (Γ.n0 + 2) 0), (3, .d (.lst 1 (List.map (eL 1 (eI .i64)) r5))), (4, (i_ r6)), (5, (l_ r8)), (6, (b_ r9)), (7, (i_ r10)), (8, .ptr (Γ.n0 + 8) 0), (9, (i_ r13)), (10, (Qa x2)), (11, .tup [(Qa r4), .d (.lst 1 (List.map (eL 1 (eI .i64)) r5)), (i_ r6)]), (12, (Qa x2)), (13, (l_ [1])), (14, .tup [(Qa r4), .own 1 (List.map (eL 1 (eI .i64)) r5), (i_ r6)]), (15, (Qa r4)), (16, .d (.lst 1 (List.map (eL 1 (eI .i64)) r5))), (17, (i_ r6)), (18, .tup [(l_ r8), (b_ r9), (i_ r10)]), (19, (Qa x2)), (20, (l_ [1])), (21, (l_ [1])), (22, .tup [(l_ r8), (b_ r9), (i_ r10)]), (23, (l_ r8)), (24, (b_ r9)), (25, (i_ r10)), (26, .tup [(Qa r12), (i_ r13)]), (27, (l_ [1])), (28, .agg [(l_ [1]), (i_ 1), .nils 1, .nils 3]), (29, (l_ [0, 1])), (30, .tup [(Qa r12), (i_ r13)]), (31, (Qa r12)), (32, (i_ r13)), (33, (i_ r6)), (34, (b_ (r6 == 0))), (35, (b_ (r6 == 0))), (36, (Qa r4)), (37, (l_ [1])), (38, (l_ [1])), (39, .agg [(i_ 0), (i_ 1), (i_ 1)]), (40, .agg [(i_ 1), (i_ 1), (i_ 1)]), (41, .d (.lst 3 (List.map Qc [(Qh.mk 0 1 1), (Qh.mk 1 1 1)]))), (42, .agg [(l_ [1]), (i_ 2), (l_ [1]), .d (.lst 3 (List.map Qc [(Qh.mk 0 1 1), (Qh.mk 1 1 1)]))]), (43, (b_ x16)), (44, (b_ x16)), (45, (b_ x16)), (46, .d (.lst 1 (List.map (eL 1 (eI .i64)) r5))), (47, (l_ [0, 1])), (48, (l_ [0, 1, 2])), (49, .d (.lst 1 (List.map (eL 1 (eI .i64)) ([[0, 1], [0, 1, 2]]))))], Qo Γ.n0 (bxs [(1, .cells ((Qd x2))), (2, .cells ((Qd r4))), (8, .cells ((Qd r12)))]) M, Γ.n0 + 74⟩; exact Qb0 49 [.lst 1 (List.map (eI .i64) [0, 1]), .lst 1 (List.map (eI .i64) [0, 1, 2])] rfl rfl ⟨(.same rfl), (fPtr rfl), (fPtr rfl), (.same rfl), (.same rfl), (.same rfl), (.same rfl), (.same rfl), (fPtr rfl), (.same rfl), (.same rfl), (.same rfl), (.same rfl), (.same rfl), (.same rfl), (.same rfl), (.same rfl), (.same rfl), (.same rfl), (.same rfl), (.same rfl), (.same rfl), (.same rfl), (.same rfl), (.same rfl), (.same rfl), (.same rfl), (.same rfl), (.same rfl), (.same rfl), (.same rfl), (.same rfl), (.same rfl), (.same rfl), (.same rfl), (.same rfl), (.same rfl), (.same rfl), (.same rfl), (.same rfl), (.same rfl), (.same rfl), (.same rfl), (.same rfl), (.same rfl), (.same rfl), (.same rfl), (.same rfl), (.same rfl), (fSl rfl rfl), trivial⟩ ⟨⟨_, rfl, rfl, (.same rfl)⟩, ⟨_, rfl, rfl, (.same rfl)⟩, ⟨_, rfl, rfl, (.same rfl)⟩, trivial⟩ rfl) ?_
    obtain ⟨x19, h18, h⟩ := bnd h
    refine Rn.call (args := [.d (.lst 1 (List.map (eL 1 (eI .i64)) r5)), .d (.lst 1 (List.map (eL 1 (eI .i64)) ([[0, 1], [0, 1, 2]])))]) (gw rfl hb17) rfl (H_overseerlaw03_SameWords _ _ _ h18) pc9 (Rn.pickT (v := (b_ x19)) trivial rfl hb17 rfl (md rfl ?_))
    refine Qbw x19 (fun hb20 => ?_) (fun hb20 => ?_)
    ·replace h := bT hb20 h
     refine Rn.movD (gw rfl hb20) rfl (Rn.bin (gw rfl hb20) rfl rfl rfl (Rn.pickT (v := (b_ (r10 == 0))) trivial rfl hb20 rfl (md rfl ?_)))
     refine Qbw (r10 == 0) (fun hb21 => ?_) (fun hb21 => ?_)
     ·replace h := bT hb21 h
      refine Rn.movD (gw rfl hb21) rfl (Rn.pickT (v := (b_ r9)) trivial rfl hb21 rfl (md rfl ?_))
      refine Qbw r9 (fun hb22 => ?_) (fun hb22 => ?_)
      ·replace h := bT hb22 h
       refine Rn.movD (gw rfl hb22) rfl (Rn.bslice (xs := [(i_ 0), (i_ 1)]) (cs := [(i_ 0), (i_ 1)]) (gw rfl hb22) rfl rfl rfl rfl ?_)
       refine Rn.weak (by show WeakSt Γ _ ⟨look [(0, (b_ false)), (1, .ptr (Γ.n0 + 1) 0), (2, .ptr (Γ.n0 + 2) 0), (3, .d (.lst 1 (List.map (eL 1 (eI .i64)) r5))), (4, (i_ r6)), (5, (l_ r8)), (6, (b_ r9)), (7, (i_ r10)), (8, .ptr (Γ.n0 + 8) 0), (9, (i_ r13)), (10, (Qa x2)), (11, .tup [(Qa r4), .d (.lst 1 (List.map (eL 1 (eI .i64)) r5)), (i_ r6)]), (12, (Qa x2)), (13, (l_ [1])), (14, .tup [(Qa r4), .own 1 (List.map (eL 1 (eI .i64)) r5), (i_ r6)]), (15, (Qa r4)), (16, .d (.lst 1 (List.map (eL 1 (eI .i64)) r5))), (17, (i_ r6)), (18, .tup [(l_ r8), (b_ r9), (i_ r10)]), (19, (Qa x2)), (20, (l_ [1])), (21, (l_ [1])), (22, .tup [(l_ r8), (b_ r9), (i_ r10)]), (23, (l_ r8)), (24, (b_ r9)), (25, (i_ r10)), (26, .tup [(Qa r12), (i_ r13)]), (27, (l_ [1])), (28, .agg [(l_ [1]), (i_ 1), .nils 1, .nils 3]), (29, (l_ [0, 1])), (30, .tup [(Qa r12), (i_ r13)]), (31, (Qa r12)), (32, (i_ r13)), (33, (i_ r6)), (34, (b_ (r6 == 0))), (35, (b_ (r6 == 0))), (36, (Qa r4)), (37, (l_ [1])), (38, (l_ [1])), (39, .agg [(i_ 0), (i_ 1), (i_ 1)]), (40, .agg [(i_ 1), (i_ 1), (i_ 1)]), (41, .d (.lst 3 (List.map Qc [(Qh.mk 0 1 1), (Qh.mk 1 1 1)]))), (42, .agg [(l_ [1]), (i_ 2), (l_ [1]), .d (.lst 3 (List.map Qc [(Qh.mk 0 1 1), (Qh.mk 1 1 1)]))]), (43, (b_ x16)), (44, (b_ x16)), (45, (b_ x16)), (46, .d (.lst 1 (List.map (eL 1 (eI .i64)) r5))), (47, (l_ [0, 1])), (48, (l_ [0, 1, 2])), (49, .d (.lst 1 (List.map (eL 1 (eI .i64)) ([[0, 1], [0, 1, 2]])))), (50, (b_ x19)), (51, (b_ x19)), (52, (b_ x19)), (53, (i_ r10)), (54, (b_ (r10 == 0))), (55, (b_ (r10 == 0))), (56, (b_ (r10 == 0))), (57, (b_ r9)), (58, (b_ r9)), (59, (b_ r9)), (60, (l_ r8)), (61, (l_ [0, 1]))], Qo Γ.n0 (bxs [(1, .cells ((Qd x2))), (2, .cells ((Qd r4))), (8, .cells ((Qd r12)))]) M, Γ.n0 + 74⟩; exact Qb0 61 [.int .i64 0, .int .i64 1] rfl rfl ⟨(.same rfl), (fPtr rfl), (fPtr rfl), (.same rfl), (.same rfl), (.same rfl), (.same rfl), (.same rfl), (fPtr rfl), (.same rfl), (.same rfl), (.same rfl), (.same rfl), (.same rfl), (.same rfl), (.same rfl), (.same rfl), (.same rfl), (.same rfl), (.same rfl), (.same rfl), (.same rfl), (.same rfl), (.same rfl), (.same rfl), (.same rfl), (.same rfl), (.same rfl), (.same rfl), (.same rfl), (.same rfl), (.same rfl), (.same rfl), (.same rfl), (.same rfl), (.same rfl), (.same rfl), (.same rfl), (.same rfl), (.same rfl), (.same rfl), (.same rfl), (.same rfl), (.same rfl), (.same rfl), (.same rfl), (.same rfl), (.same rfl), (.same rfl), (.same rfl), (.same rfl), (.same rfl), (.same rfl), (.same rfl), (.same rfl), (.same rfl), (.same rfl), (.same rfl), (.same rfl), (.same rfl), (.same rfl), (fSl rfl rfl), trivial⟩ ⟨⟨_, rfl, rfl, (.same rfl)⟩, ⟨_, rfl, rfl, (.same rfl)⟩, ⟨_, rfl, rfl, (.same rfl)⟩, trivial⟩ rfl) ?_
       obtain ⟨x24, h23, h⟩ := bnd h
       refine Rn.call (args := [(l_ r8), (l_ [0, 1])]) (gw rfl hb22) rfl (H_overseerref03_SameInts _ _ _ h23) pc9 (Rn.pickT (v := (b_ x24)) trivial rfl hb22 rfl (md rfl ?_))
       refine Qbw x24 (fun hb25 => ?_) (fun hb25 => ?_)
       ·replace h := bT hb25 h
        refine Rn.movD (gw rfl hb25) rfl (Rn.bin (gw rfl hb25) rfl rfl rfl (Rn.pickT (v := (b_ (r13 == 0))) trivial rfl hb25 rfl (md rfl ?_)))
        refine Qbw (r13 == 0) (fun hb26 => ?_) (fun hb26 => ?_)
        ·replace h := bT hb26 h
         refine Rn.fldP (o' := 3) (gw rfl hb26) rfl rfl (Rn.load (v := .d (.lst 3 (List.map Qc r12.Edges))) (gw rfl hb26) rfl (Ql rfl) rfl rfl (Rn.lenD (gw rfl hb26) rfl (Rn.bin (gw rfl hb26) rfl rfl rfl (Rn.pickT (v := (b_ ((r12.Edges.length : Int) == 1))) trivial rfl hb26 rfl (md rfl (Rn.nil ?_))))))
         replace h := si h; subst h
         exact Qm [] ⟨(sm rfl), trivial⟩ ⟨⟨_, rfl, rfl, (.same rfl)⟩, ⟨_, rfl, rfl, (.same rfl)⟩, ⟨_, rfl, rfl, (.same rfl)⟩, trivial⟩ rfl
        ·replace h := bF hb26 h
         refine Rn.sk (nw rfl hb26) (Rn.sk (nw rfl hb26) (Rn.sk (nw rfl hb26) (Rn.sk (nw rfl hb26) (Rn.pickF (v := (b_ false)) trivial rfl hb26 rfl (md rfl (Rn.nil ?_))))))
         replace h := si h; subst h
         exact Qm [] ⟨(sm rfl), trivial⟩ ⟨⟨_, rfl, rfl, (.same rfl)⟩, ⟨_, rfl, rfl, (.same rfl)⟩, ⟨_, rfl, rfl, (.same rfl)⟩, trivial⟩ rfl
       ·replace h := bF hb25 h
        refine Rn.sk (nw rfl hb25) (Rn.sk (nw rfl hb25) (Rn.pickF (v := (b_ false)) trivial rfl hb25 rfl (md rfl (Rn.sk (nw (b := false) rfl rfl) (Rn.sk (nw (b := false) rfl rfl) (Rn.sk (nw (b := false) rfl rfl) (Rn.sk (nw (b := false) rfl rfl) (Rn.pickF (v := (b_ false)) trivial rfl rfl rfl (md rfl (Rn.nil ?_))))))))))
        replace h := si h; subst h
        exact Qm [] ⟨(sm rfl), trivial⟩ ⟨⟨_, rfl, rfl, (.same rfl)⟩, ⟨_, rfl, rfl, (.same rfl)⟩, ⟨_, rfl, rfl, (.same rfl)⟩, trivial⟩ rfl
      ·replace h := bF hb22 h
       refine Rn.sk (nw rfl hb22) (Rn.sk (nw rfl hb22) (Rn.sk (nw rfl hb22) (Rn.pickF (v := (b_ false)) trivial rfl hb22 rfl (md rfl (Rn.sk (nw (b := false) rfl rfl) (Rn.sk (nw (b := false) rfl rfl) (Rn.pickF (v := (b_ false)) trivial rfl rfl rfl (md rfl (Rn.sk (nw (b := false) rfl rfl) (Rn.sk (nw (b := false) rfl rfl) (Rn.sk (nw (b := false) rfl rfl) (Rn.sk (nw (b := false) rfl rfl) (Rn.pickF (v := (b_ false)) trivial rfl rfl rfl (md rfl (Rn.nil ?_)))))))))))))))
       replace h := si h; subst h
       exact Qm [] ⟨(sm rfl), trivial⟩ ⟨⟨_, rfl, rfl, (.same rfl)⟩, ⟨_, rfl, rfl, (.same rfl)⟩, ⟨_, rfl, rfl, (.same rfl)⟩, trivial⟩ rfl
     ·replace h := bF hb21 h
      refine Rn.sk (nw rfl hb21) (Rn.pickF (v := (b_ false)) trivial rfl hb21 rfl (md rfl (Rn.sk (nw (b := false) rfl rfl) (Rn.sk (nw (b := false) rfl rfl) (Rn.sk (nw (b := false) rfl rfl) (Rn.pickF (v := (b_ false)) trivial rfl rfl rfl (md rfl (Rn.sk (nw (b := false) rfl rfl) (Rn.sk (nw (b := false) rfl rfl) (Rn.pickF (v := (b_ false)) trivial rfl rfl rfl (md rfl (Rn.sk (nw (b := false) rfl rfl) (Rn.sk (nw (b := false) rfl rfl) (Rn.sk (nw (b := false) rfl rfl) (Rn.sk (nw (b := false) rfl rfl) (Rn.pickF (v := (b_ false)) trivial rfl rfl rfl (md rfl (Rn.nil ?_))))))))))))))))))
      replace h := si h; subst h
      exact Qm [] ⟨(sm rfl), trivial⟩ ⟨⟨_, rfl, rfl, (.same rfl)⟩, ⟨_, rfl, rfl, (.same rfl)⟩, ⟨_, rfl, rfl, (.same rfl)⟩, trivial⟩ rfl
    ·replace h := bF hb20 h
     refine Rn.sk (nw rfl hb20) (Rn.sk (nw rfl hb20) (Rn.pickF (v := (b_ false)) trivial rfl hb20 rfl (md rfl (Rn.sk (nw (b := false) rfl rfl) (Rn.pickF (v := (b_ false)) trivial rfl rfl rfl (md rfl (Rn.sk (nw (b := false) rfl rfl) (Rn.sk (nw (b := false) rfl rfl) (Rn.sk (nw (b := false) rfl rfl) (Rn.pickF (v := (b_ false)) trivial rfl rfl rfl (md rfl (Rn.sk (nw (b := false) rfl rfl) (Rn.sk (nw (b := false) rfl rfl) (Rn.pickF (v := (b_ false)) trivial rfl rfl rfl (md rfl (Rn.sk (nw (b := false) rfl rfl) (Rn.sk (nw (b := false) rfl rfl) (Rn.sk (nw (b := false) rfl rfl) (Rn.sk (nw (b := false) rfl rfl) (Rn.pickF (v := (b_ false)) trivial rfl rfl rfl (md rfl (Rn.nil ?_))))))))))))))))))))))
     replace h := si h; subst h
     exact Qm [] ⟨(sm rfl), trivial⟩ ⟨⟨_, rfl, rfl, (.same rfl)⟩, ⟨_, rfl, rfl, (.same rfl)⟩, ⟨_, rfl, rfl, (.same rfl)⟩, trivial⟩ rfl
   ·replace h := bF hb17 h
    refine Rn.sk (nw rfl hb17) (Rn.sk (nw rfl hb17) (Rn.sk (nw rfl hb17) (Rn.sk (nw rfl hb17) (Rn.sk (nw rfl hb17) (Rn.pickF (v := (b_ false)) trivial rfl hb17 rfl (md rfl (Rn.sk (nw (b := false) rfl rfl) (Rn.sk (nw (b := false) rfl rfl) (Rn.pickF (v := (b_ false)) trivial rfl rfl rfl (md rfl (Rn.sk (nw (b := false) rfl rfl) (Rn.pickF (v := (b_ false)) trivial rfl rfl rfl (md rfl (Rn.sk (nw (b := false) rfl rfl) (Rn.sk (nw (b := false) rfl rfl) (Rn.sk (nw (b := false) rfl rfl) (Rn.pickF (v := (b_ false)) trivial rfl rfl rfl (md rfl (Rn.sk (nw (b := false) rfl rfl) (Rn.sk (nw (b := false) rfl rfl) (Rn.pickF (v := (b_ false)) trivial rfl rfl rfl (md rfl (Rn.sk (nw (b := false) rfl rfl) (Rn.sk (nw (b := false) rfl rfl) (Rn.sk (nw (b := false) rfl rfl) (Rn.sk (nw (b := false) rfl rfl) (Rn.pickF (v := (b_ false)) trivial rfl rfl rfl (md rfl (Rn.nil ?_)))))))))))))))))))))))))))))
    replace h := si h; subst h
    exact Qm [] ⟨(sm rfl), trivial⟩ ⟨⟨_, rfl, rfl, (.same rfl)⟩, ⟨_, rfl, rfl, (.same rfl)⟩, ⟨_, rfl, rfl, (.same rfl)⟩, trivial⟩ rfl
  ·replace h := bF hb14 h
   refine Rn.sk (nw rfl hb14) (Rn.sk (nw rfl hb14) (Rn.sk (nw rfl hb14) (Rn.sk (nw rfl hb14) (Rn.sk (nw rfl hb14) (Rn.sk (nw rfl hb14) (Rn.sk (nw rfl hb14) (Rn.sk (nw rfl hb14) (Rn.pickF (v := (b_ false)) trivial rfl hb14 rfl (md rfl (Rn.sk (nw (b := false) rfl rfl) (Rn.sk (nw (b := false) rfl rfl) (Rn.sk (nw (b := false) rfl rfl) (Rn.sk (nw (b := false) rfl rfl) (Rn.sk (nw (b := false) rfl rfl) (Rn.pickF (v := (b_ false)) trivial rfl rfl rfl (md rfl (Rn.sk (nw (b := false) rfl rfl) (Rn.sk (nw (b := false) rfl rfl) (Rn.pickF (v := (b_ false)) trivial rfl rfl rfl (md rfl (Rn.sk (nw (b := false) rfl rfl) (Rn.pickF (v := (b_ false)) trivial rfl rfl rfl (md rfl (Rn.sk (nw (b := false) rfl rfl) (Rn.sk (nw (b := false) rfl rfl) (Rn.sk (nw (b := false) rfl rfl) (Rn.pickF (v := (b_ false)) trivial rfl rfl rfl (md rfl (Rn.sk (nw (b := false) rfl rfl) (Rn.sk (nw (b := false) rfl rfl) (Rn.pickF (v := (b_ false)) trivial rfl rfl rfl (md rfl (Rn.sk (nw (b := false) rfl rfl) (Rn.sk (nw (b := false) rfl rfl) (Rn.sk (nw (b := false) rfl rfl) (Rn.sk (nw (b := false) rfl rfl) (Rn.pickF (v := (b_ false)) trivial rfl rfl rfl (md rfl (Rn.nil ?_)))))))))))))))))))))))))))))))))))))))
   replace h := si h; subst h
   exact Qm [] ⟨(sm rfl), trivial⟩ ⟨⟨_, rfl, rfl, (.same rfl)⟩, ⟨_, rfl, rfl, (.same rfl)⟩, ⟨_, rfl, rfl, (.same rfl)⟩, trivial⟩ rfl
 ·obtain ⟨x27, rfl⟩ : ∃ x, x = z := ⟨_, rfl⟩
  refine Tr.ret ?_
  replace h := si h; subst h
  exact ⟨.inr rfl, (b_ x27), rfl, fun _ _ _ _ h => h, trivial, fun k hk => Qg hk⟩
theorem Qsv {P : Program} {c : Nat} (hcf : Qz P c = some Qgt) (fuel : Nat) : Qey P c (Q2 fuel) := by
 intro l1 most2 r h
 refine Qcv hcf rfl fun Γ M hP hnt hM => ?_
 subst hP
 refine Tr.init [(0, (l_ l1)), (1, (i_ most2))] rfl ?_
 unfold Q2 at h
 unfold Qgt
 refine sr ((md rfl (nt ((Tr.seq (sr ((md rfl (nt ((Tr.block ?_)))))))))))
 refine Tr.loop (mk := fun (i3 : Int) => ⟨look [(0, (l_ l1)), (1, (i_ most2)), (5, (i_ i3))], Qo Γ.n0 (bxs []) M, Γ.n0 + 39⟩) h (by exact Qr ⟨(sm rfl), (sm rfl), (sm rfl), trivial⟩ trivial rfl) (fun k4 z h => ?_)
 ·obtain ⟨i3, rfl⟩ : ∃ x, x = z := ⟨_, rfl⟩
  replace h : _ = some _ := h
  refine Tr.seq (sr ((md rfl (md rfl (Rn.lenD trivial rfl (Rn.bin trivial rfl rfl rfl (Rn.nil (toN ?_))))))))
  refine Tr.cond rfl (fun hb5 => ?_) (fun hb5 => ?_)
  ·replace h := ifT hb5 h
   refine Tr.skip (toN (Tr.seq (Tr.block (Tr.seq ?_))))
   refine Tr.cutB (fun (x11 : Bool) => ⟨look [(0, (l_ l1)), (1, (i_ most2)), (5, (i_ i3)), (24, (b_ x11))], Qo Γ.n0 (bxs []) M, Γ.n0 + 39⟩) h (fun z h => ?_) (fun z h => ?_)
   ·refine Tr.rgn (md rfl (md rfl ?_))
    obtain ⟨x6, h7, h⟩ := bnd h
    refine Rn.idxD (e := (eI .i64)) trivial rfl rfl h7 (Rn.loadC (x := .int .i64 x6) trivial rfl (Rn.bin trivial rfl rfl rfl (md rfl ?_)))
    refine Qbw (decide (x6 < 0)) (fun hb8 => ?_) (fun hb8 => ?_)
    ·replace h := ifT hb8 h
     refine Rn.sk (nw rfl hb8) (Rn.sk (nw rfl hb8) (Rn.sk (nw rfl hb8) (Rn.sk (nw rfl hb8) (Rn.sk (nw rfl hb8) (Rn.sk (nw rfl hb8) (Rn.pickT (v := (b_ true)) trivial rfl hb8 rfl (Rn.nil ?_)))))))
     replace h := si h; subst h
     exact Qm [] ⟨(sm rfl), (sm rfl), (sm rfl), (sm rfl), trivial⟩ trivial rfl
    ·replace h := ifF hb8 h
     refine Rn.movD (gw rfl hb8) rfl (Rn.movD (gw rfl hb8) rfl ?_)
     obtain ⟨x9, h10, h⟩ := bnd h
     refine Rn.idxD (e := (eI .i64)) (gw rfl hb8) rfl rfl h10 (Rn.loadC (x := .int .i64 x9) (gw rfl hb8) rfl (Rn.movD (gw rfl hb8) rfl (Rn.bin (gw rfl hb8) rfl rfl rfl (Rn.pickF (v := (b_ (decide (x9 ≥ most2)))) trivial rfl hb8 rfl (Rn.nil ?_)))))
     replace h := si h; subst h
     exact Qm [] ⟨(sm rfl), (sm rfl), (sm rfl), (sm rfl), trivial⟩ trivial rfl
   ·obtain ⟨x11, rfl⟩ : ∃ x, x = z := ⟨_, rfl⟩
    refine Tr.cond rfl (fun hb12 => ?_) (fun hb12 => ?_)
    ·replace h := bT hb12 h
     refine sr ((md rfl (nt ((Tr.ret ?_)))))
     replace h := si h; subst h
     exact ⟨.inr rfl, (i_ 2), rfl, fun _ _ _ _ h => h, trivial, fun k hk => Qg hk⟩
    ·replace h := bF hb12 h
     refine Tr.skip (toN ?_)
     refine Tr.cutB (fun (x18 : Bool) => ⟨look [(0, (l_ l1)), (1, (i_ most2)), (5, (i_ i3)), (38, (b_ x18))], Qo Γ.n0 (bxs []) M, Γ.n0 + 39⟩) h (fun z h => ?_) (fun z h => ?_)
     ·refine Tr.rgnD (by decide) ?_
      refine md rfl (Rn.bin trivial rfl rfl rfl (md rfl ?_))
      refine Qbw (decide (i3 > 0)) (fun hb13 => ?_) (fun hb13 => ?_)
      ·replace h := ifT hb13 h
       refine Rn.movD (gw rfl hb13) rfl (Rn.movD (gw rfl hb13) rfl ?_)
       obtain ⟨x14, h15, h⟩ := bnd h
       refine Rn.idxD (e := (eI .i64)) (gw rfl hb13) rfl rfl h15 (Rn.loadC (x := .int .i64 x14) (gw rfl hb13) rfl (Rn.movD (gw rfl hb13) rfl (Rn.movD (gw rfl hb13) rfl (Rn.bin (gw rfl hb13) rfl rfl rfl ?_))))
       obtain ⟨x16, h17, h⟩ := bnd h
       refine Rn.idxD (e := (eI .i64)) (gw rfl hb13) rfl rfl h17 (Rn.loadC (x := .int .i64 x16) (gw rfl hb13) rfl (Rn.bin (gw rfl hb13) rfl rfl rfl (Rn.pickT (v := (b_ (decide (x14 ≤ x16)))) trivial rfl hb13 rfl ?_)))
       refine Rn.nil ⟨rfl, ?_⟩
       replace h := si h; subst h
       exact Qm [] ⟨(sm rfl), (sm rfl), (sm rfl), (sm rfl), trivial⟩ trivial rfl
      ·replace h := ifF hb13 h
       refine Rn.sk (nw rfl hb13) (Rn.sk (nw rfl hb13) (Rn.sk (nw rfl hb13) (Rn.sk (nw rfl hb13) (Rn.sk (nw rfl hb13) (Rn.sk (nw rfl hb13) (Rn.sk (nw rfl hb13) (Rn.sk (nw rfl hb13) (Rn.sk (nw rfl hb13) (Rn.sk (nw rfl hb13) (Rn.pickF (v := (b_ false)) trivial rfl hb13 rfl ?_))))))))))
       refine Rn.nil ⟨rfl, ?_⟩
       replace h := si h; subst h
       exact Qm [] ⟨(sm rfl), (sm rfl), (sm rfl), (sm rfl), trivial⟩ trivial rfl
     ·obtain ⟨x18, rfl⟩ : ∃ x, x = z := ⟨_, rfl⟩
      refine Tr.cond rfl (fun hb19 => ?_) (fun hb19 => ?_)
      ·replace h := bT hb19 h
       refine sr ((md rfl (nt ((Tr.ret ?_)))))
       replace h := si h; subst h
       exact ⟨.inr rfl, (i_ 5), rfl, fun _ _ _ _ h => h, trivial, fun k hk => Qg hk⟩
      ·replace h := bF hb19 h
       refine Tr.skip (toN (Tr.rgn (md rfl (Rn.bin trivial rfl rfl rfl (md rfl (Rn.nil ?_))))))
       exact ⟨_, h, (by exact Qr ⟨(sm rfl), (sm rfl), (sm rfl), trivial⟩ trivial rfl)⟩
  ·replace h := ifF hb5 h
   refine Tr.exit (toN (sr ((md rfl (nt ((Tr.ret ?_)))))))
   replace h := si h; subst h
   exact ⟨.inr rfl, (i_ 0), rfl, fun _ _ _ _ h => h, trivial, fun k hk => Qg hk⟩
theorem Quz {P : Program} {c : Nat} (hcf : Qz P c = some Qg9) (fuel : Nat) : Qg8 P c (Qb1 fuel) := by
 intro l1 n2 r h
 refine Qcv hcf rfl fun Γ M hP hnt hM => ?_
 subst hP
 refine Tr.init [(0, (l_ l1)), (1, (i_ n2))] rfl ?_
 unfold Qb1 at h
 unfold Qg9
 refine sr ((md rfl (nt ((Tr.seq (sr ((md rfl (nt ((Tr.block ?_)))))))))))
 refine Tr.loop (mk := fun (i3 : Int) => ⟨look [(0, (l_ l1)), (1, (i_ n2)), (5, (i_ i3))], Qo Γ.n0 (bxs []) M, Γ.n0 + 18⟩) h (by exact Qr ⟨(sm rfl), (sm rfl), (sm rfl), trivial⟩ trivial rfl) (fun k4 z h => ?_)
 ·obtain ⟨i3, rfl⟩ : ∃ x, x = z := ⟨_, rfl⟩
  replace h : _ = some _ := h
  refine Tr.seq (sr ((md rfl (md rfl (Rn.lenD trivial rfl (Rn.bin trivial rfl rfl rfl (Rn.nil (toN ?_))))))))
  refine Tr.cond rfl (fun hb5 => ?_) (fun hb5 => ?_)
  ·replace h := ifT hb5 h
   refine Tr.skip (toN (Tr.seq (Tr.block (sr ((md rfl (md rfl ?_)))))))
   obtain ⟨x6, h7, h⟩ := bnd h
   refine Rn.idxD (e := (eI .i64)) trivial rfl rfl h7 (Rn.loadC (x := .int .i64 x6) trivial rfl (md rfl (Rn.bin trivial rfl rfl rfl (Rn.nil (toN ?_)))))
   refine Tr.cond rfl (fun hb8 => ?_) (fun hb8 => ?_)
   ·replace h := bT hb8 h
    refine sr ((md rfl (nt ((Tr.ret ?_)))))
    replace h := si h; subst h
    exact ⟨.inr rfl, (b_ true), rfl, fun _ _ _ _ h => h, trivial, fun k hk => Qg hk⟩
   ·replace h := bF hb8 h
    refine Tr.skip (toN (Tr.rgn (md rfl (Rn.bin trivial rfl rfl rfl (md rfl (Rn.nil ?_))))))
    exact ⟨_, h, (by exact Qr ⟨(sm rfl), (sm rfl), (sm rfl), trivial⟩ trivial rfl)⟩
  ·replace h := ifF hb5 h
   refine Tr.exit (toN (sr ((md rfl (nt ((Tr.ret ?_)))))))
   replace h := si h; subst h
   exact ⟨.inr rfl, (b_ false), rfl, fun _ _ _ _ h => h, trivial, fun k hk => Qg hk⟩
theorem Qpp {P : Program} {c : Nat} {Q2 : (List Int) → Int → Option Int} {Qb1 : (List Int) → Int → Option Bool}
    (H_overseerref03_List : Qey P 8 Q2)
    (H_overseerref03_has : Qg8 P 48 Qb1) (hcf : Qz P c = some Qga) (fuel : Nat) : Qf9 P c (Qbr Q2 Qb1 fuel) := by
 intro a1 r h
 refine Qcv hcf rfl fun Γ M hP hnt hM => ?_
 subst hP
 refine Tr.init [(0, (Qa a1))] rfl ?_
 unfold Qbr at h
 unfold Qga
 refine sr ((Rn.box (v := (Qa a1)) (cs := (Qd a1)) trivial rfl rfl rfl rfl rfl (md rfl (nt ((Tr.seq (sr ((Rn.fldP (o' := 0) trivial rfl rfl (Rn.load (v := (l_ a1.Alphabet)) trivial rfl (Ql rfl) rfl rfl ?_))))))))))
 obtain ⟨x3, h2, h⟩ := bnd h
 refine Rn.call (args := [(l_ a1.Alphabet), (i_ 32)]) trivial rfl (H_overseerref03_List _ _ _ h2) pc9 (md rfl (nt ((sr ((md rfl (Rn.bin trivial rfl rfl rfl (Rn.nil (toN ?_)))))))))
 refine Tr.cond rfl (fun hb4 => ?_) (fun hb4 => ?_)
 ·replace h := bT hb4 h
  refine sr ((md rfl (md rfl (nt ((Tr.ret ?_))))))
  replace h := si h; subst h
  exact ⟨.inr rfl, (i_ x3), rfl, fun _ _ _ _ h => h, trivial, fun k hk => Qg hk⟩
 ·replace h := bF hb4 h
  refine Tr.skip (toN (Tr.seq (sr ((Rn.fldP (o' := 1) trivial rfl rfl (Rn.load (v := (i_ a1.States)) trivial rfl (Ql rfl) rfl rfl (Rn.bin trivial rfl rfl rfl (Rn.nil (toN ?_)))))))))
  refine Tr.cond rfl (fun hb5 => ?_) (fun hb5 => ?_)
  ·replace h := ifT hb5 h
   refine sr ((md rfl (nt ((Tr.ret ?_)))))
   replace h := si h; subst h
   exact ⟨.inr rfl, (i_ 2), rfl, fun _ _ _ _ h => h, trivial, fun k hk => Qg hk⟩
  ·replace h := ifF hb5 h
   refine Tr.skip (toN (Tr.seq (sr ((Rn.fldP (o' := 1) trivial rfl rfl (Rn.load (v := (i_ a1.States)) trivial rfl (Ql rfl) rfl rfl (Rn.bin trivial rfl rfl rfl (Rn.nil (toN ?_)))))))))
   refine Tr.cond rfl (fun hb6 => ?_) (fun hb6 => ?_)
   ·replace h := ifT hb6 h
    refine sr ((md rfl (nt ((Tr.ret ?_)))))
    replace h := si h; subst h
    exact ⟨.inr rfl, (i_ 3), rfl, fun _ _ _ _ h => h, trivial, fun k hk => Qg hk⟩
   ·replace h := ifF hb6 h
    refine Tr.skip (toN (Tr.seq (sr ((Rn.fldP (o' := 2) trivial rfl rfl (Rn.load (v := (l_ a1.Marked)) trivial rfl (Ql rfl) rfl rfl (Rn.fldP (o' := 1) trivial rfl rfl (Rn.load (v := (i_ a1.States)) trivial rfl (Ql rfl) rfl rfl ?_))))))))
    obtain ⟨x8, h7, h⟩ := bnd h
    refine Rn.call (args := [(l_ a1.Marked), (i_ a1.States)]) trivial rfl (H_overseerref03_List _ _ _ h7) pc9 (md rfl (nt ((sr ((md rfl (Rn.bin trivial rfl rfl rfl (Rn.nil (toN ?_)))))))))
    refine Tr.cond rfl (fun hb9 => ?_) (fun hb9 => ?_)
    ·replace h := bT hb9 h
     refine sr ((md rfl (md rfl (nt ((Tr.ret ?_))))))
     replace h := si h; subst h
     exact ⟨.inr rfl, (i_ x8), rfl, fun _ _ _ _ h => h, trivial, fun k hk => Qg hk⟩
    ·replace h := bF hb9 h
     refine Tr.skip (toN (Tr.seq (sr ((md rfl (nt ((Tr.block ?_))))))))
     refine Tr.loop (mk := fun (i10 : Int) => ⟨look [(1, .ptr (Γ.n0 + 1) 0), (5, (i_ i10))], Qo Γ.n0 (bxs [(1, .cells ((Qd a1)))]) M, Γ.n0 + 105⟩) h (by exact Qr ⟨(kPtr rfl), (sm rfl), trivial⟩ ⟨⟨_, rfl, rfl, (.same rfl)⟩, trivial⟩ rfl) (fun k11 z h => ?_)
     ·obtain ⟨i10, rfl⟩ : ∃ x, x = z := ⟨_, rfl⟩
      replace h : _ = some _ := h
      refine Tr.seq (sr ((md rfl (Rn.fldP (o' := 3) trivial rfl rfl (Rn.load (v := .d (.lst 3 (List.map Qc a1.Edges))) trivial rfl (Ql rfl) rfl rfl (Rn.lenD trivial rfl (Rn.bin trivial rfl rfl rfl (Rn.nil (toN ?_)))))))))
      refine Tr.cond rfl (fun hb12 => ?_) (fun hb12 => ?_)
      ·replace h := ifT hb12 h
       refine Tr.skip (toN (Tr.seq (Tr.block (sr ((Rn.fldP (o' := 3) trivial rfl rfl (Rn.load (v := .d (.lst 3 (List.map Qc a1.Edges))) trivial rfl (Ql rfl) rfl rfl (md rfl ?_))))))))
       obtain ⟨x13, h14, h⟩ := bnd h
       refine Rn.idxD (e := Qc) trivial rfl rfl h14 (Rn.loadCA (vs := (Q8 x13)) trivial rfl rfl rfl (Rn.alloc trivial rfl (Rn.store (v := (Qbn x13)) (cs' := (Q8 x13)) trivial rfl rfl rfl rfl rfl rfl (nt ((Tr.seq ?_))))))
       refine Tr.cutB (fun (x18 : Bool) => ⟨look [(1, .ptr (Γ.n0 + 1) 0), (5, (i_ i10)), (6, .ptr (Γ.n0 + 6) 0), (60, (b_ x18))], Qo Γ.n0 (bxs [(1, .cells ((Qd a1))), (6, .cells ((Q8 x13)))]) M, Γ.n0 + 105⟩) h (fun z h => ?_) (fun z h => ?_)
       ·refine Tr.rgn (Rn.fldP (o' := 0) trivial rfl rfl (Rn.load (v := (i_ x13.From)) trivial rfl (Ql rfl) rfl rfl (Rn.bin trivial rfl rfl rfl (md rfl ?_))))
        refine Qbw (decide (x13.From < 0)) (fun hb15 => ?_) (fun hb15 => ?_)
        ·replace h := ifT hb15 h
         refine Rn.sk (nw rfl hb15) (Rn.sk (nw rfl hb15) (Rn.sk (nw rfl hb15) (Rn.sk (nw rfl hb15) (Rn.sk (nw rfl hb15) (Rn.pickT (v := (b_ true)) trivial rfl hb15 rfl (md rfl (Rn.sk (nw (b := true) rfl rfl) (Rn.sk (nw (b := true) rfl rfl) (Rn.sk (nw (b := true) rfl rfl) (Rn.pickT (v := (b_ true)) trivial rfl rfl rfl (md rfl (Rn.sk (nw (b := true) rfl rfl) (Rn.sk (nw (b := true) rfl rfl) (Rn.sk (nw (b := true) rfl rfl) (Rn.sk (nw (b := true) rfl rfl) (Rn.sk (nw (b := true) rfl rfl) (Rn.pickT (v := (b_ true)) trivial rfl rfl rfl (Rn.nil ?_))))))))))))))))))
         replace h := si h; subst h
         exact Qm [] ⟨(kPtr rfl), (sm rfl), (kPtr rfl), (sm rfl), trivial⟩ ⟨⟨_, rfl, rfl, (.same rfl)⟩, ⟨_, rfl, rfl, (.same rfl)⟩, trivial⟩ rfl
        ·replace h := ifF hb15 h
         refine Rn.fldP (o' := 0) (gw rfl hb15) rfl rfl (Rn.load (v := (i_ x13.From)) (gw rfl hb15) rfl (Ql rfl) rfl rfl (Rn.fldP (o' := 1) (gw rfl hb15) rfl rfl (Rn.load (v := (i_ a1.States)) (gw rfl hb15) rfl (Ql rfl) rfl rfl (Rn.bin (gw rfl hb15) rfl rfl rfl (Rn.pickF (v := (b_ (decide (x13.From ≥ a1.States)))) trivial rfl hb15 rfl (md rfl ?_))))))
         refine Qbw (decide (x13.From ≥ a1.States)) (fun hb16 => ?_) (fun hb16 => ?_)
         ·replace h := ifT hb16 h
          refine Rn.sk (nw rfl hb16) (Rn.sk (nw rfl hb16) (Rn.sk (nw rfl hb16) (Rn.pickT (v := (b_ true)) trivial rfl hb16 rfl (md rfl (Rn.sk (nw (b := true) rfl rfl) (Rn.sk (nw (b := true) rfl rfl) (Rn.sk (nw (b := true) rfl rfl) (Rn.sk (nw (b := true) rfl rfl) (Rn.sk (nw (b := true) rfl rfl) (Rn.pickT (v := (b_ true)) trivial rfl rfl rfl (Rn.nil ?_)))))))))))
          replace h := si h; subst h
          exact Qm [] ⟨(kPtr rfl), (sm rfl), (kPtr rfl), (sm rfl), trivial⟩ ⟨⟨_, rfl, rfl, (.same rfl)⟩, ⟨_, rfl, rfl, (.same rfl)⟩, trivial⟩ rfl
         ·replace h := ifF hb16 h
          refine Rn.fldP (o' := 2) (gw rfl hb16) rfl rfl (Rn.load (v := (i_ x13.To)) (gw rfl hb16) rfl (Ql rfl) rfl rfl (Rn.bin (gw rfl hb16) rfl rfl rfl (Rn.pickF (v := (b_ (decide (x13.To < 0)))) trivial rfl hb16 rfl (md rfl ?_))))
          refine Qbw (decide (x13.To < 0)) (fun hb17 => ?_) (fun hb17 => ?_)
          ·replace h := ifT hb17 h
           refine Rn.sk (nw rfl hb17) (Rn.sk (nw rfl hb17) (Rn.sk (nw rfl hb17) (Rn.sk (nw rfl hb17) (Rn.sk (nw rfl hb17) (Rn.pickT (v := (b_ true)) trivial rfl hb17 rfl (Rn.nil ?_))))))
           replace h := si h; subst h
           exact Qm [] ⟨(kPtr rfl), (sm rfl), (kPtr rfl), (sm rfl), trivial⟩ ⟨⟨_, rfl, rfl, (.same rfl)⟩, ⟨_, rfl, rfl, (.same rfl)⟩, trivial⟩ rfl
          ·replace h := ifF hb17 h
           refine Rn.fldP (o' := 2) (gw rfl hb17) rfl rfl (Rn.load (v := (i_ x13.To)) (gw rfl hb17) rfl (Ql rfl) rfl rfl (Rn.fldP (o' := 1) (gw rfl hb17) rfl rfl (Rn.load (v := (i_ a1.States)) (gw rfl hb17) rfl (Ql rfl) rfl rfl (Rn.bin (gw rfl hb17) rfl rfl rfl (Rn.pickF (v := (b_ (decide (x13.To ≥ a1.States)))) trivial rfl hb17 rfl (Rn.nil ?_))))))
           replace h := si h; subst h
           exact Qm [] ⟨(kPtr rfl), (sm rfl), (kPtr rfl), (sm rfl), trivial⟩ ⟨⟨_, rfl, rfl, (.same rfl)⟩, ⟨_, rfl, rfl, (.same rfl)⟩, trivial⟩ rfl
       ·obtain ⟨x18, rfl⟩ : ∃ x, x = z := ⟨_, rfl⟩
        refine Tr.cond rfl (fun hb19 => ?_) (fun hb19 => ?_)
        ·replace h := bT hb19 h
         refine sr ((md rfl (nt ((Tr.ret ?_)))))
         replace h := si h; subst h
         exact ⟨.inr rfl, (i_ 2), rfl, fun _ _ _ _ h => h, trivial, fun k hk => Qg hk⟩
        ·replace h := bF hb19 h
         refine Tr.skip (toN (Tr.seq (sr ((Rn.fldP (o' := 0) trivial rfl rfl (Rn.load (v := (l_ a1.Alphabet)) trivial rfl (Ql rfl) rfl rfl (Rn.fldP (o' := 1) trivial rfl rfl (Rn.load (v := (i_ x13.Event)) trivial rfl (Ql rfl) rfl rfl ?_))))))))
         obtain ⟨x21, h20, h⟩ := bnd h
         refine Rn.call (args := [(l_ a1.Alphabet), (i_ x13.Event)]) trivial rfl (H_overseerref03_has _ _ _ h20) pc9 (Rn.un trivial rfl rfl (Rn.nil (toN ?_)))
         refine Tr.cond rfl (fun hb22 => ?_) (fun hb22 => ?_)
         ·have hb22 := nT' hb22
          replace h := bF hb22 h
          refine sr ((md rfl (nt ((Tr.ret ?_)))))
          replace h := si h; subst h
          exact ⟨.inr rfl, (i_ 9), rfl, fun _ _ _ _ h => h, trivial, fun k hk => Qg hk⟩
         ·have hb22 := nF' hb22
          replace h := bT hb22 h
          refine Tr.skip (toN ?_)
          refine Tr.cutB (fun (x32 : Bool) => ⟨look [(1, .ptr (Γ.n0 + 1) 0), (5, (i_ i10)), (104, (b_ x32))], Qo Γ.n0 (bxs [(1, .cells ((Qd a1))), (6, .cells ((Q8 x13)))]) M, Γ.n0 + 105⟩) h (fun z h => ?_) (fun z h => ?_)
          ·refine Tr.rgnD (by decide) ?_
           refine md rfl (Rn.bin trivial rfl rfl rfl (md rfl ?_))
           refine Qbw (decide (i10 > 0)) (fun hb23 => ?_) (fun hb23 => ?_)
           ·replace h := ifT hb23 h
            refine Rn.fldP (o' := 0) (gw rfl hb23) rfl rfl (Rn.load (v := (i_ x13.From)) (gw rfl hb23) rfl (Ql rfl) rfl rfl (Rn.fldP (o' := 3) (gw rfl hb23) rfl rfl (Rn.load (v := .d (.lst 3 (List.map Qc a1.Edges))) (gw rfl hb23) rfl (Ql rfl) rfl rfl (Rn.movD (gw rfl hb23) rfl (Rn.bin (gw rfl hb23) rfl rfl rfl ?_)))))
            obtain ⟨x24, h25, h⟩ := bnd h
            refine Rn.idxD (e := Qc) (gw rfl hb23) rfl rfl h25 (Rn.fldC (gw rfl hb23) rfl (Rn.loadC (x := .int .i64 x24.From) (gw rfl hb23) rfl (Rn.bin (gw rfl hb23) rfl rfl rfl (Rn.movD (gw rfl hb23) rfl ?_))))
            refine Qbw (decide (x13.From < x24.From)) (fun hb26 => ?_) (fun hb26 => ?_)
            ·replace h := ifT hb26 h
             refine Rn.sk (nw rfl hb26) (Rn.sk (nw rfl hb26) (Rn.sk (nw rfl hb26) (Rn.sk (nw rfl hb26) (Rn.sk (nw rfl hb26) (Rn.sk (nw rfl hb26) (Rn.sk (nw rfl hb26) (Rn.sk (nw rfl hb26) (Rn.sk (nw rfl hb26) (Rn.sk (nw rfl hb26) (Rn.sk (nw rfl hb26) (Rn.sk (nu rfl) (Rn.sk (nu rfl) (Rn.sk (nu rfl) (Rn.sk (nu rfl) (Rn.sk (nu rfl) (Rn.sk (nu rfl) (Rn.sk (nu rfl) (Rn.sk (nu rfl) (Rn.sk (nu rfl) (Rn.sk (nu rfl) (Rn.sk (nw rfl hb26) (Rn.pickT (v := (b_ true)) (gw rfl hb23) rfl hb26 rfl (Rn.pickT (v := (b_ true)) trivial rfl hb23 rfl ?_)))))))))))))))))))))))
             refine Rn.nil ⟨rfl, ?_⟩
             replace h := si h; subst h
             exact Qm [] ⟨(kPtr rfl), (sm rfl), (sm rfl), trivial⟩ ⟨⟨_, rfl, rfl, (.same rfl)⟩, ⟨_, rfl, rfl, (.same rfl)⟩, trivial⟩ rfl
            ·replace h := ifF hb26 h
             refine Rn.fldP (o' := 0) (gw rfl hb26) rfl rfl (Rn.load (v := (i_ x13.From)) (gw rfl hb26) rfl (Ql rfl) rfl rfl (Rn.fldP (o' := 3) (gw rfl hb26) rfl rfl (Rn.load (v := .d (.lst 3 (List.map Qc a1.Edges))) (gw rfl hb26) rfl (Ql rfl) rfl rfl (Rn.movD (gw rfl hb26) rfl (Rn.bin (gw rfl hb26) rfl rfl rfl ?_)))))
             obtain ⟨x27, h28, h⟩ := bnd h
             refine Rn.idxD (e := Qc) (gw rfl hb26) rfl rfl h28 (Rn.fldC (gw rfl hb26) rfl (Rn.loadC (x := .int .i64 x27.From) (gw rfl hb26) rfl (Rn.bin (gw rfl hb26) rfl rfl rfl (Rn.movD (gw rfl hb26) rfl ?_))))
             refine Qbw (x13.From == x27.From) (fun hb29 => ?_) (fun hb29 => ?_)
             ·replace h := bT hb29 h
              refine Rn.fldP (o' := 1) (gw rfl hb29) rfl rfl (Rn.load (v := (i_ x13.Event)) (gw rfl hb29) rfl (Ql rfl) rfl rfl (Rn.fldP (o' := 3) (gw rfl hb29) rfl rfl (Rn.load (v := .d (.lst 3 (List.map Qc a1.Edges))) (gw rfl hb29) rfl (Ql rfl) rfl rfl (Rn.movD (gw rfl hb29) rfl (Rn.bin (gw rfl hb29) rfl rfl rfl ?_)))))
              obtain ⟨x30, h31, h⟩ := bnd h
              refine Rn.idxD (e := Qc) (gw rfl hb29) rfl rfl h31 (Rn.fldC (gw rfl hb29) rfl (Rn.loadC (x := .int .i64 x30.Event) (gw rfl hb29) rfl (Rn.bin (gw rfl hb29) rfl rfl rfl (Rn.pickT (v := (b_ (decide (x13.Event ≤ x30.Event)))) (gw rfl hb26) rfl hb29 rfl (Rn.pickF (v := (b_ (decide (x13.Event ≤ x30.Event)))) (gw rfl hb23) rfl hb26 rfl (Rn.pickT (v := (b_ (decide (x13.Event ≤ x30.Event)))) trivial rfl hb23 rfl ?_))))))
              refine Rn.nil ⟨rfl, ?_⟩
              replace h := si h; subst h
              exact Qm [] ⟨(kPtr rfl), (sm rfl), (sm rfl), trivial⟩ ⟨⟨_, rfl, rfl, (.same rfl)⟩, ⟨_, rfl, rfl, (.same rfl)⟩, trivial⟩ rfl
             ·replace h := bF hb29 h
              refine Rn.sk (nw rfl hb29) (Rn.sk (nw rfl hb29) (Rn.sk (nw rfl hb29) (Rn.sk (nw rfl hb29) (Rn.sk (nw rfl hb29) (Rn.sk (nw rfl hb29) (Rn.sk (nw rfl hb29) (Rn.sk (nw rfl hb29) (Rn.sk (nw rfl hb29) (Rn.sk (nw rfl hb29) (Rn.pickF (v := (b_ false)) (gw rfl hb26) rfl hb29 rfl (Rn.pickF (v := (b_ false)) (gw rfl hb23) rfl hb26 rfl (Rn.pickT (v := (b_ false)) trivial rfl hb23 rfl ?_))))))))))))
              refine Rn.nil ⟨rfl, ?_⟩
              replace h := si h; subst h
              exact Qm [] ⟨(kPtr rfl), (sm rfl), (sm rfl), trivial⟩ ⟨⟨_, rfl, rfl, (.same rfl)⟩, ⟨_, rfl, rfl, (.same rfl)⟩, trivial⟩ rfl
           ·replace h := ifF hb23 h
            refine Rn.sk (nw rfl hb23) (Rn.sk (nw rfl hb23) (Rn.sk (nw rfl hb23) (Rn.sk (nw rfl hb23) (Rn.sk (nw rfl hb23) (Rn.sk (nw rfl hb23) (Rn.sk (nw rfl hb23) (Rn.sk (nw rfl hb23) (Rn.sk (nw rfl hb23) (Rn.sk (nw rfl hb23) (Rn.sk (nw rfl hb23) (Rn.sk (nu rfl) (Rn.sk (nu rfl) (Rn.sk (nu rfl) (Rn.sk (nu rfl) (Rn.sk (nu rfl) (Rn.sk (nu rfl) (Rn.sk (nu rfl) (Rn.sk (nu rfl) (Rn.sk (nu rfl) (Rn.sk (nu rfl) (Rn.sk (nu rfl) (Rn.sk (nu rfl) (Rn.sk (nu rfl) (Rn.sk (nu rfl) (Rn.sk (nu rfl) (Rn.sk (nu rfl) (Rn.sk (nu rfl) (Rn.sk (nu rfl) (Rn.sk (nu rfl) (Rn.sk (nu rfl) (Rn.sk (nu rfl) (Rn.sk (nu rfl) (Rn.sk (nw rfl hb23) (Rn.pickF (v := (b_ false)) trivial rfl hb23 rfl ?_))))))))))))))))))))))))))))))))))
            refine Rn.nil ⟨rfl, ?_⟩
            replace h := si h; subst h
            exact Qm [] ⟨(kPtr rfl), (sm rfl), (sm rfl), trivial⟩ ⟨⟨_, rfl, rfl, (.same rfl)⟩, ⟨_, rfl, rfl, (.same rfl)⟩, trivial⟩ rfl
          ·obtain ⟨x32, rfl⟩ : ∃ x, x = z := ⟨_, rfl⟩
           refine Tr.cond rfl (fun hb33 => ?_) (fun hb33 => ?_)
           ·replace h := bT hb33 h
            refine sr ((md rfl (nt ((Tr.ret ?_)))))
            replace h := si h; subst h
            exact ⟨.inr rfl, (i_ 5), rfl, fun _ _ _ _ h => h, trivial, fun k hk => Qg hk⟩
           ·replace h := bF hb33 h
            refine Tr.skip (toN (Tr.rgn (md rfl (Rn.bin trivial rfl rfl rfl (md rfl (Rn.nil ?_))))))
            exact ⟨_, h, (by exact Qr ⟨(kPtr rfl), (sm rfl), trivial⟩ ⟨⟨_, rfl, rfl, (.same rfl)⟩, trivial⟩ rfl)⟩
      ·replace h := ifF hb12 h
       refine Tr.exit (toN (sr ((md rfl (nt ((Tr.ret ?_)))))))
       replace h := si h; subst h
       exact ⟨.inr rfl, (i_ 0), rfl, fun _ _ _ _ h => h, trivial, fun k hk => Qg hk⟩
theorem Qwb {P : Program} {c : Nat} {Qp : Qb → (List Int) → Option Int} {Qq : Qb → (List Int) → Option Qe} {Qx : (List Int) → Int → Option Int} {Qs : Qe → (List Int) → (List Int) → Option ((List Int))}
    (H_projection_check : Qcm P 30 Qp)
    (H_projection_observe : Qcl P 41 Qq)
    (H_projection_checkSet : Qdd P 49 Qx)
    (H_projection_observer_reach : Qcd P 50 Qs) (hcf : Qz P c = some Qh7) : Qh6 P c (Qb8 Qp Qq Qx Qs) := by
 intro a1 xfrom2 events3 r h
 refine Qcv hcf rfl fun Γ M hP hnt hM => ?_
 subst hP
 refine Tr.init [(0, (Qa a1)), (1, (l_ xfrom2)), (2, (l_ events3))] rfl ?_
 unfold Qb8 at h
 unfold Qh7
 refine sr ((Rn.box (v := (Qa a1)) (cs := (Qd a1)) trivial rfl rfl rfl rfl rfl (Rn.movTC (v := .nils 1) trivial (md rfl (nt ((Tr.seq (sr ((Rn.load (v := (Qa a1)) trivial rfl (Ql rfl) rfl rfl (md rfl ?_)))))))))))
 obtain ⟨x5, h4, h⟩ := bnd h
 refine Rn.call (args := [(Qa a1), (l_ events3)]) trivial rfl (H_projection_check _ _ _ h4) pc9 (md rfl (nt ((sr ((md rfl (Rn.bin trivial rfl rfl rfl (Rn.nil (toN ?_)))))))))
 refine Tr.cond rfl (fun hb6 => ?_) (fun hb6 => ?_)
 ·replace h := bT hb6 h
  refine sr ((md rfl (Rn.movTC (v := .nils 1) trivial (md rfl (nt ((Tr.ret ?_)))))))
  replace h := si h; subst h
  exact ⟨.inr rfl, .tup [.nils 1, (i_ x5)], res2 rfl rfl, (WkV.tup (.cons (WkV.nilsD _) (.cons (.same rfl) .nil))).rd, ⟨trivial, trivial, trivial⟩, fun k hk => Qg hk⟩
 ·replace h := bF hb6 h
  refine Tr.skip (toN (Tr.seq (sr ((md rfl (Rn.fldP (o' := 1) trivial rfl rfl (Rn.load (v := (i_ a1.States)) trivial rfl (Ql rfl) rfl rfl ?_)))))))
  obtain ⟨x8, h7, h⟩ := bnd h
  refine Rn.call (args := [(l_ xfrom2), (i_ a1.States)]) trivial rfl (H_projection_checkSet _ _ _ h7) pc9 (md rfl (nt ((sr ((md rfl (Rn.bin trivial rfl rfl rfl (Rn.nil (toN ?_)))))))))
  refine Tr.cond rfl (fun hb9 => ?_) (fun hb9 => ?_)
  ·replace h := bT hb9 h
   refine sr ((md rfl (Rn.movTC (v := .nils 1) trivial (md rfl (nt ((Tr.ret ?_)))))))
   replace h := si h; subst h
   exact ⟨.inr rfl, .tup [.nils 1, (i_ x8)], res2 rfl rfl, (WkV.tup (.cons (WkV.nilsD _) (.cons (.same rfl) .nil))).rd, ⟨trivial, trivial, trivial⟩, fun k hk => Qg hk⟩
  ·replace h := bF hb9 h
   refine Tr.skip (toN (sr ((Rn.load (v := (Qa a1)) trivial rfl (Ql rfl) rfl rfl ?_))))
   obtain ⟨x11, h10, h⟩ := bnd h
   refine Rn.call (args := [(Qa a1), .nils 1]) trivial rfl (fun M2 nb2 => ACalls.weak (args' := [(Qa a1), (l_ [])]) (H_projection_observe _ _ _ h10 M2 nb2) (.cons (sm rfl) (.cons (WkV.nilsD _) .nil)) rfl) pc9 ?_
   refine md rfl (md rfl ?_)
   obtain ⟨x13, h12, h⟩ := bnd h
   refine Rn.call (args := [(Qf x11), (l_ xfrom2), (l_ events3)]) trivial rfl (H_projection_observer_reach _ _ _ _ h12) pc9 (Rn.movTD trivial rfl (md rfl (nt ((Tr.ret ?_)))))
   replace h := si h; subst h
   exact ⟨.inr rfl, .tup [(l_ x13), (i_ 0)], res2 rfl rfl, (WkV.tup (.cons (.same rfl) (.cons (.same rfl) .nil))).rd, ⟨trivial, trivial, trivial⟩, fun k hk => Qg hk⟩
theorem Qpq {P : Program} {c : Nat} {Qp : Qb → (List Int) → Option Int} {Qq : Qb → (List Int) → Option Qe} {Qy : Qe → Option ((List Int))} {Qu : Qe → (List Int) → Int → Option ((List Int))} {Qt : Qe → (List Int) → Option Bool}
    (H_projection_check : Qcm P 30 Qp)
    (H_projection_observe : Qcl P 41 Qq)
    (H_projection_observer_start : Qcw P 42 Qy)
    (H_projection_observer_next : Qck P 45 Qu)
    (H_projection_observer_known : Qce P 46 Qt) (hcf : Qz P c = some Qgc) (fuel : Nat) : Qgb P c (Qbs Qp Qq Qy Qu Qt fuel) := by
 intro a1 onto2 observation3 r h
 refine Qcv hcf rfl fun Γ M hP hnt hM => ?_
 subst hP
 refine Tr.init [(0, (Qa a1)), (1, (l_ onto2)), (2, (l_ observation3))] rfl ?_
 unfold Qbs at h
 unfold Qgc
 refine sr ((Rn.box (v := (Qa a1)) (cs := (Qd a1)) trivial rfl rfl rfl rfl rfl (Rn.movTC (v := .nils 1) trivial (md rfl (nt ((Tr.seq (sr ((Rn.load (v := (Qa a1)) trivial rfl (Ql rfl) rfl rfl (md rfl ?_)))))))))))
 obtain ⟨x5, h4, h⟩ := bnd h
 refine Rn.call (args := [(Qa a1), (l_ onto2)]) trivial rfl (H_projection_check _ _ _ h4) pc9 (md rfl (nt ((sr ((md rfl (Rn.bin trivial rfl rfl rfl (Rn.nil (toN ?_)))))))))
 refine Tr.cond rfl (fun hb6 => ?_) (fun hb6 => ?_)
 ·replace h := bT hb6 h
  refine sr ((md rfl (Rn.movTC (v := .nils 1) trivial (md rfl (nt ((Tr.ret ?_)))))))
  replace h := si h; subst h
  exact ⟨.inr rfl, .tup [.nils 1, (i_ x5)], res2 rfl rfl, (WkV.tup (.cons (WkV.nilsD _) (.cons (.same rfl) .nil))).rd, ⟨trivial, trivial, trivial⟩, fun k hk => Qg hk⟩
 ·replace h := bF hb6 h
  refine Tr.skip (toN (sr ((Rn.load (v := (Qa a1)) trivial rfl (Ql rfl) rfl rfl (md rfl ?_)))))
  obtain ⟨x8, h7, h⟩ := bnd h
  refine Rn.call (args := [(Qa a1), (l_ onto2)]) trivial rfl (H_projection_observe _ _ _ h7) pc9 (Rn.alloc trivial rfl (Rn.storeT (v := (Qf x8)) (ds := (Qj x8)) (cs' := (Qj x8)) trivial rfl rfl rfl rfl rfl rfl rfl (nt ((Tr.seq (sr ((Rn.load (v := (Qf x8)) trivial rfl (Ql rfl) rfl rfl (md rfl ?_)))))))))
  obtain ⟨x10, h9, h⟩ := bnd h
  refine Rn.call (args := [(Qf x8), (l_ observation3)]) trivial rfl (H_projection_observer_known _ _ _ h9) pc9 (Rn.un trivial rfl rfl (Rn.nil (toN ?_)))
  refine Tr.cond rfl (fun hb11 => ?_) (fun hb11 => ?_)
  ·have hb11 := nT' hb11
   replace h := bF hb11 h
   refine sr ((Rn.movTC (v := .nils 1) trivial (md rfl (nt ((Tr.ret ?_))))))
   replace h := si h; subst h
   exact ⟨.inr rfl, .tup [.nils 1, (i_ 9)], res2 rfl rfl, (WkV.tup (.cons (WkV.nilsD _) (.cons (.same rfl) .nil))).rd, ⟨trivial, trivial, trivial⟩, fun k hk => Qg hk⟩
  ·have hb11 := nF' hb11
   replace h := bT hb11 h
   refine Tr.skip (toN (sr ((Rn.load (v := (Qf x8)) trivial rfl (Ql rfl) rfl rfl ?_))))
   obtain ⟨x13, h12, h⟩ := bnd h
   refine Rn.call (args := [(Qf x8)]) trivial rfl (H_projection_observer_start _ _ h12) pc9 (Rn.movTD trivial rfl (Rn.nil (toN ?_)))
   refine Tr.cutB (fun (l22 : List Int) => ⟨look [(10, (l_ l22))], Qo Γ.n0 (bxs [(3, .cells ((Qd a1))), (9, .cells ((Qj x8)))]) M, Γ.n0 + 40⟩) h (fun z h => ?_) (fun z h => ?_)
   ·refine sr ((md rfl (Rn.lenD trivial rfl (md rfl (nt ((Tr.block ?_)))))))
    refine Tr.loop (mk := fun ((l14, x15) : (List Int) × Int) => ⟨look [(9, .ptr (Γ.n0 + 9) 0), (10, (l_ l14)), (28, (l_ observation3)), (29, (i_ (observation3.length : Int))), (30, (i_ x15))], Qo Γ.n0 (bxs [(3, .cells ((Qd a1))), (9, .cells ((Qj x8)))]) M, Γ.n0 + 40⟩) h (by exact Qr ⟨(kPtr rfl), (sm rfl), (sm rfl), (sm rfl), (sm rfl), trivial⟩ ⟨⟨_, rfl, rfl, (.same rfl)⟩, ⟨_, rfl, rfl, (.same rfl)⟩, trivial⟩ rfl) (fun k16 z h => ?_)
    ·obtain ⟨l14, x15⟩ := z
     replace h : _ = some _ := h
     refine sr ((Rn.bin trivial rfl rfl rfl (nt ((Tr.seq ?_)))))
     refine Tr.cond rfl (fun hb17 => ?_) (fun hb17 => ?_)
     ·replace h := ifT hb17 h
      refine Tr.skip (toN (Tr.seq (Tr.block (Tr.seq (Tr.rgn ?_)))))
      obtain ⟨x18, h19, h⟩ := bnd h
      refine Rn.idxD (e := (eI .i64)) trivial rfl rfl h19 (Rn.loadC (x := .int .i64 x18) trivial rfl (md rfl (nt ((Tr.rgn (Rn.load (v := (Qf x8)) trivial rfl (Ql rfl) rfl rfl (md rfl (md rfl ?_))))))))
      obtain ⟨x21, h20, h⟩ := bnd h
      refine Rn.call (args := [(Qf x8), (l_ l14), (i_ x18)]) trivial rfl (H_projection_observer_next _ _ _ _ h20) pc9 (Rn.movTD trivial rfl (nt ((Tr.rgn (Rn.bin trivial rfl rfl rfl (md rfl (Rn.nil ?_)))))))
      exact ⟨_, h, (by exact Qr ⟨(kPtr rfl), (sm rfl), (sm rfl), (sm rfl), (sm rfl), trivial⟩ ⟨⟨_, rfl, rfl, (.same rfl)⟩, ⟨_, rfl, rfl, (.same rfl)⟩, trivial⟩ rfl)⟩
     ·replace h := ifF hb17 h
      refine Tr.exit ?_
      replace h := si h; subst h
      exact Qm [] ⟨(sm rfl), trivial⟩ ⟨⟨_, rfl, rfl, (.same rfl)⟩, ⟨_, rfl, rfl, (.same rfl)⟩, trivial⟩ rfl
   ·obtain ⟨l22, rfl⟩ : ∃ x, x = z := ⟨_, rfl⟩
    refine sr ((Rn.movTD trivial rfl (Rn.movTD trivial rfl (md rfl (nt ((Tr.ret ?_)))))))
    replace h := si h; subst h
    exact ⟨.inr rfl, .tup [(l_ l22), (i_ 0)], res2 rfl rfl, (WkV.tup (.cons (.same rfl) (.cons (.same rfl) .nil))).rd, ⟨trivial, trivial, trivial⟩, fun k hk => Qg hk⟩
theorem Qyh {P : Program} {c : Nat} {Qp : Qb → (List Int) → Option Int} {Qq : Qb → (List Int) → Option Qe} {Qu : Qe → (List Int) → Int → Option ((List Int))} {Qt : Qe → (List Int) → Option Bool} {Qx : (List Int) → Int → Option Int}
    (H_projection_check : Qcm P 30 Qp)
    (H_projection_observe : Qcl P 41 Qq)
    (H_projection_observer_next : Qck P 45 Qu)
    (H_projection_observer_known : Qce P 46 Qt)
    (H_projection_checkSet : Qdd P 49 Qx) (hcf : Qz P c = some Qjd) : Qjc P c (Qci Qp Qq Qu Qt Qx) := by
 intro a1 onto2 estimate3 event4 r h
 refine Qcv hcf rfl fun Γ M hP hnt hM => ?_
 subst hP
 refine Tr.init [(0, (Qa a1)), (1, (l_ onto2)), (2, (l_ estimate3)), (3, (i_ event4))] rfl ?_
 unfold Qci at h
 unfold Qjd
 refine sr ((Rn.box (v := (Qa a1)) (cs := (Qd a1)) trivial rfl rfl rfl rfl rfl (Rn.movTC (v := .nils 1) trivial (md rfl (nt ((Tr.seq (sr ((Rn.load (v := (Qa a1)) trivial rfl (Ql rfl) rfl rfl (md rfl ?_)))))))))))
 obtain ⟨x6, h5, h⟩ := bnd h
 refine Rn.call (args := [(Qa a1), (l_ onto2)]) trivial rfl (H_projection_check _ _ _ h5) pc9 (md rfl (nt ((sr ((md rfl (Rn.bin trivial rfl rfl rfl (Rn.nil (toN ?_)))))))))
 refine Tr.cond rfl (fun hb7 => ?_) (fun hb7 => ?_)
 ·replace h := bT hb7 h
  refine sr ((md rfl (Rn.movTC (v := .nils 1) trivial (md rfl (nt ((Tr.ret ?_)))))))
  replace h := si h; subst h
  exact ⟨.inr rfl, .tup [.nils 1, (i_ x6)], res2 rfl rfl, (WkV.tup (.cons (WkV.nilsD _) (.cons (.same rfl) .nil))).rd, ⟨trivial, trivial, trivial⟩, fun k hk => Qg hk⟩
 ·replace h := bF hb7 h
  refine Tr.skip (toN (Tr.seq (sr ((md rfl (Rn.fldP (o' := 1) trivial rfl rfl (Rn.load (v := (i_ a1.States)) trivial rfl (Ql rfl) rfl rfl ?_)))))))
  obtain ⟨x9, h8, h⟩ := bnd h
  refine Rn.call (args := [(l_ estimate3), (i_ a1.States)]) trivial rfl (H_projection_checkSet _ _ _ h8) pc9 (md rfl (nt ((sr ((md rfl (Rn.bin trivial rfl rfl rfl (Rn.nil (toN ?_)))))))))
  refine Tr.cond rfl (fun hb10 => ?_) (fun hb10 => ?_)
  ·replace h := bT hb10 h
   refine sr ((md rfl (Rn.movTC (v := .nils 1) trivial (md rfl (nt ((Tr.ret ?_)))))))
   replace h := si h; subst h
   exact ⟨.inr rfl, .tup [.nils 1, (i_ x9)], res2 rfl rfl, (WkV.tup (.cons (WkV.nilsD _) (.cons (.same rfl) .nil))).rd, ⟨trivial, trivial, trivial⟩, fun k hk => Qg hk⟩
  ·replace h := bF hb10 h
   refine Tr.skip (toN (sr ((Rn.load (v := (Qa a1)) trivial rfl (Ql rfl) rfl rfl (md rfl ?_)))))
   obtain ⟨x12, h11, h⟩ := bnd h
   refine Rn.call (args := [(Qa a1), (l_ onto2)]) trivial rfl (H_projection_observe _ _ _ h11) pc9 (Rn.alloc trivial rfl (Rn.storeT (v := (Qf x12)) (ds := (Qj x12)) (cs' := (Qj x12)) trivial rfl rfl rfl rfl rfl rfl rfl (nt ((Tr.seq (sr ((Rn.load (v := (Qf x12)) trivial rfl (Ql rfl) rfl rfl (md rfl (Rn.bslice (xs := [(i_ event4)]) (cs := [(i_ event4)]) trivial rfl rfl rfl rfl ?_))))))))))
   refine Rn.weak (by show WeakSt Γ _ ⟨look [(0, (Qa a1)), (1, (l_ onto2)), (2, (l_ estimate3)), (3, (i_ event4)), (4, .ptr (Γ.n0 + 4) 0), (8, .nils 1), (9, (i_ 0)), (10, (i_ x6)), (11, (i_ x9)), (12, .ptr (Γ.n0 + 12) 0), (13, (Qa a1)), (14, (l_ onto2)), (15, (i_ x6)), (16, (i_ x6)), (17, (b_ (x6 != 0))), (19, (l_ estimate3)), (20, .ptr (Γ.n0 + 4) 1), (21, (i_ a1.States)), (22, (i_ x9)), (23, (i_ x9)), (24, (b_ (x9 != 0))), (26, (Qa a1)), (27, (l_ onto2)), (28, (Qf x12)), (29, (Qf x12)), (30, (i_ event4)), (31, (l_ [event4]))], Qo Γ.n0 (bxs [(4, .cells ((Qd a1))), (12, .cells ((Qj x12)))]) M, Γ.n0 + 38⟩; exact Qb0 31 [.int .i64 event4] rfl rfl ⟨(.same rfl), (.same rfl), (.same rfl), (.same rfl), (fPtr rfl), (.same rfl), (.same rfl), (.same rfl), (.same rfl), (fPtr rfl), (.same rfl), (.same rfl), (.same rfl), (.same rfl), (.same rfl), (.same rfl), (fPtr rfl), (.same rfl), (.same rfl), (.same rfl), (.same rfl), (.same rfl), (.same rfl), (.same rfl), (.same rfl), (.same rfl), (fSl rfl rfl), trivial⟩ ⟨⟨_, rfl, rfl, (.same rfl)⟩, ⟨_, rfl, rfl, (.same rfl)⟩, trivial⟩ rfl) ?_
   obtain ⟨x14, h13, h⟩ := bnd h
   refine Rn.call (args := [(Qf x12), (l_ [event4])]) trivial rfl (H_projection_observer_known _ _ _ h13) pc9 (Rn.un trivial rfl rfl (Rn.nil (toN ?_)))
   refine Tr.cond rfl (fun hb15 => ?_) (fun hb15 => ?_)
   ·have hb15 := nT' hb15
    replace h := bF hb15 h
    refine sr ((Rn.movTC (v := .nils 1) trivial (md rfl (nt ((Tr.ret ?_))))))
    replace h := si h; subst h
    exact ⟨.inr rfl, .tup [.nils 1, (i_ 9)], res2 rfl rfl, (WkV.tup (.cons (WkV.nilsD _) (.cons (.same rfl) .nil))).rd, ⟨trivial, trivial, trivial⟩, fun k hk => Qg hk⟩
   ·have hb15 := nF' hb15
    replace h := bT hb15 h
    refine Tr.skip (toN (sr ((Rn.load (v := (Qf x12)) trivial rfl (Ql rfl) rfl rfl (md rfl (md rfl ?_))))))
    obtain ⟨x17, h16, h⟩ := bnd h
    refine Rn.call (args := [(Qf x12), (l_ estimate3), (i_ event4)]) trivial rfl (H_projection_observer_next _ _ _ _ h16) pc9 (Rn.movTD trivial rfl (md rfl (nt ((Tr.ret ?_)))))
    replace h := si h; subst h
    exact ⟨.inr rfl, .tup [(l_ x17), (i_ 0)], res2 rfl rfl, (WkV.tup (.cons (.same rfl) (.cons (.same rfl) .nil))).rd, ⟨trivial, trivial, trivial⟩, fun k hk => Qg hk⟩
theorem Qsw {P : Program} {c : Nat} (hcf : Qz P c = some Qgv) : Qgu P c (Qbu) := by
 intro a1 r h
 refine Qcv hcf rfl fun Γ M hP hnt hM => ?_
 subst hP
 refine Tr.init [(0, (Qa a1))] rfl ?_
 unfold Qbu at h
 unfold Qgv
 refine sr ((Rn.box (v := (Qa a1)) (cs := (Qd a1)) trivial rfl rfl rfl rfl rfl (md rfl (nt ((sr ((Rn.fldP (o' := 0) trivial rfl rfl (Rn.load (v := (l_ a1.Alphabet)) trivial rfl (Ql rfl) rfl rfl (Rn.lenD trivial rfl (Rn.fldP (o' := 1) trivial rfl rfl (Rn.load (v := (i_ a1.States)) trivial rfl (Ql rfl) rfl rfl (Rn.bin trivial rfl rfl rfl (Rn.fldP (o' := 2) trivial rfl rfl (Rn.load (v := (l_ a1.Marked)) trivial rfl (Ql rfl) rfl rfl (Rn.lenD trivial rfl (Rn.bin trivial rfl rfl rfl (Rn.fldP (o' := 3) trivial rfl rfl (Rn.load (v := .d (.lst 3 (List.map Qc a1.Edges))) trivial rfl (Ql rfl) rfl rfl (Rn.lenD trivial rfl (Rn.bin trivial rfl rfl rfl (Rn.bin trivial rfl rfl rfl (md rfl (nt ((Tr.ret ?_))))))))))))))))))))))))))
 replace h := si h; subst h
 exact ⟨.inr rfl, (b_ ((IntKind.wrap .i64 ((IntKind.wrap .i64 ((IntKind.wrap .i64 ((a1.Alphabet.length : Int) + a1.States)) + (a1.Marked.length : Int))) + (a1.Edges.length : Int))) == 0)), rfl, fun _ _ _ _ h => h, trivial, fun k hk => Qg hk⟩
theorem Qhg {P : Program} {c : Nat} {Qbq : Option Bool} {Q2 : (List Int) → Int → Option Int} {Q7 : Qb → (List Int) → Option (Qb × Int)} {Q6 : Qb → (List Int) → Option (Qb × (List (List Int)) × Int)} {Qbf : Qb → (List Int) → (List Int) → Bool → Option ((List Int) × Bool × Int)} {Qbr : Qb → Option Int} {Qb8 : Qb → (List Int) → (List Int) → Option ((List Int) × Int)} {Qbs : Qb → (List Int) → (List Int) → Option ((List Int) × Int)} {Qci : Qb → (List Int) → (List Int) → Int → Option ((List Int) × Int)} {Qbu : Qb → Option Bool}
    (H_overseerlaw07_known : Qf7 P 7 Qbq)
    (H_overseerref03_List : Qey P 8 Q2)
    (H_projection_Inverse : Qex P 11 Q7)
    (H_projection_Project : Qew P 14 Q6)
    (H_projection_Lift : Qgg P 16 Qbf)
    (H_overseerref03_Check : Qf9 P 21 Qbr)
    (H_projection_Reach : Qh6 P 22 Qb8)
    (H_projection_Estimate : Qgb P 23 Qbs)
    (H_projection_Next : Qjc P 24 Qci)
    (H_overseerlaw07_none : Qgu P 25 Qbu) (hcf : Qz P c = some Qc4) : Qer P c (Qcc Qbq Q2 Q7 Q6 Qbf Qbr Qb8 Qbs Qci Qbu) := by
 intro a1 onto2 r h
 refine Qcv hcf rfl fun Γ M hP hnt hM => ?_
 subst hP
 refine Tr.init [(0, (Qa a1)), (1, (l_ onto2))] rfl ?_
 unfold Qcc at h
 unfold Qc4
 refine sr ((Rn.box (v := (Qa a1)) (cs := (Qd a1)) trivial rfl rfl rfl rfl rfl (md rfl (nt ((Tr.seq ?_))))))
 refine Tr.cutB (fun (x9 : Bool) => ⟨look [(1, (l_ onto2)), (2, .ptr (Γ.n0 + 2) 0), (44, (b_ x9))], Qo Γ.n0 (bxs [(2, .cells ((Qd a1)))]) M, Γ.n0 + 157⟩) h (fun z h => ?_) (fun z h => ?_)
 ·refine Tr.rgn ?_
  obtain ⟨x4, h3, h⟩ := bnd h
  refine Rn.call (args := []) trivial rfl (H_overseerlaw07_known _ h3) pc9 (Rn.un trivial rfl rfl (md rfl ?_))
  refine Qbw x4 (fun hb5 => ?_) (fun hb5 => ?_)
  ·replace h := bT hb5 h
   refine Rn.fldP (o' := 0) (gw rfl (nT hb5)) rfl rfl (Rn.load (v := (l_ a1.Alphabet)) (gw rfl (nT hb5)) rfl (Ql rfl) rfl rfl (Rn.lenD (gw rfl (nT hb5)) rfl (Rn.bin (gw rfl (nT hb5)) rfl rfl rfl (Rn.pickF (v := (b_ (decide ((a1.Alphabet.length : Int) > 12)))) trivial rfl (nT hb5) rfl (md rfl ?_)))))
   refine Qbw (decide ((a1.Alphabet.length : Int) > 12)) (fun hb6 => ?_) (fun hb6 => ?_)
   ·replace h := ifT hb6 h
    refine Rn.sk (nw rfl hb6) (Rn.sk (nw rfl hb6) (Rn.sk (nw rfl hb6) (Rn.sk (nw rfl hb6) (Rn.pickT (v := (b_ true)) trivial rfl hb6 rfl (md rfl (Rn.sk (nw (b := true) rfl rfl) (Rn.sk (nw (b := true) rfl rfl) (Rn.sk (nw (b := true) rfl rfl) (Rn.sk (nw (b := true) rfl rfl) (Rn.pickT (v := (b_ true)) trivial rfl rfl rfl (md rfl (Rn.sk (nw (b := true) rfl rfl) (Rn.sk (nw (b := true) rfl rfl) (Rn.sk (nw (b := true) rfl rfl) (Rn.pickT (v := (b_ true)) trivial rfl rfl rfl (Rn.nil ?_))))))))))))))))
    replace h := si h; subst h
    exact Qm [] ⟨(sm rfl), (kPtr rfl), (sm rfl), trivial⟩ ⟨⟨_, rfl, rfl, (.same rfl)⟩, trivial⟩ rfl
   ·replace h := ifF hb6 h
    refine Rn.fldP (o' := 2) (gw rfl hb6) rfl rfl (Rn.load (v := (l_ a1.Marked)) (gw rfl hb6) rfl (Ql rfl) rfl rfl (Rn.lenD (gw rfl hb6) rfl (Rn.bin (gw rfl hb6) rfl rfl rfl (Rn.pickF (v := (b_ (decide ((a1.Marked.length : Int) > 12)))) trivial rfl hb6 rfl (md rfl ?_)))))
    refine Qbw (decide ((a1.Marked.length : Int) > 12)) (fun hb7 => ?_) (fun hb7 => ?_)
    ·replace h := ifT hb7 h
     refine Rn.sk (nw rfl hb7) (Rn.sk (nw rfl hb7) (Rn.sk (nw rfl hb7) (Rn.sk (nw rfl hb7) (Rn.pickT (v := (b_ true)) trivial rfl hb7 rfl (md rfl (Rn.sk (nw (b := true) rfl rfl) (Rn.sk (nw (b := true) rfl rfl) (Rn.sk (nw (b := true) rfl rfl) (Rn.pickT (v := (b_ true)) trivial rfl rfl rfl (Rn.nil ?_))))))))))
     replace h := si h; subst h
     exact Qm [] ⟨(sm rfl), (kPtr rfl), (sm rfl), trivial⟩ ⟨⟨_, rfl, rfl, (.same rfl)⟩, trivial⟩ rfl
    ·replace h := ifF hb7 h
     refine Rn.fldP (o' := 3) (gw rfl hb7) rfl rfl (Rn.load (v := .d (.lst 3 (List.map Qc a1.Edges))) (gw rfl hb7) rfl (Ql rfl) rfl rfl (Rn.lenD (gw rfl hb7) rfl (Rn.bin (gw rfl hb7) rfl rfl rfl (Rn.pickF (v := (b_ (decide ((a1.Edges.length : Int) > 12)))) trivial rfl hb7 rfl (md rfl ?_)))))
     refine Qbw (decide ((a1.Edges.length : Int) > 12)) (fun hb8 => ?_) (fun hb8 => ?_)
     ·replace h := ifT hb8 h
      refine Rn.sk (nw rfl hb8) (Rn.sk (nw rfl hb8) (Rn.sk (nw rfl hb8) (Rn.pickT (v := (b_ true)) trivial rfl hb8 rfl (Rn.nil ?_))))
      replace h := si h; subst h
      exact Qm [] ⟨(sm rfl), (kPtr rfl), (sm rfl), trivial⟩ ⟨⟨_, rfl, rfl, (.same rfl)⟩, trivial⟩ rfl
     ·replace h := ifF hb8 h
      refine Rn.movD (gw rfl hb8) rfl (Rn.lenD (gw rfl hb8) rfl (Rn.bin (gw rfl hb8) rfl rfl rfl (Rn.pickF (v := (b_ (decide ((onto2.length : Int) > 8)))) trivial rfl hb8 rfl (Rn.nil ?_))))
      replace h := si h; subst h
      exact Qm [] ⟨(sm rfl), (kPtr rfl), (sm rfl), trivial⟩ ⟨⟨_, rfl, rfl, (.same rfl)⟩, trivial⟩ rfl
  ·replace h := bF hb5 h
   refine Rn.sk (nw rfl (nF hb5)) (Rn.sk (nw rfl (nF hb5)) (Rn.sk (nw rfl (nF hb5)) (Rn.sk (nw rfl (nF hb5)) (Rn.pickT (v := (b_ true)) trivial rfl (nF hb5) rfl (md rfl (Rn.sk (nw (b := true) rfl rfl) (Rn.sk (nw (b := true) rfl rfl) (Rn.sk (nw (b := true) rfl rfl) (Rn.sk (nw (b := true) rfl rfl) (Rn.pickT (v := (b_ true)) trivial rfl rfl rfl (md rfl (Rn.sk (nw (b := true) rfl rfl) (Rn.sk (nw (b := true) rfl rfl) (Rn.sk (nw (b := true) rfl rfl) (Rn.sk (nw (b := true) rfl rfl) (Rn.pickT (v := (b_ true)) trivial rfl rfl rfl (md rfl (Rn.sk (nw (b := true) rfl rfl) (Rn.sk (nw (b := true) rfl rfl) (Rn.sk (nw (b := true) rfl rfl) (Rn.pickT (v := (b_ true)) trivial rfl rfl rfl (Rn.nil ?_))))))))))))))))))))))
   replace h := si h; subst h
   exact Qm [] ⟨(sm rfl), (kPtr rfl), (sm rfl), trivial⟩ ⟨⟨_, rfl, rfl, (.same rfl)⟩, trivial⟩ rfl
 ·obtain ⟨x9, rfl⟩ : ∃ x, x = z := ⟨_, rfl⟩
  refine Tr.cond rfl (fun hb10 => ?_) (fun hb10 => ?_)
  ·replace h := bT hb10 h
   refine Tr.seq (Tr.rgn ?_)
   obtain ⟨x12, h11, h⟩ := bnd h
   refine Rn.call (args := []) trivial rfl (H_overseerlaw07_known _ h11) pc9 (md rfl (nt ((Tr.ret ?_))))
   replace h := si h; subst h
   exact ⟨.inr rfl, (b_ x12), rfl, fun _ _ _ _ h => h, trivial, fun k hk => Qg hk⟩
  ·replace h := bF hb10 h
   refine Tr.skip (toN (sr ((Rn.load (v := (Qa a1)) trivial rfl (Ql rfl) rfl rfl ?_))))
   obtain ⟨x14, h13, h⟩ := bnd h
   refine Rn.call (args := [(Qa a1)]) trivial rfl (H_overseerref03_Check _ _ h13) pc9 (md rfl (Rn.nil (toN ?_)))
   refine Tr.cutB (fun (want18 : Int) => ⟨look [(1, (l_ onto2)), (2, .ptr (Γ.n0 + 2) 0), (5, (i_ want18))], Qo Γ.n0 (bxs [(2, .cells ((Qd a1)))]) M, Γ.n0 + 157⟩) h (fun z h => ?_) (fun z h => ?_)
   ·refine sr ((md rfl (Rn.bin trivial rfl rfl rfl (Rn.nil (toN ?_)))))
    refine Tr.cond rfl (fun hb15 => ?_) (fun hb15 => ?_)
    ·replace h := bT hb15 h
     refine Tr.rgn (md rfl ?_)
     obtain ⟨x17, h16, h⟩ := bnd h
     refine Rn.call (args := [(l_ onto2), (i_ 32)]) trivial rfl (H_overseerref03_List _ _ _ h16) pc9 (md rfl (Rn.nil ?_))
     replace h := si h; subst h
     exact Qm [] ⟨(sm rfl), (kPtr rfl), (sm rfl), trivial⟩ ⟨⟨_, rfl, rfl, (.same rfl)⟩, trivial⟩ rfl
    ·replace h := bF hb15 h
     refine Tr.skip ?_
     replace h := si h; subst h
     exact Qm [] ⟨(sm rfl), (kPtr rfl), (sm rfl), trivial⟩ ⟨⟨_, rfl, rfl, (.same rfl)⟩, trivial⟩ rfl
   ·obtain ⟨want18, rfl⟩ : ∃ x, x = z := ⟨_, rfl⟩
    refine Tr.seq (sr ((md rfl (Rn.bin trivial rfl rfl rfl (Rn.nil (toN ?_))))))
    refine Tr.cond rfl (fun hb19 => ?_) (fun hb19 => ?_)
    ·replace h := bT hb19 h
     refine sr ((md rfl (nt ((Tr.ret ?_)))))
     replace h := si h; subst h
     exact ⟨.inr rfl, (b_ true), rfl, fun _ _ _ _ h => h, trivial, fun k hk => Qg hk⟩
    ·replace h := bF hb19 h
     refine Tr.skip (toN (sr ((Rn.load (v := (Qa a1)) trivial rfl (Ql rfl) rfl rfl (md rfl ?_)))))
     obtain ⟨⟨r21, r22, r23⟩, h20, h⟩ := bnd h
     refine Rn.call (args := [(Qa a1), (l_ onto2)]) trivial rfl (H_projection_Project _ _ _ h20) pc9 (Rn.mov (v := .tup [(Qa r21), .d (.lst 1 (List.map (eL 1 (eI .i64)) r22)), (i_ r23)]) trivial rfl (Rn.ext (v := (Qa r21)) (vs := [(Qa r21), .d (.lst 1 (List.map (eL 1 (eI .i64)) r22)), (i_ r23)]) trivial rfl rfl rfl (Rn.extTD (vs := [(Qa r21), .d (.lst 1 (List.map (eL 1 (eI .i64)) r22)), (i_ r23)]) trivial rfl rfl rfl (Rn.ext (v := (i_ r23)) (vs := [(Qa r21), .d (.lst 1 (List.map (eL 1 (eI .i64)) r22)), (i_ r23)]) trivial rfl rfl rfl (Rn.alloc trivial rfl (Rn.storeT (v := (Qa r21)) (ds := (Qd r21)) (cs' := (Qd r21)) trivial rfl rfl rfl rfl rfl rfl rfl (Rn.movTD trivial rfl (md rfl (nt ((sr ((Rn.load (v := (Qa a1)) trivial rfl (Ql rfl) rfl rfl (md rfl ?_))))))))))))))
     obtain ⟨⟨r25, r26⟩, h24, h⟩ := bnd h
     refine Rn.call (args := [(Qa a1), (l_ onto2)]) trivial rfl (H_projection_Inverse _ _ _ h24) pc9 (Rn.mov (v := .tup [(Qa r25), (i_ r26)]) trivial rfl (Rn.ext (v := (Qa r25)) (vs := [(Qa r25), (i_ r26)]) trivial rfl rfl rfl (Rn.ext (v := (i_ r26)) (vs := [(Qa r25), (i_ r26)]) trivial rfl rfl rfl (Rn.alloc trivial rfl (Rn.storeT (v := (Qa r25)) (ds := (Qd r25)) (cs' := (Qd r25)) trivial rfl rfl rfl rfl rfl rfl rfl (md rfl (nt ((sr ((Rn.load (v := (Qa a1)) trivial rfl (Ql rfl) rfl rfl (md rfl ?_))))))))))))
     obtain ⟨⟨r28, r29⟩, h27, h⟩ := bnd h
     refine Rn.call (args := [(Qa a1), .nils 1, (l_ onto2)]) trivial rfl (fun M2 nb2 => ACalls.weak (args' := [(Qa a1), (l_ []), (l_ onto2)]) (H_projection_Reach _ _ _ _ h27 M2 nb2) (.cons (sm rfl) (.cons (WkV.nilsD _) (.cons (sm rfl) .nil))) rfl) pc9 ?_
     refine Rn.mov (v := .tup [(l_ r28), (i_ r29)]) trivial rfl (Rn.extTD (vs := [(l_ r28), (i_ r29)]) trivial rfl rfl rfl (Rn.ext (v := (i_ r29)) (vs := [(l_ r28), (i_ r29)]) trivial rfl rfl rfl (Rn.movTD trivial rfl (md rfl (nt ((sr ((Rn.load (v := (Qa a1)) trivial rfl (Ql rfl) rfl rfl (md rfl ?_))))))))))
     obtain ⟨⟨r31, r32⟩, h30, h⟩ := bnd h
     refine Rn.call (args := [(Qa a1), (l_ onto2), .nils 1]) trivial rfl (fun M2 nb2 => ACalls.weak (args' := [(Qa a1), (l_ onto2), (l_ [])]) (H_projection_Estimate _ _ _ _ h30 M2 nb2) (.cons (sm rfl) (.cons (sm rfl) (.cons (WkV.nilsD _) .nil))) rfl) pc9 ?_
     refine Rn.mov (v := .tup [(l_ r31), (i_ r32)]) trivial rfl (Rn.extTD (vs := [(l_ r31), (i_ r32)]) trivial rfl rfl rfl (Rn.ext (v := (i_ r32)) (vs := [(l_ r31), (i_ r32)]) trivial rfl rfl rfl (Rn.movTD trivial rfl (md rfl (nt ((sr ((Rn.load (v := (Qa a1)) trivial rfl (Ql rfl) rfl rfl (md rfl ?_))))))))))
     obtain ⟨⟨r34, r35⟩, h33, h⟩ := bnd h
     refine Rn.call (args := [(Qa a1), (l_ onto2), .nils 1, (i_ 0)]) trivial rfl (fun M2 nb2 => ACalls.weak (args' := [(Qa a1), (l_ onto2), (l_ []), (i_ 0)]) (H_projection_Next _ _ _ _ _ h33 M2 nb2) (.cons (sm rfl) (.cons (sm rfl) (.cons (WkV.nilsD _) (.cons (sm rfl) .nil)))) rfl) pc9 ?_
     refine Rn.mov (v := .tup [(l_ r34), (i_ r35)]) trivial rfl (Rn.extTD (vs := [(l_ r34), (i_ r35)]) trivial rfl rfl rfl (Rn.ext (v := (i_ r35)) (vs := [(l_ r34), (i_ r35)]) trivial rfl rfl rfl (Rn.movTD trivial rfl (md rfl (nt ((sr ((Rn.load (v := (Qa a1)) trivial rfl (Ql rfl) rfl rfl (md rfl ?_))))))))))
     obtain ⟨⟨r37, r38, r39⟩, h36, h⟩ := bnd h
     refine Rn.call (args := [(Qa a1), (l_ onto2), .nils 1, (b_ false)]) trivial rfl (fun M2 nb2 => ACalls.weak (args' := [(Qa a1), (l_ onto2), (l_ []), (b_ false)]) (H_projection_Lift _ _ _ _ _ h36 M2 nb2) (.cons (sm rfl) (.cons (sm rfl) (.cons (WkV.nilsD _) (.cons (sm rfl) .nil)))) rfl) pc9 ?_
     refine Rn.mov (v := .tup [(l_ r37), (b_ r38), (i_ r39)]) trivial rfl (Rn.extTD (vs := [(l_ r37), (b_ r38), (i_ r39)]) trivial rfl rfl rfl (Rn.ext (v := (b_ r38)) (vs := [(l_ r37), (b_ r38), (i_ r39)]) trivial rfl rfl rfl (Rn.ext (v := (i_ r39)) (vs := [(l_ r37), (b_ r38), (i_ r39)]) trivial rfl rfl rfl (Rn.movTD trivial rfl (md rfl (md rfl (Rn.nil (toN ?_))))))))
     refine Tr.cutB (fun (x57 : Bool) => ⟨look [(4, (b_ x57))], Qo Γ.n0 (bxs [(2, .cells ((Qd a1))), (6, .cells ((Qd r21))), (9, .cells ((Qd r25)))]) M, Γ.n0 + 157⟩) h (fun z h => ?_) (fun z h => ?_)
     ·refine Tr.rgn (Rn.load (v := (Qa r21)) trivial rfl (Ql rfl) rfl rfl ?_)
      obtain ⟨x41, h40, h⟩ := bnd h
      refine Rn.call (args := [(Qa r21)]) trivial rfl (H_overseerlaw07_none _ _ h40) pc9 (md rfl ?_)
      refine Qbw x41 (fun hb42 => ?_) (fun hb42 => ?_)
      ·replace h := bT hb42 h
       refine Rn.movD (gw rfl hb42) rfl (Rn.lenD (gw rfl hb42) rfl (Rn.bin (gw rfl hb42) rfl rfl rfl (Rn.pickT (v := (b_ ((r22.length : Int) == 0))) trivial rfl hb42 rfl (md rfl ?_))))
       refine Qbw ((r22.length : Int) == 0) (fun hb43 => ?_) (fun hb43 => ?_)
       ·replace h := bT hb43 h
        refine Rn.movD (gw rfl hb43) rfl (Rn.movD (gw rfl hb43) rfl (Rn.bin (gw rfl hb43) rfl rfl rfl (Rn.pickT (v := (b_ (r23 == want18))) trivial rfl hb43 rfl (md rfl ?_))))
        refine Qbw (r23 == want18) (fun hb44 => ?_) (fun hb44 => ?_)
        ·replace h := bT hb44 h
         refine Rn.load (v := (Qa r25)) (gw rfl hb44) rfl (Ql rfl) rfl rfl ?_
         obtain ⟨x46, h45, h⟩ := bnd h
         refine Rn.call (args := [(Qa r25)]) (gw rfl hb44) rfl (H_overseerlaw07_none _ _ h45) pc9 (Rn.pickT (v := (b_ x46)) trivial rfl hb44 rfl (md rfl ?_))
         refine Qbw x46 (fun hb47 => ?_) (fun hb47 => ?_)
         ·replace h := bT hb47 h
          refine Rn.movD (gw rfl hb47) rfl (Rn.movD (gw rfl hb47) rfl (Rn.bin (gw rfl hb47) rfl rfl rfl (Rn.pickT (v := (b_ (r26 == want18))) trivial rfl hb47 rfl (md rfl ?_))))
          refine Qbw (r26 == want18) (fun hb48 => ?_) (fun hb48 => ?_)
          ·replace h := bT hb48 h
           refine Rn.movD (gw rfl hb48) rfl (Rn.lenD (gw rfl hb48) rfl (Rn.bin (gw rfl hb48) rfl rfl rfl (Rn.pickT (v := (b_ ((r28.length : Int) == 0))) trivial rfl hb48 rfl (md rfl ?_))))
           refine Qbw ((r28.length : Int) == 0) (fun hb49 => ?_) (fun hb49 => ?_)
           ·replace h := bT hb49 h
            refine Rn.movD (gw rfl hb49) rfl (Rn.movD (gw rfl hb49) rfl (Rn.bin (gw rfl hb49) rfl rfl rfl (Rn.pickT (v := (b_ (r29 == want18))) trivial rfl hb49 rfl (md rfl ?_))))
            refine Qbw (r29 == want18) (fun hb50 => ?_) (fun hb50 => ?_)
            ·replace h := bT hb50 h
             refine Rn.movD (gw rfl hb50) rfl (Rn.lenD (gw rfl hb50) rfl (Rn.bin (gw rfl hb50) rfl rfl rfl (Rn.pickT (v := (b_ ((r31.length : Int) == 0))) trivial rfl hb50 rfl (md rfl ?_))))
             refine Qbw ((r31.length : Int) == 0) (fun hb51 => ?_) (fun hb51 => ?_)
             ·replace h := bT hb51 h
              refine Rn.movD (gw rfl hb51) rfl (Rn.movD (gw rfl hb51) rfl (Rn.bin (gw rfl hb51) rfl rfl rfl (Rn.pickT (v := (b_ (r32 == want18))) trivial rfl hb51 rfl (md rfl ?_))))
              refine Qbw (r32 == want18) (fun hb52 => ?_) (fun hb52 => ?_)
              ·replace h := bT hb52 h
               refine Rn.movD (gw rfl hb52) rfl (Rn.lenD (gw rfl hb52) rfl (Rn.bin (gw rfl hb52) rfl rfl rfl (Rn.pickT (v := (b_ ((r34.length : Int) == 0))) trivial rfl hb52 rfl (md rfl ?_))))
               refine Qbw ((r34.length : Int) == 0) (fun hb53 => ?_) (fun hb53 => ?_)
               ·replace h := bT hb53 h
                refine Rn.movD (gw rfl hb53) rfl (Rn.movD (gw rfl hb53) rfl (Rn.bin (gw rfl hb53) rfl rfl rfl (Rn.pickT (v := (b_ (r35 == want18))) trivial rfl hb53 rfl (md rfl ?_))))
                refine Qbw (r35 == want18) (fun hb54 => ?_) (fun hb54 => ?_)
                ·replace h := bT hb54 h
                 refine Rn.movD (gw rfl hb54) rfl (Rn.lenD (gw rfl hb54) rfl (Rn.bin (gw rfl hb54) rfl rfl rfl (Rn.pickT (v := (b_ ((r37.length : Int) == 0))) trivial rfl hb54 rfl (md rfl ?_))))
                 refine Qbw ((r37.length : Int) == 0) (fun hb55 => ?_) (fun hb55 => ?_)
                 ·replace h := bT hb55 h
                  refine Rn.movD (gw rfl hb55) rfl (Rn.un (gw rfl hb55) rfl rfl (Rn.pickT (v := (b_ (!r38))) trivial rfl hb55 rfl (md rfl ?_)))
                  refine Qbw r38 (fun hb56 => ?_) (fun hb56 => ?_)
                  ·replace h := bT hb56 h
                   refine Rn.sk (nw rfl (nT hb56)) (Rn.sk (nw rfl (nT hb56)) (Rn.sk (nw rfl (nT hb56)) (Rn.pickF (v := (b_ false)) trivial rfl (nT hb56) rfl (md rfl (Rn.nil ?_)))))
                   replace h := si h; subst h
                   exact Qm [] ⟨(sm rfl), trivial⟩ ⟨⟨_, rfl, rfl, (.same rfl)⟩, ⟨_, rfl, rfl, (.same rfl)⟩, ⟨_, rfl, rfl, (.same rfl)⟩, trivial⟩ rfl
                  ·replace h := bF hb56 h
                   refine Rn.movD (gw rfl (nF hb56)) rfl (Rn.movD (gw rfl (nF hb56)) rfl (Rn.bin (gw rfl (nF hb56)) rfl rfl rfl (Rn.pickT (v := (b_ (r39 == want18))) trivial rfl (nF hb56) rfl (md rfl (Rn.nil ?_)))))
                   replace h := si h; subst h
                   exact Qm [] ⟨(sm rfl), trivial⟩ ⟨⟨_, rfl, rfl, (.same rfl)⟩, ⟨_, rfl, rfl, (.same rfl)⟩, ⟨_, rfl, rfl, (.same rfl)⟩, trivial⟩ rfl
                 ·replace h := bF hb55 h
                  refine Rn.sk (nw rfl hb55) (Rn.sk (nw rfl hb55) (Rn.pickF (v := (b_ false)) trivial rfl hb55 rfl (md rfl (Rn.sk (nw (b := false) rfl rfl) (Rn.sk (nw (b := false) rfl rfl) (Rn.sk (nw (b := false) rfl rfl) (Rn.pickF (v := (b_ false)) trivial rfl rfl rfl (md rfl (Rn.nil ?_)))))))))
                  replace h := si h; subst h
                  exact Qm [] ⟨(sm rfl), trivial⟩ ⟨⟨_, rfl, rfl, (.same rfl)⟩, ⟨_, rfl, rfl, (.same rfl)⟩, ⟨_, rfl, rfl, (.same rfl)⟩, trivial⟩ rfl
                ·replace h := bF hb54 h
                 refine Rn.sk (nw rfl hb54) (Rn.sk (nw rfl hb54) (Rn.sk (nw rfl hb54) (Rn.pickF (v := (b_ false)) trivial rfl hb54 rfl (md rfl (Rn.sk (nw (b := false) rfl rfl) (Rn.sk (nw (b := false) rfl rfl) (Rn.pickF (v := (b_ false)) trivial rfl rfl rfl (md rfl (Rn.sk (nw (b := false) rfl rfl) (Rn.sk (nw (b := false) rfl rfl) (Rn.sk (nw (b := false) rfl rfl) (Rn.pickF (v := (b_ false)) trivial rfl rfl rfl (md rfl (Rn.nil ?_))))))))))))))
                 replace h := si h; subst h
                 exact Qm [] ⟨(sm rfl), trivial⟩ ⟨⟨_, rfl, rfl, (.same rfl)⟩, ⟨_, rfl, rfl, (.same rfl)⟩, ⟨_, rfl, rfl, (.same rfl)⟩, trivial⟩ rfl
               ·replace h := bF hb53 h
                refine Rn.sk (nw rfl hb53) (Rn.sk (nw rfl hb53) (Rn.sk (nw rfl hb53) (Rn.pickF (v := (b_ false)) trivial rfl hb53 rfl (md rfl (Rn.sk (nw (b := false) rfl rfl) (Rn.sk (nw (b := false) rfl rfl) (Rn.sk (nw (b := false) rfl rfl) (Rn.pickF (v := (b_ false)) trivial rfl rfl rfl (md rfl (Rn.sk (nw (b := false) rfl rfl) (Rn.sk (nw (b := false) rfl rfl) (Rn.pickF (v := (b_ false)) trivial rfl rfl rfl (md rfl (Rn.sk (nw (b := false) rfl rfl) (Rn.sk (nw (b := false) rfl rfl) (Rn.sk (nw (b := false) rfl rfl) (Rn.pickF (v := (b_ false)) trivial rfl rfl rfl (md rfl (Rn.nil ?_)))))))))))))))))))
                replace h := si h; subst h
                exact Qm [] ⟨(sm rfl), trivial⟩ ⟨⟨_, rfl, rfl, (.same rfl)⟩, ⟨_, rfl, rfl, (.same rfl)⟩, ⟨_, rfl, rfl, (.same rfl)⟩, trivial⟩ rfl
              ·replace h := bF hb52 h
               refine Rn.sk (nw rfl hb52) (Rn.sk (nw rfl hb52) (Rn.sk (nw rfl hb52) (Rn.pickF (v := (b_ false)) trivial rfl hb52 rfl (md rfl (Rn.sk (nw (b := false) rfl rfl) (Rn.sk (nw (b := false) rfl rfl) (Rn.sk (nw (b := false) rfl rfl) (Rn.pickF (v := (b_ false)) trivial rfl rfl rfl (md rfl (Rn.sk (nw (b := false) rfl rfl) (Rn.sk (nw (b := false) rfl rfl) (Rn.sk (nw (b := false) rfl rfl) (Rn.pickF (v := (b_ false)) trivial rfl rfl rfl (md rfl (Rn.sk (nw (b := false) rfl rfl) (Rn.sk (nw (b := false) rfl rfl) (Rn.pickF (v := (b_ false)) trivial rfl rfl rfl (md rfl (Rn.sk (nw (b := false) rfl rfl) (Rn.sk (nw (b := false) rfl rfl) (Rn.sk (nw (b := false) rfl rfl) (Rn.pickF (v := (b_ false)) trivial rfl rfl rfl (md rfl (Rn.nil ?_))))))))))))))))))))))))
               replace h := si h; subst h
               exact Qm [] ⟨(sm rfl), trivial⟩ ⟨⟨_, rfl, rfl, (.same rfl)⟩, ⟨_, rfl, rfl, (.same rfl)⟩, ⟨_, rfl, rfl, (.same rfl)⟩, trivial⟩ rfl
             ·replace h := bF hb51 h
              refine Rn.sk (nw rfl hb51) (Rn.sk (nw rfl hb51) (Rn.sk (nw rfl hb51) (Rn.pickF (v := (b_ false)) trivial rfl hb51 rfl (md rfl (Rn.sk (nw (b := false) rfl rfl) (Rn.sk (nw (b := false) rfl rfl) (Rn.sk (nw (b := false) rfl rfl) (Rn.pickF (v := (b_ false)) trivial rfl rfl rfl (md rfl (Rn.sk (nw (b := false) rfl rfl) (Rn.sk (nw (b := false) rfl rfl) (Rn.sk (nw (b := false) rfl rfl) (Rn.pickF (v := (b_ false)) trivial rfl rfl rfl (md rfl (Rn.sk (nw (b := false) rfl rfl) (Rn.sk (nw (b := false) rfl rfl) (Rn.sk (nw (b := false) rfl rfl) (Rn.pickF (v := (b_ false)) trivial rfl rfl rfl (md rfl (Rn.sk (nw (b := false) rfl rfl) (Rn.sk (nw (b := false) rfl rfl) (Rn.pickF (v := (b_ false)) trivial rfl rfl rfl (md rfl (Rn.sk (nw (b := false) rfl rfl) (Rn.sk (nw (b := false) rfl rfl) (Rn.sk (nw (b := false) rfl rfl) (Rn.pickF (v := (b_ false)) trivial rfl rfl rfl (md rfl (Rn.nil ?_)))))))))))))))))))))))))))))
              replace h := si h; subst h
              exact Qm [] ⟨(sm rfl), trivial⟩ ⟨⟨_, rfl, rfl, (.same rfl)⟩, ⟨_, rfl, rfl, (.same rfl)⟩, ⟨_, rfl, rfl, (.same rfl)⟩, trivial⟩ rfl
            ·replace h := bF hb50 h
             refine Rn.sk (nw rfl hb50) (Rn.sk (nw rfl hb50) (Rn.sk (nw rfl hb50) (Rn.pickF (v := (b_ false)) trivial rfl hb50 rfl (md rfl (Rn.sk (nw (b := false) rfl rfl) (Rn.sk (nw (b := false) rfl rfl) (Rn.sk (nw (b := false) rfl rfl) (Rn.pickF (v := (b_ false)) trivial rfl rfl rfl (md rfl (Rn.sk (nw (b := false) rfl rfl) (Rn.sk (nw (b := false) rfl rfl) (Rn.sk (nw (b := false) rfl rfl) (Rn.pickF (v := (b_ false)) trivial rfl rfl rfl (md rfl (Rn.sk (nw (b := false) rfl rfl) (Rn.sk (nw (b := false) rfl rfl) (Rn.sk (nw (b := false) rfl rfl) (Rn.pickF (v := (b_ false)) trivial rfl rfl rfl (md rfl (Rn.sk (nw (b := false) rfl rfl) (Rn.sk (nw (b := false) rfl rfl) (Rn.sk (nw (b := false) rfl rfl) (Rn.pickF (v := (b_ false)) trivial rfl rfl rfl (md rfl (Rn.sk (nw (b := false) rfl rfl) (Rn.sk (nw (b := false) rfl rfl) (Rn.pickF (v := (b_ false)) trivial rfl rfl rfl (md rfl (Rn.sk (nw (b := false) rfl rfl) (Rn.sk (nw (b := false) rfl rfl) (Rn.sk (nw (b := false) rfl rfl) (Rn.pickF (v := (b_ false)) trivial rfl rfl rfl (md rfl (Rn.nil ?_))))))))))))))))))))))))))))))))))
             replace h := si h; subst h
             exact Qm [] ⟨(sm rfl), trivial⟩ ⟨⟨_, rfl, rfl, (.same rfl)⟩, ⟨_, rfl, rfl, (.same rfl)⟩, ⟨_, rfl, rfl, (.same rfl)⟩, trivial⟩ rfl
           ·replace h := bF hb49 h
            refine Rn.sk (nw rfl hb49) (Rn.sk (nw rfl hb49) (Rn.sk (nw rfl hb49) (Rn.pickF (v := (b_ false)) trivial rfl hb49 rfl (md rfl (Rn.sk (nw (b := false) rfl rfl) (Rn.sk (nw (b := false) rfl rfl) (Rn.sk (nw (b := false) rfl rfl) (Rn.pickF (v := (b_ false)) trivial rfl rfl rfl (md rfl (Rn.sk (nw (b := false) rfl rfl) (Rn.sk (nw (b := false) rfl rfl) (Rn.sk (nw (b := false) rfl rfl) (Rn.pickF (v := (b_ false)) trivial rfl rfl rfl (md rfl (Rn.sk (nw (b := false) rfl rfl) (Rn.sk (nw (b := false) rfl rfl) (Rn.sk (nw (b := false) rfl rfl) (Rn.pickF (v := (b_ false)) trivial rfl rfl rfl (md rfl (Rn.sk (nw (b := false) rfl rfl) (Rn.sk (nw (b := false) rfl rfl) (Rn.sk (nw (b := false) rfl rfl) (Rn.pickF (v := (b_ false)) trivial rfl rfl rfl (md rfl (Rn.sk (nw (b := false) rfl rfl) (Rn.sk (nw (b := false) rfl rfl) (Rn.sk (nw (b := false) rfl rfl) (Rn.pickF (v := (b_ false)) trivial rfl rfl rfl (md rfl (Rn.sk (nw (b := false) rfl rfl) (Rn.sk (nw (b := false) rfl rfl) (Rn.pickF (v := (b_ false)) trivial rfl rfl rfl (md rfl (Rn.sk (nw (b := false) rfl rfl) (Rn.sk (nw (b := false) rfl rfl) (Rn.sk (nw (b := false) rfl rfl) (Rn.pickF (v := (b_ false)) trivial rfl rfl rfl (md rfl (Rn.nil ?_)))))))))))))))))))))))))))))))))))))))
            replace h := si h; subst h
            exact Qm [] ⟨(sm rfl), trivial⟩ ⟨⟨_, rfl, rfl, (.same rfl)⟩, ⟨_, rfl, rfl, (.same rfl)⟩, ⟨_, rfl, rfl, (.same rfl)⟩, trivial⟩ rfl
          ·replace h := bF hb48 h
           refine Rn.sk (nw rfl hb48) (Rn.sk (nw rfl hb48) (Rn.sk (nw rfl hb48) (Rn.pickF (v := (b_ false)) trivial rfl hb48 rfl (md rfl (Rn.sk (nw (b := false) rfl rfl) (Rn.sk (nw (b := false) rfl rfl) (Rn.sk (nw (b := false) rfl rfl) (Rn.pickF (v := (b_ false)) trivial rfl rfl rfl (md rfl (Rn.sk (nw (b := false) rfl rfl) (Rn.sk (nw (b := false) rfl rfl) (Rn.sk (nw (b := false) rfl rfl) (Rn.pickF (v := (b_ false)) trivial rfl rfl rfl (md rfl (Rn.sk (nw (b := false) rfl rfl) (Rn.sk (nw (b := false) rfl rfl) (Rn.sk (nw (b := false) rfl rfl) (Rn.pickF (v := (b_ false)) trivial rfl rfl rfl (md rfl (Rn.sk (nw (b := false) rfl rfl) (Rn.sk (nw (b := false) rfl rfl) (Rn.sk (nw (b := false) rfl rfl) (Rn.pickF (v := (b_ false)) trivial rfl rfl rfl (md rfl (Rn.sk (nw (b := false) rfl rfl) (Rn.sk (nw (b := false) rfl rfl) (Rn.sk (nw (b := false) rfl rfl) (Rn.pickF (v := (b_ false)) trivial rfl rfl rfl (md rfl (Rn.sk (nw (b := false) rfl rfl) (Rn.sk (nw (b := false) rfl rfl) (Rn.sk (nw (b := false) rfl rfl) (Rn.pickF (v := (b_ false)) trivial rfl rfl rfl (md rfl (Rn.sk (nw (b := false) rfl rfl) (Rn.sk (nw (b := false) rfl rfl) (Rn.pickF (v := (b_ false)) trivial rfl rfl rfl (md rfl (Rn.sk (nw (b := false) rfl rfl) ?_)))))))))))))))))))))))))))))))))))))))
           refine Rn.sk (nw (b := false) rfl rfl) (Rn.sk (nw (b := false) rfl rfl) (Rn.pickF (v := (b_ false)) trivial rfl rfl rfl (md rfl (Rn.nil ?_))))
           replace h := si h; subst h
           exact Qm [] ⟨(sm rfl), trivial⟩ ⟨⟨_, rfl, rfl, (.same rfl)⟩, ⟨_, rfl, rfl, (.same rfl)⟩, ⟨_, rfl, rfl, (.same rfl)⟩, trivial⟩ rfl
         ·replace h := bF hb47 h
          refine Rn.sk (nw rfl hb47) (Rn.sk (nw rfl hb47) (Rn.sk (nw rfl hb47) (Rn.pickF (v := (b_ false)) trivial rfl hb47 rfl (md rfl (Rn.sk (nw (b := false) rfl rfl) (Rn.sk (nw (b := false) rfl rfl) (Rn.sk (nw (b := false) rfl rfl) (Rn.pickF (v := (b_ false)) trivial rfl rfl rfl (md rfl (Rn.sk (nw (b := false) rfl rfl) (Rn.sk (nw (b := false) rfl rfl) (Rn.sk (nw (b := false) rfl rfl) (Rn.pickF (v := (b_ false)) trivial rfl rfl rfl (md rfl (Rn.sk (nw (b := false) rfl rfl) (Rn.sk (nw (b := false) rfl rfl) (Rn.sk (nw (b := false) rfl rfl) (Rn.pickF (v := (b_ false)) trivial rfl rfl rfl (md rfl (Rn.sk (nw (b := false) rfl rfl) (Rn.sk (nw (b := false) rfl rfl) (Rn.sk (nw (b := false) rfl rfl) (Rn.pickF (v := (b_ false)) trivial rfl rfl rfl (md rfl (Rn.sk (nw (b := false) rfl rfl) (Rn.sk (nw (b := false) rfl rfl) (Rn.sk (nw (b := false) rfl rfl) (Rn.pickF (v := (b_ false)) trivial rfl rfl rfl (md rfl (Rn.sk (nw (b := false) rfl rfl) (Rn.sk (nw (b := false) rfl rfl) (Rn.sk (nw (b := false) rfl rfl) (Rn.pickF (v := (b_ false)) trivial rfl rfl rfl (md rfl (Rn.sk (nw (b := false) rfl rfl) (Rn.sk (nw (b := false) rfl rfl) (Rn.sk (nw (b := false) rfl rfl) (Rn.pickF (v := (b_ false)) trivial rfl rfl rfl (md rfl ?_)))))))))))))))))))))))))))))))))))))))
          refine Rn.sk (nw (b := false) rfl rfl) (Rn.sk (nw (b := false) rfl rfl) (Rn.pickF (v := (b_ false)) trivial rfl rfl rfl (md rfl (Rn.sk (nw (b := false) rfl rfl) (Rn.sk (nw (b := false) rfl rfl) (Rn.sk (nw (b := false) rfl rfl) (Rn.pickF (v := (b_ false)) trivial rfl rfl rfl (md rfl (Rn.nil ?_)))))))))
          replace h := si h; subst h
          exact Qm [] ⟨(sm rfl), trivial⟩ ⟨⟨_, rfl, rfl, (.same rfl)⟩, ⟨_, rfl, rfl, (.same rfl)⟩, ⟨_, rfl, rfl, (.same rfl)⟩, trivial⟩ rfl
        ·replace h := bF hb44 h
         refine Rn.sk (nw rfl hb44) (Rn.sk (nw rfl hb44) (Rn.pickF (v := (b_ false)) trivial rfl hb44 rfl (md rfl (Rn.sk (nw (b := false) rfl rfl) (Rn.sk (nw (b := false) rfl rfl) (Rn.sk (nw (b := false) rfl rfl) (Rn.pickF (v := (b_ false)) trivial rfl rfl rfl (md rfl (Rn.sk (nw (b := false) rfl rfl) (Rn.sk (nw (b := false) rfl rfl) (Rn.sk (nw (b := false) rfl rfl) (Rn.pickF (v := (b_ false)) trivial rfl rfl rfl (md rfl (Rn.sk (nw (b := false) rfl rfl) (Rn.sk (nw (b := false) rfl rfl) (Rn.sk (nw (b := false) rfl rfl) (Rn.pickF (v := (b_ false)) trivial rfl rfl rfl (md rfl (Rn.sk (nw (b := false) rfl rfl) (Rn.sk (nw (b := false) rfl rfl) (Rn.sk (nw (b := false) rfl rfl) (Rn.pickF (v := (b_ false)) trivial rfl rfl rfl (md rfl (Rn.sk (nw (b := false) rfl rfl) (Rn.sk (nw (b := false) rfl rfl) (Rn.sk (nw (b := false) rfl rfl) (Rn.pickF (v := (b_ false)) trivial rfl rfl rfl (md rfl (Rn.sk (nw (b := false) rfl rfl) (Rn.sk (nw (b := false) rfl rfl) (Rn.sk (nw (b := false) rfl rfl) (Rn.pickF (v := (b_ false)) trivial rfl rfl rfl (md rfl (Rn.sk (nw (b := false) rfl rfl) (Rn.sk (nw (b := false) rfl rfl) (Rn.sk (nw (b := false) rfl rfl) (Rn.pickF (v := (b_ false)) trivial rfl rfl rfl (md rfl (Rn.sk (nw (b := false) rfl rfl) ?_)))))))))))))))))))))))))))))))))))))))
         refine Rn.sk (nw (b := false) rfl rfl) (Rn.sk (nw (b := false) rfl rfl) (Rn.pickF (v := (b_ false)) trivial rfl rfl rfl (md rfl (Rn.sk (nw (b := false) rfl rfl) (Rn.sk (nw (b := false) rfl rfl) (Rn.pickF (v := (b_ false)) trivial rfl rfl rfl (md rfl (Rn.sk (nw (b := false) rfl rfl) (Rn.sk (nw (b := false) rfl rfl) (Rn.sk (nw (b := false) rfl rfl) (Rn.pickF (v := (b_ false)) trivial rfl rfl rfl (md rfl (Rn.nil ?_)))))))))))))
         replace h := si h; subst h
         exact Qm [] ⟨(sm rfl), trivial⟩ ⟨⟨_, rfl, rfl, (.same rfl)⟩, ⟨_, rfl, rfl, (.same rfl)⟩, ⟨_, rfl, rfl, (.same rfl)⟩, trivial⟩ rfl
       ·replace h := bF hb43 h
        refine Rn.sk (nw rfl hb43) (Rn.sk (nw rfl hb43) (Rn.sk (nw rfl hb43) (Rn.pickF (v := (b_ false)) trivial rfl hb43 rfl (md rfl (Rn.sk (nw (b := false) rfl rfl) (Rn.sk (nw (b := false) rfl rfl) (Rn.pickF (v := (b_ false)) trivial rfl rfl rfl (md rfl (Rn.sk (nw (b := false) rfl rfl) (Rn.sk (nw (b := false) rfl rfl) (Rn.sk (nw (b := false) rfl rfl) (Rn.pickF (v := (b_ false)) trivial rfl rfl rfl (md rfl (Rn.sk (nw (b := false) rfl rfl) (Rn.sk (nw (b := false) rfl rfl) (Rn.sk (nw (b := false) rfl rfl) (Rn.pickF (v := (b_ false)) trivial rfl rfl rfl (md rfl (Rn.sk (nw (b := false) rfl rfl) (Rn.sk (nw (b := false) rfl rfl) (Rn.sk (nw (b := false) rfl rfl) (Rn.pickF (v := (b_ false)) trivial rfl rfl rfl (md rfl (Rn.sk (nw (b := false) rfl rfl) (Rn.sk (nw (b := false) rfl rfl) (Rn.sk (nw (b := false) rfl rfl) (Rn.pickF (v := (b_ false)) trivial rfl rfl rfl (md rfl (Rn.sk (nw (b := false) rfl rfl) (Rn.sk (nw (b := false) rfl rfl) (Rn.sk (nw (b := false) rfl rfl) (Rn.pickF (v := (b_ false)) trivial rfl rfl rfl (md rfl (Rn.sk (nw (b := false) rfl rfl) (Rn.sk (nw (b := false) rfl rfl) (Rn.sk (nw (b := false) rfl rfl) (Rn.pickF (v := (b_ false)) trivial rfl rfl rfl (md rfl (Rn.sk (nw (b := false) rfl rfl) ?_)))))))))))))))))))))))))))))))))))))))
        refine Rn.sk (nw (b := false) rfl rfl) (Rn.sk (nw (b := false) rfl rfl) (Rn.pickF (v := (b_ false)) trivial rfl rfl rfl (md rfl (Rn.sk (nw (b := false) rfl rfl) (Rn.sk (nw (b := false) rfl rfl) (Rn.sk (nw (b := false) rfl rfl) (Rn.pickF (v := (b_ false)) trivial rfl rfl rfl (md rfl (Rn.sk (nw (b := false) rfl rfl) (Rn.sk (nw (b := false) rfl rfl) (Rn.pickF (v := (b_ false)) trivial rfl rfl rfl (md rfl (Rn.sk (nw (b := false) rfl rfl) (Rn.sk (nw (b := false) rfl rfl) (Rn.sk (nw (b := false) rfl rfl) (Rn.pickF (v := (b_ false)) trivial rfl rfl rfl (md rfl (Rn.nil ?_))))))))))))))))))
        replace h := si h; subst h
        exact Qm [] ⟨(sm rfl), trivial⟩ ⟨⟨_, rfl, rfl, (.same rfl)⟩, ⟨_, rfl, rfl, (.same rfl)⟩, ⟨_, rfl, rfl, (.same rfl)⟩, trivial⟩ rfl
      ·replace h := bF hb42 h
       refine Rn.sk (nw rfl hb42) (Rn.sk (nw rfl hb42) (Rn.sk (nw rfl hb42) (Rn.pickF (v := (b_ false)) trivial rfl hb42 rfl (md rfl (Rn.sk (nw (b := false) rfl rfl) (Rn.sk (nw (b := false) rfl rfl) (Rn.sk (nw (b := false) rfl rfl) (Rn.pickF (v := (b_ false)) trivial rfl rfl rfl (md rfl (Rn.sk (nw (b := false) rfl rfl) (Rn.sk (nw (b := false) rfl rfl) (Rn.pickF (v := (b_ false)) trivial rfl rfl rfl (md rfl (Rn.sk (nw (b := false) rfl rfl) (Rn.sk (nw (b := false) rfl rfl) (Rn.sk (nw (b := false) rfl rfl) (Rn.pickF (v := (b_ false)) trivial rfl rfl rfl (md rfl (Rn.sk (nw (b := false) rfl rfl) (Rn.sk (nw (b := false) rfl rfl) (Rn.sk (nw (b := false) rfl rfl) (Rn.pickF (v := (b_ false)) trivial rfl rfl rfl (md rfl (Rn.sk (nw (b := false) rfl rfl) (Rn.sk (nw (b := false) rfl rfl) (Rn.sk (nw (b := false) rfl rfl) (Rn.pickF (v := (b_ false)) trivial rfl rfl rfl (md rfl (Rn.sk (nw (b := false) rfl rfl) (Rn.sk (nw (b := false) rfl rfl) (Rn.sk (nw (b := false) rfl rfl) (Rn.pickF (v := (b_ false)) trivial rfl rfl rfl (md rfl (Rn.sk (nw (b := false) rfl rfl) (Rn.sk (nw (b := false) rfl rfl) (Rn.sk (nw (b := false) rfl rfl) (Rn.pickF (v := (b_ false)) trivial rfl rfl rfl (md rfl (Rn.sk (nw (b := false) rfl rfl) ?_)))))))))))))))))))))))))))))))))))))))
       refine Rn.sk (nw (b := false) rfl rfl) (Rn.sk (nw (b := false) rfl rfl) (Rn.pickF (v := (b_ false)) trivial rfl rfl rfl (md rfl (Rn.sk (nw (b := false) rfl rfl) (Rn.sk (nw (b := false) rfl rfl) (Rn.sk (nw (b := false) rfl rfl) (Rn.pickF (v := (b_ false)) trivial rfl rfl rfl (md rfl (Rn.sk (nw (b := false) rfl rfl) (Rn.sk (nw (b := false) rfl rfl) (Rn.sk (nw (b := false) rfl rfl) (Rn.pickF (v := (b_ false)) trivial rfl rfl rfl (md rfl (Rn.sk (nw (b := false) rfl rfl) (Rn.sk (nw (b := false) rfl rfl) (Rn.pickF (v := (b_ false)) trivial rfl rfl rfl (md rfl (Rn.sk (nw (b := false) rfl rfl) (Rn.sk (nw (b := false) rfl rfl) (Rn.sk (nw (b := false) rfl rfl) (Rn.pickF (v := (b_ false)) trivial rfl rfl rfl (md rfl (Rn.nil ?_)))))))))))))))))))))))
       replace h := si h; subst h
       exact Qm [] ⟨(sm rfl), trivial⟩ ⟨⟨_, rfl, rfl, (.same rfl)⟩, ⟨_, rfl, rfl, (.same rfl)⟩, ⟨_, rfl, rfl, (.same rfl)⟩, trivial⟩ rfl
     ·obtain ⟨x57, rfl⟩ : ∃ x, x = z := ⟨_, rfl⟩
      refine Tr.ret ?_
      replace h := si h; subst h
      exact ⟨.inr rfl, (b_ x57), rfl, fun _ _ _ _ h => h, trivial, fun k hk => Qg hk⟩
end Go.Abs
end
section
namespace Go.Proofs
open Go.Abs
set_option maxRecDepth 100000
theorem Qij : Qz Try.prog 6 = some Qc4 := by kernel_rfl
theorem Qwc : Qz Try.prog 7 = some Qf8 := by kernel_rfl
theorem Qyi : Qz Try.prog 8 = some Qgt := by kernel_rfl
theorem Qyj : Qz Try.prog 11 = some Qgq := by kernel_rfl
theorem Qyk : Qz Try.prog 12 = some Qgs := by kernel_rfl
theorem Qyl : Qz Try.prog 14 = some Qgp := by kernel_rfl
theorem Q1z : Qz Try.prog 16 = some Qiy := by kernel_rfl
theorem Qpr : Qz Try.prog 19 = some Qe3 := by kernel_rfl
theorem Qwd : Qz Try.prog 21 = some Qga := by kernel_rfl
theorem Q01 : Qz Try.prog 22 = some Qh7 := by kernel_rfl
theorem Qwe : Qz Try.prog 23 = some Qgc := by kernel_rfl
theorem Q10 : Qz Try.prog 24 = some Qjd := by kernel_rfl
theorem Qym : Qz Try.prog 25 = some Qgv := by kernel_rfl
theorem Qsx : Qz Try.prog 26 = some Qfc := by kernel_rfl
theorem Qnu : Qz Try.prog 27 = some Qeo := by kernel_rfl
theorem Q02 : Qz Try.prog 30 = some Qh2 := by kernel_rfl
theorem Qz6 : Qz Try.prog 31 = some Qg5 := by kernel_rfl
theorem Qz7 : Qz Try.prog 32 = some Qg7 := by kernel_rfl
theorem Qwf : Qz Try.prog 35 = some Qf1 := by kernel_rfl
theorem Qu0 : Qz Try.prog 37 = some Qfs := by kernel_rfl
theorem Qwg : Qz Try.prog 38 = some Qf6 := by kernel_rfl
theorem Qyn : Qz Try.prog 41 = some Qgo := by kernel_rfl
theorem Qmn : Qz Try.prog 42 = some Qd6 := by kernel_rfl
theorem Qjz : Qz Try.prog 44 = some Qdf := by kernel_rfl
theorem Qm3 : Qz Try.prog 45 = some Qee := by kernel_rfl
theorem Qmo : Qz Try.prog 46 = some Qd7 := by kernel_rfl
theorem Q03 : Qz Try.prog 47 = some Qh3 := by kernel_rfl
theorem Qz8 : Qz Try.prog 48 = some Qg9 := by kernel_rfl
theorem Qwh : Qz Try.prog 49 = some Qf2 := by kernel_rfl
theorem Qmp : Qz Try.prog 50 = some Qd5 := by kernel_rfl
theorem Q11 : Qz Try.prog 53 = some Qis := by kernel_rfl
theorem Q04 : Qz Try.prog 57 = some Qh1 := by kernel_rfl
theorem Qwi : Qz Try.prog 59 = some Qf4 := by kernel_rfl
theorem Qnv : Qz Try.prog 62 = some Qek := by kernel_rfl
theorem Qik : Qz Try.prog 63 = some Qc3 := by kernel_rfl
theorem Qku : Qz Try.prog 64 = some Qdr := by kernel_rfl
theorem Qkv : Qz Try.prog 65 = some Qdp := by kernel_rfl
theorem Qyo : Qz Try.prog 66 = some Qgn := by kernel_rfl
theorem Qu1 : Qz Try.prog 67 = some Qfp := by kernel_rfl
theorem Q4c : Qz Try.prog 74 = some Qnq := by kernel_rfl
theorem Qnw : Qz Try.prog 87 = some Qem := by kernel_rfl
theorem Q3u : Qz Try.prog 88 = some Qmc := by kernel_rfl
theorem Qu2 : Qz Try.prog 91 = some Qfr := by kernel_rfl
theorem Q3v : Qz Try.prog 97 = some Ql1 := by kernel_rfl
theorem Q05 : Qz Try.prog 101 = some Qh5 := by kernel_rfl
theorem Qkw : Qz Try.prog 102 = some Qdt := by kernel_rfl
theorem Q12 : Qz Try.prog 103 = some Qi9 := by kernel_rfl
theorem Q13 : Qz Try.prog 104 = some Qjb := by kernel_rfl
end Go.Proofs
end
section
namespace Go.Abs
open Go Go.Sort
set_option linter.unusedVariables false
section plain
variable {β : Type}
def insB (lt : β → β → Bool) (x : β) : List β → List β
 | [] => [x]
 | y :: ys => if lt y x then y :: insB lt x ys else x :: y :: ys
def Qh9 (lt : β → β → Bool) : List β → List β
 | [] => []
 | x :: xs => insB lt x (Qh9 lt xs)
def Q4d (lt : β → β → Bool) : List β → Bool
 | [] => true
 | x :: xs => xs.all (fun y => lt x y || lt y x) && Q4d lt xs
def Qbdj (ok : β → Bool) (lt : β → β → Bool) (l : List β) : Option (List β) := if l.all ok && Q4d lt l then some (Qh9 lt l) else none
theorem Q3w (lt : β → β → Bool) (x : β) : ∀ l, (insB lt x l).Perm (x :: l)
 | [] => .refl _
 | y :: ys => by
  unfold insB; split
  ·exact ((Q3w lt x ys).cons y).trans (.swap x y ys)
  ·exact .refl _
theorem Qje (lt : β → β → Bool) : ∀ l, (Qh9 lt l).Perm l
 | [] => .refl _
 | x :: xs => (Q3w lt x _).trans ((Qje lt xs).cons x)
theorem Qlg (lt : β → β → Bool) (l : List β) : (Qh9 lt l).length = l.length := (Qje lt l).length_eq
theorem Q3x {lt : β → β → Bool} (h : SWO lt) (x : β) : ∀ l, l.Pairwise (fun a b => lt b a = false) → (insB lt x l).Pairwise fun a b => lt b a = false
 | [], _ => by simp [insB]
 | y :: ys, hl => by
  obtain ⟨h1, h2⟩ := List.pairwise_cons.1 hl
  unfold insB; split
  ·rename_i hc
   refine List.pairwise_cons.2 ⟨fun z hz => ?_, Q3x h x ys h2⟩
   rcases List.mem_cons.1 ((Q3w lt x ys).mem_iff.1 hz) with rfl | hz
   ·cases hb : lt z y with
    | false => rfl
    | true => have := h.trans _ _ _ hc hb; rw [h.irrefl] at this; cases this
   ·exact h1 z hz
  ·rename_i hc
   have hc : lt y x = false := by cases h : lt y x <;> simp_all
   refine List.pairwise_cons.2 ⟨fun z hz => ?_, hl⟩
   rcases List.mem_cons.1 hz with rfl | hz
   ·exact hc
   ·exact h.ntrans _ _ _ (h1 z hz) hc
theorem Qlh {lt : β → β → Bool} (h : SWO lt) : ∀ l, (Qh9 lt l).Pairwise fun a b => lt b a = false
 | [] => .nil
 | x :: xs => Q3x h x _ (Qlh h xs)
theorem Q46 {lt : β → β → Bool} : ∀ {l : List β}, Q4d lt l = true → ∀ a b, a ∈ l → b ∈ l → lt a b = false → lt b a = false → a = b
 | [], _, a, _, ha, _, _, _ => by cases ha
 | x :: xs, h, a, b, ha, hb, h1, h2 => by
  simp only [Q4d, Bool.and_eq_true, List.all_eq_true] at h
  obtain ⟨k1, k2⟩ := h
  rcases List.mem_cons.1 ha with e1 | ha' <;> rcases List.mem_cons.1 hb with e2 | hb'
  ·rw [e1, e2]
  ·subst e1; have := k1 b hb'; simp [h1, h2] at this
  ·subst e2; have := k1 a ha'; simp [h1, h2] at this
  ·exact Q46 k2 a b ha' hb' h1 h2
theorem Q50 {lt : β → β → Bool} (h : SWO lt) {l m : List β} (hd : Q4d lt l = true) (hp : m.Perm l) (hs : m.Pairwise fun a b => lt b a = false) : m = Qh9 lt l := by
 refine List.Perm.eq_of_pairwise (le := fun a b => lt b a = false) (fun a b ha hb h1 h2 => ?_) hs (Qlh h l) (hp.trans (Qje lt l).symm)
 exact Q46 hd a b (hp.mem_iff.1 ha) ((Qje lt l).mem_iff.1 hb) h2 h1
theorem Q8q {α : Type} (f : α → β) (lt : β → β → Bool) (x : α) : ∀ l : List α, insB lt (f x) (l.map f) = (insB (fun a b => lt (f a) (f b)) x l).map f
 | [] => rfl
 | y :: ys => by
  simp only [List.map_cons, insB]; split
  ·simp only [List.map_cons, Q8q f lt x ys]
  ·rfl
theorem Q47 {α : Type} (f : α → β) (lt : β → β → Bool) : ∀ l : List α, Qh9 lt (l.map f) = (Qh9 (fun a b => lt (f a) (f b)) l).map f
 | [] => rfl
 | x :: xs => by simp only [List.map_cons, Qh9, Q47 f lt xs, Q8q]
theorem Q61 {α : Type} (f : α → β) (lt : β → β → Bool) : ∀ l : List α, Q4d lt (l.map f) = Q4d (fun a b => lt (f a) (f b)) l
 | [] => rfl
 | x :: xs => by simp only [List.map_cons, Q4d, Q61 f lt xs, List.all_map]; rfl
end plain
def Qgz (a b : Int) : Bool := decide (a < b)
end Go.Abs
end
section
namespace Go.Abs
open Go Go.Sort Go.RowKit
set_option linter.unusedVariables false
theorem Q3y {P : Program} {f : FuncId} {ex : Array Value} {exV : List V} {sz nb : Nat} {M : Mem} (hb : Qfn P f = true) (hex : ∀ g w us, RFs g w exV us → us = ex.toList)
  (h : ∀ (p : Option Addr) (cap : Nat) (w : World), Calls P f (#[.slice p 0 cap] ++ ex) w fun e' w' => e' = .returned (.tuple #[]) ∧ w' = w) :
  ACalls P f (.d (.lst sz []) :: exV) M nb (.tup []) M nb := by
 refine ⟨hb, Nat.le_refl _, fun w g us hm hMon hfresh hus hfl hons => ?_⟩
 obtain ⟨u0, us', rfl, hu0, hus'⟩ := hus
 have h1 := hex _ _ _ hus'
 subst h1
 have h2 : ∃ p cap, u0 = .slice p 0 cap := by
  have := RF_d.1 hu0
  obtain ⟨a, cap, rfl, _, _⟩ := this
  exact ⟨a, cap, rfl⟩
 obtain ⟨p, cap, rfl⟩ := h2
 have e1 : (Value.slice p 0 cap :: ex.toList).toArray = #[.slice p 0 cap] ++ ex := by apply Array.ext'; simp
 rw [e1]
 refine (h p cap w).mono ?_
 rintro e' w' ⟨rfl, rfl⟩
 exact ⟨_, g, rfl, hm, ⟨[], rfl, rfl⟩, trivial, hMon, Fr.refl _ _ _⟩
theorem Q7t (l : List Int) : (l.mergeSort fun x y => decide (x ≤ y)) = Qh9 Qgz l := by
 have hO : Go.Sort.SWO Qgz := ⟨fun x => by simp [Qgz], fun x y z h1 h2 => by simp [Qgz] at *; omega, fun x y z h1 h2 => by simp [Qgz] at *; omega⟩
 refine List.Perm.eq_of_pairwise (le := fun a b => Qgz b a = false) (fun a b _ _ h1 h2 => by simp [Qgz] at *; omega) ?_ (Qlh hO l) ((List.mergeSort_perm _ _).trans (Qje _ l).symm)
 have := List.pairwise_mergeSort (le := fun x y : Int => decide (x ≤ y)) (fun a b c h1 h2 => by simp at *; omega) (fun a b => by simp; omega) l
 exact this.imp fun h => by simp [Qgz] at *; omega
end Go.Abs
end
section
namespace Go.Abs
def sortI (l : List Int) : Option (List Int) := if l.length ≤ lim then some (Qh9 Qgz l) else none
def Q8r (l : List Int) : Option (List Int) := if l.length ≤ lim then some (Lib.compact l) else none
def okE (x : Qh) : Bool := decide (0 ≤ x.From ∧ x.From < 4611686018427387904 ∧ 0 ≤ x.Event ∧ x.Event < 4611686018427387904)
def ltE (x y : Qh) : Bool := decide (x.From < y.From ∨ (x.From = y.From ∧ x.Event < y.Event))
def Qbcv (l : List Qh) : Option (List Qh) := if l.length ≤ 65536 then Qbdj okE ltE l else none
def Qbdk (n : Int) : Option (List Int) := if 0 ≤ n ∧ n ≤ lim then some [] else none
def keyB (l : List Int) : ByteArray := ⟨(l.flatMap fun x => Lib.encodeRune (x + 1)).toArray⟩
def keyS (l : List Int) : Option ByteArray := if l.length ≤ lim ∧ ∀ x ∈ l, 0 ≤ x ∧ x < 50000 then some (keyB l) else none
end Go.Abs
end
section
namespace Go.Abs
open Go Go.Abs
set_option linter.unusedVariables false
set_option maxRecDepth 10000
set_option maxHeartbeats 4000000
def Qdv : Nat := 1099511627776
def Qia := Qbo
def Qez := Qbm Qdv
def Qfx := Qb6 Qdv
def Qbj := Qi Qfx
def Qeb := Qbl Qbj Qdv
def Qe4 := Qbd Qez Qeb
def Qdh := Qx Qdv
def Qb9 := Qp Qdh Qe4
def Qc1 := Qq Qbj Qdv
def Qff := Q4
def Qcy := Qs sortI Qbj Qff Qdv
def Qd8 := Qy Qcy
def Qes := Q3 Qbj
def Qin := Qbt Qdv
def Qep := Q0 Qin
def Qe7 := Q9 Qep Qes
def Qc6 := Qu Qcy Qdv
def Qdw := Q6 Qb9 Qc1 Qd8 keyS Qe7 Qc6 Qdv
def Qfg := Qbb Qbj
def Qcz := Qt Qep Qfg
def Qib := Qbe
def Qe5 := Qbf Qb9 Qbj Qc1 Qcz Qib Qdv
def Qmq := Qcf
def Qmr := Qcg Qbdk Qdv
def Qu3 := Qft
def Qwj := Qcx
def Qyx := Qd2 Qwj
def Qnb := Qb7
def Qg0 := Qbh Qyx Qnb Qdv
def Qfh := Q5 Qdv
def Qps := Qcq
def Qpt := Qcr
def Qwk := Qdg Qfh Qps Qpt
def Qj0 := Qbx Qib Qg0 Qwk Qdv
def Qj1 := Qby Qe4 Qj0
def Qdx := Q7 Qb9 Qmq Qmr sortI Q8r Qbj Qbcv Qj1 Qdv
def Qdm := Qv Qdv
def Qkx := Qb3 Qdm Qdv
def Qg1 := Qbi Qdm Qdv
def Qgd := Qbq Qdx Qkx Qdw Qe5 Qdm Qia Qg1
def Qdy := Q2 Qdv
def Qfd := Qb1 Qdv
def Qeh := Qbr Qdy Qfd Qdv
def Qfy := Qb8 Qb9 Qc1 Qdh Qcy
def Qei := Qbs Qb9 Qc1 Qd8 Qc6 Qcz Qdv
def Qgh := Qci Qb9 Qc1 Qc6 Qcz Qdh
def Qgw := Qbu
def Qc5 := Qcc Qgd Qdy Qdx Qdw Qe5 Qeh Qfy Qei Qgh Qgw
end Go.Abs
end
section
namespace Go.Abs
open Go Go.Sort Go.Shelf Go.RowKit Go.Lib Go.Proofs
set_option linter.unusedVariables false
set_option linter.unusedSectionVars false
theorem Q62 {α : Type} [Inhabited α] {enc : α → List Value} {k : Nat} (hk : ∀ x, (enc x).length = k) (h0 : 0 < k) : ∀ (l : List α) (t : Nat), t < l.length * k → (l.map enc).flatten[t]? = some (enc l[t / k]!)[t % k]!
  | [], t, h => by simp at h
  | x :: xs, t, h => by
    rw [List.map_cons, List.flatten_cons]
    by_cases hl : t < k
    · rw [List.getElem?_append_left (by rw [hk]; exact hl), Nat.div_eq_of_lt hl, Nat.mod_eq_of_lt hl]
      have : t < (enc x).length := by rw [hk]; exact hl
      simp [this]
    · have hge : k ≤ t := by omega
      have h2 : t - k < xs.length * k := by simp only [List.length_cons, Nat.add_mul, Nat.one_mul] at h; omega
      rw [List.getElem?_append_right (by rw [hk]; exact hge), hk, Q62 hk h0 xs (t - k) h2]
      have e1 : t / k = (t - k) / k + 1 := by rw [← Nat.add_div_right _ h0, Nat.sub_add_cancel hge]
      have e2 : t % k = (t - k) % k := by rw [Nat.mod_eq_sub_mod hge]
      rw [e1, e2]; simp
theorem Q63 {α : Type} [Inhabited α] {enc : α → List Value} {k : Nat} (hk : ∀ x, (enc x).length = k) (h0 : 0 < k) (l : List α) : flatK enc k l.toArray = (l.map enc).flatten.toArray := by
  have hs : (l.map enc).flatten.length = l.length * k := by
    induction l with
    | nil => simp
    | cons x xs ih => rw [List.map_cons, List.flatten_cons, List.length_append, ih, hk]; simp [Nat.add_mul]; omega
  refine ext_get! (by simp [hs]) fun t ht => ?_
  have ht' : t < l.length * k := by simpa using ht
  rw [get_flatK _ _ _ _ (by simpa using ht')]
  have := Q62 hk h0 l t ht'
  obtain ⟨h1, h2⟩ := List.getElem?_eq_some_iff.1 this
  rw [getElem!_pos _ t (by simpa using h1)]
  simp only [List.getElem_toArray, h2]
  simp
theorem Q64 {α : Type} (e : α → List D) (xs : List α) : rowV e xs = (xs.map fun x => (e x).map D.val).flatten := by
  unfold rowV; rw [List.map_flatten, List.map_map]; rfl
theorem Q4e {P : Program} {ρ : Ren} {α : Type} [Inhabited α] (L : SlLaysF0.n6 P ρ) {k : Nat} (aE : ∀ w, (isAgg (ρ.t 24)).run P w = .ok true w) (zE : ∀ w, (Go.sizeOf (ρ.t 24)).run P w = .ok k w) (e : α → List D) (hk : ∀ x, (e x).length = k) (h0 : 0 < k) (hsc : ∀ x, (e x).all D.scalar = true)
    (cf : α → α → Int) (hO : SWO (ltOf cf)) (g : Nat) (cb : Array Value) (eg : ∀ args w, (callFunc g args).run P w = .ok (.enter g args) w)
    (hcmp : ∀ (x y : α) (W : World), Calls P g (#[.agg ((e x).map D.val).toArray, .agg ((e y).map D.val).toArray] ++ cb) W fun r w' => r = .returned (.int .i64 (cf x y)) ∧ ∃ q os', w' = grow (W.drewN q) os') :
    Qba0 P (ρ.f 6) e #[.func (.func g) #[] cb] (fun xs => (pdq (ltOf cf) xs.toArray 0 xs.length (Lib.bitLen xs.length) true true).toList) := by
  intro blk cap xs w hc hblk hsz
  have henc : ∀ x, ((fun x => (e x).map D.val) x).length = k := fun x => by simp [hk]
  have h1 : ∀ x : α, ∀ v ∈ (e x).map D.val, v.oneCell' = true := by
    intro x v hv
    obtain ⟨d, hd, rfl⟩ := List.mem_map.1 hv
    exact Q7s (List.all_eq_true.1 (hsc x) d hd)
  have hH : HoldsK (fun x => (e x).map D.val) k w blk 0 xs.toArray := by
    unfold HoldsK
    rw [Q63 henc h0, ← Q64]
    intro j hj
    have hj' : j < (rowV e xs).length := by simpa using hj
    obtain ⟨k1, k2⟩ := hc j hj'
    rw [Nat.zero_add]
    refine ⟨k1.trans ?_, k2⟩
    rw [List.getElem?_eq_getElem hj', getElem!_pos _ j hj]; rfl
  have hcl : CmpLays P g cb (fun x => (e x).map D.val) k cf blk 0 xs.toArray.size w := fun _ _ _ _ x y => hcmp x y _
  have := AnyQ.slices_SortFunc_eq L k aE zE (fun x => (e x).map D.val) henc h1 cf hO g cb blk 0 cap xs.toArray w eg hcl hH hblk (by simpa using hsz)
  refine this.mono ?_
  rintro r w' ⟨rfl, n, os, rfl⟩
  refine ⟨rfl, n, os, ?_⟩
  unfold sortWorldK putRowK
  have hrow : flatK (fun x => (e x).map D.val) k (pdq (ltOf cf) xs.toArray 0 xs.toArray.size (Lib.bitLen xs.toArray.size) true true) = (rowV e (pdq (ltOf cf) xs.toArray 0 xs.length (Lib.bitLen xs.length) true true).toList).toArray := by
    rw [Q64, ← Q63 henc h0]; simp
  rw [hrow]
section
variable {α : Type} [Inhabited α]
theorem Q51 {lt : α → α → Bool} (hO : SWO lt) (xs : List α) (k : Nat) : (pdq lt xs.toArray 0 xs.length k true true).toList.Perm xs ∧ (pdq lt xs.toArray 0 xs.length k true true).toList.Pairwise fun a b => lt b a = false := by
  obtain ⟨⟨h1, _, h2⟩, h3⟩ := pdq_sorts lt hO xs.toArray 0 xs.length k true true (Nat.zero_le _) (by simp) (Or.inl rfl)
  generalize pdq lt xs.toArray 0 xs.length k true true = d at *
  have hs : d.size = xs.length := by simpa using h1
  refine ⟨?_, ?_⟩
  · have e1 : d.extract 0 xs.length = d := by rw [← hs]; exact Array.extract_size
    have e2 : xs.toArray.extract 0 xs.length = xs.toArray := by have : xs.length = xs.toArray.size := by simp
                                                                rw [this]; exact Array.extract_size
    rw [e1, e2] at h2
    simpa using h2
  · rw [List.pairwise_iff_getElem]
    intro i j hi hj hij
    have hi' : i < d.size := by simpa using hi
    have hj' : j < d.size := by simpa using hj
    have := h3 i j (Nat.zero_le _) hij (by omega)
    rw [getElem!_pos d i hi', getElem!_pos d j hj'] at this
    simpa using this
theorem Qba7 {lt : α → α → Bool} (hO : SWO lt) (xs : List α) (k : Nat) (hd : Q4d lt xs = true) : (pdq lt xs.toArray 0 xs.length k true true).toList = Qh9 lt xs :=
  Q50 hO hd (Q51 hO xs k).1 (Q51 hO xs k).2
end
theorem Qba8 {β : Type} {P : Program} {c : Nat} {e : β → List D} {sz N : Nat} {ok : β → Bool} {lt : β → β → Bool} [Inhabited {x : β // ok x = true}] {lt' : {x : β // ok x = true} → {x : β // ok x = true} → Bool}
    (hN : N < 4611686018427387904) (hk : ∀ x, (e x).length = sz) (hsc : ∀ x, (e x).all D.scalar = true) (hO : SWO lt') (hlt : ∀ x y, lt' x y = lt x.1 y.1) (hb : Qfn P c = true) {ex : Array Value} {exV : List V} (hex : ∀ g w us, RFs g w exV us → us = ex.toList)
    (hrow : Qba0 P c (fun x : {x : β // ok x = true} => e x.1) ex (fun xs => (pdq lt' xs.toArray 0 xs.length (Lib.bitLen xs.length) true true).toList))
    (hnone : ∀ (p : Option Addr) (cap : Nat) (w : World), Calls P c (#[.slice p 0 cap] ++ ex) w fun e' w' => e' = .returned (.tuple #[]) ∧ w' = w) :
    RowK P c e sz exV (fun l => if l.length ≤ N then Qbdj ok lt l else none) := by
  intro xs ys h
  dsimp only at h
  split at h <;> try (cases h; done)
  rename_i hlN
  unfold Qbdj at h
  split at h <;> cases h
  rename_i hok
  simp only [Bool.and_eq_true, List.all_eq_true] at hok
  obtain ⟨ho, hd⟩ := hok
  obtain ⟨zs, rfl⟩ : ∃ zs : List {x : β // ok x = true}, xs = zs.map Subtype.val := ⟨xs.pmap Subtype.mk ho, by rw [List.map_pmap]; simp⟩
  have hd' : Q4d lt' zs = true := by
    rw [Q61] at hd
    rw [show lt' = fun a b => lt a.1 b.1 from funext fun a => funext fun b => hlt a b]; exact hd
  have e1 : Qh9 lt (zs.map Subtype.val) = (Qh9 lt' zs).map Subtype.val := by
    rw [Q47, show lt' = fun a b => lt a.1 b.1 from funext fun a => funext fun b => hlt a b]
  refine ⟨Qlg _ _, fun h0 => ?_, fun hl cap k0 M nb hM => ?_⟩
  · simp only [List.map_eq_nil_iff] at h0
    subst h0
    exact ⟨rfl, fun M nb => Q3y hb hex hnone⟩
  · have hM' : M k0 = some (.cells (Qbc (zs.map fun x => e x.1) ((cap - zs.length) * sz))) := by
      rw [hM, List.map_map, List.length_map]; rfl
    have := Q44 (fun x => hk x.1) (fun x => hsc x.1) (fun xs => (Q51 hO xs _).1.length_eq) hex hb hrow zs cap k0 M nb hM' (by rw [List.length_map] at hlN; omega)
    rw [Qba7 hO zs _ hd'] at this
    rw [e1, List.map_map, List.length_map]
    exact this
end Go.Abs
end
section
namespace Go.Abs
open Go Go.RowKit
set_option linter.unusedVariables false
end Go.Abs
end
section
namespace Go.Abs
open Go Go.Sort Go.RowKit
set_option linter.unusedVariables false
theorem Q3z (xs : List Int) : rowV (eI .i64) xs = xs.map (Value.int .i64) := by
 unfold rowV
 induction xs with
 | nil => rfl
 | cons x xs ih => simp only [List.map_cons, List.flatten_cons, List.map_append, ih]; rfl
theorem Qba9 {P : Program} {c : Nat} (hb : Qfn P c = true)
  (hs : ∀ (blk off cap : Nat) (zs : List Int) (w : World), Holds (Value.int .i64) w blk off zs.toArray → blk < w.heap.size → zs.length < 4611686018427387904 →
   Calls P c #[.slice (some ⟨blk, off, none⟩) zs.length cap] w fun e w' => e = .returned (.tuple #[]) ∧ ∃ n os, w' = grow (putRow (Value.int .i64) (Sort.ahead w n) blk off (zs.mergeSort fun x y => decide (x ≤ y)).toArray) os)
  (hnone : ∀ (p : Option Addr) (cap : Nat) (w : World), Calls P c (#[.slice p 0 cap] ++ #[]) w fun e' w' => e' = .returned (.tuple #[]) ∧ w' = w) :
  RowK P c (eI .i64) 1 [] (fun l => if l.length ≤ lim then some (Qh9 Qgz l) else none) := by
 have hrow : Qba0 P c (eI .i64) #[] (fun xs => Qh9 Qgz xs) := by
  intro blk cap xs w hcell hblk hsz
  refine Calls.mono (hs blk 0 cap xs w ?_ hblk hsz) ?_
  ·intro j hj
   have hj' : j < xs.length := by simpa using hj
   have := hcell j (by rw [Q3z]; simpa using hj')
   rw [Q3z] at this
   rw [Nat.zero_add]
   refine ⟨?_, this.2⟩
   rw [this.1, getElem!_pos xs.toArray j hj]
   simp [hj']
  ·rintro e w' ⟨rfl, n, os, rfl⟩
   refine ⟨rfl, n, os, ?_⟩
   rw [Q7t, Q3z]
   congr 1
   unfold putRow
   congr 1
   funext c
   unfold putCells
   congr 1
   funext k x
   simp only [List.size_toArray, List.length_map]
   split
   ·rename_i h
    simp only [id]
    rw [getElem!_pos _ _ (by simp; omega), getElem!_pos _ _ (by simp; omega)]
    simp
   ·rfl
 intro xs ys h
 dsimp only at h
 split at h <;> cases h
 rename_i hl
 refine ⟨Qlg _ _, fun h0 => ?_, fun hl2 cap k0 M nb hM => ?_⟩
 ·subst h0
  exact ⟨rfl, fun M nb => Q3y (ex := #[]) (exV := []) hb (fun _ _ _ h => h) hnone⟩
 ·exact Q44 (e := eI .i64) (fun _ => rfl) (fun _ => rfl) (fun xs => Qlg _ _) (ex := #[]) (exV := []) (fun _ _ _ h => h) hb hrow xs cap k0 M nb hM (by unfold lim at hl; omega)
end Go.Abs
end
section
namespace Go.Abs
open Go Go.Sort Go.RowKit Go.Lib
set_option linter.unusedVariables false
theorem Q30 (zs : List Int) : (Lib.compact zs).length ≤ zs.length := by
 unfold Lib.compact Lib.compactUpTo
 rw [List.length_map]
 exact Nat.le_trans (List.length_filter_le _ _) (by simp)
theorem Qbdl (l : List Int) : (l.map (eI .i64)).flatten = l.map (D.int .i64) := by
 induction l with
 | nil => rfl
 | cons x l ih => simp only [List.map_cons, List.flatten_cons, ih]; rfl
theorem Q9a {P : Program} {c : Nat} (hb : Qfn P c = true)
  (hs : ∀ (blk off cap : Nat) (zs : List Int) (w : World), Holds (Value.int .i64) w blk off zs.toArray → zs.length ≤ 9223372036854775807 → zs.length ≤ cap →
   Calls P c #[.slice (some ⟨blk, off, none⟩) zs.length cap] w fun e w' => e = .returned (.slice (some ⟨blk, off, none⟩) (Lib.compact zs).length cap) ∧ ∃ n, w' = putRow (Value.int .i64) (Sort.ahead w n) blk off (Lib.compact zs ++ List.replicate (zs.length - (Lib.compact zs).length) 0).toArray)
  (hnone : ∀ (p : Option Addr) (cap : Nat) (w : World), Calls P c #[.slice p 0 cap] w fun e' w' => e' = .returned (.slice p 0 cap) ∧ w' = w) :
  CompK P c (fun l => if l.length ≤ lim then some (Lib.compact l) else none) := by
 intro xs ys hf
 dsimp only at hf
 split at hf <;> cases hf
 rename_i hl
 refine ⟨Q30 xs, fun h0 => ?_, fun cap k0 M nb hcap hM => ?_⟩
 ·subst h0
  refine ⟨rfl, fun M nb => ⟨hb, Nat.le_refl _, fun w g us hm hMon hfresh hus hfl hons => ?_⟩⟩
  obtain ⟨u0, us', rfl, hu0, rfl⟩ := hus
  have h2 := RF_d.1 hu0
  obtain ⟨a, cp, rfl, _, _⟩ := id h2
  refine (hnone a cp w).mono ?_
  rintro e' w' ⟨rfl, rfl⟩
  exact ⟨_, g, rfl, hm, hu0 _, trivial, hMon, Fr.refl _ _ _⟩
 refine ⟨hb, Nat.le_refl _, fun w g us hm hMon hfresh hus hfl hons => ?_⟩
 obtain ⟨u0, us', rfl, hu0, rfl⟩ := hus
 have h0 := Q39.1 hu0
 subst h0
 obtain ⟨hk0, hown, vals, et, hh, hrv, hone⟩ := hm.box k0 _ hM
 have hlt : g.box k0 < w.heap.size := (Array.getElem?_eq_some_iff.1 hh).1
 obtain ⟨hvl, hvr⟩ := (Qbz _ _ _ _).1 hrv
 simp only [Qbc, Qbdl, List.map_map, List.length_append, List.length_map, List.length_replicate, Nat.mul_one] at hvl hvr
 have hcell : ∀ (j : Nat) (x : Int), xs[j]? = some x → vals[j]? = some (.int .i64 x) := by
  intro j x hx
  have hj := (List.getElem?_eq_some_iff.1 hx).1
  have hjv : j < vals.length := by omega
  have hc : (List.map (V.d ∘ D.int .i64) xs ++ List.replicate (cap - xs.length) V.und)[j]? = some (.d (.int .i64 x)) := by
   rw [List.getElem?_append_left (by rw [List.length_map]; exact hj), List.getElem?_map, hx]; rfl
  have := hvr j _ _ hc (List.getElem?_eq_getElem hjv)
  have h2 : vals[j] = .int .i64 x := this
  rw [List.getElem?_eq_getElem hjv, h2]
 have hH : Holds (Value.int .i64) w (g.box k0) 0 xs.toArray := by
  intro j hj
  have hj' : j < xs.length := by simpa using hj
  have := hcell j xs[j] (List.getElem?_eq_getElem hj')
  rw [Nat.zero_add]
  refine ⟨?_, by simp [World.frozen?, hh]⟩
  rw [getElem!_pos xs.toArray j hj]
  simp [World.cell?, hh, this]
 refine (hs (g.box k0) 0 cap xs w hH (by unfold lim at hl; omega) hcap).mono ?_
 rintro e' w' ⟨rfl, n, rfl⟩
 have hyl := Q30 xs
 generalize Lib.compact xs = ys at hyl ⊢
 generalize hF : (ys ++ List.replicate (xs.length - ys.length) 0).toArray = F
 have hFs : F.size = xs.length := by rw [← hF]; simp; omega
 have hput : putRow (Value.int .i64) (Sort.ahead w n) (g.box k0) 0 F = grow (putRow id (Sort.ahead w n) (g.box k0) 0 (F.map (Value.int .i64))) #[] := by
  have e1 : ∀ W : World, grow W #[] = W := fun W => by unfold grow; simp
  rw [e1]
  unfold putRow
  congr 1
  funext c
  unfold putCells
  congr 1
  funext k x
  simp only [Array.size_map]
  split
  ·rename_i h
   simp only [id]
   rw [getElem!_pos _ _ (by omega), getElem!_pos _ _ (by simp; omega)]
   simp
  ·rfl
 rw [hput]
 generalize hF' : F.map (Value.int .i64) = F'
 have hFs' : F'.size = xs.length := by rw [← hF', Array.size_map, hFs]
 have hFv : ∀ j (h : j < ys.length), F'[j]'(by omega) = Value.int .i64 ys[j] := by
  intro j h
  subst hF'
  subst hF
  simp only [List.getElem_toArray, Array.getElem_map]
  rw [List.getElem_append_left h]
 have hFi : ∀ j (h : j < F'.size), ∃ z : Int, F'[j] = Value.int .i64 z := by
  intro j h
  subst hF'
  exact ⟨_, Array.getElem_map ..⟩
 have hblk := Q3q w n (g.box k0) F' #[] hh
 have hoth : ∀ b, b ≠ g.box k0 → b < w.heap.size → (grow (putRow id (Sort.ahead w n) (g.box k0) 0 F') #[]).heap[b]? = w.heap[b]? := fun b hb hlt => Qnz w n _ F' #[] hb hlt
 have hsize : w.heap.size ≤ (grow (putRow id (Sort.ahead w n) (g.box k0) 0 F') #[]).heap.size := by
  simp [putRow, mapBlock, Sort.ahead]
 generalize hw' : grow (putRow id (Sort.ahead w n) (g.box k0) 0 F') #[] = w' at hblk hoth hsize
 have himm : Imm g.imm g.imm w w' := by
  refine ⟨fun _ _ h => h, fun b o h => ?_⟩
  obtain ⟨k1, k2⟩ := hm.imm b o h
  have hne : b ≠ g.box k0 := by rintro rfl; exact k2 k0 hown
  simp only [World.cell?, hoth b hne k1]
 have hkept : Kept g w g w' (There M) (fun o => o ≠ .box k0) := ⟨himm, fun _ _ => rfl, fun b hb hl => ⟨rfl, hoth b (by rintro rfl; exact hb hown) hl, fun _ => Iff.rfl⟩⟩
 have hsub : ∀ (o : Owner) i, o ≠ .box k0 → o.sub i ≠ .box k0 := by intro o i _; cases o <;> simp [Owner.sub]
 have hnew : ∀ p : Nat → Prop, V.ons p (Qbc (ys.map (eI .i64)) ((cap - ys.length) * 1)) := by
  intro p
  rw [Qe9]
  intro v hv
  simp only [Qbc, List.mem_append, List.mem_map, List.mem_replicate] at hv
  rcases hv with ⟨x, _, rfl⟩ | ⟨_, rfl⟩ <;> trivial
 have hth : There (M.put k0 (.cells (Qbc (ys.map (eI .i64)) ((cap - ys.length) * 1)))) k0 := by simp [There, Mem.put]
 refine ⟨_, g, rfl, ⟨fun k b hk => ?_, fun b o h => ⟨Nat.lt_of_lt_of_le (hm.imm b o h).1 hsize, (hm.imm b o h).2⟩⟩, by simp [RV], hth, fun k cs hk => ?_, ?_⟩
 ·by_cases hkk : k = k0
  ·subst hkk
   rw [Qev] at hk; cases hk
   refine ⟨hk0, hown, (putCells id 0 F' vals.toArray).toList, et, by simpa using hblk, (Qbz _ _ _ _).2 ⟨?_, fun j cc x hc hx => ?_⟩, fun x hx => ?_⟩
   ·simp only [Qbc, Qbdl, List.map_map, List.length_append, List.length_map, List.length_replicate, Nat.mul_one]
    simp [putCells]
    omega
   ·have hx' : (putCells id 0 F' vals.toArray)[j]? = some x := by simpa using hx
    simp only [putCells, Array.getElem?_mapIdx, List.getElem?_toArray, Option.map_eq_some_iff] at hx'
    obtain ⟨y, hy, rfl⟩ := hx'
    simp only [Qbc, Qbdl, List.map_map, Nat.mul_one] at hc
    by_cases hj : j < ys.length
    ·rw [List.getElem?_append_left (by rw [List.length_map]; exact hj), List.getElem?_map, List.getElem?_eq_getElem hj, Option.map_some, Option.some.injEq] at hc
     subst hc
     rw [if_pos ⟨Nat.zero_le _, by omega⟩]
     simp only [Nat.sub_zero, id]
     rw [getElem!_pos F' j (by omega), hFv j hj]
     simp [RV, RD]
    ·rw [List.getElem?_append_right (by rw [List.length_map]; omega)] at hc
     have : cc = .und := (List.mem_replicate.1 (List.mem_of_getElem? hc)).2
     subst this; simp [RV]
   ·obtain ⟨j, hj⟩ := List.getElem?_of_mem hx
    have hx' : (putCells id 0 F' vals.toArray)[j]? = some x := by simpa using hj
    simp only [putCells, Array.getElem?_mapIdx, List.getElem?_toArray, Option.map_eq_some_iff] at hx'
    obtain ⟨y, hy, rfl⟩ := hx'
    split
    ·rename_i hr
     simp only [id]
     rw [getElem!_pos F' _ (by omega)]
     obtain ⟨z, hz⟩ := hFi (j - 0) (by omega)
     rw [hz]
     exact Q7s (x := .int .i64 z) rfl
    ·exact hone y (List.mem_of_getElem? hy)
  ·rw [Qb5 _ _ hkk] at hk
   obtain ⟨k1, k2, k3⟩ := hm.box k b hk
   cases b with
   | mp es c =>
    obtain ⟨ents, q1, q2⟩ := k3
    have hne : g.box k ≠ g.box k0 := by
     intro h; rw [h, hown] at k2; cases k2; exact hkk rfl
    exact ⟨k1, k2, ents, (hoth _ hne (Array.getElem?_eq_some_iff.1 q1).1).trans q1, Qlr (g := g) (g' := g) hkept.imm q2⟩
   | cells cs =>
    obtain ⟨vals2, e2, q1, q2, q3⟩ := k3
    have hne : g.box k ≠ g.box k0 := by
     intro h; rw [h, hown] at k2; cases k2; exact hkk rfl
    refine ⟨k1, k2, vals2, e2, (hoth _ hne (Array.getElem?_eq_some_iff.1 q1).1).trans q1, ?_, q3⟩
    exact RVs_mono hkept hsub (by simp) cs (.box k) 0 vals2 (by simpa using hkk) (hMon k cs hk) q2
 ·by_cases hkk : k = k0
  ·subst hkk
   rw [Qev] at hk; cases hk
   exact hnew _
  ·rw [Qb5 _ _ hkk] at hk
   exact ons_mono (fun j hj => There.put hj) _ (hMon k cs hk)
 ·refine ⟨by rw [← hw']; rfl, by rw [← hw']; rfl, by rw [← hw']; rfl, hsize, himm, fun _ _ => rfl, fun b hb ho => ⟨rfl, hoth b ?_ hb, fun _ => Iff.rfl⟩⟩
  rintro rfl
  rw [hown] at ho
  exact ho
end Go.Abs
end
section
namespace Go.Proofs
open Go.Shelf
def Try.sortI_ren : Go.Shelf.Ren := ⟨fun | 5 => 33 | 8 => 56 | 7 => 55 | 19 => 77 | 20 => 78 | 10 => 68 | 11 => 69 | 12 => 70 | 13 => 71 | 14 => 72 | 15 => 73 | 16 => 74 | 17 => 75 | 18 => 76 | 30 => 92 | 31 => 93 | 32 => 94 | 33 => 95 | 34 => 96 | 35 => 97 | 40 => 107 | n => n, fun | 23 => 27 | 25 => 3 | 3 => 3 | 32 => 99 | 22 => 27 | 0 => 0 | 44 => 123 | 46 => 125 | 4 => 4 | 36 => 116 | 35 => 115 | 41 => 84 | 5 => 5 | 9 => 9 | 53 => 136 | 57 => 140 | 63 => 148 | 64 => 149 | n => n, fun | n => n⟩
theorem Try.sortI : Go.Proofs.SlLaysM.n5 Try.prog Try.sortI_ren := {
 mixed := by kernel_rfl
 f5 := ⟨Try.f33.name, by decide, Try.func33.trans (congrArg some (by kernel_rfl))⟩
 f7 := ⟨Try.f55.name, by decide, Try.func55.trans (congrArg some (by kernel_rfl))⟩
 f8 := Try.func56.trans (congrArg some (by kernel_rfl))
 f10 := ⟨Try.f68.name, by decide, Try.func68.trans (congrArg some (by kernel_rfl))⟩
 f11 := ⟨Try.f69.name, by decide, Try.func69.trans (congrArg some (by kernel_rfl))⟩
 f12 := ⟨Try.f70.name, by decide, Try.func70.trans (congrArg some (by kernel_rfl))⟩
 f13 := ⟨Try.f71.name, by decide, Try.func71.trans (congrArg some (by kernel_rfl))⟩
 f14 := ⟨Try.f72.name, by decide, Try.func72.trans (congrArg some (by kernel_rfl))⟩
 f15 := ⟨Try.f73.name, by decide, Try.func73.trans (congrArg some (by kernel_rfl))⟩
 f16 := ⟨Try.f74.name, by decide, Try.func74.trans (congrArg some (by kernel_rfl))⟩
 f17 := ⟨Try.f75.name, by decide, Try.func75.trans (congrArg some (by kernel_rfl))⟩
 f18 := ⟨Try.f76.name, by decide, Try.func76.trans (congrArg some (by kernel_rfl))⟩
 f19 := Try.func77.trans (congrArg some (by kernel_rfl))
 f20 := Try.func78.trans (congrArg some (by kernel_rfl))
 f30 := ⟨Try.f92.name, by decide, Try.func92.trans (congrArg some (by kernel_rfl))⟩
 f31 := Try.func93.trans (congrArg some (by kernel_rfl))
 f32 := Try.func94.trans (congrArg some (by kernel_rfl))
 f33 := ⟨Try.f95.name, by decide, Try.func95.trans (congrArg some (by kernel_rfl))⟩
 f34 := ⟨Try.f96.name, by decide, Try.func96.trans (congrArg some (by kernel_rfl))⟩
 f35 := ⟨Try.f97.name, by decide, Try.func97.trans (congrArg some (by kernel_rfl))⟩
 f40 := ⟨Try.f107.name, by decide, Try.func107.trans (congrArg some (by kernel_rfl))⟩
 t0 := Try.underlying0
 a0 := Try.isAgg0
 z0 := Try.sizeOf0
 v0 := Try.zeroValue0
 t3 := Try.underlying3
 a3 := Try.isAgg3
 z3 := Try.sizeOf3
 v3 := Try.zeroValue3
 t4 := Try.underlying4
 a4 := Try.isAgg4
 z4 := Try.sizeOf4
 v4 := Try.zeroValue4
 t5 := Try.underlying5
 a5 := Try.isAgg5
 z5 := Try.sizeOf5
 v5 := Try.zeroValue5
 t9 := Try.underlying9
 a9 := Try.isAgg9
 z9 := Try.sizeOf9
 v9 := Try.zeroValue9
 t22 := Try.underlying27
 a22 := Try.isAgg27
 z22 := Try.sizeOf27
 v22 := Try.zeroValue27
 t23 := Try.underlying27
 a23 := Try.isAgg27
 z23 := Try.sizeOf27
 v23 := Try.zeroValue27
 t25 := Try.underlying3
 a25 := Try.isAgg3
 z25 := Try.sizeOf3
 v25 := Try.zeroValue3
 t32 := Try.underlying99
 a32 := Try.isAgg99
 z32 := Try.sizeOf99
 v32 := Try.zeroValue99
 t35 := Try.underlying115
 a35 := Try.isAgg115
 z35 := Try.sizeOf115
 v35 := Try.zeroValue115
 t36 := Try.underlying116
 a36 := Try.isAgg116
 z36 := Try.sizeOf116
 v36 := Try.zeroValue116
 t41 := Try.underlying84
 a41 := Try.isAgg84
 z41 := Try.sizeOf84
 v41 := Try.zeroValue84
 t44 := Try.underlying123
 a44 := Try.isAgg123
 z44 := Try.sizeOf123
 v44 := Try.zeroValue123
 t46 := Try.underlying125
 a46 := Try.isAgg125
 z46 := Try.sizeOf125
 v46 := Try.zeroValue125
 t53 := Try.underlying136
 a53 := Try.isAgg136
 z53 := Try.sizeOf136
 v53 := Try.zeroValue136
 t57 := Try.underlying140
 a57 := Try.isAgg140
 z57 := Try.sizeOf140
 v57 := Try.zeroValue140
 t63 := Try.underlying148
 a63 := Try.isAgg148
 z63 := Try.sizeOf148
 v63 := Try.zeroValue148
 t64 := Try.underlying149
 a64 := Try.isAgg149
 z64 := Try.sizeOf149
 v64 := Try.zeroValue149 }
def Try.sortE_ren : Go.Shelf.Ren := ⟨fun | 6 => 36 | 15 => 56 | 14 => 58 | 28 => 77 | 29 => 78 | 20 => 79 | 21 => 80 | 22 => 81 | 23 => 82 | 24 => 83 | 25 => 84 | 26 => 85 | 27 => 86 | 46 => 98 | 47 => 93 | 48 => 94 | 49 => 99 | 50 => 100 | 57 => 108 | n => n, fun | 22 => 31 | 24 => 63 | 25 => 73 | 3 => 3 | 39 => 99 | 0 => 0 | 53 => 123 | 55 => 125 | 4 => 4 | 46 => 116 | 45 => 115 | 50 => 84 | 5 => 5 | 9 => 9 | 66 => 136 | 70 => 140 | 76 => 148 | 77 => 149 | n => n, fun | n => n⟩
theorem Try.sortE : Go.Proofs.SlLaysF0.n6 Try.prog Try.sortE_ren := {
 mixed := by kernel_rfl
 f6 := ⟨Try.f36.name, by decide, Try.func36.trans (congrArg some (by kernel_rfl))⟩
 f14 := ⟨Try.f58.name, by decide, Try.func58.trans (congrArg some (by kernel_rfl))⟩
 f15 := Try.func56.trans (congrArg some (by kernel_rfl))
 f20 := ⟨Try.f79.name, by decide, Try.func79.trans (congrArg some (by kernel_rfl))⟩
 f21 := ⟨Try.f80.name, by decide, Try.func80.trans (congrArg some (by kernel_rfl))⟩
 f22 := ⟨Try.f81.name, by decide, Try.func81.trans (congrArg some (by kernel_rfl))⟩
 f23 := ⟨Try.f82.name, by decide, Try.func82.trans (congrArg some (by kernel_rfl))⟩
 f24 := ⟨Try.f83.name, by decide, Try.func83.trans (congrArg some (by kernel_rfl))⟩
 f25 := ⟨Try.f84.name, by decide, Try.func84.trans (congrArg some (by kernel_rfl))⟩
 f26 := ⟨Try.f85.name, by decide, Try.func85.trans (congrArg some (by kernel_rfl))⟩
 f27 := ⟨Try.f86.name, by decide, Try.func86.trans (congrArg some (by kernel_rfl))⟩
 f28 := Try.func77.trans (congrArg some (by kernel_rfl))
 f29 := Try.func78.trans (congrArg some (by kernel_rfl))
 f46 := ⟨Try.f98.name, by decide, Try.func98.trans (congrArg some (by kernel_rfl))⟩
 f47 := Try.func93.trans (congrArg some (by kernel_rfl))
 f48 := Try.func94.trans (congrArg some (by kernel_rfl))
 f49 := ⟨Try.f99.name, by decide, Try.func99.trans (congrArg some (by kernel_rfl))⟩
 f50 := ⟨Try.f100.name, by decide, Try.func100.trans (congrArg some (by kernel_rfl))⟩
 f57 := ⟨Try.f108.name, by decide, Try.func108.trans (congrArg some (by kernel_rfl))⟩
 t0 := Try.underlying0
 a0 := Try.isAgg0
 z0 := Try.sizeOf0
 v0 := Try.zeroValue0
 t3 := Try.underlying3
 a3 := Try.isAgg3
 z3 := Try.sizeOf3
 v3 := Try.zeroValue3
 t4 := Try.underlying4
 a4 := Try.isAgg4
 z4 := Try.sizeOf4
 v4 := Try.zeroValue4
 t5 := Try.underlying5
 a5 := Try.isAgg5
 z5 := Try.sizeOf5
 v5 := Try.zeroValue5
 t9 := Try.underlying9
 a9 := Try.isAgg9
 z9 := Try.sizeOf9
 v9 := Try.zeroValue9
 t22 := Try.underlying31
 a22 := Try.isAgg31
 z22 := Try.sizeOf31
 v22 := Try.zeroValue31
 t25 := Try.underlying73
 a25 := Try.isAgg73
 z25 := Try.sizeOf73
 v25 := Try.zeroValue73
 t39 := Try.underlying99
 a39 := Try.isAgg99
 z39 := Try.sizeOf99
 v39 := Try.zeroValue99
 t45 := Try.underlying115
 a45 := Try.isAgg115
 z45 := Try.sizeOf115
 v45 := Try.zeroValue115
 t46 := Try.underlying116
 a46 := Try.isAgg116
 z46 := Try.sizeOf116
 v46 := Try.zeroValue116
 t50 := Try.underlying84
 a50 := Try.isAgg84
 z50 := Try.sizeOf84
 v50 := Try.zeroValue84
 t53 := Try.underlying123
 a53 := Try.isAgg123
 z53 := Try.sizeOf123
 v53 := Try.zeroValue123
 t55 := Try.underlying125
 a55 := Try.isAgg125
 z55 := Try.sizeOf125
 v55 := Try.zeroValue125
 t66 := Try.underlying136
 a66 := Try.isAgg136
 z66 := Try.sizeOf136
 v66 := Try.zeroValue136
 t70 := Try.underlying140
 a70 := Try.isAgg140
 z70 := Try.sizeOf140
 v70 := Try.zeroValue140
 t76 := Try.underlying148
 a76 := Try.isAgg148
 z76 := Try.sizeOf148
 v76 := Try.zeroValue148
 t77 := Try.underlying149
 a77 := Try.isAgg149
 z77 := Try.sizeOf149
 v77 := Try.zeroValue149 }
def Try.laysC_ren : Go.Shelf.Ren := ⟨fun | 20 => 34 | n => n, fun | 22 => 27 | 3 => 3 | 4 => 4 | 0 => 0 | n => n, fun | n => n⟩
theorem Try.laysC : Go.Proofs.Lays2.n20 Try.prog Try.laysC_ren := {
 mixed := by kernel_rfl
 f20 := Try.func34.trans (congrArg some (by kernel_rfl))
 t0 := Try.underlying0
 a0 := Try.isAgg0
 z0 := Try.sizeOf0
 v0 := Try.zeroValue0
 t3 := Try.underlying3
 a3 := Try.isAgg3
 z3 := Try.sizeOf3
 v3 := Try.zeroValue3
 t4 := Try.underlying4
 a4 := Try.isAgg4
 z4 := Try.sizeOf4
 v4 := Try.zeroValue4
 t22 := Try.underlying27
 a22 := Try.isAgg27
 z22 := Try.sizeOf27
 v22 := Try.zeroValue27
 i3 := by kernel_rfl }
open Go.RowKit Go.Sort in
theorem Try.slices_Sort_int (blk off cap : Nat) (zs : List Int) (w : World) (hH : Holds (Value.int .i64) w blk off zs.toArray) (hblk : blk < w.heap.size) (hsz : zs.length < 4611686018427387904) :
  Calls Try.prog 33 #[.slice (some ⟨blk, off, none⟩) zs.length cap] w fun e w' =>
   e = .returned (.tuple #[]) ∧ ∃ n os, w' = grow (putRow (Value.int .i64) (Sort.ahead w n) blk off (zs.mergeSort fun x y => decide (x ≤ y)).toArray) os := AnyM.slices_Sort_int Try.sortI blk off cap zs w hH hblk hsz
open Go.RowKit Go.Sort in
theorem Try.slices_Sort_int_none (p : Option Addr) (cap : Nat) (w : World) :
  Calls Try.prog 33 #[.slice p 0 cap] w fun e w' => e = .returned (.tuple #[]) ∧ w' = w := AnyM.slices_Sort_int_none Try.sortI p cap w
open Go.RowKit Go.Lib Go.Sort in
theorem Try.slices_Compact_int (blk off cap : Nat) (zs : List Int) (w : World) (hH : Holds (Value.int .i64) w blk off zs.toArray) (hsz : zs.length ≤ 9223372036854775807) (hcap : zs.length ≤ cap) :
  Calls Try.prog 34 #[.slice (some ⟨blk, off, none⟩) zs.length cap] w fun e w' => e = .returned (.slice (some ⟨blk, off, none⟩) (Lib.compact zs).length cap) ∧ ∃ q, w' = putRow (Value.int .i64) (Sort.ahead w q) blk off (Lib.compact zs ++ List.replicate (zs.length - (Lib.compact zs).length) 0).toArray := Any.slices_Compact_int Try.laysC blk off cap zs w hH hsz hcap
open Go.RowKit Go.Lib Go.Sort in
theorem Try.slices_Compact_int_empty (a : Option Addr) (cap : Nat) (w : World) :
  Calls Try.prog 34 #[.slice a 0 cap] w fun e w' => e = .returned (.slice a 0 cap) ∧ w' = w := Any.slices_Compact_int_empty Try.laysC a cap w
end Go.Proofs
end
section
namespace Go.Proofs
open Go.Shelf Go.RowKit Go.Lib Go.Sort Go.Abs
abbrev Q48 := {x : Qh // okE x = true}
instance : Inhabited Q48 := ⟨⟨⟨0, 0, 0⟩, rfl⟩⟩
def cfE (x y : Q48) : Int := if x.1.From = y.1.From then x.1.Event - y.1.Event else x.1.From - y.1.From
theorem Q2s (x y : Q48) : ltOf cfE x y = ltE x.1 y.1 := by
 unfold ltOf cfE ltE
 apply decide_eq_decide.2
 split <;> omega
theorem swoE : SWO (ltOf cfE) := {
 irrefl x := by rw [Q2s]; simp [ltE]
 trans x y z h1 h2 := by rw [Q2s] at *; simp only [ltE, decide_eq_true_eq] at *; omega
 ntrans x y z h1 h2 := by rw [Q2s] at *; simp only [ltE, decide_eq_false_iff_not] at *; omega }
set_option maxHeartbeats 1000000 in
theorem Try.edges37 (x y : Q48) (W : World) : Calls Try.prog 37 #[.agg ((Qc x.1).map D.val).toArray, .agg ((Qc y.1).map D.val).toArray] W fun e w' => e = .returned (.int .i64 (cfE x y)) ∧ ∃ q os', w' = grow (W.drewN q) os' := by
 obtain ⟨⟨a, b, c⟩, hx0⟩ := x
 obtain ⟨⟨a', b', c'⟩, hy0⟩ := y
 have hx := hx0
 have hy := hy0
 simp only [okE, decide_eq_true_eq] at hx hy
 have w1 : IntKind.i64.wrap (a - a') = a - a' := by simp [IntKind.wrap, IntKind.bits, IntKind.signed]; omega
 have w2 : IntKind.i64.wrap (b - b') = b - b' := by simp [IntKind.wrap, IntKind.bits, IntKind.signed]; omega
 have hr : cfE ⟨⟨a, b, c⟩, hx0⟩ ⟨⟨a', b', c'⟩, hy0⟩ = if a = a' then b - b' else a - a' := rfl
 generalize cfE ⟨⟨a, b, c⟩, hx0⟩ ⟨⟨a', b', c'⟩, hy0⟩ = r at hr ⊢
 simp only [Qc, List.map_cons, List.map_nil, D.val]
 go_enter Try.func37, Try.ntmps37
 go_wp2
 ·rename_i h
  have h : a ≠ a' := by simpa using h
  go_ret
  exact ⟨by rw [hr, if_neg h]; rfl, 0, _, by rw [alloc_eq_grow, alloc_eq_grow, grow_grow]; rfl⟩
 ·rename_i h
  have h : a = a' := by simpa using h
  go_ret
  exact ⟨by rw [hr, if_pos h]; rfl, 0, _, by rw [alloc_eq_grow, alloc_eq_grow, grow_grow]; rfl⟩
set_option maxHeartbeats 1000000 in
theorem Try.row36 : Qba0 Try.prog 36 (fun x : Q48 => Qc x.1) #[.func (.func 37) #[] #[]] (fun xs => (pdq (ltOf cfE) xs.toArray 0 xs.length (Lib.bitLen xs.length) true true).toList) :=
 Q4e Try.sortE Try.isAgg63 Try.sizeOf63 (fun x : Q48 => Qc x.1) (fun _ => rfl) (by decide) (fun _ => rfl) cfE swoE 37 #[] (enters_of Try.func37 (by kernel_rfl) rfl) (fun x y W => Try.edges37 x y W)
set_option maxHeartbeats 1000000 in
theorem Try.none36 (p : Option Addr) (cap : Nat) (w : World) : Calls Try.prog 36 (#[.slice p 0 cap] ++ #[.func (.func 37) #[] #[]]) w fun e' w' => e' = .returned (.tuple #[]) ∧ w' = w :=
 AnyF.slices_SortFunc_none Try.sortE p cap (.func (.func 37) #[] #[]) w
theorem Try.rowK36 : Go.Abs.RowK Try.prog 36 Qc 3 [.clo 37 []] Qbcv :=
 Qba8 (e := Qc) (sz := 3) (N := 65536) (by decide) (fun _ => rfl) (fun _ => rfl) swoE Q2s (by kernel_rfl) (ex := #[.func (.func 37) #[] #[]]) (exV := [.clo 37 []]) (fun g w us h => by
  obtain ⟨u, us', rfl, hu, hus⟩ := h
  simp only [RFs] at hus
  subst hus
  have := hu .free
  simp only [RV] at this
  obtain ⟨vs, rfl, hv⟩ := this
  simp only [RVs] at hv
  subst hv
  rfl) Try.row36 Try.none36
theorem Try.rowK33 : Go.Abs.RowK Try.prog 33 (eI .i64) 1 [] Go.Abs.sortI :=
 Qba9 (by kernel_rfl) Try.slices_Sort_int Try.slices_Sort_int_none
theorem Try.compK34 : Go.Abs.CompK Try.prog 34 Q8r :=
 Q9a (by kernel_rfl) Try.slices_Compact_int Try.slices_Compact_int_empty
end Go.Proofs
end
section
namespace Go.Proofs
open Go.Shelf
def Try.lays169_ren : Go.Shelf.Ren := ⟨fun | 169 => 61 | n => n, fun | 70 => 101 | 9 => 9 | 0 => 0 | 72 => 104 | 37 => 102 | 127 => 134 | 3 => 3 | 5 => 5 | n => n, fun | n => n⟩
theorem Try.lays169 : Go.Proofs.Lays.n169 Try.prog Try.lays169_ren := {
 mixed := by kernel_rfl
 f169 := Try.func61.trans (congrArg some (by kernel_rfl))
 t0 := Try.underlying0
 a0 := Try.isAgg0
 z0 := Try.sizeOf0
 v0 := Try.zeroValue0
 t3 := Try.underlying3
 a3 := Try.isAgg3
 z3 := Try.sizeOf3
 v3 := Try.zeroValue3
 t9 := Try.underlying9
 a9 := Try.isAgg9
 z9 := Try.sizeOf9
 v9 := Try.zeroValue9
 t37 := Try.underlying102
 a37 := Try.isAgg102
 z37 := Try.sizeOf102
 v37 := Try.zeroValue102
 t70 := Try.underlying101
 a70 := Try.isAgg101
 z70 := Try.sizeOf101
 v70 := Try.zeroValue101
 t72 := Try.underlying104
 a72 := Try.isAgg104
 z72 := Try.sizeOf104
 v72 := Try.zeroValue104
 t127 := Try.underlying134
 a127 := Try.isAgg134
 z127 := Try.sizeOf134
 v127 := Try.zeroValue134 }
theorem Try.Builder_Extra_169 : Builder.Extra Try.prog Try.lays169_ren := {
 sizeBuilder := by kernel_rfl
 liesBuilder := by kernel_rfl
 t5 := Try.underlying5
 a5 := Try.isAgg5
 z5 := Try.sizeOf5
 v5 := Try.zeroValue5
 infoByte := by kernel_rfl
 cellsByte := by kernel_rfl
 sizeByte := by kernel_rfl
 neB5 := by decide }
open Go.RowKit in
theorem Try.Builder_String_any_k (B b : Nat) (l : List UInt8) (w : World) (h : Lib.IsBuilderF 104 5 B b (Lib.byteCells l) w) (hBw : B ≤ w.heap.size) :
  Calls Try.prog 61 #[.pointer (some ⟨b, 0, none⟩)] w fun e w' => e = .returned (.string ⟨l.toArray⟩) ∧ (Lib.IsBuilderF 104 5 B b (Lib.byteCells l) w' ∧ Below B w w' ∧ Lib.OthersKept 5 (some b) w w') := Any.Builder_String_any_k Try.lays169 Try.Builder_Extra_169 B b l w h hBw
def Try.lays168_ren : Go.Shelf.Ren := ⟨fun | 168 => 60 | 240 => 89 | 242 => 90 | 276 => 105 | 278 => 106 | n => n, fun | 0 => 0 | 3 => 3 | 4 => 4 | 5 => 5 | 9 => 9 | 20 => 20 | 21 => 21 | 37 => 102 | 46 => 99 | 51 => 123 | 70 => 101 | 72 => 104 | 75 => 106 | 80 => 109 | 164 => 146 | n => n, fun | n => n⟩
theorem Try.lays168 : Go.Proofs.Lays.n168 Try.prog Try.lays168_ren := {
 mixed := by kernel_rfl
 f168 := Try.func60.trans (congrArg some (by kernel_rfl))
 f240 := Try.func89.trans (congrArg some (by kernel_rfl))
 f242 := Try.func90.trans (congrArg some (by kernel_rfl))
 f276 := Try.func105.trans (congrArg some (by kernel_rfl))
 f278 := Try.func106.trans (congrArg some (by kernel_rfl))
 t0 := Try.underlying0
 a0 := Try.isAgg0
 z0 := Try.sizeOf0
 v0 := Try.zeroValue0
 t3 := Try.underlying3
 a3 := Try.isAgg3
 z3 := Try.sizeOf3
 v3 := Try.zeroValue3
 t4 := Try.underlying4
 a4 := Try.isAgg4
 z4 := Try.sizeOf4
 v4 := Try.zeroValue4
 t5 := Try.underlying5
 a5 := Try.isAgg5
 z5 := Try.sizeOf5
 v5 := Try.zeroValue5
 t9 := Try.underlying9
 a9 := Try.isAgg9
 z9 := Try.sizeOf9
 v9 := Try.zeroValue9
 t20 := Try.underlying20
 a20 := Try.isAgg20
 z20 := Try.sizeOf20
 v20 := Try.zeroValue20
 t21 := Try.underlying21
 a21 := Try.isAgg21
 z21 := Try.sizeOf21
 v21 := Try.zeroValue21
 t37 := Try.underlying102
 a37 := Try.isAgg102
 z37 := Try.sizeOf102
 v37 := Try.zeroValue102
 t46 := Try.underlying99
 a46 := Try.isAgg99
 z46 := Try.sizeOf99
 v46 := Try.zeroValue99
 t51 := Try.underlying123
 a51 := Try.isAgg123
 z51 := Try.sizeOf123
 v51 := Try.zeroValue123
 t70 := Try.underlying101
 a70 := Try.isAgg101
 z70 := Try.sizeOf101
 v70 := Try.zeroValue101
 t72 := Try.underlying104
 a72 := Try.isAgg104
 z72 := Try.sizeOf104
 v72 := Try.zeroValue104
 t75 := Try.underlying106
 a75 := Try.isAgg106
 z75 := Try.sizeOf106
 v75 := Try.zeroValue106
 t164 := Try.underlying146
 a164 := Try.isAgg146
 z164 := Try.sizeOf146
 v164 := Try.zeroValue146 }
theorem Try.Builder_Extra_168 : Builder.Extra Try.prog Try.lays168_ren := {
 sizeBuilder := by kernel_rfl
 liesBuilder := by kernel_rfl
 t5 := Try.underlying5
 a5 := Try.isAgg5
 z5 := Try.sizeOf5
 v5 := Try.zeroValue5
 infoByte := by kernel_rfl
 cellsByte := by kernel_rfl
 sizeByte := by kernel_rfl
 neB5 := by decide }
open Go.RowKit in
theorem Try.Builder_WriteRune_k (B b : Nat) (bs : List Value) (r : Int) (hr0 : -2147483648 ≤ r) (hr1 : r ≤ 2147483647) (w : World) (h : Lib.IsBuilderF 104 5 B b bs w) (hlen : bs.length + 4 ≤ 140737488355328) (hBw : B ≤ w.heap.size) :
  Calls Try.prog 60 #[.pointer (some ⟨b, 0, none⟩), .int .i32 r] w fun e w' => e = .returned (.tuple #[.int .i64 (Lib.runeCells r).length, .nilIface]) ∧ (Lib.BuilderAtF 104 5 B b (.pointer (some ⟨b, 0, none⟩)) (bs ++ Lib.runeCells r) w' ∧ Below B w w' ∧ Lib.OthersKept 5 (some b) w w') := Any.Builder_WriteRune_k Try.lays168 Try.Builder_Extra_168 B b bs r hr0 hr1 w h hlen hBw
def Try.laysGrow_ren : Go.Shelf.Ren := ⟨fun | 4 => 54 | n => n, fun | 22 => 27 | 25 => 3 | 3 => 3 | 4 => 4 | 9 => 9 | 20 => 20 | 0 => 0 | n => n, fun | n => n⟩
theorem Try.laysGrow : Go.Proofs.Lays8.n4 Try.prog Try.laysGrow_ren := {
 mixed := by kernel_rfl
 f4 := ⟨Try.f54.name, by decide, Try.func54.trans (congrArg some (by kernel_rfl))⟩
 t0 := Try.underlying0
 a0 := Try.isAgg0
 z0 := Try.sizeOf0
 v0 := Try.zeroValue0
 t3 := Try.underlying3
 a3 := Try.isAgg3
 z3 := Try.sizeOf3
 v3 := Try.zeroValue3
 t4 := Try.underlying4
 a4 := Try.isAgg4
 z4 := Try.sizeOf4
 v4 := Try.zeroValue4
 t9 := Try.underlying9
 a9 := Try.isAgg9
 z9 := Try.sizeOf9
 v9 := Try.zeroValue9
 t20 := Try.underlying20
 a20 := Try.isAgg20
 z20 := Try.sizeOf20
 v20 := Try.zeroValue20
 t22 := Try.underlying27
 a22 := Try.isAgg27
 z22 := Try.sizeOf27
 v22 := Try.zeroValue27 }
end Go.Proofs
end
section
namespace Go.Abs
open Go Go.RowKit
set_option linter.unusedVariables false
set_option linter.unusedSimpArgs false
theorem MR.cellOld {g : G} {w w' : World} {M : Mem} {nb : Nat} (hm : MR g w M nb) (hbw : Below w.heap.size w w') : ∀ b o, g.imm b o → w'.cell? ⟨b, o, none⟩ = w.cell? ⟨b, o, none⟩ := by
 intro b o hi
 have hlt := (hm.imm b o hi).1
 simp only [World.cell?]
 rw [hbw.block b hlt]
theorem Q52 {P : Program} {f : FuncId} {args : List V} {x : D} (hx : x.scalar = true) (hb : Qfn P f = true)
  (h : ∀ (w : World) (g : G) (us : List Value), (∀ b o, g.imm b o → b < w.heap.size) → RFs g w args us → Calls P f us.toArray w fun e w' => e = .returned x.val ∧ Below w.heap.size w w') (M : Mem) (nb : Nat) : ACalls P f args M nb (.d x) M nb := by
 refine ⟨hb, Nat.le_refl _, fun w g us hm hMon hfresh hus hfl hons => ?_⟩
 refine Calls.mono (h w g us (fun b o hi => (hm.imm b o hi).1) hus) ?_
 rintro e w' ⟨rfl, hbw⟩
 have hI : Imm g.imm g.imm w w' := ⟨fun _ _ h => h, fun b o hi => hm.cellOld hbw b o hi⟩
 have hk : Kept g w g w' (There M) (fun _ => True) := ⟨hI, fun _ _ => rfl, fun b _ hlt => ⟨rfl, hbw.block b hlt, fun _ => Iff.rfl⟩⟩
 refine ⟨_, g, rfl, hm.kept hk hMon (fun _ _ _ => trivial) trivial (fun _ _ => trivial) (fun b o hi => ?_), ?_, trivial, hMon, ?_⟩
 ·obtain ⟨h1, h2⟩ := hm.imm b o hi
  exact ⟨Nat.lt_of_lt_of_le h1 hbw.size, h2⟩
 ·simp only [RV]; exact (Qbaz hx).2 rfl
 ·exact ⟨hbw.os, hbw.tape, hbw.output, hbw.size, hI, fun _ _ => rfl, fun b hb _ => ⟨rfl, hbw.block b hb, fun _ => Iff.rfl⟩⟩
theorem Q7u {P : Program} {f : FuncId} {args : List V} {sz : Nat} (hb : Qfn P f = true)
  (h : ∀ (w : World) (g : G) (us : List Value), RFs g w args us → Calls P f us.toArray w fun e w' => (∃ a, e = .returned (.slice a 0 0) ∧ w' = w) ∨
   ∃ cap row t, e = .returned (.slice (some ⟨w.heap.size, 0, none⟩) 0 cap) ∧ w' = w.drew.alloc (.cells row t) ∧ row.size = cap * sz ∧ cap ≤ maxLen ∧ ∀ u ∈ row.toList, u.oneCell' = true) (M : Mem) (nb : Nat) : ACalls P f args M nb (.own sz []) M nb := by
 refine ⟨hb, Nat.le_refl _, fun w g us hm hMon hfresh hus hfl hons => ?_⟩
 refine Calls.mono (h w g us hus) ?_
 rintro e w' (⟨a, rfl, rfl⟩ | ⟨cap, row, t, rfl, rfl, hrow, hcap, hone⟩)
 ·exact ⟨_, g, rfl, hm, by simp only [RV]; exact .inl ⟨⟨a, rfl⟩, trivial⟩, trivial, hMon, Fr.refl _ _ _⟩
 ·let g' : G := { box := g.box, imm := g.imm, own := fun b => if b = w.heap.size then .res [] else g.own b }
  have hold : ∀ b, b < w.heap.size → (w.drew.alloc (.cells row t)).heap[b]? = w.heap[b]? := fun b hlt => RowKit.Below.heap_alloc w.drew _ b (by simpa using hlt)
  have hown : ∀ b, b < w.heap.size → g'.own b = g.own b := fun b hlt => by simp only [g']; rw [if_neg (by omega)]
  have hI : Imm g.imm g'.imm w (w.drew.alloc (.cells row t)) := ⟨fun _ _ h => h, fun b o hi => by
   have hlt := (hm.imm b o hi).1
   simp only [World.cell?]
   rw [hold b hlt]⟩
  have hk : Kept g w g' (w.drew.alloc (.cells row t)) (There M) (fun _ => True) := ⟨hI, fun _ _ => rfl, fun b _ hlt => ⟨hown b hlt, hold b hlt, fun _ => Iff.rfl⟩⟩
  refine ⟨_, g', rfl, hm.kept hk hMon (fun _ _ _ => trivial) trivial (fun _ _ => trivial) (fun b o hi => ?_), ?_, trivial, hMon, ?_⟩
  ·obtain ⟨h1, h2⟩ := hm.imm b o hi
   refine ⟨by simp; omega, fun k => ?_⟩
   rw [hown b h1]; exact h2 k
  ·simp only [RV]
   refine .inr ⟨w.heap.size, cap, row, t, rfl, by simp [g'], heap_alloc_new w.drew _, Nat.zero_le _, hcap, ⟨hrow, hone⟩, fun o => ?_, by simp [RDL]⟩
   constructor
   ·intro hi; have := (hm.imm _ _ hi).1; omega
   ·intro hi; simp at hi
  ·exact ⟨rfl, rfl, rfl, by simp, hI, fun _ _ => rfl, fun b hb _ => ⟨hown b hb, hold b hb, fun _ => Iff.rfl⟩⟩
theorem Qbdm {g : G} {w : World} {l : List Int} {k : IntKind} {u : Value} (h : RF g w (.d (.lst 1 (l.map (fun n => [.int k n])))) u) :
  ∃ a cap, u = .slice a l.length cap ∧ l.length ≤ cap ∧ (l = [] ∨ ∃ b o, a = some ⟨b, o, none⟩ ∧ ∀ (i : Nat) n, l[i]? = some n → g.imm b (o + i) ∧ w.cell? ⟨b, o + i, none⟩ = some (.int k n)) := by
 have h := RF_d.1 h
 simp only [RD, List.length_map] at h
 obtain ⟨a, cap, rfl, hc, hl⟩ := h
 refine ⟨a, cap, rfl, hc, ?_⟩
 rcases hl with hl | ⟨b, o, rfl, hl⟩
 ·exact .inl (by simpa using hl)
 ·refine .inr ⟨b, o, rfl, fun i n hi => ?_⟩
  have := (Q2y hl i [.int k n] (by simp [hi])).2
  simp only [RDc, Nat.mul_one, RD] at this
  obtain ⟨h1, ⟨u, h2, rfl⟩, _⟩ := this
  exact ⟨h1, h2⟩
end Go.Abs
end
section
namespace Go.Proofs
open Go.RowKit Go.Abs
def keyL (l : List Int) : List UInt8 := l.flatMap fun x => Lib.encodeRune (x + 1)
theorem Qbba : ∀ l : List Int, (keyL l).length ≤ 4 * l.length
 | [] => by simp [keyL]
 | x :: l => by
  have h := Lib.runeCells_le (x + 1)
  rw [Lib.runeCells_length] at h
  have ih := Qbba l
  simp only [keyL, List.flatMap_cons, List.length_append, List.length_cons] at *
  omega
set_option maxHeartbeats 4000000 in
set_option maxRecDepth 1000000 in
theorem Try.key_walk (l : List Int) (hl : l.length ≤ lim) (hx : ∀ x ∈ l, 0 ≤ x ∧ x < 50000) (a : Option Addr) (cap : Nat) (w : World)
  (hc : ∀ (i : Nat) n, l[i]? = some n → ∃ b o, a = some ⟨b, o, none⟩ ∧ b < w.heap.size ∧ w.cell? ⟨b, o + i, none⟩ = some (.int .i64 n)) :
  Calls Try.prog 43 #[.slice a l.length cap] w fun e w' => e = .returned (.string (keyB l)) ∧ Below w.heap.size w w' := by
 have hlim : l.length ≤ 1099511627776 := hl
 go_enter Try.func43, Try.ntmps43
 go_wp2
 go_loopw [8] (fun vi wr => ∃ (k : Nat), vi = .int .i64 k ∧ k ≤ l.length ∧ Lib.IsBuilderF 104 5 w.heap.size w.heap.size (Lib.byteCells (keyL (l.take k))) wr ∧ Below w.heap.size w wr) (fun vi _ => l.length - (intOf vi).toNat)
 case atStart =>
  refine ⟨0, rfl, by omega, ?_, ((Below.refl _ w).alloc (Nat.le_refl _) _)⟩
  exact Lib.IsBuilderF.of (Lib.fresh_isBuilder 104 5 w)
 case round =>
  obtain ⟨k, rfl, hk, hI, hbw⟩ := hrel
  by_cases hlt : k < l.length
  ·obtain ⟨b, o, rfl, hb, hcell⟩ := hc k l[k] (List.getElem?_eq_getElem hlt)
   have hcr : wr.cell? ⟨b, o + k, none⟩ = some (.int .i64 l[k]) := by
    rw [← hcell]; simp only [World.cell?]; rw [hbw.block b hb]
   have hxk := hx l[k] (List.getElem_mem hlt)
   have w1 : IntKind.i64.wrap (l[k] + 1) = l[k] + 1 := by simp [IntKind.wrap, IntKind.bits, IntKind.signed]; omega
   have w2 : IntKind.i32.wrap (l[k] + 1) = l[k] + 1 := by simp [IntKind.wrap, IntKind.bits, IntKind.signed]; omega
   have hsz : w.heap.size ≤ wr.heap.size := hbw.size
   have hkl := Qbba (l.take k)
   rw [List.length_take] at hkl
   go_wp2_with (go_at_call 60; refine (Try.Builder_WriteRune_k w.heap.size w.heap.size _ (l[k] + 1) (by omega) (by omega) _ hI (by rw [Lib.byteCells_length]; omega) hsz).mono ?_)
   rintro e W1 ⟨rfl, h1, b1, k1⟩
   go_wp2
   go_roundw
   case rel =>
    refine ⟨k + 1, by simp, by omega, ?_, hbw.trans b1⟩
    have e1 : keyL (l.take (k + 1)) = keyL (l.take k) ++ Lib.encodeRune (l[k] + 1) := by
     rw [List.take_succ_eq_append_getElem hlt]; simp only [keyL, List.flatMap_append, List.flatMap_cons, List.flatMap_nil, List.append_nil]
    rw [e1, Lib.byteCells_append, Lib.byteCells_encodeRune]; exact Or.inr h1
   case measure =>
    simp [intOf]; omega
  ·have hk2 : k = l.length := by omega
   subst hk2
   go_wp2_with (go_at_call 61; refine (Try.Builder_String_any_k w.heap.size w.heap.size _ _ hI hbw.size).mono ?_)
   rintro e W1 ⟨rfl, _, b1, _⟩
   go_wp2
   go_ret
   exact ⟨rfl, hbw.trans b1⟩
theorem Try.keyK : Go.Abs.K_projection_key Try.prog 43 keyS := by
 intro l r h
 unfold keyS at h
 split at h <;> cases h
 rename_i hc
 intro M nb
 refine Q52 rfl (by kernel_rfl) (fun w g us himm hus => ?_) M nb
 obtain ⟨u, us', rfl, hu, hus'⟩ := hus
 simp only [RFs] at hus'
 subst hus'
 obtain ⟨a, cap, rfl, hcap, hl⟩ := Qbdm hu
 refine Try.key_walk l hc.1 hc.2 a cap w fun i n hi => ?_
 rcases hl with rfl | ⟨b, o, rfl, hl⟩
 ·simp at hi
 ·exact ⟨b, o, rfl, himm _ _ (hl i n hi).1, (hl i n hi).2⟩
theorem Try.growK : Go.Abs.K_slices_Grow_int Try.prog 54 Qbdk := by
 intro n r h
 unfold Qbdk at h
 split at h <;> cases h
 rename_i hc
 have hlim : n ≤ 1099511627776 := hc.2
 intro M nb
 refine Q7u (by kernel_rfl) (fun w g us hus => ?_) M nb
 obtain ⟨u, us', rfl, hu, u2, us2, rfl, hu2, hus'⟩ := hus
 simp only [RFs] at hus'
 subst hus'
 have hu := hu .free
 simp only [RV] at hu
 obtain ⟨a, rfl⟩ := hu
 have h2 := Qk1 hu2
 subst h2
 by_cases h0 : n = 0
 ·subst h0
  refine (Any8.slices_Grow_room Try.laysGrow a 0 0 0 w (by omega) (by omega) (by omega) (by omega)).mono ?_
  rintro e w' ⟨rfl, rfl⟩
  exact .inl ⟨a, rfl, rfl⟩
 ·obtain ⟨m, rfl⟩ : ∃ m : Nat, n = m := ⟨n.toNat, by omega⟩
  obtain ⟨i, zv, hi, hzv, hcz, _⟩ := Qji Try.prog (t := 3) (z := [.d (.int .i64 0)]) (by kernel_rfl)
  have hsz : i.size = 1 := (Qdk Try.prog hi).symm.trans (by kernel_rfl)
  have hby : i.bytes = 8 := by
   have : Try.prog.bytesOf 3 = 8 := by kernel_rfl
   simpa [Program.bytesOf, hi] using this
  have hzs : zv.cells.size = 1 := by have := (hcz g w).len; simpa using this
  have hz1 : ∀ q, ∀ u ∈ (Builtin.zeroCells zv.cells q).toList, u.oneCell' = true := by
   intro q u hu
   refine (hcz g w).one u ?_
   simp only [Builtin.zeroCells] at hu
   have hu' : ∃ a, a < q * zv.cells.size ∧ zv.cells[a % zv.cells.size]! = u := by simpa using hu
   obtain ⟨j, hj, rfl⟩ := hu'
   have hlt : j % zv.cells.size < zv.cells.size := Nat.mod_lt _ (by omega)
   rw [getElem!_pos zv.cells _ hlt]
   simp
  have hge := grownCap_ge w (0 + m) 0 3
  have hle := grownCap_le_maxLen w (0 + m) 0 3 (by simp only [maxLen]; omega)
  refine (Any8.slices_Grow_grow Try.laysGrow i zv hi hzv (by omega) a 0 0 m [] w (by omega) (by omega) (by rw [hby]; omega) (by omega) (by simp) (fun _ => rfl) (fun _ _ j v hj => by simp at hj)).mono ?_
  rintro e w' ⟨rfl, rfl⟩
  refine .inr ⟨_, _, _, rfl, rfl, ?_, hle, fun u hu => ?_⟩
  ·simp only [Array.size_append, size_zeroCells, hzs, List.size_toArray, List.length_nil]
   show _ = grownCap w (0 + m) 0 3 * 1
   simp only [show (Try.laysGrow_ren.t 25) = 3 from rfl]
   omega
  ·simp only [Array.toList_append, List.mem_append, List.nil_append] at hu
   rcases hu with hu | hu
   ·exact hz1 _ u hu
   ·exact hz1 _ u hu
end Go.Proofs
end
section
namespace Go.Proofs
open Go Go.Abs
set_option linter.unusedVariables false
set_option maxRecDepth 10000
set_option maxHeartbeats 4000000
theorem Qpu : Qfb Try.prog 26 Qia := Qm2 Qsx
theorem Qwl : Qgm Try.prog 66 Qez := Qsq Qyo Qdv
theorem Qz9 : Qh0 Try.prog 57 Qfx := Qv7 Q04 Qdv
theorem Qb4 : Qbp Try.prog 35 Qbj := Qpk Qz9 Qwf
theorem Qsy : Qfo Try.prog 67 Qeb := Qnr Qb4 Qu1 Qdv
theorem Qnc : Qgf Try.prog 53 Qe4 := Qyd Qwl Qsy Q11
theorem Qfu : Qdd Try.prog 49 Qdh := Qpl Qwh Qdv
theorem Qc8 : Qcm Try.prog 30 Qb9 := Qv8 Qfu Qnc Q02
theorem Qdi : Qcl Try.prog 41 Qc1 := Qsr Qb4 Qyn Qdv
theorem Qj2 : Qdo Try.prog 65 Qff := Qig Qkv
theorem Qd0 : Qcd Try.prog 50 Qcy := Qjw Try.rowK33 Qb4 Qj2 Qmp Qdv
theorem Qfz : Qcw Try.prog 42 Qd8 := Qjx Qd0 Qmn
theorem Qic : Qc2 Try.prog 63 Qes := Qhf Qb4 Qik
theorem Qsz : Qfq Try.prog 91 Qin := Qns Qu2 Qdv
theorem Qgj : Qda Try.prog 62 Qep := Qld Qsz Qnv
theorem Qjf : Qde Try.prog 44 Qe7 := Qh8 Qgj Qic Qjz
theorem Qd9 : Qck Try.prog 45 Qc6 := Qkt Qd0 Qm3 Qdv
theorem Qj3 : Qew Try.prog 14 Qdw := Qss Qc8 Qdi Qfz Try.keyK Qjf Qd9 Qyl Qdv
theorem Qj4 : Qdq Try.prog 64 Qfg := Qih Qb4 Qku
theorem Qd1 : Qce Try.prog 46 Qcz := Qjy Qgj Qj4 Qmo
theorem Qms : Qfw Try.prog 47 Qib := Qv9 Q03
theorem Qnd : Qgg Try.prog 16 Qe5 := Qye Qc8 Qb4 Qdi Qd1 Qms Q1z Qdv
theorem Qyp : Qg4 Try.prog 31 Qmq := Qux Qz6
theorem Qyq : Qg6 Try.prog 32 Qmr := Quy Try.growK Qz7 Qdv
theorem Q53 : Qim Try.prog 37 Qu3 := Qnt Qu0
theorem Q2j : Ql0 Try.prog 97 Qwj := Q0z Q3v
theorem Q31 : Qnp Try.prog 74 Qyx := Q1y Q2j Q4c
theorem Q0a : Qh4 Try.prog 101 Qnb := Qwa Q05
theorem Qm4 : Qel Try.prog 87 Qg0 := Qle Q31 Q0a Qnw Qdv
theorem Qj5 : Qds Try.prog 102 Qfh := Qii Qkw Qdv
theorem Q06 : Qi8 Try.prog 103 Qps := Qyf Q12
theorem Q07 : Qja Try.prog 104 Qpt := Qyg Q13
theorem Q2k : Qmb Try.prog 88 Qwk := Q00 Qj5 Q06 Q07 Q3u
theorem Qu4 : Qf3 Try.prog 59 Qj0 := Qpm Qms Qm4 Q2k Qwi Qdv
theorem Qu5 : Qf5 Try.prog 38 Qj1 := Qpn Qnc Qu4 Qwg
theorem Qj6 : Qex Try.prog 11 Qdx := Qst Qc8 Qyp Qyq Try.rowK33 Try.compK34 Qb4 Try.rowK36 Qu5 Qyj Qdv
theorem Qeq : Qcs Try.prog 19 Qdm := Qmm Qpr Qdv
theorem Qwm : Qgr Try.prog 12 Qkx := Qsu Qeq Qyk Qdv
theorem Qm5 : Qen Try.prog 27 Qg1 := Qlf Qeq Qnu Qdv
theorem Qu6 : Qf7 Try.prog 7 Qgd := Qpo Qj6 Qwm Qj3 Qnd Qeq Qpu Qm5 Qwc
theorem Qj7 : Qey Try.prog 8 Qdy := Qsv Qyi Qdv
theorem Qyr : Qg8 Try.prog 48 Qfd := Quz Qz8 Qdv
theorem Qu7 : Qf9 Try.prog 21 Qeh := Qpp Qj7 Qyr Qwd Qdv
theorem Q0b : Qh6 Try.prog 22 Qfy := Qwb Qc8 Qdi Qfu Qd0 Q01
theorem Qu8 : Qgb Try.prog 23 Qei := Qpq Qc8 Qdi Qfz Qd9 Qd1 Qwe Qdv
theorem Q08 : Qjc Try.prog 24 Qgh := Qyh Qc8 Qdi Qd9 Qd1 Qfu Q10
theorem Qwn : Qgu Try.prog 25 Qgw := Qsw Qym
theorem Q09 : Qer Try.prog 6 Qc5 := Qhg Qu6 Qj7 Qj6 Qj3 Qnd Qu7 Q0b Qu8 Q08 Qwn Qij
end Go.Proofs
end
section
namespace Go.Abs
open Go Go.ChangeShapes Go.WideShapes Go.ChangeAt Go.RowKit
set_option linter.unusedVariables false
set_option linter.unusedSimpArgs false
def live (w : World) : Nat → Nat → Prop := fun b o => (w.cell? ⟨b, o, none⟩).isSome = true
def RDs (w : World) : List D → List Value → Prop
 | [], vs => vs = []
 | x :: xs, vs => ∃ u us, vs = u :: us ∧ RD (live w) w x u ∧ RDs w xs us
theorem Q49 {w : World} : ∀ {xs ys : List D} {us vs : List Value}, RDs w xs us → RDs w ys vs → RDs w (xs ++ ys) (us ++ vs)
 | [], ys, us, vs, h, k => by simp only [RDs] at h; subst h; simpa using k
 | x :: xs, ys, us, vs, ⟨u, us', e, r, h⟩, k => by subst e; exact ⟨u, us' ++ vs, by simp, r, Q49 h k⟩
def RDat (w : World) (cs : List Value) (off : Nat) (xs : List D) : Prop := RDs w xs ((cs.drop off).take xs.length)
theorem RDat.app {w : World} {cs : List Value} {off : Nat} {xs ys : List D} (h : RDat w cs off xs) {n : Nat} (hn : n = off + xs.length) (k : RDat w cs n ys) : RDat w cs off (xs ++ ys) := by
 subst hn
 have := Q49 h k
 unfold RDat
 rw [List.length_append, List.take_add, List.drop_drop]
 exact this
theorem RDat.nil {w : World} {cs : List Value} {off : Nat} : RDat w cs off [] := by simp [RDat, RDs]
theorem RDat.all {w : World} {cs : List Value} {xs : List D} (h : RDat w cs 0 xs) (hl : cs.length = xs.length) : RDs w xs cs := by
 unfold RDat at h
 rw [List.drop_zero, ← hl, List.take_length] at h
 exact h
theorem Qbbb {w : World} {b : Nat} : ∀ {xs : List D} {vs : List Value} {o : Nat}, RDs w xs vs → (∀ i v, vs[i]? = some v → w.cell? ⟨b, o + i, none⟩ = some v) → RDc (live w) w b xs o
 | [], vs, o, _, _ => by simp [RDc]
 | x :: xs, vs, o, ⟨u, us, e, r, h⟩, hc => by
  subst e
  have h0 := hc 0 u rfl
  rw [Nat.add_zero] at h0
  refine ⟨by simp [live, h0], ⟨u, h0, r⟩, Qbbb h fun i v hv => ?_⟩
  have := hc (i + 1) v (by simpa using hv)
  rw [show o + 1 + i = o + (i + 1) from by omega]; exact this
def Q32 {α : Type} (P : Program) (t : TypeId) (e : α → List D) (wf : α → Prop) : Prop :=
 ∀ {H : Type} {enc : TypeId × Value → H} {w : World} {base : Nat} {spare : Nat → Bool} {held : Bool} {fuel : Nat} {cs : List Value} {x : DataW H × List MemPlace},
  DataW.trod enc P w base spare held fuel t cs = some x → ∃ a, wf a ∧ RDs w (e a) cs
def wfI (k : IntKind) (n : Int) : Prop := (Lit.int k n).wf = true
def wfL {α : Type} (wf : α → Prop) (l : List α) : Prop := l.length ≤ maxLen ∧ ∀ a ∈ l, wf a
variable {P : Program} {t : TypeId}
theorem Qbbc {k : IntKind} (ht : P.underlying t = some (.int k)) : Q32 P t (fun n : Int => [.int k n]) (wfI k) := by
 intro H enc w base spare held fuel cs x h
 obtain ⟨n, rfl, _, hw⟩ := DataW.trod_int ht h
 exact ⟨n, hw, _, _, rfl, by simp [RD], rfl⟩
theorem cells?_get {w : World} {base : Nat} {a : Addr} {n : Nat} {cs : List Value} (h : w.cells? base a n = some cs) : cs.length = n ∧ ∀ i v, cs[i]? = some v → w.cell? (a.add i) = some v := by
 obtain ⟨h1, h2, h3⟩ := World.cells?_some h
 refine ⟨h2, fun i v hv => ?_⟩
 have hi := (List.getElem?_eq_some_iff.1 hv).1
 have := h3 i (by omega)
 rw [this]; simpa using hv
theorem Q33 {α : Type} {el : TypeId} {e : α → List D} {wf : α → Prop} {sz : Nat} (ht : P.underlying t = some (.slice el)) (he : Q32 P el e wf) (hsz : P.cellsOf el = sz) (hpos : 0 < sz) (hlen : ∀ a, (e a).length = sz) :
  Q32 P t (fun l : List α => [.lst sz (l.map e)]) (wfL wf) := by
 intro H enc w base spare held fuel cs x h
 rcases DataW.trod_slice ht h with ⟨rfl, _⟩ | ⟨a, len, cap, Qgk, rest, n, _, rfl, _, hb, hl, hm, helen, hel, _, _⟩
 ·exact ⟨[], ⟨by simp, by simp⟩, _, _, rfl, by simp only [RD, List.map_nil, List.length_nil]; exact ⟨none, 0, rfl, Nat.le_refl _, .inl trivial⟩, rfl⟩
 ·have key : ∀ m, m ≤ len → ∃ l : List α, l.length = m ∧ (∀ x ∈ l, wf x) ∧ ∀ i y, l[i]? = some y → ∃ vs, w.cells? base (a.add (i * sz)) sz = some vs ∧ RDs w (e y) vs := by
   intro m
   induction m with
   | zero => exact fun _ => ⟨[], rfl, by simp, by simp⟩
   | succ m ih =>
    intro hm'
    obtain ⟨l, h1, h2, h3⟩ := ih (by omega)
    have h4 := hel m (by omega)
    have h5 : Qgk[m]? = some Qgk[m] := List.getElem?_eq_getElem (by omega)
    rw [h5, hsz, Option.bind_eq_some_iff] at h4
    obtain ⟨vs, h6, h7⟩ := h4
    obtain ⟨y, h8, h9⟩ := he h7
    refine ⟨l ++ [y], by simp [h1], ?_, fun i z hz => ?_⟩
    ·intro x hx
     rcases List.mem_append.1 hx with hx | hx
     ·exact h2 x hx
     ·simp at hx; subst hx; exact h8
    ·by_cases hi : i < m
     ·rw [List.getElem?_append_left (by omega)] at hz; exact h3 i z hz
     ·have : i = m := by
       have := (List.getElem?_eq_some_iff.1 hz).1
       simp at this; omega
      subst this
      rw [List.getElem?_append_right (by omega), h1] at hz
      simp at hz; subst hz
      exact ⟨vs, h6, h9⟩
  obtain ⟨l, h1, h2, h3⟩ := key len (Nat.le_refl _)
  have hmax : l.length ≤ maxLen := by omega
  refine ⟨l, ⟨hmax, h2⟩, _, _, rfl, ?_, rfl⟩
  simp only [RD, List.length_map, h1]
  refine ⟨some a, cap, rfl, hl, ?_⟩
  cases l with
  | nil => exact .inl rfl
  | cons y l =>
   right
   have hspot : a.spot = none := by
    obtain ⟨vs, h4, h5⟩ := h3 0 y rfl
    obtain ⟨h6, h7⟩ := cells?_get h4
    have hv : vs[0]? = some vs[0] := List.getElem?_eq_getElem (by omega)
    have := h7 0 _ hv
    cases hs : a.spot with
    | none => rfl
    | some s =>
     unfold World.cell? at this
     split at this
     ·simp [Addr.add, hs] at this
     ·cases this
   obtain ⟨b, o, sp⟩ := a
   simp only at hspot
   subst hspot
   refine ⟨b, o, rfl, ?_⟩
   have row : ∀ (l : List α) (j : Nat), (∀ i y, l[i]? = some y → ∃ vs, w.cells? base ((⟨b, o, none⟩ : Addr).add ((j + i) * sz)) sz = some vs ∧ RDs w (e y) vs) → RDL (live w) w sz b (l.map e) (o + j * sz) := by
    intro l
    induction l with
    | nil => intro j _; simp [RDL]
    | cons y l ih =>
     intro j h
     obtain ⟨vs, h4, h5⟩ := h 0 y rfl
     obtain ⟨h6, h7⟩ := cells?_get h4
     refine ⟨hlen y, Qbbb h5 fun i v hv => ?_, ?_⟩
     ·have := h7 i v hv
      rw [Qet, Qet] at this
      simpa [Nat.add_assoc] using this
     ·have := ih (j + 1) fun i y hy => by
       have := h (i + 1) y (by simpa using hy)
       rw [show j + 1 + i = j + (i + 1) from by omega]; exact this
      rw [show o + j * sz + sz = o + (j + 1) * sz from by rw [Nat.add_mul]; omega]
      exact this
   have := row (y :: l) 0 fun i y hy => by simpa using h3 i y hy
   simpa using this
theorem Qs0 {α : Type} {el : TypeId} {e : α → List D} {wf : α → Prop} {sz : Nat} (he : Q32 P el e wf) (hsz : P.cellsOf el = sz) (hlen : ∀ a, (e a).length = sz)
  {H : Type} {enc : TypeId × Value → H} {w : World} {base : Nat} {spare : Nat → Bool} {held : Bool} {fuel off : Nat} {cs : List Value} {x : DataW H × List MemPlace}
  (h : DataW.trod enc P w base spare held fuel el ((cs.drop off).take (P.cellsOf el)) = some x) : ∃ a, wf a ∧ RDat w cs off (e a) := by
 obtain ⟨a, h1, h2⟩ := he h
 refine ⟨a, h1, ?_⟩
 unfold RDat
 rw [hlen, ← hsz]; exact h2
theorem Q65 {H : Type} {enc : TypeId × Value → H} {w : World} {base : Nat} {spare : Nat → Bool} {held : Bool} {fuel : Nat} {cs : List Value} {x : DataW H × List MemPlace} {fs : Array Field}
  (ht : P.underlying t = some (.struct fs)) (h : DataW.trod enc P w base spare held fuel t cs = some x) :
  cs.length = P.cellsOf t ∧ ∃ n, ∀ (i : Nat) (f : Field), fs[i]? = some f → ∃ y, DataW.trod enc P w base spare held n f.type ((cs.drop f.offset).take (P.cellsOf f.type)) = some y := by
 obtain ⟨xs, n, _, _, h1, h2, h3⟩ := DataW.trod_struct ht h
 refine ⟨h1, n, fun i f hf => ?_⟩
 have hi : i < fs.size := (Array.getElem?_eq_some_iff.1 hf).1
 exact ⟨xs[i]'(by omega), by rw [h3 i f hf]; exact List.getElem?_eq_getElem (by omega)⟩
def Qwx {α : Type} (P : Program) (t : TypeId) (v : α → V) (wf : α → Prop) : Prop :=
 ∀ {H : Type} {enc : TypeId × Value → H} {w : World} {base b0 : Nat} {spare : Nat → Bool} {held : Bool} {u : Value} {d : DataW H} {ps : List MemPlace},
  Value.okWide P w .any b0 t u → DataW.Trod enc P w base spare held t u d ps → ∃ a, wf a ∧ RF ⟨fun _ => 0, live w, fun _ => .ext⟩ w (v a) u
theorem Qbdn {α : Type} {e : α → D} {wf : α → Prop} (he : Q32 P t (fun a => [e a]) wf) (hone : ∀ w b0 u, Value.okWide P w .any b0 t u → u.cells = #[u]) : Qwx P t (fun a => .d (e a)) wf := by
 intro H enc w base b0 spare held u d ps hok hd
 obtain ⟨fuel, hf⟩ := hd
 rw [hone _ _ _ hok] at hf
 obtain ⟨a, h1, u', us, h2, h3, h4⟩ := he hf
 simp only [RDs] at h4; subst h4
 simp at h2; subst h2
 exact ⟨a, h1, fun ℓ => by simpa [RV] using h3⟩
theorem Qbbd {el : TypeId} (ht : P.underlying t = some (.slice el)) : ∀ w b0 u, Value.okWide P w .any b0 t u → u.cells = #[u] := by
 intro w b0 u h
 simp only [Value.okWide, ht] at h
 cases u <;> first | rfl | (simp [Cell.okWide, Cell.ok, ht] at h)
theorem Qbee {imm : Nat → Nat → Prop} {w : World} {x : D} {u : Value} (h : RD imm w x u) : u.oneCell' = true := by
 cases x with
 | int k n => simp only [RD] at h; subst h; rfl
 | bool b => simp only [RD] at h; subst h; rfl
 | str s => simp only [RD] at h; subst h; rfl
 | lst sz l => simp only [RD] at h; obtain ⟨a, cap, rfl, _⟩ := h; cases a <;> rfl
theorem Qbbe {w : World} {g : G} (hg : g.imm = live w) : ∀ {xs : List D} {us : List Value} {ℓ : Owner} {i : Nat}, RDs w xs us → RVs g w (xs.map V.d) ℓ i us ∧ ∀ u ∈ us, u.oneCell' = true
 | [], us, ℓ, i, h => by simp only [RDs] at h; subst h; simp [RVs]
 | x :: xs, us, ℓ, i, ⟨u, us', e, r, h⟩ => by
  subst e
  obtain ⟨h1, h2⟩ := Qbbe hg (ℓ := ℓ) (i := i + 1) h
  refine ⟨⟨u, us', rfl, by simpa [RV, hg] using r, h1⟩, fun v hv => ?_⟩
  rcases List.mem_cons.1 hv with rfl | hv
  ·exact Qbee r
  ·exact h2 v hv
theorem Qbdo {α : Type} {e : α → List D} {wf : α → Prop} (he : Q32 P t e wf) (hagg : (∃ fs, P.underlying t = some (.struct fs)) ∨ ∃ n el, P.underlying t = some (.array n el)) : Qwx P t (fun a => .agg ((e a).map V.d)) wf := by
 intro H enc w base b0 spare held u d ps hok hd
 obtain ⟨cs, rfl⟩ : ∃ cs, u = .agg cs := by
  rcases hagg with ⟨fs, ht⟩ | ⟨n, el, ht⟩
  ·simp only [Value.okWide, ht] at hok; obtain ⟨cs, rfl, _⟩ := hok; exact ⟨cs, rfl⟩
  ·simp only [Value.okWide, ht] at hok; obtain ⟨cs, rfl, _⟩ := hok; exact ⟨cs, rfl⟩
 obtain ⟨fuel, hf⟩ := hd
 obtain ⟨a, h1, h2⟩ := he hf
 refine ⟨a, h1, fun ℓ => ?_⟩
 simp only [RV]
 obtain ⟨h3, h4⟩ := Qbbe (g := ⟨fun _ => 0, live w, fun _ => .ext⟩) rfl (ℓ := ℓ) (i := 0) h2
 exact ⟨cs.toList, by simp, h3, h4⟩
def Qbef (P : Program) (f : FuncId) (ts : List TypeId) : Prop :=
 ∀ {H : Type} {enc : TypeId × Value → H} {w : World} {b0 : Nat} {us : List Value} {ds : List (DataW H)} {ps : List MemPlace},
  (∀ (j : Nat) t u, ts[j]? = some t → us[j]? = some u → Value.okWide P w .any b0 t u) → DataW.TrodAll enc P w 0 (fun _ => true) true ts us ds ps →
  ∃ vs, RFs ⟨fun _ => 0, live w, fun _ => .ext⟩ w vs us ∧ (∀ x ∈ vs, Flat x) ∧ V.lt.go 0 vs = true ∧ ∀ M nb, ACalls P f vs M nb (.d (.bool true)) M nb
theorem Q1a (hl : laidOutB P = true) {W W' : World} {sp : Nat → Bool} {H : Type} {enc : TypeId × Value → H} : ∀ {ts : List TypeId} {us : List Value} {ds : List (DataW H)} {ps : List MemPlace},
  (∀ t ∈ ts, P.readableRec t = true ∧ t < P.types.size) → DataW.TrodAll enc P W 0 (fun _ => true) true ts us ds ps → (∀ p ∈ ps, W.sameAt W' p) → (∀ p ∈ ps, sp p.block = true) → DataW.TrodAll enc P W' 0 sp true ts us ds ps
 | [], [], [], ps, _, h, _, _ => h
 | t :: ts, u :: us, d :: ds, ps, hr, ⟨p, q, h1, h2, e⟩, hs, hp => by
  subst e
  obtain ⟨r1, r2⟩ := hr t (by simp)
  exact ⟨p, q, WideElems.Trod_stays hl r1 r2 h1 (fun x hx => hs x (by simp [hx])) (fun x hx => hp x (by simp [hx])), Q1a hl (fun t ht => hr t (by simp [ht])) h2 (fun x hx => hs x (by simp [hx])) (fun x hx => hp x (by simp [hx])), rfl⟩
 | [], [], _ :: _, _, _, h, _, _ => h.elim
 | [], _ :: _, _, _, _, h, _, _ => h.elim
 | _ :: _, [], _, _, _, h, _, _ => h.elim
 | _ :: _, _ :: _, [], _, _, h, _, _ => h.elim
theorem Q34 {W : World} {sp : Nat → Bool} {held : Bool} {base : Nat} {H : Type} {enc : TypeId × Value → H} : ∀ {ts : List TypeId} {us : List Value} {ds : List (DataW H)} {ps : List MemPlace},
  DataW.TrodAll enc P W base sp held ts us ds ps → ds.length = ts.length ∧ us.length = ts.length
 | [], [], [], ps, h => ⟨rfl, rfl⟩
 | t :: ts, u :: us, d :: ds, ps, ⟨p, q, h1, h2, e⟩ => by have := Q34 h2; simp [this.1, this.2]
 | [], [], _ :: _, _, h => h.elim
 | [], _ :: _, _, _, h => h.elim
 | _ :: _, [], _, _, h => h.elim
 | _ :: _, _ :: _, [], _, h => h.elim
theorem Qbdp {C : Checked} {f : FuncId} {fn : Func} {s : ChangeSpec} {conds : List PathCond} {bt : TypeId} {os : Os} {H : Type} {enc : TypeId × Value → H}
  (own : ownKnob C.prog.godebug = none) (started : os.Started) (noInit : C.prog.inits.idxOf? f = none) (hfn : C.prog.funcs[f]? = some fn)
  (witness : ∃ (w : World) (tape : Tape) (i : Input), w.os = os ∧ (w.forCall tape i).Shaped C.prog ∧ i.vars = [] ∧ Input.okWide C.prog (w.forCall tape i) .any w.heap.size f i ∧
   s.pre6 enc C.prog fn conds false (w.forCall tape i).memory i.args ∧ ({} : Assume).holds C.prog (lone (Frame.enter C.prog f i.args .normal) [] (w.forCall tape i)))
  (hvars : s.vars = []) (hres : fn.resultTypes = #[bt]) (hbt : C.prog.underlying bt = some .bool)
  (hl : laidOutB C.prog = true) (hread : ∀ t ∈ fn.params.toList, C.prog.readableRec t = true ∧ t < C.prog.types.size)
  (hspec : ∀ ds : List (DataW H), ds.length = fn.params.size → s.fn H ds = { results := [.lit (.bool true)], args := ds })
  (law : Qbef C.prog f fn.params.toList) :
  ReturnsInHanded {} C os f .any (s.pre6 enc C.prog fn conds false) (s.post enc C.prog fn false true false false) := by
 refine returnsInHanded_of_change own started noInit hfn witness ?_
 intro W base args ds gs before hval hW hcnd _
 have hW' := hW
 obtain ⟨p, q, hA, hV, hps, hfz, hnd⟩ := hW
 rw [hvars] at hV
 obtain ⟨rfl, rfl⟩ : gs = [] ∧ q = [] := by
  cases gs with
  | nil => exact ⟨rfl, hV⟩
  | cons _ _ => exact hV.elim
 obtain ⟨vs, h1, h2, h3, h4⟩ := law (fun j t u ht hu => hval j t u (by simpa using ht) (by simpa using hu)) hA
 obtain ⟨hb, _, h5⟩ := h4 (fun _ => none) 0
 have hlv : ∀ b o, live W b o → b < W.heap.size := by
  intro b o h
  simp only [live] at h
  obtain ⟨v, hv⟩ := Option.isSome_iff_exists.1 h
  unfold World.cell? at hv
  split at hv
  ·rename_i hh; exact (Array.getElem?_eq_some_iff.1 hh).1
  ·cases hv
 have hmr : MR ⟨fun _ => 0, live W, fun _ => .ext⟩ W (fun _ => none) 0 := ⟨fun k b h => (by cases h), fun b o h => ⟨hlv b o h, fun k h => by cases h⟩⟩
 have h6 := h5 W ⟨fun _ => 0, live W, fun _ => .ext⟩ args.toList hmr (fun k cs h => by cases h) (fun b => ⟨fun t p h => (by cases h), fun p h => (by cases h)⟩) h1 h2 (ons_mono (fun k hk => absurd hk (Nat.not_lt_zero k)) _ (ons_lt vs h3))
 refine Calls.mono h6 fun e W' ⟨v, g', he, _, hr, _, _, hf⟩ => ?_
 subst he
 have hv : v = .bool true := by simpa [RV, RD] using hr
 subst hv
 have hbelow : Below W.heap.size W W' := ⟨hf.os, hf.tape, hf.output, hf.size, fun k hk => (hf.old k hk trivial).2.1⟩
 have hrl : (Value.bool true).resultList fn.resultTypes.size = [.bool true] := by rw [hres]; rfl
 have hsp : s.fn H (ds ++ []) = { results := [.lit (.bool true)], args := ds } := by
  rw [List.append_nil]
  exact hspec ds (by have := (Q34 hA).1; simpa using this)
 have hlt : ∀ p ∈ before, p.block < W.heap.size := fun x hx => hW'.lt x hx
 have hst : ∀ sp : Nat → Bool, (∀ p ∈ before, sp p.block = true) → DataW.TrodAll enc C.prog W' 0 sp true fn.params.toList args.toList ds before := by
  intro sp hsp'
  have e : p = before := by rw [hps, List.append_nil]
  subst e
  exact Q1a hl hread hA (fun x hx => hbelow.same (hlt x hx)) hsp'
 refine ⟨_, rfl, ds, [], before, [], before, [], hW', ?_, ?_, ?_, World.keptBut_mono (fun p hp => ⟨hp, .inr (.inl hp)⟩) (hbelow.frame (· ∈ before)), fun h => by cases h⟩
 ·rw [hsp, hrl, hres]
  exact ⟨[], [], ⟨1, by simp [DataW.trod, Value.cells, hbt]⟩, rfl, rfl⟩
 ·rw [hsp]
  exact hst _ fun p hp => by simpa using hlt p hp
 ·rw [hsp, hvars]; rfl
section
variable {α β γ δ : Type} {f : FuncId} {ta tb tc td : TypeId} {va : α → V} {vb : β → V} {vc : γ → V} {vd : δ → V} {wa : α → Prop} {wb : β → Prop} {wc : γ → Prop} {wd : δ → Prop}
theorem Q35 {H : Type} {enc : TypeId × Value → H} {w : World} {base : Nat} {sp : Nat → Bool} {held : Bool} {t : TypeId} {ts : List TypeId} {us : List Value} {ds : List (DataW H)} {ps : List MemPlace} (h : DataW.TrodAll enc P w base sp held (t :: ts) us ds ps) :
  ∃ u us' d ds' p q, us = u :: us' ∧ ds = d :: ds' ∧ DataW.Trod enc P w base sp held t u d p ∧ DataW.TrodAll enc P w base sp held ts us' ds' q := by
 match us, ds, h with
 | u :: us', d :: ds', ⟨p, q, h1, h2, _⟩ => exact ⟨u, us', d, ds', p, q, rfl, rfl, h1, h2⟩
 | [], [], h => exact h.elim
 | [], _ :: _, h => exact h.elim
 | _ :: _, [], h => exact h.elim
theorem Q7v {H : Type} {enc : TypeId × Value → H} {w : World} {base : Nat} {sp : Nat → Bool} {held : Bool} {us : List Value} {ds : List (DataW H)} {ps : List MemPlace} (h : DataW.TrodAll enc P w base sp held [] us ds ps) : us = [] := by
 match us, ds, h with
 | [], [], _ => rfl
 | [], _ :: _, h => exact h.elim
 | _ :: _, [], h => exact h.elim
 | _ :: _, _ :: _, h => exact h.elim
theorem Qbeq (ra : Qwx P ta va wa) (fa : ∀ a, (va a).dem = va a) (la : ∀ a, (va a).lt 0 = true) (rb : Qwx P tb vb wb) (fb : ∀ a, (vb a).dem = vb a) (lb : ∀ a, (vb a).lt 0 = true)
  (law : ∀ a b, wa a → wb b → ∀ M nb, ACalls P f [va a, vb b] M nb (.d (.bool true)) M nb) : Qbef P f [ta, tb] := by
 intro H enc w b0 us ds ps hok hT
 obtain ⟨u, us', d, ds', p, q, rfl, rfl, h1, hT⟩ := Q35 hT
 obtain ⟨u2, us', d2, ds', p2, q2, rfl, rfl, h2, hT⟩ := Q35 hT
 obtain rfl := Q7v hT
 obtain ⟨a, ha, hra⟩ := ra (hok 0 _ _ rfl rfl) h1
 obtain ⟨b, hb, hrb⟩ := rb (hok 1 _ _ rfl rfl) h2
 refine ⟨[va a, vb b], ⟨u, _, rfl, hra, u2, _, rfl, hrb, rfl⟩, ?_, by simp [V.lt.go, la, lb], law a b ha hb⟩
 intro x hx
 simp only [List.mem_cons, List.not_mem_nil, or_false] at hx
 rcases hx with rfl | rfl
 ·exact fa a
 ·exact fb b
end
end Go.Abs
end
section
namespace Go.Proofs
open Go Go.Abs
set_option linter.unusedVariables false
set_option maxRecDepth 100000
def W_3 (x : Int) : Prop := wfI .i64 x
theorem R_3 : Q32 Try.prog 3 (eI .i64) W_3 := Qbbc Try.underlying3
def W_27 (x : List Int) : Prop := wfL W_3 x
theorem R_27 : Q32 Try.prog 27 (eL 1 (eI .i64)) W_27 := Q33 Try.underlying27 R_3 (by kernel_rfl) (by decide) (fun _ => rfl)
def W_63 (x : Qh) : Prop := W_3 x.From ∧ W_3 x.Event ∧ W_3 x.To
theorem R_63 : Q32 Try.prog 63 Qc W_63 := by
  intro H enc w base spare held fuel cs x h
  obtain ⟨hl, n, hf⟩ := Q65 Try.underlying63 h
  obtain ⟨y0, h0⟩ := hf 0 _ rfl
  obtain ⟨a0, w0, r0⟩ := Qs0 (off := 0) (sz := 1) R_3 (by kernel_rfl) (fun _ => rfl) h0
  obtain ⟨y1, h1⟩ := hf 1 _ rfl
  obtain ⟨a1, w1, r1⟩ := Qs0 (off := 1) (sz := 1) R_3 (by kernel_rfl) (fun _ => rfl) h1
  obtain ⟨y2, h2⟩ := hf 2 _ rfl
  obtain ⟨a2, w2, r2⟩ := Qs0 (off := 2) (sz := 1) R_3 (by kernel_rfl) (fun _ => rfl) h2
  exact ⟨⟨a0, a1, a2⟩, ⟨w0, w1, w2⟩, RDat.all (xs := Qc ⟨a0, a1, a2⟩) (RDat.app r0 rfl (RDat.app r1 rfl r2)) (hl.trans (by kernel_rfl))⟩
def W_31 (x : List Qh) : Prop := wfL W_63 x
theorem R_31 : Q32 Try.prog 31 (eL 3 Qc) W_31 := Q33 Try.underlying31 R_63 (by kernel_rfl) (by decide) (fun _ => rfl)
def W_33 (x : Qb) : Prop := W_27 x.Alphabet ∧ W_3 x.States ∧ W_27 x.Marked ∧ W_31 x.Edges
theorem R_33 : Q32 Try.prog 33 Qvl W_33 := by
  intro H enc w base spare held fuel cs x h
  obtain ⟨hl, n, hf⟩ := Q65 Try.underlying33 h
  obtain ⟨y0, h0⟩ := hf 0 _ rfl
  obtain ⟨a0, w0, r0⟩ := Qs0 (off := 0) (sz := 1) R_27 (by kernel_rfl) (fun _ => rfl) h0
  obtain ⟨y1, h1⟩ := hf 1 _ rfl
  obtain ⟨a1, w1, r1⟩ := Qs0 (off := 1) (sz := 1) R_3 (by kernel_rfl) (fun _ => rfl) h1
  obtain ⟨y2, h2⟩ := hf 2 _ rfl
  obtain ⟨a2, w2, r2⟩ := Qs0 (off := 2) (sz := 1) R_27 (by kernel_rfl) (fun _ => rfl) h2
  obtain ⟨y3, h3⟩ := hf 3 _ rfl
  obtain ⟨a3, w3, r3⟩ := Qs0 (off := 3) (sz := 1) R_31 (by kernel_rfl) (fun _ => rfl) h3
  exact ⟨⟨a0, a1, a2, a3⟩, ⟨w0, w1, w2, w3⟩, RDat.all (xs := Qvl ⟨a0, a1, a2, a3⟩) (RDat.app r0 rfl (RDat.app r1 rfl (RDat.app r2 rfl r3))) (hl.trans (by kernel_rfl))⟩
theorem A_33 : Qwx Try.prog 33 (fun (a : Qb) => .agg [.d (.lst 1 (List.map (eI .i64) a.Alphabet)), .d (.int .i64 a.States), .d (.lst 1 (List.map (eI .i64) a.Marked)), .d (.lst 3 (List.map Qc a.Edges))]) W_33 := Qbdo R_33 (.inl ⟨_, Try.underlying33⟩)
theorem A_27 : Qwx Try.prog 27 (fun (a : List Int) => .d (.lst 1 (List.map (eI .i64) a))) W_27 := Qbdn R_27 (Qbbd Try.underlying27)
end Go.Proofs
end
section
namespace Go.Abs
open Go
theorem Q5a {X R : Type} {F : (X → Option R) → X → Option R} (I : X → Prop) (m : X → Nat) (Q : X → Option R → Prop)
  (step : ∀ (k : X → Option R) (x : X), I x → (∀ y, I y → m y < m x → Q y (k y)) → Q x (F k x)) : ∀ (fuel : Nat) (x : X), I x → m x < fuel → Q x (Qfa F fuel x)
 | 0, x, _, h => absurd h (Nat.not_lt_zero _)
 | fuel + 1, x, hi, h => step _ x hi fun y hy hm => Q5a I m Q step fuel y hy (by omega)
theorem Qbbf {x : Int} (h1 : -9223372036854775808 ≤ x) (h2 : x ≤ 9223372036854775807) : IntKind.wrap .i64 x = x := by
 simp [IntKind.wrap, IntKind.bits, IntKind.signed]; omega
theorem Qpv {n : Nat} (h : n < 9223372036854775807) : IntKind.wrap .i64 ((n : Int) + 1) = ((n + 1 : Nat) : Int) := by
 rw [Qbbf (by omega) (by omega)]; omega
theorem Qjj {α : Type} {l : List α} {n : Nat} (h : n < l.length) : getO l (n : Int) = some l[n] := by
 simp [getO, h]
theorem Qbbg {α : Type} {l : List α} {i : Int} {x : α} : getO l i = some x ↔ 0 ≤ i ∧ l[i.toNat]? = some x := by
 unfold getO; split
 ·rename_i h; simp [h]
 ·rename_i h; simp only [reduceCtorEq, false_iff, not_and]; exact fun h' => absurd h' h
theorem Qpw {R : Type} {F : (Int → Option R) → Int → Option R} {len fuel : Nat} (G : Nat → Option R) (hf : len < fuel)
  (step : ∀ (k : Int → Option R) (n : Nat), n < len → k ((n + 1 : Nat) : Int) = G (n + 1) → F k (n : Int) = G n) (last : ∀ k : Int → Option R, F k (len : Int) = G len) : Qfa F fuel 0 = G 0 := by
 have := Q5a (F := F) (fun x => ∃ n : Nat, x = (n : Int) ∧ n ≤ len) (fun x => len - x.toNat) (fun x r => ∀ n : Nat, x = (n : Int) → r = G n) (fun k x hx ih => by
  obtain ⟨n, rfl, hn⟩ := hx
  intro m hm
  obtain rfl : n = m := by omega
  by_cases h : n < len
  ·exact step k n h (ih _ ⟨n + 1, rfl, by omega⟩ (by omega) (n + 1) rfl)
  ·obtain rfl : n = len := by omega
   exact last k) fuel 0 ⟨0, rfl, by omega⟩ (by simpa using hf)
 exact this 0 rfl
theorem Q1b {n : Nat} (h0 : 0 < n) (h : n < 9223372036854775807) : IntKind.wrap .i64 ((n : Int) - 1) = ((n - 1 : Nat) : Int) := by
 rw [Qbbf (by omega) (by omega)]; omega
section
variable {α : Type} {p : α → Bool}
end
theorem Qlm : ∀ {l : List Int} {a b : Int}, l.Pairwise (· < ·) → (∀ x ∈ l, a ≤ x ∧ x < b) → l.length ≤ (b - a).toNat
 | [], _, _, _, _ => by simp
 | x :: xs, a, b, h, hr => by
  obtain ⟨h1, h2⟩ := List.pairwise_cons.1 h
  have := Qlm (a := x + 1) (b := b) h2 fun y hy => ⟨by have := h1 y hy; omega, (hr y (by simp [hy])).2⟩
  have := hr x (by simp)
  simp only [List.length_cons]
  omega
end Go.Abs
end
section
namespace Go.Abs
abbrev big : Nat := 1000000000000
def Q9b (a : Qb) : Prop := a.Alphabet.length < big ∧ a.Marked.length < big ∧ a.Edges.length < big
end Go.Abs
end
section
namespace Go.Abs
open Go
end Go.Abs
end
section
namespace Go.Abs
open Go
theorem Qbbh : Qgd = some true := by kernel_rfl
end Go.Abs
end
section
namespace Go.Abs
open Go
set_option linter.unusedSimpArgs false
def Qdj (n : Int) : Option Int → List Int → Int
 | _, [] => 0
 | p, x :: xs => if x < 0 ∨ x ≥ n then 2 else if ∃ y, p = some y ∧ x ≤ y then 5 else Qdj n (some x) xs
def Qid (al : List Int) (st : Int) : Option Qh → List Qh → Int
 | _, [] => 0
 | p, x :: xs => if x.From < 0 ∨ x.From ≥ st ∨ x.To < 0 ∨ x.To ≥ st then 2 else if x.Event ∉ al then 9 else if ∃ y, p = some y ∧ (x.From < y.From ∨ x.From = y.From ∧ x.Event ≤ y.Event) then 5 else Qid al st (some x) xs
def Qgi (a : Qb) : Int :=
 if Qdj 32 none a.Alphabet ≠ 0 then Qdj 32 none a.Alphabet else if a.States < 0 then 2 else if a.States > 4096 then 3 else
 if Qdj a.States none a.Marked ≠ 0 then Qdj a.States none a.Marked else Qid a.Alphabet a.States none a.Edges
def ahead {α : Type} (l : List α) (n : Nat) : Option α := if n = 0 then none else l[n - 1]?
theorem Qhj {α : Type} (l : List α) : ahead l 0 = none := rfl
theorem Q5b {α : Type} (l : List α) {n : Nat} (h : n < l.length) : ahead l (n + 1) = some l[n] := by simp [ahead, h]
theorem Q1c {α : Type} (l : List α) {n : Nat} (h0 : 0 < n) (h : n ≤ l.length) : ahead l n = some (l[n - 1]'(by omega)) := by
 simp [ahead, show n ≠ 0 from by omega, show n - 1 < l.length from by omega]
theorem Q2e {n : Int} {l : List Int} {k : Nat} (h : k < l.length) : Qdj n (ahead l k) (l.drop k) = if l[k] < 0 ∨ l[k] ≥ n then 2 else if ∃ y, ahead l k = some y ∧ l[k] ≤ y then 5 else Qdj n (ahead l (k + 1)) (l.drop (k + 1)) := by
 rw [List.drop_eq_getElem_cons h, Qdj, Q5b l h]
theorem Q1d {al : List Int} {n : Int} {l : List Qh} {k : Nat} (h : k < l.length) : Qid al n (ahead l k) (l.drop k) = if l[k].From < 0 ∨ l[k].From ≥ n ∨ l[k].To < 0 ∨ l[k].To ≥ n then 2 else if l[k].Event ∉ al then 9 else if ∃ y, ahead l k = some y ∧ (l[k].From < y.From ∨ l[k].From = y.From ∧ l[k].Event ≤ y.Event) then 5 else Qid al n (ahead l (k + 1)) (l.drop (k + 1)) := by
 rw [List.drop_eq_getElem_cons h, Qid, Q5b l h]
theorem Q0c {l : List Int} {n : Int} (hl : l.length < big) : Qez l n = some (Qdj n none l) := by
 unfold Qez Qbm
 refine (Qpw (len := l.length) (fun k => some (Qdj n (ahead l k) (l.drop k))) (by unfold Qdv; unfold big at hl; omega) ?_ ?_).trans (by simp [Qhj])
 ·intro k i hi ih
  have hb : i < 1000000000000 := by unfold big at hl; omega
  rw [Q2e hi]
  try dsimp only
  rw [if_pos (by omega), Qjj hi, Qpv (by omega), ih]
  simp only [Option.bind_some]
  by_cases h1 : l[i] < 0
  ·simp [h1]
  ·by_cases h2 : l[i] ≥ n
   ·simp [h1, h2]
   ·by_cases h0 : 0 < i
    ·rw [Q1b h0 (by omega), Qjj (by omega : i - 1 < l.length), Q1c l h0 (by omega)]
     by_cases h3 : l[i] ≤ l[i - 1] <;> simp [h1, h2, h3, h0]
    ·obtain rfl : i = 0 := by omega
     simp [h1, h2, Qhj]
 ·intro k; simp [Qdj]
theorem Q14 {l : List Int} {n : Int} (hl : l.length < big) : Qdy l n = some (Qdj n none l) := by
 unfold Qdy Q2
 refine (Qpw (len := l.length) (fun k => some (Qdj n (ahead l k) (l.drop k))) (by unfold Qdv; unfold big at hl; omega) ?_ ?_).trans (by simp [Qhj])
 ·intro k i hi ih
  have hb : i < 1000000000000 := by unfold big at hl; omega
  rw [Q2e hi]
  try dsimp only
  rw [if_pos (by omega), Qjj hi, Qpv (by omega), ih]
  simp only [Option.bind_some]
  by_cases h1 : l[i] < 0
  ·simp [h1]
  ·by_cases h2 : l[i] ≥ n
   ·simp [h1, h2]
   ·by_cases h0 : 0 < i
    ·rw [Q1b h0 (by omega), Qjj (by omega : i - 1 < l.length), Q1c l h0 (by omega)]
     by_cases h3 : l[i] ≤ l[i - 1] <;> simp [h1, h2, h3, h0]
    ·obtain rfl : i = 0 := by omega
     simp [h1, h2, Qhj]
 ·intro k; simp [Qdj]
theorem Qbcc {l : List Int} {v : Int} (hl : l.length < big) : Qfx l v = some (if v ∈ l then (l.idxOf v : Int) else -1) := by
 unfold Qfx Qb6
 refine (Qpw (len := l.length) (fun k => some (if v ∈ l.drop k then ((k + (l.drop k).idxOf v : Nat) : Int) else -1)) (by unfold Qdv; unfold big at hl; omega) ?_ ?_).trans (by simp)
 ·intro k i hi ih
  have hb : i < 1000000000000 := by unfold big at hl; omega
  try dsimp only
  rw [if_pos (by omega), Qjj hi, Qpv (by omega), ih, List.drop_eq_getElem_cons hi]
  simp only [Option.bind_some, List.mem_cons, List.idxOf_cons]
  by_cases h : v = l[i]
  ·simp [← h]
  ·have : ¬ l[i] = v := fun e => h e.symm
   have hbq : (l[i] == v) = false := by simp [this]
   by_cases h2 : v ∈ l.drop (i + 1) <;> simp [h, h2, hbq]
   omega
 ·intro k; simp
theorem Q7w {l : List Int} {v : Int} (hl : l.length < big) : Qbj l v = some (decide (v ∈ l)) := by
 unfold Qbj Qi
 rw [Qbcc hl]
 simp only [Option.bind_some, Option.some.injEq]
 by_cases h : v ∈ l <;> simp [h]
theorem Qbeg {l : List Int} {v : Int} (hl : l.length < big) : Qfd l v = some (decide (v ∈ l)) := by
 unfold Qfd Qb1
 refine (Qpw (len := l.length) (fun k => some (decide (v ∈ l.drop k))) (by unfold Qdv; unfold big at hl; omega) ?_ ?_).trans (by simp)
 ·intro k i hi ih
  have hb : i < 1000000000000 := by unfold big at hl; omega
  try dsimp only
  rw [if_pos (by omega), Qjj hi, Qpv (by omega), ih, List.drop_eq_getElem_cons hi]
  simp only [Option.bind_some, List.mem_cons]
  by_cases h : l[i] = v
  ·simp [h]
  ·have : ¬ v = l[i] := fun e => h e.symm
   simp [h, this]
 ·intro k; simp
theorem Q54 {a : Qb} (h : Q9b a) : Qeb a = some (Qid a.Alphabet a.States none a.Edges) := by
 obtain ⟨hal, _, hl⟩ := h
 unfold Qeb Qbl
 refine (Qpw (len := a.Edges.length) (fun k => some (Qid a.Alphabet a.States (ahead a.Edges k) (a.Edges.drop k))) (by unfold Qdv; unfold big at hl; omega) ?_ ?_).trans (by simp [Qhj])
 ·intro k i hi ih
  have hb : i < 1000000000000 := by unfold big at hl; omega
  rw [Q1d hi]
  unfold letJ
  try dsimp only
  rw [if_pos (by omega), Qjj hi, Qpv (by omega), ih]
  simp only [Option.bind_some, Q7w hal]
  generalize a.Edges[i] = x
  by_cases h1 : x.From < 0
  ·simp [h1]
  by_cases h2 : x.From ≥ a.States
  ·simp [h1, h2]
  by_cases h3 : x.To < 0
  ·simp [h1, h2, h3]
  by_cases h4 : x.To ≥ a.States
  ·simp [h1, h2, h3, h4]
  by_cases h5 : x.Event ∈ a.Alphabet
  ·by_cases h0 : 0 < i
   ·rw [Q1b h0 (by omega), Qjj (by omega : i - 1 < a.Edges.length), Q1c a.Edges h0 (by omega)]
    generalize a.Edges[i - 1] = y
    have hi0 : i ≠ 0 := by omega
    by_cases h6 : x.From < y.From
    ·simp [h1, h2, h3, h4, h5, h6, hi0]
    by_cases h7 : y.From = x.From
    ·by_cases h8 : x.Event ≤ y.Event <;> simp [h1, h2, h3, h4, h5, h6, h7, h8, hi0]
    ·have h7' : ¬ x.From = y.From := fun e => h7 e.symm
     simp [h1, h2, h3, h4, h5, h6, h7, hi0, h7']
   ·obtain rfl : i = 0 := by omega
    simp [h1, h2, h3, h4, h5, Qhj]
  ·simp [h1, h2, h3, h4, h5]
 ·intro k; unfold letJ; simp [Qid]
theorem Qbcd {a : Qb} (h : Q9b a) : Qe4 a = some (Qgi a) := by
 unfold Qe4 Qbd Qgi
 rw [Q0c h.1, Q0c h.2.1, Q54 h]
 simp only [Option.bind_some]
 by_cases h1 : Qdj 32 none a.Alphabet = 0
 ·by_cases h2 : a.States < 0
  ·simp [h1, h2]
  by_cases h3 : a.States > 4096
  ·simp [h1, h2, h3]
  by_cases h4 : Qdj a.States none a.Marked = 0 <;> simp [h1, h2, h3, h4]
 ·simp [h1]
theorem Q7x {a : Qb} (h : Q9b a) : Qeh a = some (Qgi a) := by
 obtain ⟨hal, hm, hl⟩ := h
 have hE : ∀ A : Option Int, A = some (Qid a.Alphabet a.States none a.Edges) → (if (Qdj 32 none a.Alphabet != 0) = true then some (Qdj 32 none a.Alphabet) else if a.States < 0 then some 2 else if a.States > 4096 then some 3 else if (Qdj a.States none a.Marked != 0) = true then some (Qdj a.States none a.Marked) else A) = some (Qgi a) := by
  intro A hA
  subst hA
  unfold Qgi
  by_cases h1 : Qdj 32 none a.Alphabet = 0
  ·by_cases h2 : a.States < 0
   ·simp [h1, h2]
   by_cases h3 : a.States > 4096
   ·simp [h1, h2, h3]
   by_cases h4 : Qdj a.States none a.Marked = 0 <;> simp [h1, h2, h3, h4]
  ·simp [h1]
 unfold Qeh Qbr
 rw [Q14 hal, Q14 hm]
 simp only [Option.bind_some]
 refine hE _ ?_
 ·exact (Qpw (len := a.Edges.length) (fun k => some (Qid a.Alphabet a.States (ahead a.Edges k) (a.Edges.drop k))) (by unfold Qdv; unfold big at hl; omega) (by
   intro k i hi ih
   have hb : i < 1000000000000 := by unfold big at hl; omega
   rw [Q1d hi]
   try dsimp only
   rw [if_pos (by omega), Qjj hi, Qpv (by omega), ih]
   simp only [Option.bind_some, Qbeg hal]
   generalize a.Edges[i] = x
   by_cases h1 : x.From < 0
   ·simp [h1]
   by_cases h2 : x.From ≥ a.States
   ·simp [h1, h2]
   by_cases h3 : x.To < 0
   ·simp [h1, h2, h3]
   by_cases h4 : x.To ≥ a.States
   ·simp [h1, h2, h3, h4]
   by_cases h5 : x.Event ∈ a.Alphabet
   ·by_cases h0 : 0 < i
    ·rw [Q1b h0 (by omega), Qjj (by omega : i - 1 < a.Edges.length), Q1c a.Edges h0 (by omega)]
     generalize a.Edges[i - 1] = y
     have hi0 : i ≠ 0 := by omega
     by_cases h6 : x.From < y.From
     ·simp [h1, h2, h3, h4, h5, h6, h0]
     by_cases h7 : y.From = x.From
     ·by_cases h8 : x.Event ≤ y.Event <;> simp [h1, h2, h3, h4, h5, h6, h7, h8, h0]
     ·have h7' : ¬ x.From = y.From := fun e => h7 e.symm
      simp [h1, h2, h3, h4, h5, h6, h7, h0, h7']
    ·obtain rfl : i = 0 := by omega
     simp [h1, h2, h3, h4, h5, Qhj]
   ·simp [h1, h2, h3, h4, h5]) (by intro k; simp [Qid])).trans (by simp [Qhj])
end Go.Abs
end
section
namespace Go.Abs
open Go
set_option linter.unusedSimpArgs false
set_option linter.unusedVariables false
def Qbce (x y : Qh) : Prop := x.From < y.From ∨ x.From = y.From ∧ x.Event < y.Event
instance (x y : Qh) : Decidable (Qbce x y) := by unfold Qbce; infer_instance
structure Q4f (a : Qb) : Prop where
 al0 : ∀ x ∈ a.Alphabet, 0 ≤ x ∧ x < 32
 al : a.Alphabet.Pairwise (· < ·)
 st : 0 ≤ a.States ∧ a.States ≤ 4096
 ma0 : ∀ x ∈ a.Marked, 0 ≤ x ∧ x < a.States
 ma : a.Marked.Pairwise (· < ·)
 ed0 : ∀ x ∈ a.Edges, 0 ≤ x.From ∧ x.From < a.States ∧ 0 ≤ x.To ∧ x.To < a.States ∧ x.Event ∈ a.Alphabet
 ed : a.Edges.Pairwise Qbce
def outP (a : Qb) (s : Int) : List Qh := a.Edges.filter fun x => x.From == s
section
variable {a : Qb} (h : Q4f a) (hs : Q9b a)
include h hs
end
end Go.Abs
end
section
namespace Go.Abs
open Go
set_option linter.unusedSimpArgs false
set_option linter.unusedVariables false
end Go.Abs
end
section
namespace Go.Abs
open Go
set_option linter.unusedSimpArgs false
set_option linter.unusedVariables false
def ins (o : List Int) (t : Int) : List Int := if t ∈ o then o else o ++ [t]
def Qbep (a : Qb) (s : Int) : List Int := (outP a s).map (·.To)
def bfs (a : Qb) : Nat → Nat → List Int → List Int
 | 0, _, o => o
 | fuel + 1, i, o => match o[i]? with
  | some s => bfs a fuel (i + 1) ((Qbep a s).foldl ins o)
  | none => o
def Q8s (a : Qb) : List Int := bfs a (a.States.toNat + 1) 0 (if 0 < a.States then [0] else [])
structure Fnd (a : Qb) (o : List Int) : Prop where
 nd : o.Nodup
 rg : ∀ s ∈ o, 0 ≤ s ∧ s < a.States
theorem Fnd.len {a : Qb} {o : List Int} (h : Fnd a o) : o.length ≤ a.States.toNat := by
 have hO : Go.Sort.SWO Qgz := ⟨fun x => by simp [Qgz], fun x y z h1 h2 => by simp [Qgz] at *; omega, fun x y z h1 h2 => by simp [Qgz] at *; omega⟩
 have hp := Qje Qgz o
 have hs := Qlh hO o
 have hn : (Qh9 Qgz o).Nodup := (hp.nodup_iff).2 h.nd
 have hlt : (Qh9 Qgz o).Pairwise (· < ·) := by
  have : (Qh9 Qgz o).Pairwise fun x y => Qgz y x = false ∧ x ≠ y := hs.and hn
  exact this.imp fun ⟨h1, h2⟩ => by simp [Qgz] at h1; omega
 have := Qlm hlt (a := 0) (b := a.States) fun x hx => h.rg x (hp.mem_iff.1 hx)
 rw [Qlg] at this
 simpa using this
end Go.Abs
end
section
namespace Go.Abs
open Go
set_option linter.unusedSimpArgs false
set_option linter.unusedVariables false
section
variable {a : Qb} (h : Q4f a)
include h
end
end Go.Abs
end
section
namespace Go.Abs
open Go
set_option linter.unusedSimpArgs false
set_option linter.unusedVariables false
structure Num (a : Qb) (o num : List Int) : Prop where
 len : num.length = a.States.toNat
 at1 : ∀ s : Nat, s < a.States.toNat → num[s]? = some (if (s : Int) ∈ o then (o.idxOf (s : Int) : Int) else -1)
theorem Num.get {a : Qb} {o num : List Int} (h : Num a o num) {t : Int} (ht : 0 ≤ t ∧ t < a.States) : getO num t = some (if t ∈ o then (o.idxOf t : Int) else -1) := by
 rw [Qbbg]
 refine ⟨ht.1, ?_⟩
 have := h.at1 t.toNat (by omega)
 rwa [show ((t.toNat : Nat) : Int) = t from by omega] at this
theorem Num.set {a : Qb} {o num : List Int} (h : Num a o num) {t : Int} (ht : 0 ≤ t ∧ t < a.States) (hn : t ∉ o) : ∃ num', setO num t (o.length : Int) = some num' ∧ Num a (o ++ [t]) num' := by
 refine ⟨num.set t.toNat (o.length : Int), by unfold setO; rw [if_pos ⟨ht.1, by rw [h.len]; omega⟩], by rw [List.length_set]; exact h.len, fun s hs => ?_⟩
 rw [List.getElem?_set]
 by_cases he : t.toNat = s
 ·subst he
  rw [if_pos rfl, if_pos (by rw [h.len]; omega), show ((t.toNat : Nat) : Int) = t from by omega, if_pos (by simp), List.idxOf_append, if_neg hn]
  simp
 ·rw [if_neg he, h.at1 s hs]
  have hne : (s : Int) ≠ t := by omega
  by_cases hm : (s : Int) ∈ o
  ·rw [if_pos hm, if_pos (by simp [hm]), List.idxOf_append, if_pos hm]
  ·rw [if_neg hm, if_neg (by simp [hm, hne])]
section
variable {a : Qb} (h : Q4f a)
include h
end
end Go.Abs
end
section
namespace Go.Abs
open Go
set_option linter.unusedSimpArgs false
set_option linter.unusedVariables false
section
variable {a : Qb} (h : Q4f a)
include h
end
end Go.Abs
end
section
namespace Go.Abs
open Go
set_option linter.unusedSimpArgs false
set_option linter.unusedVariables false
structure Like (a b : Qb) (φ : Int → Int) : Prop where
 al : b.Alphabet = a.Alphabet
 st : 0 < b.States ↔ 0 < a.States
 zero : 0 < a.States → φ 0 = 0
 inj : ∀ s ∈ Q8s a, ∀ t ∈ Q8s a, φ s = φ t → s = t
 out : ∀ s ∈ Q8s a, outP b (φ s) = (outP a s).map fun x => ⟨φ s, x.Event, φ x.To⟩
 ma : ∀ s ∈ Q8s a, (φ s ∈ b.Marked ↔ s ∈ a.Marked)
section
variable {F : List Int} {φ : Int → Int} (inj : ∀ s ∈ F, ∀ t ∈ F, φ s = φ t → s = t)
include inj
end
section
variable {a b : Qb} {φ : Int → Int} (ha : Q4f a) (hb : Q4f b) (h : Like a b φ)
include ha h
include hb
end
section
variable {a b : Qb} {φ : Int → Int} (ha : Q4f a) (hb : Q4f b) (h : Like a b φ)
include ha h
end
end Go.Abs
end
section
namespace Go.Abs
open Go
set_option linter.unusedSimpArgs false
set_option linter.unusedVariables false
inductive Rch (a : Qb) (ev fr : List Int) : Int → Prop where
 | base {s : Int} : s ∈ fr → Rch a ev fr s
 | step {x : Qh} : Rch a ev fr x.From → x ∈ a.Edges → x.Event ∈ ev → Rch a ev fr x.To
def upto (n : Int) : List Int := (List.range n.toNat).map fun (i : Nat) => (i : Int)
theorem Qbcf {n x : Int} : x ∈ upto n ↔ 0 ≤ x ∧ x < n := by
 simp only [upto, List.mem_map, List.mem_range]
 constructor
 ·rintro ⟨i, hi, rfl⟩; omega
 ·rintro ⟨h1, h2⟩; exact ⟨x.toNat, by omega, by omega⟩
theorem Qbbi (n : Int) : (upto n).Pairwise (· < ·) := by
 unfold upto
 rw [List.pairwise_map]
 exact List.pairwise_lt_range.imp fun h => by omega
open Classical in
noncomputable def Q66 (a : Qb) (fr ev : List Int) : List Int := (upto a.States).filter fun s => decide (Rch a ev fr s)
theorem Q7y (a : Qb) (fr ev : List Int) : (Q66 a fr ev).Pairwise (· < ·) := (Qbbi _).filter _
theorem Q9c {a : Qb} {fr ev : List Int} {s : Int} : s ∈ Q66 a fr ev ↔ (0 ≤ s ∧ s < a.States) ∧ Rch a ev fr s := by
 classical
 simp only [Q66, List.mem_filter, Qbcf, decide_eq_true_eq]
theorem Rch.range {a : Qb} (h : Q4f a) {ev fr : List Int} (hf : ∀ s ∈ fr, 0 ≤ s ∧ s < a.States) {s : Int} (hr : Rch a ev fr s) : 0 ≤ s ∧ s < a.States := by
 induction hr with
 | base hs => exact hf _ hs
 | step _ hx _ _ => have := h.ed0 _ hx; exact ⟨this.2.2.1, this.2.2.2.1⟩
theorem Rch.mono {a : Qb} {ev fr fr' : List Int} (hf : ∀ s ∈ fr, Rch a ev fr' s) {s : Int} (hr : Rch a ev fr s) : Rch a ev fr' s := by
 induction hr with
 | base hs => exact hf _ hs
 | step _ hx he ih => exact .step ih hx he
end Go.Abs
end
section
namespace Go.Abs
open Go
set_option linter.unusedSimpArgs false
set_option linter.unusedVariables false
def Qbdq (a : Qb) (onto : List Int) : List Int := a.Alphabet.filter fun x => !decide (x ∈ onto)
end Go.Abs
end
section
namespace Go.Abs
open Go
set_option linter.unusedSimpArgs false
set_option linter.unusedVariables false
structure Evs (l : List Int) : Prop where
 rg : ∀ x ∈ l, 0 ≤ x ∧ x < 5
 so : l.Pairwise (· < ·)
theorem Evs.len {l : List Int} (h : Evs l) : l.length ≤ 5 := by have := Qlm h.so h.rg; simpa using this
structure Mks (n : Nat) (ms : List Int) : Prop where
 rg : ∀ x ∈ ms, 0 ≤ x ∧ x < n
 so : ms.Pairwise (· < ·)
structure Eds (al : List Int) (N : Int) (i k : Nat) (es : List Qh) : Prop where
 rg : ∀ x ∈ es, 0 ≤ x.From ∧ 0 ≤ x.To ∧ x.To < N ∧ x.Event ∈ al ∧ (x.From < i ∨ x.From = i ∧ ∃ j : Nat, j < k ∧ al[j]? = some x.Event)
 so : es.Pairwise Qbce
 ln : es.length ≤ 5 * i + k
theorem Mks.up {n : Nat} {ms : List Int} (h : Mks n ms) : Mks (n + 1) ms := ⟨fun x hx => by have := h.rg x hx; omega, h.so⟩
theorem Mks.add {n : Nat} {ms : List Int} (h : Mks n ms) : Mks (n + 1) (ms ++ [(n : Int)]) := by
 refine ⟨fun x hx => ?_, ?_⟩
 ·rcases List.mem_append.1 hx with hx | hx
  ·have := h.rg x hx; omega
  ·simp at hx; omega
 ·rw [List.pairwise_append]
  exact ⟨h.so, by simp, fun x hx y hy => by simp at hy; have := h.rg x hx; omega⟩
theorem Mks.len {n : Nat} {ms : List Int} (h : Mks n ms) : ms.length ≤ n := by have := Qlm h.so h.rg; simpa using this
section
variable {al : List Int} (hal : Evs al) {N : Int} {i k : Nat} {es : List Qh}
theorem Eds.up (h : Eds al N i k es) : Eds al N i (k + 1) es := ⟨fun x hx => by
 obtain ⟨h1, h2, h3, h4, h5⟩ := h.rg x hx
 refine ⟨h1, h2, h3, h4, ?_⟩
 rcases h5 with h5 | ⟨h5, j, h6, h7⟩
 ·exact .inl h5
 ·exact .inr ⟨h5, j, by omega, h7⟩, h.so, by have := h.ln; omega⟩
theorem Eds.next (h : Eds al N i k es) (hk : k ≤ 5) : Eds al N (i + 1) 0 es := ⟨fun x hx => by
 obtain ⟨h1, h2, h3, h4, h5⟩ := h.rg x hx
 exact ⟨h1, h2, h3, h4, .inl (by rcases h5 with h5 | ⟨h5, _⟩ <;> omega)⟩, h.so, by have := h.ln; omega⟩
include hal in
theorem Eds.add (h : Eds al N i k es) (hk : k < al.length) {t : Int} (ht : 0 ≤ t ∧ t < N) : Eds al N i (k + 1) (es ++ [⟨(i : Int), al[k], t⟩]) := by
 refine ⟨fun x hx => ?_, ?_, by have := h.ln; simp only [List.length_append, List.length_cons, List.length_nil]; omega⟩
 ·rcases List.mem_append.1 hx with hx | hx
  ·exact h.up.rg x hx
  ·simp at hx; subst hx
   exact ⟨by simp only; omega, ht.1, ht.2, List.getElem_mem hk, .inr ⟨rfl, k, by omega, List.getElem?_eq_getElem hk⟩⟩
 ·rw [List.pairwise_append]
  refine ⟨h.so, by simp, fun x hx y hy => ?_⟩
  simp at hy; subst hy
  obtain ⟨_, _, _, _, h5⟩ := h.rg x hx
  rcases h5 with h5 | ⟨h5, j, h6, h7⟩
  ·exact .inl h5
  ·refine .inr ⟨h5, ?_⟩
   obtain ⟨h8, h9⟩ := List.getElem?_eq_some_iff.1 h7
   rw [← h9]
   exact List.pairwise_iff_getElem.1 hal.so j k h8 hk h6
end
end Go.Abs
end
section
namespace Go.Abs
open Go
set_option linter.unusedSimpArgs false
set_option linter.unusedVariables false
def Qbeh (a : Qb) (est : List Int) (e : Int) : List Int := est.flatMap fun s => ((outP a s).filter fun x => x.Event == e).map (·.To)
noncomputable def Qbcg (a : Qb) (onto est : List Int) (e : Int) : List Int := Q66 a (Qbeh a est e) (Qbdq a onto)
structure Sts (a : Qb) (l : List Int) : Prop where
 rg : ∀ s ∈ l, 0 ≤ s ∧ s < a.States
 so : l.Pairwise (· < ·)
theorem Sts.len {a : Qb} {l : List Int} (h : Sts a l) : l.length ≤ a.States.toNat := by
 have := Qlm (a := 0) (b := a.States) h.so h.rg; omega
theorem Q9d (a : Qb) (fr ev : List Int) : Sts a (Q66 a fr ev) := ⟨fun s hs => (Q9c.1 hs).1, Q7y _ _ _⟩
theorem Qbbj (a : Qb) (onto est : List Int) (e : Int) : Sts a (Qbcg a onto est e) := Q9d _ _ _
theorem Q67 {l : List Int} {n : Int} (hl : l.length < big) : Qdh l n = some (Qdj n none l) := Q0c hl
theorem Qbbk {a : Qb} (h : Q9b a) {ev : List Int} (hl : ev.length < big) : Qb9 a ev = some (if Qgi a = 0 then Qdj 32 none ev else Qgi a) := by
 unfold Qb9 Qp
 rw [Qbcd h]
 simp only [Option.bind_some]
 by_cases h0 : Qgi a = 0
 ·rw [if_neg (by simp [h0]), if_pos h0, Q67 hl]; rfl
 ·rw [if_pos (by simp [h0]), if_neg h0]
structure EvSet (l : List Int) : Prop where
 rg : ∀ x ∈ l, 0 ≤ x ∧ x < 32
 so : l.Pairwise (· < ·)
theorem EvSet.len {l : List Int} (h : EvSet l) : l.length ≤ 32 := by have := Qlm (a := 0) (b := 32) h.so h.rg; omega
theorem Evs.set {l : List Int} (h : Evs l) : EvSet l := ⟨fun x hx => by have := h.rg x hx; omega, h.so⟩
end Go.Abs
end
section
namespace Go.Abs
open Go
set_option linter.unusedSimpArgs false
set_option linter.unusedVariables false
theorem bytes_beq (a b : ByteArray) : (a == b) = decide (a = b) := by
 cases a; cases b
 rw [Bool.eq_iff_iff]
 simp only [decide_eq_true_eq, ByteArray.mk.injEq]
 exact beq_iff_eq (α := Array UInt8)
theorem Qs3 {x y : Int} (hx : 0 ≤ x ∧ x < 256) (hy : 0 ≤ y ∧ y < 256) (h : x.toNat.toUInt8 = y.toNat.toUInt8) : x = y := by
 have := congrArg UInt8.toNat h
 simp only [Nat.toUInt8, UInt8.toNat_ofNat'] at this
 omega
theorem Q2f {r : Int} (h0 : 1 ≤ r) (h1 : r ≤ 50000) :
  (r ≤ 127 ∧ Lib.encodeRuneZ r = [r]) ∨ (128 ≤ r ∧ r ≤ 2047 ∧ Lib.encodeRuneZ r = [192 + r / 64, 128 + r % 64]) ∨ (2048 ≤ r ∧ Lib.encodeRuneZ r = [224 + r / 4096, 128 + r / 64 % 64, 128 + r % 64]) := by
 by_cases h2 : r ≤ 127
 ·exact .inl ⟨h2, Lib.encodeRuneZ_one (by omega) h2⟩
 ·by_cases h3 : r ≤ 2047
  ·exact .inr (.inl ⟨by omega, h3, Lib.encodeRuneZ_two (by omega) h3⟩)
  ·exact .inr (.inr ⟨by omega, Lib.encodeRuneZ_three (.inl ⟨by omega, by omega⟩)⟩)
theorem Q9e {r q : Int} (hr : 1 ≤ r ∧ r ≤ 50000) (hq : 1 ≤ q ∧ q ≤ 50000) {s t : List UInt8} (h : Lib.encodeRune r ++ s = Lib.encodeRune q ++ t) : r = q ∧ s = t := by
 unfold Lib.encodeRune at h
 rcases Q2f hr.1 hr.2 with ⟨a1, a2⟩ | ⟨a0, a1, a2⟩ | ⟨a1, a2⟩ <;> rcases Q2f hq.1 hq.2 with ⟨b1, b2⟩ | ⟨b0, b1, b2⟩ | ⟨b1, b2⟩ <;> rw [a2, b2] at h <;>
  simp only [List.map_cons, List.map_nil, List.cons_append, List.nil_append, List.cons.injEq] at h
 ·exact ⟨Qs3 (by omega) (by omega) h.1, h.2⟩
 ·have := Qs3 (by omega) (by omega) h.1; omega
 ·have := Qs3 (by omega) (by omega) h.1; omega
 ·have := Qs3 (by omega) (by omega) h.1; omega
 ·have e1 := Qs3 (by omega) (by omega) h.1
  have e2 := Qs3 (by omega) (by omega) h.2.1
  exact ⟨by omega, h.2.2⟩
 ·have := Qs3 (by omega) (by omega) h.1; omega
 ·have := Qs3 (by omega) (by omega) h.1; omega
 ·have := Qs3 (by omega) (by omega) h.1; omega
 ·have e1 := Qs3 (by omega) (by omega) h.1
  have e2 := Qs3 (by omega) (by omega) h.2.1
  have e3 := Qs3 (by omega) (by omega) h.2.2.1
  exact ⟨by omega, h.2.2.2⟩
theorem Q68 (r : Int) : Lib.encodeRune r ≠ [] := by
 unfold Lib.encodeRune Lib.encodeRuneZ
 split
 ·simp
 ·split
  ·simp
  ·split
   ·simp
   ·split <;> simp
theorem Q8t : ∀ {l m : List Int}, (∀ x ∈ l, 0 ≤ x ∧ x < 50000) → (∀ x ∈ m, 0 ≤ x ∧ x < 50000) → (l.flatMap fun x => Lib.encodeRune (x + 1)) = (m.flatMap fun x => Lib.encodeRune (x + 1)) → l = m
 | [], [], _, _, _ => rfl
 | [], y :: m, _, _, h => by
  simp only [List.flatMap_nil, List.flatMap_cons] at h
  exact absurd (List.append_eq_nil_iff.1 h.symm).1 (Q68 _)
 | x :: l, [], _, _, h => by
  simp only [List.flatMap_nil, List.flatMap_cons] at h
  exact absurd (List.append_eq_nil_iff.1 h).1 (Q68 _)
 | x :: l, y :: m, hl, hm, h => by
  simp only [List.flatMap_cons] at h
  have hx := hl x (by simp); have hy := hm y (by simp)
  obtain ⟨h1, h2⟩ := Q9e ⟨by omega, by omega⟩ ⟨by omega, by omega⟩ h
  rw [Q8t (fun z hz => hl z (by simp [hz])) (fun z hz => hm z (by simp [hz])) h2, show x = y from by omega]
theorem Q8u {l m : List Int} (hl : ∀ x ∈ l, 0 ≤ x ∧ x < 50000) (hm : ∀ x ∈ m, 0 ≤ x ∧ x < 50000) (h : keyB l = keyB m) : l = m := by
 unfold keyB at h
 have h := congrArg (fun b : ByteArray => b.data.toList) h
 simp only [List.toList_toArray] at h
 exact Q8t hl hm h
structure KM (S : List (List Int)) (c : List (ByteArray × Int)) : Prop where
 has : ∀ n, (∀ x ∈ n, 0 ≤ x ∧ x < 50000) → hasM c (keyB n) = decide (n ∈ S)
 get : ∀ n ∈ S, getM c (keyB n) 0 = (S.idxOf n : Int)
 rg : ∀ n ∈ S, ∀ x ∈ n, 0 ≤ x ∧ x < 50000
theorem Q69 {β : Type} {v : β} {k k' : ByteArray} : ∀ {m : List (ByteArray × β)}, hasM (setM m k v) k' = (decide (k' = k) || hasM m k')
 | [] => by simp [setM, hasM, bytes_beq]
 | (q, w) :: m => by
  have ih := Q69 (v := v) (k := k) (k' := k') (m := m)
  simp only [setM]
  by_cases h : k = q
  ·subst h
   simp only [bytes_beq, decide_true, if_true, Q3r]
   by_cases h2 : k' = k <;> simp [h2, bytes_beq]
  ·simp only [bytes_beq, h, decide_false, Bool.false_eq_true, if_false, Q3r]
   rw [ih]
   cases decide (k' = q) <;> cases decide (k' = k) <;> rfl
theorem Q7a {β : Type} {z v : β} {k k' : ByteArray} : ∀ {m : List (ByteArray × β)}, getM (setM m k v) k' z = if k' = k then v else getM m k' z
 | [] => by simp [setM, getM, bytes_beq]
 | (q, w) :: m => by
  have ih := Q7a (z := z) (v := v) (k := k) (k' := k') (m := m)
  simp only [setM]
  by_cases h : k = q
  ·subst h
   simp only [bytes_beq, decide_true, if_true, getM]
   by_cases h2 : k' = k
   ·subst h2; simp
   ·simp [h2]
  ·simp only [bytes_beq, h, decide_false, Bool.false_eq_true, if_false, getM]
   by_cases h2 : k' = q
   ·subst h2
    have : ¬ k' = k := fun e => h e.symm
    simp [this]
   ·simp only [h2, decide_false, Bool.false_eq_true, if_false, ih]
theorem KM.add {S : List (List Int)} {c : List (ByteArray × Int)} (h : KM S c) {n : List Int} (hn : ∀ x ∈ n, 0 ≤ x ∧ x < 50000) (hm : n ∉ S) : KM (S ++ [n]) (setM c (keyB n) (S.length : Int)) := by
 refine ⟨fun m hm' => ?_, fun m hm' => ?_, fun m hm' => ?_⟩
 ·rw [Q69, h.has m hm', ← Bool.decide_or]
  apply decide_eq_decide.2
  rw [List.mem_append, List.mem_singleton]
  constructor
  ·rintro (e | e)
   ·exact .inr (Q8u hm' hn e)
   ·exact .inl e
  ·rintro (e | e)
   ·exact .inr e
   ·exact .inl (by rw [e])
 ·rw [Q7a]
  rw [List.mem_append, List.mem_singleton] at hm'
  rcases hm' with hm' | rfl
  ·rw [if_neg (fun e => hm (by rw [← Q8u (h.rg m hm') hn e]; exact hm')), h.get m hm', List.idxOf_append, if_pos hm']
  ·rw [if_pos rfl, List.idxOf_append, if_neg hm]; simp
 ·rw [List.mem_append, List.mem_singleton] at hm'
  rcases hm' with hm' | rfl
  ·exact h.rg m hm'
  ·exact hn
end Go.Abs
end
section
namespace Go.Abs
open Go
set_option linter.unusedSimpArgs false
set_option linter.unusedVariables false
def insL (o : List (List Int)) (t : List Int) : List (List Int) := if t ∈ o then o else o ++ [t]
noncomputable def Qbdr (a : Qb) (onto est : List Int) (l : List Int) : List (Int × List Int) := l.filterMap fun x => if Qbcg a onto est x = [] then none else some (x, Qbcg a onto est x)
def Qbbl (S : List (List Int)) (row : List (Int × List Int)) : List (List Int) := row.foldl (fun o p => insL o p.2) S
theorem Qbch {o : List (List Int)} {t x : List Int} : x ∈ insL o t ↔ x ∈ o ∨ x = t := by
  unfold insL; split
  · rename_i h
    exact ⟨.inl, fun e => e.elim id fun e => by rw [e]; exact h⟩
  · simp
theorem Q9f {o : List (List Int)} (h : o.Nodup) (t : List Int) : (insL o t).Nodup := by
  unfold insL; split
  · exact h
  · rename_i hn
    rw [List.nodup_append]
    exact ⟨h, by simp, fun x hx y hy e => by simp at hy; subst hy; subst e; exact hn hx⟩
theorem Q36 : ∀ (row : List (Int × List Int)) {S : List (List Int)}, S.Nodup → (Qbbl S row).Nodup
  | [], S, h => h
  | p :: row, S, h => Q36 row (Q9f h p.2)
theorem Q7b : ∀ (row : List (Int × List Int)) (S : List (List Int)) (x : List Int), x ∈ Qbbl S row ↔ x ∈ S ∨ ∃ p ∈ row, p.2 = x
  | [], S, x => by simp [Qbbl]
  | p :: row, S, x => by
    show x ∈ Qbbl (insL S p.2) row ↔ _
    rw [Q7b row, Qbch]
    simp only [List.mem_cons, exists_eq_or_imp]
    constructor
    · rintro ((h | h) | h)
      · exact .inl h
      · exact .inr (.inl h.symm)
      · exact .inr (.inr h)
    · rintro (h | h | h)
      · exact .inl (.inl h)
      · exact .inl (.inr h.symm)
      · exact .inr h
theorem Qbbm {a : Qb} {onto est l : List Int} {p : Int × List Int} : p ∈ Qbdr a onto est l ↔ p.1 ∈ l ∧ p.2 = Qbcg a onto est p.1 ∧ p.2 ≠ [] := by
  obtain ⟨x, n⟩ := p
  simp only [Qbdr, List.mem_filterMap]
  constructor
  · rintro ⟨y, hy, h⟩
    split at h
    · cases h
    · rename_i hne
      cases h; exact ⟨hy, rfl, hne⟩
  · rintro ⟨h1, h2, h3⟩
    refine ⟨x, h1, ?_⟩
    subst h2
    rw [if_neg h3]
structure Ests (a : Qb) (S : List (List Int)) : Prop where
  nd : S.Nodup
  ok : ∀ s ∈ S, Sts a s ∧ s ≠ []
theorem Ests.grow {a : Qb} {S : List (List Int)} (h : Ests a S) (onto est l : List Int) : Ests a (Qbbl S (Qbdr a onto est l)) := by
  refine ⟨Q36 _ h.nd, fun s hs => ?_⟩
  rcases (Q7b _ _ _).1 hs with hs | ⟨p, hp, rfl⟩
  · exact h.ok s hs
  · obtain ⟨_, h2, h3⟩ := Qbbm.1 hp
    exact ⟨by rw [h2]; exact Qbbj _ _ _ _, h3⟩
theorem Sts.lt {a : Qb} (h : Q4f a) {l : List Int} (hl : Sts a l) : ∀ x ∈ l, 0 ≤ x ∧ x < 50000 := fun x hx => by
  have := hl.rg x hx; have := h.st; omega
end Go.Abs
end
section
namespace Go.Abs
open Go
set_option linter.unusedSimpArgs false
set_option linter.unusedVariables false
end Go.Abs
end
section
namespace Go.Abs
open Go
set_option linter.unusedSimpArgs false
set_option linter.unusedVariables false
theorem Q7z (a : Qb) (onto : List Int) : Qc5 a onto = some true := by
 unfold Qc5 Qcc
 rw [Qbbh]
 simp only [Option.bind_some, if_true]
 by_cases hg : (a.Alphabet.length ≤ 12 ∧ a.Marked.length ≤ 12 ∧ a.Edges.length ≤ 12) ∧ onto.length ≤ 8
 ·obtain ⟨⟨h1, h2, h3⟩, h4⟩ := hg
  have hs : Q9b a := ⟨by unfold big; omega, by unfold big; omega, by unfold big; omega⟩
  have ho : onto.length < big := by unfold big; omega
  rw [if_neg (by omega), if_neg (by omega), if_neg (by omega)]
  simp only [Option.bind_some]
  rw [if_neg (by simp; omega), Q7x hs, Q14 ho]
  simp only [Option.bind_some]
  generalize hw : (if Qgi a = 0 then Qdj 32 none onto else Qgi a) = want
  have hc := Qbbk hs ho
  rw [hw] at hc
  have e1 : (if (Qgi a == 0) = true then some (Qdj 32 none onto) else some (Qgi a)) = some want := by
   rw [← hw]; by_cases h0 : Qgi a = 0 <;> simp [h0]
  rw [e1]
  simp only [Option.bind_some]
  by_cases h0 : want = 0
  ·rw [if_pos (by simp [h0])]
  ·rw [if_neg (by simp [h0])]
   have q1 : Qdw a onto = some (⟨[], 0, [], []⟩, [], want) := by
    unfold Qdw Q6; rw [hc]; simp [h0]
   have q2 : Qdx a onto = some (⟨[], 0, [], []⟩, want) := by
    unfold Qdx Q7; rw [hc]; simp [h0]
   have q3 : Qfy a [] onto = some ([], want) := by
    unfold Qfy Qb8; rw [hc]; simp [h0]
   have q4 : Qei a onto [] = some ([], want) := by
    unfold Qei Qbs; rw [hc]; simp [h0]
   have q5 : Qgh a onto [] 0 = some ([], want) := by
    unfold Qgh Qci; rw [hc]; simp [h0]
   have q6 : Qe5 a onto [] false = some ([], false, want) := by
    unfold Qe5 Qbf; rw [hc]; simp [h0]
   have q7 : Qgw ⟨[], 0, [], []⟩ = some true := rfl
   simp only [q1, q2, q3, q4, q5, q6, q7, Option.bind_some]
   simp
 ·have e : (if ((a.Alphabet.length : Int) > 12) then some true else (if ((a.Marked.length : Int) > 12) then some true else (if ((a.Edges.length : Int) > 12) then some true else some (decide ((onto.length : Int) > 8))))) = some true := by
   by_cases k1 : a.Alphabet.length ≤ 12
   ·by_cases k2 : a.Marked.length ≤ 12
    ·by_cases k3 : a.Edges.length ≤ 12
     ·have : ¬ onto.length ≤ 8 := fun k4 => hg ⟨⟨k1, k2, k3⟩, k4⟩
      rw [if_neg (by omega), if_neg (by omega), if_neg (by omega)]; simp; omega
     ·rw [if_neg (by omega), if_neg (by omega), if_pos (by omega)]
    ·rw [if_neg (by omega), if_pos (by omega)]
   ·rw [if_pos (by omega)]
  rw [e]
  simp
end Go.Abs
end
