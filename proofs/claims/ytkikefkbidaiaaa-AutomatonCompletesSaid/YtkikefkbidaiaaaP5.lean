/-
  Part 5 of the proof: see the last text.
-/
import Derived.Test.YtkikefkbidaiaaaP4
import Derived.Test.YtkikefkbidaiaaaProg
import Derived.KernelRfl
import Derived.Shelf.SlSortCmp.NoneTotal
set_option linter.unusedVariables false
set_option linter.unusedSimpArgs false
set_option linter.unusedSectionVars false
section
namespace Go.Abs
open Go
set_option linter.unusedVariables false
set_option maxRecDepth 10000
set_option maxHeartbeats 4000000
theorem overseerlaw03_known_walk {P : Program} {c : Nat} {f_automaton_Words : api_Automaton → Int → Bool → Option ((List (List Int)) × Int)} {f_automaton_Relabel : api_Automaton → (List Int) → Option (api_Automaton × Int)} {f_overseerref03_Same : api_Automaton → api_Automaton → Option Bool} {f_automaton_Canonical : api_Automaton → Option (api_Automaton × Int)} {f_automaton_Run : api_Automaton → Int → (List Int) → Option (Int × Int × Int)} {f_overseerref03_SameInts : (List Int) → (List Int) → Option Bool} {f_overseerlaw03_example : Option api_Automaton}
    (H_automaton_Words : K_automaton_Words P 16 f_automaton_Words)
    (H_automaton_Relabel : K_automaton_Relabel P 20 f_automaton_Relabel)
    (H_overseerref03_Same : K_overseerref03_Same P 23 f_overseerref03_Same)
    (H_automaton_Canonical : K_automaton_Canonical P 29 f_automaton_Canonical)
    (H_automaton_Run : K_automaton_Run P 34 f_automaton_Run)
    (H_overseerref03_SameInts : K_overseerref03_SameInts P 38 f_overseerref03_SameInts)
    (H_overseerlaw03_example : K_overseerlaw03_example P 46 f_overseerlaw03_example) (hcf : compFn P c = some F_overseerlaw03_known) : K_overseerlaw03_known P c (f_overseerlaw03_known f_automaton_Words f_automaton_Relabel f_overseerref03_Same f_automaton_Canonical f_automaton_Run f_overseerref03_SameInts f_overseerlaw03_example) := by
 intro  r h
 refine fn_trP hcf rfl fun Γ M hP hnt hM => ?_
 subst hP
 refine Tr.init [] rfl ?_
 unfold f_overseerlaw03_known at h
 unfold F_overseerlaw03_known
 refine sr ((md rfl (nt ((Tr.seq (Tr.rgn ?_))))))
 obtain ⟨x2, h1, h⟩ := bnd h
 refine Rn.call (args := []) trivial rfl (H_overseerlaw03_example _ h1) pc9 ?_
 obtain ⟨⟨r4, r5⟩, h3, h⟩ := bnd h
 refine Rn.call (args := [.agg [.d (.lst 1 (List.map (eI .i64) x2.Alphabet)), .d (.int .i64 x2.States), .d (.lst 1 (List.map (eI .i64) x2.Marked)), .d (.lst 3 (List.map e_api_Edge x2.Edges))]]) trivial rfl (H_automaton_Canonical _ _ h3) pc9 (Rn.mov (v := .tup [.agg [.d (.lst 1 (List.map (eI .i64) r4.Alphabet)), .d (.int .i64 r4.States), .d (.lst 1 (List.map (eI .i64) r4.Marked)), .d (.lst 3 (List.map e_api_Edge r4.Edges))], .d (.int .i64 r5)]) trivial rfl (Rn.ext (v := .agg [.d (.lst 1 (List.map (eI .i64) r4.Alphabet)), .d (.int .i64 r4.States), .d (.lst 1 (List.map (eI .i64) r4.Marked)), .d (.lst 3 (List.map e_api_Edge r4.Edges))]) (vs := [.agg [.d (.lst 1 (List.map (eI .i64) r4.Alphabet)), .d (.int .i64 r4.States), .d (.lst 1 (List.map (eI .i64) r4.Marked)), .d (.lst 3 (List.map e_api_Edge r4.Edges))], .d (.int .i64 r5)]) trivial rfl rfl rfl (Rn.ext (v := .d (.int .i64 r5)) (vs := [.agg [.d (.lst 1 (List.map (eI .i64) r4.Alphabet)), .d (.int .i64 r4.States), .d (.lst 1 (List.map (eI .i64) r4.Marked)), .d (.lst 3 (List.map e_api_Edge r4.Edges))], .d (.int .i64 r5)]) trivial rfl rfl rfl (Rn.alloc trivial rfl (Rn.store (v := .agg [.d (.lst 1 (List.map (eI .i64) r4.Alphabet)), .d (.int .i64 r4.States), .d (.lst 1 (List.map (eI .i64) r4.Marked)), .d (.lst 3 (List.map e_api_Edge r4.Edges))]) (cs' := [.d (.lst 1 (List.map (eI .i64) r4.Alphabet)), .d (.int .i64 r4.States), .d (.lst 1 (List.map (eI .i64) r4.Marked)), .d (.lst 3 (List.map e_api_Edge r4.Edges))]) trivial rfl rfl rfl rfl rfl rfl (md rfl (nt ((sr ((Rn.load (v := .agg [.d (.lst 1 (List.map (eI .i64) r4.Alphabet)), .d (.int .i64 r4.States), .d (.lst 1 (List.map (eI .i64) r4.Marked)), .d (.lst 3 (List.map e_api_Edge r4.Edges))]) trivial rfl (boxOwn rfl) rfl rfl (Rn.bslice (xs := [.d (.int .i64 0), .d (.int .i64 0)]) (cs := [.d (.int .i64 0), .d (.int .i64 0)]) trivial rfl rfl rfl rfl ?_))))))))))))
 refine Rn.weak (by show WeakSt Γ _ ⟨look [(0, .d (.bool false)), (1, .ptr (Γ.n0 + 1) 0), (2, .d (.int .i64 r5)), (10, .tup [.agg [.d (.lst 1 (List.map (eI .i64) r4.Alphabet)), .d (.int .i64 r4.States), .d (.lst 1 (List.map (eI .i64) r4.Marked)), .d (.lst 3 (List.map e_api_Edge r4.Edges))], .d (.int .i64 r5)]), (11, .agg [.d (.lst 1 (List.map (eI .i64) x2.Alphabet)), .d (.int .i64 x2.States), .d (.lst 1 (List.map (eI .i64) x2.Marked)), .d (.lst 3 (List.map e_api_Edge x2.Edges))]), (12, .tup [.agg [.d (.lst 1 (List.map (eI .i64) r4.Alphabet)), .d (.int .i64 r4.States), .d (.lst 1 (List.map (eI .i64) r4.Marked)), .d (.lst 3 (List.map e_api_Edge r4.Edges))], .d (.int .i64 r5)]), (13, .agg [.d (.lst 1 (List.map (eI .i64) r4.Alphabet)), .d (.int .i64 r4.States), .d (.lst 1 (List.map (eI .i64) r4.Marked)), .d (.lst 3 (List.map e_api_Edge r4.Edges))]), (14, .d (.int .i64 r5)), (16, .agg [.d (.lst 1 (List.map (eI .i64) r4.Alphabet)), .d (.int .i64 r4.States), .d (.lst 1 (List.map (eI .i64) r4.Marked)), .d (.lst 3 (List.map e_api_Edge r4.Edges))]), (17, .d (.lst 1 (List.map (eI .i64) [0, 0])))], memOf Γ.n0 (bxs [(1, [.d (.lst 1 (List.map (eI .i64) r4.Alphabet)), .d (.int .i64 r4.States), .d (.lst 1 (List.map (eI .i64) r4.Marked)), .d (.lst 3 (List.map e_api_Edge r4.Edges))])]) M, Γ.n0 + 99⟩; exact weak_freeze 17 [.int .i64 0, .int .i64 0] rfl rfl ⟨(.same rfl), ⟨(fPtr rfl), ⟨(.same rfl), ⟨(.same rfl), ⟨(.same rfl), ⟨(.same rfl), ⟨(.same rfl), ⟨(.same rfl), ⟨(.same rfl), ⟨(fSl rfl rfl), trivial⟩⟩⟩⟩⟩⟩⟩⟩⟩⟩ ⟨⟨_, rfl, rfl, (.same rfl)⟩, trivial⟩ rfl) ?_
 obtain ⟨⟨r7, r8, r9⟩, h6, h⟩ := bnd h
 refine Rn.call (args := [.agg [.d (.lst 1 (List.map (eI .i64) r4.Alphabet)), .d (.int .i64 r4.States), .d (.lst 1 (List.map (eI .i64) r4.Marked)), .d (.lst 3 (List.map e_api_Edge r4.Edges))], .d (.int .i64 0), .d (.lst 1 (List.map (eI .i64) [0, 0]))]) trivial rfl (H_automaton_Run _ _ _ _ h6) pc9 (Rn.mov (v := .tup [.d (.int .i64 r7), .d (.int .i64 r8), .d (.int .i64 r9)]) trivial rfl (Rn.ext (v := .d (.int .i64 r7)) (vs := [.d (.int .i64 r7), .d (.int .i64 r8), .d (.int .i64 r9)]) trivial rfl rfl rfl (Rn.ext (v := .d (.int .i64 r8)) (vs := [.d (.int .i64 r7), .d (.int .i64 r8), .d (.int .i64 r9)]) trivial rfl rfl rfl (Rn.ext (v := .d (.int .i64 r9)) (vs := [.d (.int .i64 r7), .d (.int .i64 r8), .d (.int .i64 r9)]) trivial rfl rfl rfl (md rfl (md rfl (md rfl (nt ((sr ((Rn.load (v := .agg [.d (.lst 1 (List.map (eI .i64) r4.Alphabet)), .d (.int .i64 r4.States), .d (.lst 1 (List.map (eI .i64) r4.Marked)), .d (.lst 3 (List.map e_api_Edge r4.Edges))]) trivial rfl (boxOwn rfl) rfl rfl ?_))))))))))))
 obtain ⟨⟨r11, r12⟩, h10, h⟩ := bnd h
 refine Rn.call (args := [.agg [.d (.lst 1 (List.map (eI .i64) r4.Alphabet)), .d (.int .i64 r4.States), .d (.lst 1 (List.map (eI .i64) r4.Marked)), .d (.lst 3 (List.map e_api_Edge r4.Edges))], .d (.int .i64 2), .d (.bool true)]) trivial rfl (H_automaton_Words _ _ _ _ h10) pc9 (Rn.mov (v := .tup [.d (.lst 1 (List.map (eL 1 (eI .i64)) r11)), .d (.int .i64 r12)]) trivial rfl (Rn.extTD (vs := [.d (.lst 1 (List.map (eL 1 (eI .i64)) r11)), .d (.int .i64 r12)]) trivial rfl rfl rfl (Rn.ext (v := .d (.int .i64 r12)) (vs := [.d (.lst 1 (List.map (eL 1 (eI .i64)) r11)), .d (.int .i64 r12)]) trivial rfl rfl rfl (Rn.movTD trivial rfl (md rfl (nt ((sr ((Rn.load (v := .agg [.d (.lst 1 (List.map (eI .i64) r4.Alphabet)), .d (.int .i64 r4.States), .d (.lst 1 (List.map (eI .i64) r4.Marked)), .d (.lst 3 (List.map e_api_Edge r4.Edges))]) trivial rfl (boxOwn rfl) rfl rfl (Rn.bslice (xs := [.d (.int .i64 3), .d (.int .i64 1)]) (cs := [.d (.int .i64 3), .d (.int .i64 1)]) trivial rfl rfl rfl rfl ?_)))))))))))
 refine Rn.weak (by show WeakSt Γ _ ⟨look [(0, .d (.bool false)), (1, .ptr (Γ.n0 + 1) 0), (2, .d (.int .i64 r5)), (3, .d (.int .i64 r7)), (4, .d (.int .i64 r8)), (5, .d (.int .i64 r9)), (6, .d (.lst 1 (List.map (eL 1 (eI .i64)) r11))), (7, .d (.int .i64 r12)), (10, .tup [.agg [.d (.lst 1 (List.map (eI .i64) r4.Alphabet)), .d (.int .i64 r4.States), .d (.lst 1 (List.map (eI .i64) r4.Marked)), .d (.lst 3 (List.map e_api_Edge r4.Edges))], .d (.int .i64 r5)]), (11, .agg [.d (.lst 1 (List.map (eI .i64) x2.Alphabet)), .d (.int .i64 x2.States), .d (.lst 1 (List.map (eI .i64) x2.Marked)), .d (.lst 3 (List.map e_api_Edge x2.Edges))]), (12, .tup [.agg [.d (.lst 1 (List.map (eI .i64) r4.Alphabet)), .d (.int .i64 r4.States), .d (.lst 1 (List.map (eI .i64) r4.Marked)), .d (.lst 3 (List.map e_api_Edge r4.Edges))], .d (.int .i64 r5)]), (13, .agg [.d (.lst 1 (List.map (eI .i64) r4.Alphabet)), .d (.int .i64 r4.States), .d (.lst 1 (List.map (eI .i64) r4.Marked)), .d (.lst 3 (List.map e_api_Edge r4.Edges))]), (14, .d (.int .i64 r5)), (15, .tup [.d (.int .i64 r7), .d (.int .i64 r8), .d (.int .i64 r9)]), (16, .agg [.d (.lst 1 (List.map (eI .i64) r4.Alphabet)), .d (.int .i64 r4.States), .d (.lst 1 (List.map (eI .i64) r4.Marked)), .d (.lst 3 (List.map e_api_Edge r4.Edges))]), (17, .d (.lst 1 (List.map (eI .i64) [0, 0]))), (18, .tup [.d (.int .i64 r7), .d (.int .i64 r8), .d (.int .i64 r9)]), (19, .d (.int .i64 r7)), (20, .d (.int .i64 r8)), (21, .d (.int .i64 r9)), (22, .tup [.d (.lst 1 (List.map (eL 1 (eI .i64)) r11)), .d (.int .i64 r12)]), (23, .agg [.d (.lst 1 (List.map (eI .i64) r4.Alphabet)), .d (.int .i64 r4.States), .d (.lst 1 (List.map (eI .i64) r4.Marked)), .d (.lst 3 (List.map e_api_Edge r4.Edges))]), (24, .tup [.own 1 (List.map (eL 1 (eI .i64)) r11), .d (.int .i64 r12)]), (25, .d (.lst 1 (List.map (eL 1 (eI .i64)) r11))), (26, .d (.int .i64 r12)), (28, .agg [.d (.lst 1 (List.map (eI .i64) r4.Alphabet)), .d (.int .i64 r4.States), .d (.lst 1 (List.map (eI .i64) r4.Marked)), .d (.lst 3 (List.map e_api_Edge r4.Edges))]), (29, .d (.lst 1 (List.map (eI .i64) [3, 1])))], memOf Γ.n0 (bxs [(1, [.d (.lst 1 (List.map (eI .i64) r4.Alphabet)), .d (.int .i64 r4.States), .d (.lst 1 (List.map (eI .i64) r4.Marked)), .d (.lst 3 (List.map e_api_Edge r4.Edges))])]) M, Γ.n0 + 99⟩; exact weak_freeze 29 [.int .i64 3, .int .i64 1] rfl rfl ⟨(.same rfl), ⟨(fPtr rfl), ⟨(.same rfl), ⟨(.same rfl), ⟨(.same rfl), ⟨(.same rfl), ⟨(.same rfl), ⟨(.same rfl), ⟨(.same rfl), ⟨(.same rfl), ⟨(.same rfl), ⟨(.same rfl), ⟨(.same rfl), ⟨(.same rfl), ⟨(.same rfl), ⟨(.same rfl), ⟨(.same rfl), ⟨(.same rfl), ⟨(.same rfl), ⟨(.same rfl), ⟨(.same rfl), ⟨(.same rfl), ⟨(.same rfl), ⟨(.same rfl), ⟨(.same rfl), ⟨(.same rfl), ⟨(fSl rfl rfl), trivial⟩⟩⟩⟩⟩⟩⟩⟩⟩⟩⟩⟩⟩⟩⟩⟩⟩⟩⟩⟩⟩⟩⟩⟩⟩⟩⟩ ⟨⟨_, rfl, rfl, (.same rfl)⟩, trivial⟩ rfl) ?_
 obtain ⟨⟨r14, r15⟩, h13, h⟩ := bnd h
 refine Rn.call (args := [.agg [.d (.lst 1 (List.map (eI .i64) r4.Alphabet)), .d (.int .i64 r4.States), .d (.lst 1 (List.map (eI .i64) r4.Marked)), .d (.lst 3 (List.map e_api_Edge r4.Edges))], .d (.lst 1 (List.map (eI .i64) [3, 1]))]) trivial rfl (H_automaton_Relabel _ _ _ h13) pc9 (Rn.mov (v := .tup [.agg [.d (.lst 1 (List.map (eI .i64) r14.Alphabet)), .d (.int .i64 r14.States), .d (.lst 1 (List.map (eI .i64) r14.Marked)), .d (.lst 3 (List.map e_api_Edge r14.Edges))], .d (.int .i64 r15)]) trivial rfl (Rn.ext (v := .agg [.d (.lst 1 (List.map (eI .i64) r14.Alphabet)), .d (.int .i64 r14.States), .d (.lst 1 (List.map (eI .i64) r14.Marked)), .d (.lst 3 (List.map e_api_Edge r14.Edges))]) (vs := [.agg [.d (.lst 1 (List.map (eI .i64) r14.Alphabet)), .d (.int .i64 r14.States), .d (.lst 1 (List.map (eI .i64) r14.Marked)), .d (.lst 3 (List.map e_api_Edge r14.Edges))], .d (.int .i64 r15)]) trivial rfl rfl rfl (Rn.ext (v := .d (.int .i64 r15)) (vs := [.agg [.d (.lst 1 (List.map (eI .i64) r14.Alphabet)), .d (.int .i64 r14.States), .d (.lst 1 (List.map (eI .i64) r14.Marked)), .d (.lst 3 (List.map e_api_Edge r14.Edges))], .d (.int .i64 r15)]) trivial rfl rfl rfl (Rn.alloc trivial rfl (Rn.store (v := .agg [.d (.lst 1 (List.map (eI .i64) r14.Alphabet)), .d (.int .i64 r14.States), .d (.lst 1 (List.map (eI .i64) r14.Marked)), .d (.lst 3 (List.map e_api_Edge r14.Edges))]) (cs' := [.d (.lst 1 (List.map (eI .i64) r14.Alphabet)), .d (.int .i64 r14.States), .d (.lst 1 (List.map (eI .i64) r14.Marked)), .d (.lst 3 (List.map e_api_Edge r14.Edges))]) trivial rfl rfl rfl rfl rfl rfl (md rfl (Rn.nil (toN ?_))))))))
 refine Tr.cutB (fun (x39 : Bool) => ⟨look [(0, .d (.bool x39))], memOf Γ.n0 (bxs [(1, [.d (.lst 1 (List.map (eI .i64) r4.Alphabet)), .d (.int .i64 r4.States), .d (.lst 1 (List.map (eI .i64) r4.Marked)), .d (.lst 3 (List.map e_api_Edge r4.Edges))]), (8, [.d (.lst 1 (List.map (eI .i64) r14.Alphabet)), .d (.int .i64 r14.States), .d (.lst 1 (List.map (eI .i64) r14.Marked)), .d (.lst 3 (List.map e_api_Edge r14.Edges))])]) M, Γ.n0 + 99⟩) h (fun z h => ?_) (fun z h => ?_)
 ·refine Tr.rgn (md rfl (Rn.bin trivial rfl rfl rfl (md rfl ?_)))
  refine bsplit (r5 == 0) (fun hb16 => ?_) (fun hb16 => ?_)
  ·replace h := bT hb16 h
   refine Rn.load (v := .agg [.d (.lst 1 (List.map (eI .i64) r4.Alphabet)), .d (.int .i64 r4.States), .d (.lst 1 (List.map (eI .i64) r4.Marked)), .d (.lst 3 (List.map e_api_Edge r4.Edges))]) (gw rfl hb16) rfl (boxOwn rfl) rfl rfl (Rn.bslice (xs := [.d (.int .i64 0), .d (.int .i64 2)]) (cs := [.d (.int .i64 0), .d (.int .i64 2)]) (gw rfl hb16) rfl rfl rfl rfl (Rn.bslice (xs := [.d (.int .i64 1)]) (cs := [.d (.int .i64 1)]) (gw rfl hb16) rfl rfl rfl rfl (Rn.build (v := .agg [.d (.int .i64 0), .d (.int .i64 0), .d (.int .i64 1)]) (gw rfl hb16) rfl (Rn.build (v := .agg [.d (.int .i64 0), .d (.int .i64 2), .d (.int .i64 0)]) (gw rfl hb16) rfl (Rn.build (v := .agg [.d (.int .i64 1), .d (.int .i64 2), .d (.int .i64 0)]) (gw rfl hb16) rfl (Rn.bslice (xs := [.agg [.d (.int .i64 0), .d (.int .i64 0), .d (.int .i64 1)], .agg [.d (.int .i64 0), .d (.int .i64 2), .d (.int .i64 0)], .agg [.d (.int .i64 1), .d (.int .i64 2), .d (.int .i64 0)]]) (cs := [.d (.int .i64 0), .d (.int .i64 0), .d (.int .i64 1), .d (.int .i64 0), .d (.int .i64 2), .d (.int .i64 0), .d (.int .i64 1), .d (.int .i64 2), .d (.int .i64 0)]) (gw rfl hb16) rfl rfl rfl rfl (Rn.build (v := .agg [.sl 1 (Γ.n0 + 37) 0 2 2, .d (.int .i64 2), .sl 1 (Γ.n0 + 38) 0 1 1, .sl 3 (Γ.n0 + 42) 0 3 3]) (gw rfl hb16) rfl ?_)))))))
   refine Rn.weak (by show WeakSt Γ _ ⟨look [(0, .d (.bool false)), (1, .ptr (Γ.n0 + 1) 0), (2, .d (.int .i64 r5)), (3, .d (.int .i64 r7)), (4, .d (.int .i64 r8)), (5, .d (.int .i64 r9)), (6, .d (.lst 1 (List.map (eL 1 (eI .i64)) r11))), (7, .d (.int .i64 r12)), (8, .ptr (Γ.n0 + 8) 0), (9, .d (.int .i64 r15)), (10, .tup [.agg [.d (.lst 1 (List.map (eI .i64) r4.Alphabet)), .d (.int .i64 r4.States), .d (.lst 1 (List.map (eI .i64) r4.Marked)), .d (.lst 3 (List.map e_api_Edge r4.Edges))], .d (.int .i64 r5)]), (11, .agg [.d (.lst 1 (List.map (eI .i64) x2.Alphabet)), .d (.int .i64 x2.States), .d (.lst 1 (List.map (eI .i64) x2.Marked)), .d (.lst 3 (List.map e_api_Edge x2.Edges))]), (12, .tup [.agg [.d (.lst 1 (List.map (eI .i64) r4.Alphabet)), .d (.int .i64 r4.States), .d (.lst 1 (List.map (eI .i64) r4.Marked)), .d (.lst 3 (List.map e_api_Edge r4.Edges))], .d (.int .i64 r5)]), (13, .agg [.d (.lst 1 (List.map (eI .i64) r4.Alphabet)), .d (.int .i64 r4.States), .d (.lst 1 (List.map (eI .i64) r4.Marked)), .d (.lst 3 (List.map e_api_Edge r4.Edges))]), (14, .d (.int .i64 r5)), (15, .tup [.d (.int .i64 r7), .d (.int .i64 r8), .d (.int .i64 r9)]), (16, .agg [.d (.lst 1 (List.map (eI .i64) r4.Alphabet)), .d (.int .i64 r4.States), .d (.lst 1 (List.map (eI .i64) r4.Marked)), .d (.lst 3 (List.map e_api_Edge r4.Edges))]), (17, .d (.lst 1 (List.map (eI .i64) [0, 0]))), (18, .tup [.d (.int .i64 r7), .d (.int .i64 r8), .d (.int .i64 r9)]), (19, .d (.int .i64 r7)), (20, .d (.int .i64 r8)), (21, .d (.int .i64 r9)), (22, .tup [.d (.lst 1 (List.map (eL 1 (eI .i64)) r11)), .d (.int .i64 r12)]), (23, .agg [.d (.lst 1 (List.map (eI .i64) r4.Alphabet)), .d (.int .i64 r4.States), .d (.lst 1 (List.map (eI .i64) r4.Marked)), .d (.lst 3 (List.map e_api_Edge r4.Edges))]), (24, .tup [.own 1 (List.map (eL 1 (eI .i64)) r11), .d (.int .i64 r12)]), (25, .d (.lst 1 (List.map (eL 1 (eI .i64)) r11))), (26, .d (.int .i64 r12)), (27, .tup [.agg [.d (.lst 1 (List.map (eI .i64) r14.Alphabet)), .d (.int .i64 r14.States), .d (.lst 1 (List.map (eI .i64) r14.Marked)), .d (.lst 3 (List.map e_api_Edge r14.Edges))], .d (.int .i64 r15)]), (28, .agg [.d (.lst 1 (List.map (eI .i64) r4.Alphabet)), .d (.int .i64 r4.States), .d (.lst 1 (List.map (eI .i64) r4.Marked)), .d (.lst 3 (List.map e_api_Edge r4.Edges))]), (29, .d (.lst 1 (List.map (eI .i64) [3, 1]))), (30, .tup [.agg [.d (.lst 1 (List.map (eI .i64) r14.Alphabet)), .d (.int .i64 r14.States), .d (.lst 1 (List.map (eI .i64) r14.Marked)), .d (.lst 3 (List.map e_api_Edge r14.Edges))], .d (.int .i64 r15)]), (31, .agg [.d (.lst 1 (List.map (eI .i64) r14.Alphabet)), .d (.int .i64 r14.States), .d (.lst 1 (List.map (eI .i64) r14.Marked)), .d (.lst 3 (List.map e_api_Edge r14.Edges))]), (32, .d (.int .i64 r15)), (33, .d (.int .i64 r5)), (34, .d (.bool (r5 == 0))), (35, .d (.bool (r5 == 0))), (36, .agg [.d (.lst 1 (List.map (eI .i64) r4.Alphabet)), .d (.int .i64 r4.States), .d (.lst 1 (List.map (eI .i64) r4.Marked)), .d (.lst 3 (List.map e_api_Edge r4.Edges))]), (37, .d (.lst 1 (List.map (eI .i64) [0, 2]))), (38, .sl 1 (Γ.n0 + 38) 0 1 1), (39, .agg [.d (.int .i64 0), .d (.int .i64 0), .d (.int .i64 1)]), (40, .agg [.d (.int .i64 0), .d (.int .i64 2), .d (.int .i64 0)]), (41, .agg [.d (.int .i64 1), .d (.int .i64 2), .d (.int .i64 0)]), (42, .sl 3 (Γ.n0 + 42) 0 3 3), (43, .agg [.d (.lst 1 (List.map (eI .i64) [0, 2])), .d (.int .i64 2), .sl 1 (Γ.n0 + 38) 0 1 1, .sl 3 (Γ.n0 + 42) 0 3 3])], memOf Γ.n0 (bxs [(1, [.d (.lst 1 (List.map (eI .i64) r4.Alphabet)), .d (.int .i64 r4.States), .d (.lst 1 (List.map (eI .i64) r4.Marked)), .d (.lst 3 (List.map e_api_Edge r4.Edges))]), (8, [.d (.lst 1 (List.map (eI .i64) r14.Alphabet)), .d (.int .i64 r14.States), .d (.lst 1 (List.map (eI .i64) r14.Marked)), .d (.lst 3 (List.map e_api_Edge r14.Edges))]), (38, [.d (.int .i64 1)]), (42, [.d (.int .i64 0), .d (.int .i64 0), .d (.int .i64 1), .d (.int .i64 0), .d (.int .i64 2), .d (.int .i64 0), .d (.int .i64 1), .d (.int .i64 2), .d (.int .i64 0)])]) M, Γ.n0 + 99⟩; exact weak_freeze 37 [.int .i64 0, .int .i64 2] rfl rfl ⟨(.same rfl), ⟨(fPtr rfl), ⟨(.same rfl), ⟨(.same rfl), ⟨(.same rfl), ⟨(.same rfl), ⟨(.same rfl), ⟨(.same rfl), ⟨(fPtr rfl), ⟨(.same rfl), ⟨(.same rfl), ⟨(.same rfl), ⟨(.same rfl), ⟨(.same rfl), ⟨(.same rfl), ⟨(.same rfl), ⟨(.same rfl), ⟨(.same rfl), ⟨(.same rfl), ⟨(.same rfl), ⟨(.same rfl), ⟨(.same rfl), ⟨(.same rfl), ⟨(.same rfl), ⟨(.same rfl), ⟨(.same rfl), ⟨(.same rfl), ⟨(.same rfl), ⟨(.same rfl), ⟨(.same rfl), ⟨(.same rfl), ⟨(.same rfl), ⟨(.same rfl), ⟨(.same rfl), ⟨(.same rfl), ⟨(.same rfl), ⟨(.same rfl), ⟨(fSl rfl rfl), ⟨(fSlO rfl), ⟨(.same rfl), ⟨(.same rfl), ⟨(.same rfl), ⟨(fSlO rfl), ⟨(WkV.agg (.cons (fSl rfl rfl) (.cons (.same rfl) (.cons (fSlO rfl) (.cons (fSlO rfl) .nil))))), trivial⟩⟩⟩⟩⟩⟩⟩⟩⟩⟩⟩⟩⟩⟩⟩⟩⟩⟩⟩⟩⟩⟩⟩⟩⟩⟩⟩⟩⟩⟩⟩⟩⟩⟩⟩⟩⟩⟩⟩⟩⟩⟩⟩⟩ ⟨⟨_, rfl, rfl, (.same rfl)⟩, ⟨⟨_, rfl, rfl, (.same rfl)⟩, ⟨⟨_, rfl, rfl, (.same rfl)⟩, ⟨⟨_, rfl, rfl, (.same rfl)⟩, trivial⟩⟩⟩⟩ rfl) ?_
   refine Rn.weak (by show WeakSt Γ _ ⟨look [(0, .d (.bool false)), (1, .ptr (Γ.n0 + 1) 0), (2, .d (.int .i64 r5)), (3, .d (.int .i64 r7)), (4, .d (.int .i64 r8)), (5, .d (.int .i64 r9)), (6, .d (.lst 1 (List.map (eL 1 (eI .i64)) r11))), (7, .d (.int .i64 r12)), (8, .ptr (Γ.n0 + 8) 0), (9, .d (.int .i64 r15)), (10, .tup [.agg [.d (.lst 1 (List.map (eI .i64) r4.Alphabet)), .d (.int .i64 r4.States), .d (.lst 1 (List.map (eI .i64) r4.Marked)), .d (.lst 3 (List.map e_api_Edge r4.Edges))], .d (.int .i64 r5)]), (11, .agg [.d (.lst 1 (List.map (eI .i64) x2.Alphabet)), .d (.int .i64 x2.States), .d (.lst 1 (List.map (eI .i64) x2.Marked)), .d (.lst 3 (List.map e_api_Edge x2.Edges))]), (12, .tup [.agg [.d (.lst 1 (List.map (eI .i64) r4.Alphabet)), .d (.int .i64 r4.States), .d (.lst 1 (List.map (eI .i64) r4.Marked)), .d (.lst 3 (List.map e_api_Edge r4.Edges))], .d (.int .i64 r5)]), (13, .agg [.d (.lst 1 (List.map (eI .i64) r4.Alphabet)), .d (.int .i64 r4.States), .d (.lst 1 (List.map (eI .i64) r4.Marked)), .d (.lst 3 (List.map e_api_Edge r4.Edges))]), (14, .d (.int .i64 r5)), (15, .tup [.d (.int .i64 r7), .d (.int .i64 r8), .d (.int .i64 r9)]), (16, .agg [.d (.lst 1 (List.map (eI .i64) r4.Alphabet)), .d (.int .i64 r4.States), .d (.lst 1 (List.map (eI .i64) r4.Marked)), .d (.lst 3 (List.map e_api_Edge r4.Edges))]), (17, .d (.lst 1 (List.map (eI .i64) [0, 0]))), (18, .tup [.d (.int .i64 r7), .d (.int .i64 r8), .d (.int .i64 r9)]), (19, .d (.int .i64 r7)), (20, .d (.int .i64 r8)), (21, .d (.int .i64 r9)), (22, .tup [.d (.lst 1 (List.map (eL 1 (eI .i64)) r11)), .d (.int .i64 r12)]), (23, .agg [.d (.lst 1 (List.map (eI .i64) r4.Alphabet)), .d (.int .i64 r4.States), .d (.lst 1 (List.map (eI .i64) r4.Marked)), .d (.lst 3 (List.map e_api_Edge r4.Edges))]), (24, .tup [.own 1 (List.map (eL 1 (eI .i64)) r11), .d (.int .i64 r12)]), (25, .d (.lst 1 (List.map (eL 1 (eI .i64)) r11))), (26, .d (.int .i64 r12)), (27, .tup [.agg [.d (.lst 1 (List.map (eI .i64) r14.Alphabet)), .d (.int .i64 r14.States), .d (.lst 1 (List.map (eI .i64) r14.Marked)), .d (.lst 3 (List.map e_api_Edge r14.Edges))], .d (.int .i64 r15)]), (28, .agg [.d (.lst 1 (List.map (eI .i64) r4.Alphabet)), .d (.int .i64 r4.States), .d (.lst 1 (List.map (eI .i64) r4.Marked)), .d (.lst 3 (List.map e_api_Edge r4.Edges))]), (29, .d (.lst 1 (List.map (eI .i64) [3, 1]))), (30, .tup [.agg [.d (.lst 1 (List.map (eI .i64) r14.Alphabet)), .d (.int .i64 r14.States), .d (.lst 1 (List.map (eI .i64) r14.Marked)), .d (.lst 3 (List.map e_api_Edge r14.Edges))], .d (.int .i64 r15)]), (31, .agg [.d (.lst 1 (List.map (eI .i64) r14.Alphabet)), .d (.int .i64 r14.States), .d (.lst 1 (List.map (eI .i64) r14.Marked)), .d (.lst 3 (List.map e_api_Edge r14.Edges))]), (32, .d (.int .i64 r15)), (33, .d (.int .i64 r5)), (34, .d (.bool (r5 == 0))), (35, .d (.bool (r5 == 0))), (36, .agg [.d (.lst 1 (List.map (eI .i64) r4.Alphabet)), .d (.int .i64 r4.States), .d (.lst 1 (List.map (eI .i64) r4.Marked)), .d (.lst 3 (List.map e_api_Edge r4.Edges))]), (37, .d (.lst 1 (List.map (eI .i64) [0, 2]))), (38, .d (.lst 1 (List.map (eI .i64) [1]))), (39, .agg [.d (.int .i64 0), .d (.int .i64 0), .d (.int .i64 1)]), (40, .agg [.d (.int .i64 0), .d (.int .i64 2), .d (.int .i64 0)]), (41, .agg [.d (.int .i64 1), .d (.int .i64 2), .d (.int .i64 0)]), (42, .sl 3 (Γ.n0 + 42) 0 3 3), (43, .agg [.d (.lst 1 (List.map (eI .i64) [0, 2])), .d (.int .i64 2), .d (.lst 1 (List.map (eI .i64) [1])), .sl 3 (Γ.n0 + 42) 0 3 3])], memOf Γ.n0 (bxs [(1, [.d (.lst 1 (List.map (eI .i64) r4.Alphabet)), .d (.int .i64 r4.States), .d (.lst 1 (List.map (eI .i64) r4.Marked)), .d (.lst 3 (List.map e_api_Edge r4.Edges))]), (8, [.d (.lst 1 (List.map (eI .i64) r14.Alphabet)), .d (.int .i64 r14.States), .d (.lst 1 (List.map (eI .i64) r14.Marked)), .d (.lst 3 (List.map e_api_Edge r14.Edges))]), (42, [.d (.int .i64 0), .d (.int .i64 0), .d (.int .i64 1), .d (.int .i64 0), .d (.int .i64 2), .d (.int .i64 0), .d (.int .i64 1), .d (.int .i64 2), .d (.int .i64 0)])]) M, Γ.n0 + 99⟩; exact weak_freeze 38 [.int .i64 1] rfl rfl ⟨(.same rfl), ⟨(fPtr rfl), ⟨(.same rfl), ⟨(.same rfl), ⟨(.same rfl), ⟨(.same rfl), ⟨(.same rfl), ⟨(.same rfl), ⟨(fPtr rfl), ⟨(.same rfl), ⟨(.same rfl), ⟨(.same rfl), ⟨(.same rfl), ⟨(.same rfl), ⟨(.same rfl), ⟨(.same rfl), ⟨(.same rfl), ⟨(.same rfl), ⟨(.same rfl), ⟨(.same rfl), ⟨(.same rfl), ⟨(.same rfl), ⟨(.same rfl), ⟨(.same rfl), ⟨(.same rfl), ⟨(.same rfl), ⟨(.same rfl), ⟨(.same rfl), ⟨(.same rfl), ⟨(.same rfl), ⟨(.same rfl), ⟨(.same rfl), ⟨(.same rfl), ⟨(.same rfl), ⟨(.same rfl), ⟨(.same rfl), ⟨(.same rfl), ⟨(.same rfl), ⟨(fSl rfl rfl), ⟨(.same rfl), ⟨(.same rfl), ⟨(.same rfl), ⟨(fSlO rfl), ⟨(WkV.agg (.cons (.same rfl) (.cons (.same rfl) (.cons (fSl rfl rfl) (.cons (fSlO rfl) .nil))))), trivial⟩⟩⟩⟩⟩⟩⟩⟩⟩⟩⟩⟩⟩⟩⟩⟩⟩⟩⟩⟩⟩⟩⟩⟩⟩⟩⟩⟩⟩⟩⟩⟩⟩⟩⟩⟩⟩⟩⟩⟩⟩⟩⟩⟩ ⟨⟨_, rfl, rfl, (.same rfl)⟩, ⟨⟨_, rfl, rfl, (.same rfl)⟩, ⟨⟨_, rfl, rfl, (.same rfl)⟩, trivial⟩⟩⟩ rfl) ?_
   refine Rn.weak (by show WeakSt Γ _ ⟨look [(0, .d (.bool false)), (1, .ptr (Γ.n0 + 1) 0), (2, .d (.int .i64 r5)), (3, .d (.int .i64 r7)), (4, .d (.int .i64 r8)), (5, .d (.int .i64 r9)), (6, .d (.lst 1 (List.map (eL 1 (eI .i64)) r11))), (7, .d (.int .i64 r12)), (8, .ptr (Γ.n0 + 8) 0), (9, .d (.int .i64 r15)), (10, .tup [.agg [.d (.lst 1 (List.map (eI .i64) r4.Alphabet)), .d (.int .i64 r4.States), .d (.lst 1 (List.map (eI .i64) r4.Marked)), .d (.lst 3 (List.map e_api_Edge r4.Edges))], .d (.int .i64 r5)]), (11, .agg [.d (.lst 1 (List.map (eI .i64) x2.Alphabet)), .d (.int .i64 x2.States), .d (.lst 1 (List.map (eI .i64) x2.Marked)), .d (.lst 3 (List.map e_api_Edge x2.Edges))]), (12, .tup [.agg [.d (.lst 1 (List.map (eI .i64) r4.Alphabet)), .d (.int .i64 r4.States), .d (.lst 1 (List.map (eI .i64) r4.Marked)), .d (.lst 3 (List.map e_api_Edge r4.Edges))], .d (.int .i64 r5)]), (13, .agg [.d (.lst 1 (List.map (eI .i64) r4.Alphabet)), .d (.int .i64 r4.States), .d (.lst 1 (List.map (eI .i64) r4.Marked)), .d (.lst 3 (List.map e_api_Edge r4.Edges))]), (14, .d (.int .i64 r5)), (15, .tup [.d (.int .i64 r7), .d (.int .i64 r8), .d (.int .i64 r9)]), (16, .agg [.d (.lst 1 (List.map (eI .i64) r4.Alphabet)), .d (.int .i64 r4.States), .d (.lst 1 (List.map (eI .i64) r4.Marked)), .d (.lst 3 (List.map e_api_Edge r4.Edges))]), (17, .d (.lst 1 (List.map (eI .i64) [0, 0]))), (18, .tup [.d (.int .i64 r7), .d (.int .i64 r8), .d (.int .i64 r9)]), (19, .d (.int .i64 r7)), (20, .d (.int .i64 r8)), (21, .d (.int .i64 r9)), (22, .tup [.d (.lst 1 (List.map (eL 1 (eI .i64)) r11)), .d (.int .i64 r12)]), (23, .agg [.d (.lst 1 (List.map (eI .i64) r4.Alphabet)), .d (.int .i64 r4.States), .d (.lst 1 (List.map (eI .i64) r4.Marked)), .d (.lst 3 (List.map e_api_Edge r4.Edges))]), (24, .tup [.own 1 (List.map (eL 1 (eI .i64)) r11), .d (.int .i64 r12)]), (25, .d (.lst 1 (List.map (eL 1 (eI .i64)) r11))), (26, .d (.int .i64 r12)), (27, .tup [.agg [.d (.lst 1 (List.map (eI .i64) r14.Alphabet)), .d (.int .i64 r14.States), .d (.lst 1 (List.map (eI .i64) r14.Marked)), .d (.lst 3 (List.map e_api_Edge r14.Edges))], .d (.int .i64 r15)]), (28, .agg [.d (.lst 1 (List.map (eI .i64) r4.Alphabet)), .d (.int .i64 r4.States), .d (.lst 1 (List.map (eI .i64) r4.Marked)), .d (.lst 3 (List.map e_api_Edge r4.Edges))]), (29, .d (.lst 1 (List.map (eI .i64) [3, 1]))), (30, .tup [.agg [.d (.lst 1 (List.map (eI .i64) r14.Alphabet)), .d (.int .i64 r14.States), .d (.lst 1 (List.map (eI .i64) r14.Marked)), .d (.lst 3 (List.map e_api_Edge r14.Edges))], .d (.int .i64 r15)]), (31, .agg [.d (.lst 1 (List.map (eI .i64) r14.Alphabet)), .d (.int .i64 r14.States), .d (.lst 1 (List.map (eI .i64) r14.Marked)), .d (.lst 3 (List.map e_api_Edge r14.Edges))]), (32, .d (.int .i64 r15)), (33, .d (.int .i64 r5)), (34, .d (.bool (r5 == 0))), (35, .d (.bool (r5 == 0))), (36, .agg [.d (.lst 1 (List.map (eI .i64) r4.Alphabet)), .d (.int .i64 r4.States), .d (.lst 1 (List.map (eI .i64) r4.Marked)), .d (.lst 3 (List.map e_api_Edge r4.Edges))]), (37, .d (.lst 1 (List.map (eI .i64) [0, 2]))), (38, .d (.lst 1 (List.map (eI .i64) [1]))), (39, .agg [.d (.int .i64 0), .d (.int .i64 0), .d (.int .i64 1)]), (40, .agg [.d (.int .i64 0), .d (.int .i64 2), .d (.int .i64 0)]), (41, .agg [.d (.int .i64 1), .d (.int .i64 2), .d (.int .i64 0)]), (42, .d (.lst 3 (List.map e_api_Edge [(api_Edge.mk 0 0 1), (api_Edge.mk 0 2 0), (api_Edge.mk 1 2 0)]))), (43, .agg [.d (.lst 1 (List.map (eI .i64) [0, 2])), .d (.int .i64 2), .d (.lst 1 (List.map (eI .i64) [1])), .d (.lst 3 (List.map e_api_Edge [(api_Edge.mk 0 0 1), (api_Edge.mk 0 2 0), (api_Edge.mk 1 2 0)]))])], memOf Γ.n0 (bxs [(1, [.d (.lst 1 (List.map (eI .i64) r4.Alphabet)), .d (.int .i64 r4.States), .d (.lst 1 (List.map (eI .i64) r4.Marked)), .d (.lst 3 (List.map e_api_Edge r4.Edges))]), (8, [.d (.lst 1 (List.map (eI .i64) r14.Alphabet)), .d (.int .i64 r14.States), .d (.lst 1 (List.map (eI .i64) r14.Marked)), .d (.lst 3 (List.map e_api_Edge r14.Edges))])]) M, Γ.n0 + 99⟩; exact weak_freeze 42 [.int .i64 0, .int .i64 0, .int .i64 1, .int .i64 0, .int .i64 2, .int .i64 0, .int .i64 1, .int .i64 2, .int .i64 0] rfl rfl ⟨(.same rfl), ⟨(fPtr rfl), ⟨(.same rfl), ⟨(.same rfl), ⟨(.same rfl), ⟨(.same rfl), ⟨(.same rfl), ⟨(.same rfl), ⟨(fPtr rfl), ⟨(.same rfl), ⟨(.same rfl), ⟨(.same rfl), ⟨(.same rfl), ⟨(.same rfl), ⟨(.same rfl), ⟨(.same rfl), ⟨(.same rfl), ⟨(.same rfl), ⟨(.same rfl), ⟨(.same rfl), ⟨(.same rfl), ⟨(.same rfl), ⟨(.same rfl), ⟨(.same rfl), ⟨(.same rfl), ⟨(.same rfl), ⟨(.same rfl), ⟨(.same rfl), ⟨(.same rfl), ⟨(.same rfl), ⟨(.same rfl), ⟨(.same rfl), ⟨(.same rfl), ⟨(.same rfl), ⟨(.same rfl), ⟨(.same rfl), ⟨(.same rfl), ⟨(.same rfl), ⟨(.same rfl), ⟨(.same rfl), ⟨(.same rfl), ⟨(.same rfl), ⟨(fSl rfl rfl), ⟨(WkV.agg (.cons (.same rfl) (.cons (.same rfl) (.cons (.same rfl) (.cons (fSl rfl rfl) .nil))))), trivial⟩⟩⟩⟩⟩⟩⟩⟩⟩⟩⟩⟩⟩⟩⟩⟩⟩⟩⟩⟩⟩⟩⟩⟩⟩⟩⟩⟩⟩⟩⟩⟩⟩⟩⟩⟩⟩⟩⟩⟩⟩⟩⟩⟩ ⟨⟨_, rfl, rfl, (.same rfl)⟩, ⟨⟨_, rfl, rfl, (.same rfl)⟩, trivial⟩⟩ rfl) ?_
   obtain ⟨x18, h17, h⟩ := bnd h
   refine Rn.call (args := [.agg [.d (.lst 1 (List.map (eI .i64) r4.Alphabet)), .d (.int .i64 r4.States), .d (.lst 1 (List.map (eI .i64) r4.Marked)), .d (.lst 3 (List.map e_api_Edge r4.Edges))], .agg [.d (.lst 1 (List.map (eI .i64) [0, 2])), .d (.int .i64 2), .d (.lst 1 (List.map (eI .i64) [1])), .d (.lst 3 (List.map e_api_Edge [(api_Edge.mk 0 0 1), (api_Edge.mk 0 2 0), (api_Edge.mk 1 2 0)]))]]) (gw rfl hb16) rfl (H_overseerref03_Same _ _ _ h17) pc9 (Rn.pickT (v := .d (.bool x18)) trivial rfl hb16 rfl (md rfl ?_))
   refine bsplit x18 (fun hb19 => ?_) (fun hb19 => ?_)
   ·replace h := bT hb19 h
    refine Rn.movD (gw rfl hb19) rfl (Rn.bin (gw rfl hb19) rfl rfl rfl (Rn.pickT (v := .d (.bool (r9 == 0))) trivial rfl hb19 rfl (md rfl ?_)))
    refine bsplit (r9 == 0) (fun hb20 => ?_) (fun hb20 => ?_)
    ·replace h := bT hb20 h
     refine Rn.movD (gw rfl hb20) rfl (Rn.bin (gw rfl hb20) rfl rfl rfl (Rn.pickT (v := .d (.bool (r7 == 1))) trivial rfl hb20 rfl (md rfl ?_)))
     refine bsplit (r7 == 1) (fun hb21 => ?_) (fun hb21 => ?_)
     ·replace h := bT hb21 h
      refine Rn.movD (gw rfl hb21) rfl (Rn.bin (gw rfl hb21) rfl rfl rfl (Rn.pickT (v := .d (.bool (r8 == 1))) trivial rfl hb21 rfl (md rfl ?_)))
      refine bsplit (r8 == 1) (fun hb22 => ?_) (fun hb22 => ?_)
      ·replace h := bT hb22 h
       refine Rn.movD (gw rfl hb22) rfl (Rn.bin (gw rfl hb22) rfl rfl rfl (Rn.pickT (v := .d (.bool (r12 == 0))) trivial rfl hb22 rfl (md rfl ?_)))
       refine bsplit (r12 == 0) (fun hb23 => ?_) (fun hb23 => ?_)
       ·replace h := bT hb23 h
        refine Rn.movD (gw rfl hb23) rfl (Rn.lenD (gw rfl hb23) rfl (Rn.bin (gw rfl hb23) rfl rfl rfl (Rn.pickT (v := .d (.bool ((r11.length : Int) == 2))) trivial rfl hb23 rfl (md rfl ?_))))
        refine bsplit ((r11.length : Int) == 2) (fun hb24 => ?_) (fun hb24 => ?_)
        ·replace h := bT hb24 h
         refine Rn.movD (gw rfl hb24) rfl ?_
         obtain ⟨x25, h26, h⟩ := bnd h
         refine Rn.idxD (e := (eL 1 (eI .i64))) (gw rfl hb24) rfl rfl h26 (Rn.loadC (x := .lst 1 (List.map (eI .i64) x25)) (gw rfl hb24) rfl (Rn.bslice (xs := [.d (.int .i64 0)]) (cs := [.d (.int .i64 0)]) (gw rfl hb24) rfl rfl rfl rfl ?_))
         refine Rn.weak (by show WeakSt Γ _ ⟨look [(0, .d (.bool false)), (1, .ptr (Γ.n0 + 1) 0), (2, .d (.int .i64 r5)), (3, .d (.int .i64 r7)), (4, .d (.int .i64 r8)), (5, .d (.int .i64 r9)), (6, .d (.lst 1 (List.map (eL 1 (eI .i64)) r11))), (7, .d (.int .i64 r12)), (8, .ptr (Γ.n0 + 8) 0), (9, .d (.int .i64 r15)), (10, .tup [.agg [.d (.lst 1 (List.map (eI .i64) r4.Alphabet)), .d (.int .i64 r4.States), .d (.lst 1 (List.map (eI .i64) r4.Marked)), .d (.lst 3 (List.map e_api_Edge r4.Edges))], .d (.int .i64 r5)]), (11, .agg [.d (.lst 1 (List.map (eI .i64) x2.Alphabet)), .d (.int .i64 x2.States), .d (.lst 1 (List.map (eI .i64) x2.Marked)), .d (.lst 3 (List.map e_api_Edge x2.Edges))]), (12, .tup [.agg [.d (.lst 1 (List.map (eI .i64) r4.Alphabet)), .d (.int .i64 r4.States), .d (.lst 1 (List.map (eI .i64) r4.Marked)), .d (.lst 3 (List.map e_api_Edge r4.Edges))], .d (.int .i64 r5)]), (13, .agg [.d (.lst 1 (List.map (eI .i64) r4.Alphabet)), .d (.int .i64 r4.States), .d (.lst 1 (List.map (eI .i64) r4.Marked)), .d (.lst 3 (List.map e_api_Edge r4.Edges))]), (14, .d (.int .i64 r5)), (15, .tup [.d (.int .i64 r7), .d (.int .i64 r8), .d (.int .i64 r9)]), (16, .agg [.d (.lst 1 (List.map (eI .i64) r4.Alphabet)), .d (.int .i64 r4.States), .d (.lst 1 (List.map (eI .i64) r4.Marked)), .d (.lst 3 (List.map e_api_Edge r4.Edges))]), (17, .d (.lst 1 (List.map (eI .i64) [0, 0]))), (18, .tup [.d (.int .i64 r7), .d (.int .i64 r8), .d (.int .i64 r9)]), (19, .d (.int .i64 r7)), (20, .d (.int .i64 r8)), (21, .d (.int .i64 r9)), (22, .tup [.d (.lst 1 (List.map (eL 1 (eI .i64)) r11)), .d (.int .i64 r12)]), (23, .agg [.d (.lst 1 (List.map (eI .i64) r4.Alphabet)), .d (.int .i64 r4.States), .d (.lst 1 (List.map (eI .i64) r4.Marked)), .d (.lst 3 (List.map e_api_Edge r4.Edges))]), (24, .tup [.own 1 (List.map (eL 1 (eI .i64)) r11), .d (.int .i64 r12)]), (25, .d (.lst 1 (List.map (eL 1 (eI .i64)) r11))), (26, .d (.int .i64 r12)), (27, .tup [.agg [.d (.lst 1 (List.map (eI .i64) r14.Alphabet)), .d (.int .i64 r14.States), .d (.lst 1 (List.map (eI .i64) r14.Marked)), .d (.lst 3 (List.map e_api_Edge r14.Edges))], .d (.int .i64 r15)]), (28, .agg [.d (.lst 1 (List.map (eI .i64) r4.Alphabet)), .d (.int .i64 r4.States), .d (.lst 1 (List.map (eI .i64) r4.Marked)), .d (.lst 3 (List.map e_api_Edge r4.Edges))]), (29, .d (.lst 1 (List.map (eI .i64) [3, 1]))), (30, .tup [.agg [.d (.lst 1 (List.map (eI .i64) r14.Alphabet)), .d (.int .i64 r14.States), .d (.lst 1 (List.map (eI .i64) r14.Marked)), .d (.lst 3 (List.map e_api_Edge r14.Edges))], .d (.int .i64 r15)]), (31, .agg [.d (.lst 1 (List.map (eI .i64) r14.Alphabet)), .d (.int .i64 r14.States), .d (.lst 1 (List.map (eI .i64) r14.Marked)), .d (.lst 3 (List.map e_api_Edge r14.Edges))]), (32, .d (.int .i64 r15)), (33, .d (.int .i64 r5)), (34, .d (.bool (r5 == 0))), (35, .d (.bool (r5 == 0))), (36, .agg [.d (.lst 1 (List.map (eI .i64) r4.Alphabet)), .d (.int .i64 r4.States), .d (.lst 1 (List.map (eI .i64) r4.Marked)), .d (.lst 3 (List.map e_api_Edge r4.Edges))]), (37, .d (.lst 1 (List.map (eI .i64) [0, 2]))), (38, .d (.lst 1 (List.map (eI .i64) [1]))), (39, .agg [.d (.int .i64 0), .d (.int .i64 0), .d (.int .i64 1)]), (40, .agg [.d (.int .i64 0), .d (.int .i64 2), .d (.int .i64 0)]), (41, .agg [.d (.int .i64 1), .d (.int .i64 2), .d (.int .i64 0)]), (42, .d (.lst 3 (List.map e_api_Edge [(api_Edge.mk 0 0 1), (api_Edge.mk 0 2 0), (api_Edge.mk 1 2 0)]))), (43, .agg [.d (.lst 1 (List.map (eI .i64) [0, 2])), .d (.int .i64 2), .d (.lst 1 (List.map (eI .i64) [1])), .d (.lst 3 (List.map e_api_Edge [(api_Edge.mk 0 0 1), (api_Edge.mk 0 2 0), (api_Edge.mk 1 2 0)]))]), (44, .d (.bool x18)), (45, .d (.bool x18)), (46, .d (.bool x18)), (47, .d (.int .i64 r9)), (48, .d (.bool (r9 == 0))), (49, .d (.bool (r9 == 0))), (50, .d (.bool (r9 == 0))), (51, .d (.int .i64 r7)), (52, .d (.bool (r7 == 1))), (53, .d (.bool (r7 == 1))), (54, .d (.bool (r7 == 1))), (55, .d (.int .i64 r8)), (56, .d (.bool (r8 == 1))), (57, .d (.bool (r8 == 1))), (58, .d (.bool (r8 == 1))), (59, .d (.int .i64 r12)), (60, .d (.bool (r12 == 0))), (61, .d (.bool (r12 == 0))), (62, .d (.bool (r12 == 0))), (63, .d (.lst 1 (List.map (eL 1 (eI .i64)) r11))), (64, .d (.int .i64 (r11.length : Int))), (65, .d (.bool ((r11.length : Int) == 2))), (66, .d (.bool ((r11.length : Int) == 2))), (67, .d (.bool ((r11.length : Int) == 2))), (68, .d (.lst 1 (List.map (eL 1 (eI .i64)) r11))), (69, .cref ((eL 1 (eI .i64)) x25)), (70, .d (.lst 1 (List.map (eI .i64) x25))), (71, .d (.lst 1 (List.map (eI .i64) [0])))], memOf Γ.n0 (bxs [(1, [.d (.lst 1 (List.map (eI .i64) r4.Alphabet)), .d (.int .i64 r4.States), .d (.lst 1 (List.map (eI .i64) r4.Marked)), .d (.lst 3 (List.map e_api_Edge r4.Edges))]), (8, [.d (.lst 1 (List.map (eI .i64) r14.Alphabet)), .d (.int .i64 r14.States), .d (.lst 1 (List.map (eI .i64) r14.Marked)), .d (.lst 3 (List.map e_api_Edge r14.Edges))])]) M, Γ.n0 + 99⟩; exact weak_freeze 71 [.int .i64 0] rfl rfl ⟨(.same rfl), ⟨(fPtr rfl), ⟨(.same rfl), ⟨(.same rfl), ⟨(.same rfl), ⟨(.same rfl), ⟨(.same rfl), ⟨(.same rfl), ⟨(fPtr rfl), ⟨(.same rfl), ⟨(.same rfl), ⟨(.same rfl), ⟨(.same rfl), ⟨(.same rfl), ⟨(.same rfl), ⟨(.same rfl), ⟨(.same rfl), ⟨(.same rfl), ⟨(.same rfl), ⟨(.same rfl), ⟨(.same rfl), ⟨(.same rfl), ⟨(.same rfl), ⟨(.same rfl), ⟨(.same rfl), ⟨(.same rfl), ⟨(.same rfl), ⟨(.same rfl), ⟨(.same rfl), ⟨(.same rfl), ⟨(.same rfl), ⟨(.same rfl), ⟨(.same rfl), ⟨(.same rfl), ⟨(.same rfl), ⟨(.same rfl), ⟨(.same rfl), ⟨(.same rfl), ⟨(.same rfl), ⟨(.same rfl), ⟨(.same rfl), ⟨(.same rfl), ⟨(.same rfl), ⟨(.same rfl), ⟨(.same rfl), ⟨(.same rfl), ⟨(.same rfl), ⟨(.same rfl), ⟨(.same rfl), ⟨(.same rfl), ⟨(.same rfl), ⟨(.same rfl), ⟨(.same rfl), ⟨(.same rfl), ⟨(.same rfl), ⟨(.same rfl), ⟨(.same rfl), ⟨(.same rfl), ⟨(.same rfl), ⟨(.same rfl), ⟨(.same rfl), ⟨(.same rfl), ⟨(.same rfl), ⟨(.same rfl), ⟨(.same rfl), ⟨(.same rfl), ⟨(.same rfl), ⟨(.same rfl), ⟨(.same rfl), ⟨(.same rfl), ⟨(.same rfl), ⟨(fSl rfl rfl), trivial⟩⟩⟩⟩⟩⟩⟩⟩⟩⟩⟩⟩⟩⟩⟩⟩⟩⟩⟩⟩⟩⟩⟩⟩⟩⟩⟩⟩⟩⟩⟩⟩⟩⟩⟩⟩⟩⟩⟩⟩⟩⟩⟩⟩⟩⟩⟩⟩⟩⟩⟩⟩⟩⟩⟩⟩⟩⟩⟩⟩⟩⟩⟩⟩⟩⟩⟩⟩⟩⟩⟩⟩ ⟨⟨_, rfl, rfl, (.same rfl)⟩, ⟨⟨_, rfl, rfl, (.same rfl)⟩, trivial⟩⟩ rfl) ?_
         obtain ⟨x28, h27, h⟩ := bnd h
         refine Rn.call (args := [.d (.lst 1 (List.map (eI .i64) x25)), .d (.lst 1 (List.map (eI .i64) [0]))]) (gw rfl hb24) rfl (H_overseerref03_SameInts _ _ _ h27) pc9 (Rn.pickT (v := .d (.bool x28)) trivial rfl hb24 rfl (md rfl ?_))
         refine bsplit x28 (fun hb29 => ?_) (fun hb29 => ?_)
         ·replace h := bT hb29 h
          refine Rn.movD (gw rfl hb29) rfl ?_
          obtain ⟨x30, h31, h⟩ := bnd h
          refine Rn.idxD (e := (eL 1 (eI .i64))) (gw rfl hb29) rfl rfl h31 (Rn.loadC (x := .lst 1 (List.map (eI .i64) x30)) (gw rfl hb29) rfl (Rn.bslice (xs := [.d (.int .i64 2), .d (.int .i64 0)]) (cs := [.d (.int .i64 2), .d (.int .i64 0)]) (gw rfl hb29) rfl rfl rfl rfl ?_))
          refine Rn.weak (by show WeakSt Γ _ ⟨look [(0, .d (.bool false)), (1, .ptr (Γ.n0 + 1) 0), (2, .d (.int .i64 r5)), (3, .d (.int .i64 r7)), (4, .d (.int .i64 r8)), (5, .d (.int .i64 r9)), (6, .d (.lst 1 (List.map (eL 1 (eI .i64)) r11))), (7, .d (.int .i64 r12)), (8, .ptr (Γ.n0 + 8) 0), (9, .d (.int .i64 r15)), (10, .tup [.agg [.d (.lst 1 (List.map (eI .i64) r4.Alphabet)), .d (.int .i64 r4.States), .d (.lst 1 (List.map (eI .i64) r4.Marked)), .d (.lst 3 (List.map e_api_Edge r4.Edges))], .d (.int .i64 r5)]), (11, .agg [.d (.lst 1 (List.map (eI .i64) x2.Alphabet)), .d (.int .i64 x2.States), .d (.lst 1 (List.map (eI .i64) x2.Marked)), .d (.lst 3 (List.map e_api_Edge x2.Edges))]), (12, .tup [.agg [.d (.lst 1 (List.map (eI .i64) r4.Alphabet)), .d (.int .i64 r4.States), .d (.lst 1 (List.map (eI .i64) r4.Marked)), .d (.lst 3 (List.map e_api_Edge r4.Edges))], .d (.int .i64 r5)]), (13, .agg [.d (.lst 1 (List.map (eI .i64) r4.Alphabet)), .d (.int .i64 r4.States), .d (.lst 1 (List.map (eI .i64) r4.Marked)), .d (.lst 3 (List.map e_api_Edge r4.Edges))]), (14, .d (.int .i64 r5)), (15, .tup [.d (.int .i64 r7), .d (.int .i64 r8), .d (.int .i64 r9)]), (16, .agg [.d (.lst 1 (List.map (eI .i64) r4.Alphabet)), .d (.int .i64 r4.States), .d (.lst 1 (List.map (eI .i64) r4.Marked)), .d (.lst 3 (List.map e_api_Edge r4.Edges))]), (17, .d (.lst 1 (List.map (eI .i64) [0, 0]))), (18, .tup [.d (.int .i64 r7), .d (.int .i64 r8), .d (.int .i64 r9)]), (19, .d (.int .i64 r7)), (20, .d (.int .i64 r8)), (21, .d (.int .i64 r9)), (22, .tup [.d (.lst 1 (List.map (eL 1 (eI .i64)) r11)), .d (.int .i64 r12)]), (23, .agg [.d (.lst 1 (List.map (eI .i64) r4.Alphabet)), .d (.int .i64 r4.States), .d (.lst 1 (List.map (eI .i64) r4.Marked)), .d (.lst 3 (List.map e_api_Edge r4.Edges))]), (24, .tup [.own 1 (List.map (eL 1 (eI .i64)) r11), .d (.int .i64 r12)]), (25, .d (.lst 1 (List.map (eL 1 (eI .i64)) r11))), (26, .d (.int .i64 r12)), (27, .tup [.agg [.d (.lst 1 (List.map (eI .i64) r14.Alphabet)), .d (.int .i64 r14.States), .d (.lst 1 (List.map (eI .i64) r14.Marked)), .d (.lst 3 (List.map e_api_Edge r14.Edges))], .d (.int .i64 r15)]), (28, .agg [.d (.lst 1 (List.map (eI .i64) r4.Alphabet)), .d (.int .i64 r4.States), .d (.lst 1 (List.map (eI .i64) r4.Marked)), .d (.lst 3 (List.map e_api_Edge r4.Edges))]), (29, .d (.lst 1 (List.map (eI .i64) [3, 1]))), (30, .tup [.agg [.d (.lst 1 (List.map (eI .i64) r14.Alphabet)), .d (.int .i64 r14.States), .d (.lst 1 (List.map (eI .i64) r14.Marked)), .d (.lst 3 (List.map e_api_Edge r14.Edges))], .d (.int .i64 r15)]), (31, .agg [.d (.lst 1 (List.map (eI .i64) r14.Alphabet)), .d (.int .i64 r14.States), .d (.lst 1 (List.map (eI .i64) r14.Marked)), .d (.lst 3 (List.map e_api_Edge r14.Edges))]), (32, .d (.int .i64 r15)), (33, .d (.int .i64 r5)), (34, .d (.bool (r5 == 0))), (35, .d (.bool (r5 == 0))), (36, .agg [.d (.lst 1 (List.map (eI .i64) r4.Alphabet)), .d (.int .i64 r4.States), .d (.lst 1 (List.map (eI .i64) r4.Marked)), .d (.lst 3 (List.map e_api_Edge r4.Edges))]), (37, .d (.lst 1 (List.map (eI .i64) [0, 2]))), (38, .d (.lst 1 (List.map (eI .i64) [1]))), (39, .agg [.d (.int .i64 0), .d (.int .i64 0), .d (.int .i64 1)]), (40, .agg [.d (.int .i64 0), .d (.int .i64 2), .d (.int .i64 0)]), (41, .agg [.d (.int .i64 1), .d (.int .i64 2), .d (.int .i64 0)]), (42, .d (.lst 3 (List.map e_api_Edge [(api_Edge.mk 0 0 1), (api_Edge.mk 0 2 0), (api_Edge.mk 1 2 0)]))), (43, .agg [.d (.lst 1 (List.map (eI .i64) [0, 2])), .d (.int .i64 2), .d (.lst 1 (List.map (eI .i64) [1])), .d (.lst 3 (List.map e_api_Edge [(api_Edge.mk 0 0 1), (api_Edge.mk 0 2 0), (api_Edge.mk 1 2 0)]))]), (44, .d (.bool x18)), (45, .d (.bool x18)), (46, .d (.bool x18)), (47, .d (.int .i64 r9)), (48, .d (.bool (r9 == 0))), (49, .d (.bool (r9 == 0))), (50, .d (.bool (r9 == 0))), (51, .d (.int .i64 r7)), (52, .d (.bool (r7 == 1))), (53, .d (.bool (r7 == 1))), (54, .d (.bool (r7 == 1))), (55, .d (.int .i64 r8)), (56, .d (.bool (r8 == 1))), (57, .d (.bool (r8 == 1))), (58, .d (.bool (r8 == 1))), (59, .d (.int .i64 r12)), (60, .d (.bool (r12 == 0))), (61, .d (.bool (r12 == 0))), (62, .d (.bool (r12 == 0))), (63, .d (.lst 1 (List.map (eL 1 (eI .i64)) r11))), (64, .d (.int .i64 (r11.length : Int))), (65, .d (.bool ((r11.length : Int) == 2))), (66, .d (.bool ((r11.length : Int) == 2))), (67, .d (.bool ((r11.length : Int) == 2))), (68, .d (.lst 1 (List.map (eL 1 (eI .i64)) r11))), (69, .cref ((eL 1 (eI .i64)) x25)), (70, .d (.lst 1 (List.map (eI .i64) x25))), (71, .d (.lst 1 (List.map (eI .i64) [0]))), (72, .d (.bool x28)), (73, .d (.bool x28)), (74, .d (.bool x28)), (75, .d (.lst 1 (List.map (eL 1 (eI .i64)) r11))), (76, .cref ((eL 1 (eI .i64)) x30)), (77, .d (.lst 1 (List.map (eI .i64) x30))), (78, .d (.lst 1 (List.map (eI .i64) [2, 0])))], memOf Γ.n0 (bxs [(1, [.d (.lst 1 (List.map (eI .i64) r4.Alphabet)), .d (.int .i64 r4.States), .d (.lst 1 (List.map (eI .i64) r4.Marked)), .d (.lst 3 (List.map e_api_Edge r4.Edges))]), (8, [.d (.lst 1 (List.map (eI .i64) r14.Alphabet)), .d (.int .i64 r14.States), .d (.lst 1 (List.map (eI .i64) r14.Marked)), .d (.lst 3 (List.map e_api_Edge r14.Edges))])]) M, Γ.n0 + 99⟩; exact weak_freeze 78 [.int .i64 2, .int .i64 0] rfl rfl ⟨(.same rfl), ⟨(fPtr rfl), ⟨(.same rfl), ⟨(.same rfl), ⟨(.same rfl), ⟨(.same rfl), ⟨(.same rfl), ⟨(.same rfl), ⟨(fPtr rfl), ⟨(.same rfl), ⟨(.same rfl), ⟨(.same rfl), ⟨(.same rfl), ⟨(.same rfl), ⟨(.same rfl), ⟨(.same rfl), ⟨(.same rfl), ⟨(.same rfl), ⟨(.same rfl), ⟨(.same rfl), ⟨(.same rfl), ⟨(.same rfl), ⟨(.same rfl), ⟨(.same rfl), ⟨(.same rfl), ⟨(.same rfl), ⟨(.same rfl), ⟨(.same rfl), ⟨(.same rfl), ⟨(.same rfl), ⟨(.same rfl), ⟨(.same rfl), ⟨(.same rfl), ⟨(.same rfl), ⟨(.same rfl), ⟨(.same rfl), ⟨(.same rfl), ⟨(.same rfl), ⟨(.same rfl), ⟨(.same rfl), ⟨(.same rfl), ⟨(.same rfl), ⟨(.same rfl), ⟨(.same rfl), ⟨(.same rfl), ⟨(.same rfl), ⟨(.same rfl), ⟨(.same rfl), ⟨(.same rfl), ⟨(.same rfl), ⟨(.same rfl), ⟨(.same rfl), ⟨(.same rfl), ⟨(.same rfl), ⟨(.same rfl), ⟨(.same rfl), ⟨(.same rfl), ⟨(.same rfl), ⟨(.same rfl), ⟨(.same rfl), ⟨(.same rfl), ⟨(.same rfl), ⟨(.same rfl), ⟨(.same rfl), ⟨(.same rfl), ⟨(.same rfl), ⟨(.same rfl), ⟨(.same rfl), ⟨(.same rfl), ⟨(.same rfl), ⟨(.same rfl), ⟨(.same rfl), ⟨(.same rfl), ⟨(.same rfl), ⟨(.same rfl), ⟨(.same rfl), ⟨(.same rfl), ⟨(.same rfl), ⟨(fSl rfl rfl), trivial⟩⟩⟩⟩⟩⟩⟩⟩⟩⟩⟩⟩⟩⟩⟩⟩⟩⟩⟩⟩⟩⟩⟩⟩⟩⟩⟩⟩⟩⟩⟩⟩⟩⟩⟩⟩⟩⟩⟩⟩⟩⟩⟩⟩⟩⟩⟩⟩⟩⟩⟩⟩⟩⟩⟩⟩⟩⟩⟩⟩⟩⟩⟩⟩⟩⟩⟩⟩⟩⟩⟩⟩⟩⟩⟩⟩⟩⟩⟩ ⟨⟨_, rfl, rfl, (.same rfl)⟩, ⟨⟨_, rfl, rfl, (.same rfl)⟩, trivial⟩⟩ rfl) ?_
          obtain ⟨x33, h32, h⟩ := bnd h
          refine Rn.call (args := [.d (.lst 1 (List.map (eI .i64) x30)), .d (.lst 1 (List.map (eI .i64) [2, 0]))]) (gw rfl hb29) rfl (H_overseerref03_SameInts _ _ _ h32) pc9 (Rn.pickT (v := .d (.bool x33)) trivial rfl hb29 rfl (md rfl ?_))
          refine bsplit x33 (fun hb34 => ?_) (fun hb34 => ?_)
          ·replace h := bT hb34 h
           refine Rn.movD (gw rfl hb34) rfl (Rn.bin (gw rfl hb34) rfl rfl rfl (Rn.pickT (v := .d (.bool (r15 == 0))) trivial rfl hb34 rfl (md rfl ?_)))
           refine bsplit (r15 == 0) (fun hb35 => ?_) (fun hb35 => ?_)
           ·replace h := bT hb35 h
            refine Rn.fldP (o' := 3) (gw rfl hb35) rfl rfl (Rn.load (v := .d (.lst 3 (List.map e_api_Edge r14.Edges))) (gw rfl hb35) rfl (boxOwn rfl) rfl rfl (Rn.lenD (gw rfl hb35) rfl (Rn.bin (gw rfl hb35) rfl rfl rfl (Rn.pickT (v := .d (.bool ((r14.Edges.length : Int) == 3))) trivial rfl hb35 rfl (md rfl ?_)))))
            refine bsplit ((r14.Edges.length : Int) == 3) (fun hb36 => ?_) (fun hb36 => ?_)
            ·replace h := bT hb36 h
             refine Rn.fldP (o' := 3) (gw rfl hb36) rfl rfl (Rn.load (v := .d (.lst 3 (List.map e_api_Edge r14.Edges))) (gw rfl hb36) rfl (boxOwn rfl) rfl rfl ?_)
             obtain ⟨x37, h38, h⟩ := bnd h
             refine Rn.idxD (e := e_api_Edge) (gw rfl hb36) rfl rfl h38 (Rn.loadCA (vs := [.d (.int .i64 x37.From), .d (.int .i64 x37.Event), .d (.int .i64 x37.To)]) (gw rfl hb36) rfl rfl rfl (Rn.build (v := .agg [.d (.int .i64 0), .d (.int .i64 3), .d (.int .i64 1)]) (gw rfl hb36) rfl (Rn.eqa (r := ((x37.From == 0) && ((x37.Event == 3) && ((x37.To == 1) && true)))) (gw rfl hb36) rfl rfl rfl (Rn.pickT (v := .d (.bool ((x37.From == 0) && ((x37.Event == 3) && ((x37.To == 1) && true))))) trivial rfl hb36 rfl (md rfl (Rn.nil ?_))))))
             replace h := si h; subst h
             show WeakSt Γ _ ⟨look _, memOf _ (bxs _) _, _⟩; exact weak_cut [] ⟨(.same rfl), trivial⟩ ⟨⟨_, rfl, rfl, (.same rfl)⟩, ⟨⟨_, rfl, rfl, (.same rfl)⟩, trivial⟩⟩ rfl
            ·replace h := bF hb36 h
             refine Rn.sk (nw rfl hb36) (Rn.sk (nw rfl hb36) (Rn.sk (nw rfl hb36) (Rn.sk (nw rfl hb36) (Rn.sk (nw rfl hb36) (Rn.sk (nw rfl hb36) (Rn.pickF (v := .d (.bool false)) trivial rfl hb36 rfl (md rfl (Rn.nil ?_))))))))
             replace h := si h; subst h
             show WeakSt Γ _ ⟨look _, memOf _ (bxs _) _, _⟩; exact weak_cut [] ⟨(.same rfl), trivial⟩ ⟨⟨_, rfl, rfl, (.same rfl)⟩, ⟨⟨_, rfl, rfl, (.same rfl)⟩, trivial⟩⟩ rfl
           ·replace h := bF hb35 h
            refine Rn.sk (nw rfl hb35) (Rn.sk (nw rfl hb35) (Rn.sk (nw rfl hb35) (Rn.sk (nw rfl hb35) (Rn.pickF (v := .d (.bool false)) trivial rfl hb35 rfl (md rfl (Rn.sk (nw (b := false) rfl rfl) (Rn.sk (nw (b := false) rfl rfl) (Rn.sk (nw (b := false) rfl rfl) (Rn.sk (nw (b := false) rfl rfl) (Rn.sk (nw (b := false) rfl rfl) (Rn.sk (nw (b := false) rfl rfl) (Rn.pickF (v := .d (.bool false)) trivial rfl rfl rfl (md rfl (Rn.nil ?_))))))))))))))
            replace h := si h; subst h
            show WeakSt Γ _ ⟨look _, memOf _ (bxs _) _, _⟩; exact weak_cut [] ⟨(.same rfl), trivial⟩ ⟨⟨_, rfl, rfl, (.same rfl)⟩, ⟨⟨_, rfl, rfl, (.same rfl)⟩, trivial⟩⟩ rfl
          ·replace h := bF hb34 h
           refine Rn.sk (nw rfl hb34) (Rn.sk (nw rfl hb34) (Rn.pickF (v := .d (.bool false)) trivial rfl hb34 rfl (md rfl (Rn.sk (nw (b := false) rfl rfl) (Rn.sk (nw (b := false) rfl rfl) (Rn.sk (nw (b := false) rfl rfl) (Rn.sk (nw (b := false) rfl rfl) (Rn.pickF (v := .d (.bool false)) trivial rfl rfl rfl (md rfl (Rn.sk (nw (b := false) rfl rfl) (Rn.sk (nw (b := false) rfl rfl) (Rn.sk (nw (b := false) rfl rfl) (Rn.sk (nw (b := false) rfl rfl) (Rn.sk (nw (b := false) rfl rfl) (Rn.sk (nw (b := false) rfl rfl) (Rn.pickF (v := .d (.bool false)) trivial rfl rfl rfl (md rfl (Rn.nil ?_))))))))))))))))))
           replace h := si h; subst h
           show WeakSt Γ _ ⟨look _, memOf _ (bxs _) _, _⟩; exact weak_cut [] ⟨(.same rfl), trivial⟩ ⟨⟨_, rfl, rfl, (.same rfl)⟩, ⟨⟨_, rfl, rfl, (.same rfl)⟩, trivial⟩⟩ rfl
         ·replace h := bF hb29 h
          refine Rn.sk (nw rfl hb29) (Rn.sk (nw rfl hb29) (Rn.sk (nw rfl hb29) (Rn.sk (nw rfl hb29) (Rn.sk (nw rfl hb29) (Rn.pickF (v := .d (.bool false)) trivial rfl hb29 rfl (md rfl (Rn.sk (nw (b := false) rfl rfl) (Rn.sk (nw (b := false) rfl rfl) (Rn.pickF (v := .d (.bool false)) trivial rfl rfl rfl (md rfl (Rn.sk (nw (b := false) rfl rfl) (Rn.sk (nw (b := false) rfl rfl) (Rn.sk (nw (b := false) rfl rfl) (Rn.sk (nw (b := false) rfl rfl) (Rn.pickF (v := .d (.bool false)) trivial rfl rfl rfl (md rfl (Rn.sk (nw (b := false) rfl rfl) (Rn.sk (nw (b := false) rfl rfl) (Rn.sk (nw (b := false) rfl rfl) (Rn.sk (nw (b := false) rfl rfl) (Rn.sk (nw (b := false) rfl rfl) (Rn.sk (nw (b := false) rfl rfl) (Rn.pickF (v := .d (.bool false)) trivial rfl rfl rfl (md rfl (Rn.nil ?_)))))))))))))))))))))))))
          replace h := si h; subst h
          show WeakSt Γ _ ⟨look _, memOf _ (bxs _) _, _⟩; exact weak_cut [] ⟨(.same rfl), trivial⟩ ⟨⟨_, rfl, rfl, (.same rfl)⟩, ⟨⟨_, rfl, rfl, (.same rfl)⟩, trivial⟩⟩ rfl
        ·replace h := bF hb24 h
         refine Rn.sk (nw rfl hb24) (Rn.sk (nw rfl hb24) (Rn.sk (nw rfl hb24) (Rn.sk (nw rfl hb24) (Rn.sk (nw rfl hb24) (Rn.pickF (v := .d (.bool false)) trivial rfl hb24 rfl (md rfl (Rn.sk (nw (b := false) rfl rfl) (Rn.sk (nw (b := false) rfl rfl) (Rn.sk (nw (b := false) rfl rfl) (Rn.sk (nw (b := false) rfl rfl) (Rn.sk (nw (b := false) rfl rfl) (Rn.pickF (v := .d (.bool false)) trivial rfl rfl rfl (md rfl (Rn.sk (nw (b := false) rfl rfl) (Rn.sk (nw (b := false) rfl rfl) (Rn.pickF (v := .d (.bool false)) trivial rfl rfl rfl (md rfl (Rn.sk (nw (b := false) rfl rfl) (Rn.sk (nw (b := false) rfl rfl) (Rn.sk (nw (b := false) rfl rfl) (Rn.sk (nw (b := false) rfl rfl) (Rn.pickF (v := .d (.bool false)) trivial rfl rfl rfl (md rfl (Rn.sk (nw (b := false) rfl rfl) (Rn.sk (nw (b := false) rfl rfl) (Rn.sk (nw (b := false) rfl rfl) (Rn.sk (nw (b := false) rfl rfl) (Rn.sk (nw (b := false) rfl rfl) (Rn.sk (nw (b := false) rfl rfl) (Rn.pickF (v := .d (.bool false)) trivial rfl rfl rfl (md rfl (Rn.nil ?_))))))))))))))))))))))))))))))))
         replace h := si h; subst h
         show WeakSt Γ _ ⟨look _, memOf _ (bxs _) _, _⟩; exact weak_cut [] ⟨(.same rfl), trivial⟩ ⟨⟨_, rfl, rfl, (.same rfl)⟩, ⟨⟨_, rfl, rfl, (.same rfl)⟩, trivial⟩⟩ rfl
       ·replace h := bF hb23 h
        refine Rn.sk (nw rfl hb23) (Rn.sk (nw rfl hb23) (Rn.sk (nw rfl hb23) (Rn.pickF (v := .d (.bool false)) trivial rfl hb23 rfl (md rfl (Rn.sk (nw (b := false) rfl rfl) (Rn.sk (nw (b := false) rfl rfl) (Rn.sk (nw (b := false) rfl rfl) (Rn.sk (nw (b := false) rfl rfl) (Rn.sk (nw (b := false) rfl rfl) (Rn.pickF (v := .d (.bool false)) trivial rfl rfl rfl (md rfl (Rn.sk (nw (b := false) rfl rfl) (Rn.sk (nw (b := false) rfl rfl) (Rn.sk (nw (b := false) rfl rfl) (Rn.sk (nw (b := false) rfl rfl) (Rn.sk (nw (b := false) rfl rfl) (Rn.pickF (v := .d (.bool false)) trivial rfl rfl rfl (md rfl (Rn.sk (nw (b := false) rfl rfl) (Rn.sk (nw (b := false) rfl rfl) (Rn.pickF (v := .d (.bool false)) trivial rfl rfl rfl (md rfl (Rn.sk (nw (b := false) rfl rfl) (Rn.sk (nw (b := false) rfl rfl) (Rn.sk (nw (b := false) rfl rfl) (Rn.sk (nw (b := false) rfl rfl) (Rn.pickF (v := .d (.bool false)) trivial rfl rfl rfl (md rfl (Rn.sk (nw (b := false) rfl rfl) (Rn.sk (nw (b := false) rfl rfl) (Rn.sk (nw (b := false) rfl rfl) (Rn.sk (nw (b := false) rfl rfl) (Rn.sk (nw (b := false) rfl rfl) (Rn.sk (nw (b := false) rfl rfl) (Rn.pickF (v := .d (.bool false)) trivial rfl rfl rfl (md rfl (Rn.nil ?_)))))))))))))))))))))))))))))))))))))
        replace h := si h; subst h
        show WeakSt Γ _ ⟨look _, memOf _ (bxs _) _, _⟩; exact weak_cut [] ⟨(.same rfl), trivial⟩ ⟨⟨_, rfl, rfl, (.same rfl)⟩, ⟨⟨_, rfl, rfl, (.same rfl)⟩, trivial⟩⟩ rfl
      ·replace h := bF hb22 h
       refine Rn.sk (nw rfl hb22) (Rn.sk (nw rfl hb22) (Rn.pickF (v := .d (.bool false)) trivial rfl hb22 rfl (md rfl (Rn.sk (nw (b := false) rfl rfl) (Rn.sk (nw (b := false) rfl rfl) (Rn.sk (nw (b := false) rfl rfl) (Rn.pickF (v := .d (.bool false)) trivial rfl rfl rfl (md rfl (Rn.sk (nw (b := false) rfl rfl) (Rn.sk (nw (b := false) rfl rfl) (Rn.sk (nw (b := false) rfl rfl) (Rn.sk (nw (b := false) rfl rfl) (Rn.sk (nw (b := false) rfl rfl) (Rn.pickF (v := .d (.bool false)) trivial rfl rfl rfl (md rfl (Rn.sk (nw (b := false) rfl rfl) (Rn.sk (nw (b := false) rfl rfl) (Rn.sk (nw (b := false) rfl rfl) (Rn.sk (nw (b := false) rfl rfl) (Rn.sk (nw (b := false) rfl rfl) (Rn.pickF (v := .d (.bool false)) trivial rfl rfl rfl (md rfl (Rn.sk (nw (b := false) rfl rfl) (Rn.sk (nw (b := false) rfl rfl) (Rn.pickF (v := .d (.bool false)) trivial rfl rfl rfl (md rfl (Rn.sk (nw (b := false) rfl rfl) (Rn.sk (nw (b := false) rfl rfl) (Rn.sk (nw (b := false) rfl rfl) (Rn.sk (nw (b := false) rfl rfl) (Rn.pickF (v := .d (.bool false)) trivial rfl rfl rfl (md rfl (Rn.sk (nw (b := false) rfl rfl) (Rn.sk (nw (b := false) rfl rfl) (Rn.sk (nw (b := false) rfl rfl) (Rn.sk (nw (b := false) rfl rfl) (Rn.sk (nw (b := false) rfl rfl) (Rn.sk (nw (b := false) rfl rfl) (Rn.pickF (v := .d (.bool false)) trivial rfl rfl rfl ?_)))))))))))))))))))))))))))))))))))))))
       refine md rfl (Rn.nil ?_)
       replace h := si h; subst h
       show WeakSt Γ _ ⟨look _, memOf _ (bxs _) _, _⟩; exact weak_cut [] ⟨(.same rfl), trivial⟩ ⟨⟨_, rfl, rfl, (.same rfl)⟩, ⟨⟨_, rfl, rfl, (.same rfl)⟩, trivial⟩⟩ rfl
     ·replace h := bF hb21 h
      refine Rn.sk (nw rfl hb21) (Rn.sk (nw rfl hb21) (Rn.pickF (v := .d (.bool false)) trivial rfl hb21 rfl (md rfl (Rn.sk (nw (b := false) rfl rfl) (Rn.sk (nw (b := false) rfl rfl) (Rn.pickF (v := .d (.bool false)) trivial rfl rfl rfl (md rfl (Rn.sk (nw (b := false) rfl rfl) (Rn.sk (nw (b := false) rfl rfl) (Rn.sk (nw (b := false) rfl rfl) (Rn.pickF (v := .d (.bool false)) trivial rfl rfl rfl (md rfl (Rn.sk (nw (b := false) rfl rfl) (Rn.sk (nw (b := false) rfl rfl) (Rn.sk (nw (b := false) rfl rfl) (Rn.sk (nw (b := false) rfl rfl) (Rn.sk (nw (b := false) rfl rfl) (Rn.pickF (v := .d (.bool false)) trivial rfl rfl rfl (md rfl (Rn.sk (nw (b := false) rfl rfl) (Rn.sk (nw (b := false) rfl rfl) (Rn.sk (nw (b := false) rfl rfl) (Rn.sk (nw (b := false) rfl rfl) (Rn.sk (nw (b := false) rfl rfl) (Rn.pickF (v := .d (.bool false)) trivial rfl rfl rfl (md rfl (Rn.sk (nw (b := false) rfl rfl) (Rn.sk (nw (b := false) rfl rfl) (Rn.pickF (v := .d (.bool false)) trivial rfl rfl rfl (md rfl (Rn.sk (nw (b := false) rfl rfl) (Rn.sk (nw (b := false) rfl rfl) (Rn.sk (nw (b := false) rfl rfl) (Rn.sk (nw (b := false) rfl rfl) (Rn.pickF (v := .d (.bool false)) trivial rfl rfl rfl (md rfl (Rn.sk (nw (b := false) rfl rfl) (Rn.sk (nw (b := false) rfl rfl) (Rn.sk (nw (b := false) rfl rfl) ?_)))))))))))))))))))))))))))))))))))))))
      refine Rn.sk (nw (b := false) rfl rfl) (Rn.sk (nw (b := false) rfl rfl) (Rn.sk (nw (b := false) rfl rfl) (Rn.pickF (v := .d (.bool false)) trivial rfl rfl rfl (md rfl (Rn.nil ?_)))))
      replace h := si h; subst h
      show WeakSt Γ _ ⟨look _, memOf _ (bxs _) _, _⟩; exact weak_cut [] ⟨(.same rfl), trivial⟩ ⟨⟨_, rfl, rfl, (.same rfl)⟩, ⟨⟨_, rfl, rfl, (.same rfl)⟩, trivial⟩⟩ rfl
    ·replace h := bF hb20 h
     refine Rn.sk (nw rfl hb20) (Rn.sk (nw rfl hb20) (Rn.pickF (v := .d (.bool false)) trivial rfl hb20 rfl (md rfl (Rn.sk (nw (b := false) rfl rfl) (Rn.sk (nw (b := false) rfl rfl) (Rn.pickF (v := .d (.bool false)) trivial rfl rfl rfl (md rfl (Rn.sk (nw (b := false) rfl rfl) (Rn.sk (nw (b := false) rfl rfl) (Rn.pickF (v := .d (.bool false)) trivial rfl rfl rfl (md rfl (Rn.sk (nw (b := false) rfl rfl) (Rn.sk (nw (b := false) rfl rfl) (Rn.sk (nw (b := false) rfl rfl) (Rn.pickF (v := .d (.bool false)) trivial rfl rfl rfl (md rfl (Rn.sk (nw (b := false) rfl rfl) (Rn.sk (nw (b := false) rfl rfl) (Rn.sk (nw (b := false) rfl rfl) (Rn.sk (nw (b := false) rfl rfl) (Rn.sk (nw (b := false) rfl rfl) (Rn.pickF (v := .d (.bool false)) trivial rfl rfl rfl (md rfl (Rn.sk (nw (b := false) rfl rfl) (Rn.sk (nw (b := false) rfl rfl) (Rn.sk (nw (b := false) rfl rfl) (Rn.sk (nw (b := false) rfl rfl) (Rn.sk (nw (b := false) rfl rfl) (Rn.pickF (v := .d (.bool false)) trivial rfl rfl rfl (md rfl (Rn.sk (nw (b := false) rfl rfl) (Rn.sk (nw (b := false) rfl rfl) (Rn.pickF (v := .d (.bool false)) trivial rfl rfl rfl (md rfl (Rn.sk (nw (b := false) rfl rfl) (Rn.sk (nw (b := false) rfl rfl) (Rn.sk (nw (b := false) rfl rfl) (Rn.sk (nw (b := false) rfl rfl) (Rn.pickF (v := .d (.bool false)) trivial rfl rfl rfl ?_)))))))))))))))))))))))))))))))))))))))
     refine md rfl (Rn.sk (nw (b := false) rfl rfl) (Rn.sk (nw (b := false) rfl rfl) (Rn.sk (nw (b := false) rfl rfl) (Rn.sk (nw (b := false) rfl rfl) (Rn.sk (nw (b := false) rfl rfl) (Rn.sk (nw (b := false) rfl rfl) (Rn.pickF (v := .d (.bool false)) trivial rfl rfl rfl (md rfl (Rn.nil ?_)))))))))
     replace h := si h; subst h
     show WeakSt Γ _ ⟨look _, memOf _ (bxs _) _, _⟩; exact weak_cut [] ⟨(.same rfl), trivial⟩ ⟨⟨_, rfl, rfl, (.same rfl)⟩, ⟨⟨_, rfl, rfl, (.same rfl)⟩, trivial⟩⟩ rfl
   ·replace h := bF hb19 h
    refine Rn.sk (nw rfl hb19) (Rn.sk (nw rfl hb19) (Rn.pickF (v := .d (.bool false)) trivial rfl hb19 rfl (md rfl (Rn.sk (nw (b := false) rfl rfl) (Rn.sk (nw (b := false) rfl rfl) (Rn.pickF (v := .d (.bool false)) trivial rfl rfl rfl (md rfl (Rn.sk (nw (b := false) rfl rfl) (Rn.sk (nw (b := false) rfl rfl) (Rn.pickF (v := .d (.bool false)) trivial rfl rfl rfl (md rfl (Rn.sk (nw (b := false) rfl rfl) (Rn.sk (nw (b := false) rfl rfl) (Rn.pickF (v := .d (.bool false)) trivial rfl rfl rfl (md rfl (Rn.sk (nw (b := false) rfl rfl) (Rn.sk (nw (b := false) rfl rfl) (Rn.sk (nw (b := false) rfl rfl) (Rn.pickF (v := .d (.bool false)) trivial rfl rfl rfl (md rfl (Rn.sk (nw (b := false) rfl rfl) (Rn.sk (nw (b := false) rfl rfl) (Rn.sk (nw (b := false) rfl rfl) (Rn.sk (nw (b := false) rfl rfl) (Rn.sk (nw (b := false) rfl rfl) (Rn.pickF (v := .d (.bool false)) trivial rfl rfl rfl (md rfl (Rn.sk (nw (b := false) rfl rfl) (Rn.sk (nw (b := false) rfl rfl) (Rn.sk (nw (b := false) rfl rfl) (Rn.sk (nw (b := false) rfl rfl) (Rn.sk (nw (b := false) rfl rfl) (Rn.pickF (v := .d (.bool false)) trivial rfl rfl rfl (md rfl (Rn.sk (nw (b := false) rfl rfl) (Rn.sk (nw (b := false) rfl rfl) (Rn.pickF (v := .d (.bool false)) trivial rfl rfl rfl (md rfl (Rn.sk (nw (b := false) rfl rfl) ?_)))))))))))))))))))))))))))))))))))))))
    refine Rn.sk (nw (b := false) rfl rfl) (Rn.sk (nw (b := false) rfl rfl) (Rn.sk (nw (b := false) rfl rfl) (Rn.pickF (v := .d (.bool false)) trivial rfl rfl rfl (md rfl (Rn.sk (nw (b := false) rfl rfl) (Rn.sk (nw (b := false) rfl rfl) (Rn.sk (nw (b := false) rfl rfl) (Rn.sk (nw (b := false) rfl rfl) (Rn.sk (nw (b := false) rfl rfl) (Rn.sk (nw (b := false) rfl rfl) (Rn.pickF (v := .d (.bool false)) trivial rfl rfl rfl (md rfl (Rn.nil ?_)))))))))))))
    replace h := si h; subst h
    show WeakSt Γ _ ⟨look _, memOf _ (bxs _) _, _⟩; exact weak_cut [] ⟨(.same rfl), trivial⟩ ⟨⟨_, rfl, rfl, (.same rfl)⟩, ⟨⟨_, rfl, rfl, (.same rfl)⟩, trivial⟩⟩ rfl
  ·replace h := bF hb16 h
   refine Rn.sk (nw rfl hb16) (Rn.sk (nw rfl hb16) (Rn.sk (nw rfl hb16) (Rn.sk (nw rfl hb16) (Rn.sk (nw rfl hb16) (Rn.sk (nw rfl hb16) (Rn.sk (nw rfl hb16) (Rn.sk (nw rfl hb16) (Rn.sk (nw rfl hb16) (Rn.pickF (v := .d (.bool false)) trivial rfl hb16 rfl (md rfl (Rn.sk (nw (b := false) rfl rfl) (Rn.sk (nw (b := false) rfl rfl) (Rn.pickF (v := .d (.bool false)) trivial rfl rfl rfl (md rfl (Rn.sk (nw (b := false) rfl rfl) (Rn.sk (nw (b := false) rfl rfl) (Rn.pickF (v := .d (.bool false)) trivial rfl rfl rfl (md rfl (Rn.sk (nw (b := false) rfl rfl) (Rn.sk (nw (b := false) rfl rfl) (Rn.pickF (v := .d (.bool false)) trivial rfl rfl rfl (md rfl (Rn.sk (nw (b := false) rfl rfl) (Rn.sk (nw (b := false) rfl rfl) (Rn.pickF (v := .d (.bool false)) trivial rfl rfl rfl (md rfl (Rn.sk (nw (b := false) rfl rfl) (Rn.sk (nw (b := false) rfl rfl) (Rn.sk (nw (b := false) rfl rfl) (Rn.pickF (v := .d (.bool false)) trivial rfl rfl rfl (md rfl (Rn.sk (nw (b := false) rfl rfl) (Rn.sk (nw (b := false) rfl rfl) (Rn.sk (nw (b := false) rfl rfl) (Rn.sk (nw (b := false) rfl rfl) (Rn.sk (nw (b := false) rfl rfl) (Rn.pickF (v := .d (.bool false)) trivial rfl rfl rfl (md rfl (Rn.sk (nw (b := false) rfl rfl) ?_)))))))))))))))))))))))))))))))))))))))
   refine Rn.sk (nw (b := false) rfl rfl) (Rn.sk (nw (b := false) rfl rfl) (Rn.sk (nw (b := false) rfl rfl) (Rn.sk (nw (b := false) rfl rfl) (Rn.pickF (v := .d (.bool false)) trivial rfl rfl rfl (md rfl (Rn.sk (nw (b := false) rfl rfl) (Rn.sk (nw (b := false) rfl rfl) (Rn.pickF (v := .d (.bool false)) trivial rfl rfl rfl (md rfl (Rn.sk (nw (b := false) rfl rfl) (Rn.sk (nw (b := false) rfl rfl) (Rn.sk (nw (b := false) rfl rfl) (Rn.sk (nw (b := false) rfl rfl) (Rn.pickF (v := .d (.bool false)) trivial rfl rfl rfl (md rfl (Rn.sk (nw (b := false) rfl rfl) (Rn.sk (nw (b := false) rfl rfl) (Rn.sk (nw (b := false) rfl rfl) (Rn.sk (nw (b := false) rfl rfl) (Rn.sk (nw (b := false) rfl rfl) (Rn.sk (nw (b := false) rfl rfl) (Rn.pickF (v := .d (.bool false)) trivial rfl rfl rfl (md rfl (Rn.nil ?_))))))))))))))))))))))))
   replace h := si h; subst h
   show WeakSt Γ _ ⟨look _, memOf _ (bxs _) _, _⟩; exact weak_cut [] ⟨(.same rfl), trivial⟩ ⟨⟨_, rfl, rfl, (.same rfl)⟩, ⟨⟨_, rfl, rfl, (.same rfl)⟩, trivial⟩⟩ rfl
 ·obtain ⟨x39, rfl⟩ : ∃ x, x = z := ⟨_, rfl⟩
  refine Tr.ret ?_
  replace h := si h; subst h
  exact ⟨.inr rfl, (.d (.bool x39)), rfl, fun _ _ _ _ h => h, trivial, fun k hk => memOf_base hk⟩
theorem overseerlaw03_Set_Events_walk {P : Program} {c : Nat} (hcf : compFn P c = some F_overseerlaw03_Set_Events) (fuel : Nat) : K_overseerlaw03_Set_Events P c (f_overseerlaw03_Set_Events fuel) := by
 intro s1 r h
 refine fn_trP hcf rfl fun Γ M hP hnt hM => ?_
 subst hP
 refine Tr.init [(0, .d (.int .u8 s1))] rfl ?_
 unfold f_overseerlaw03_Set_Events at h
 unfold F_overseerlaw03_Set_Events
 refine sr ((Rn.movTC (v := .nils 1) trivial (nt ((sr ((Rn.movTC (v := .nils 1) trivial (Rn.nil (toN ?_)))))))))
 refine Tr.cutB (fun (out12 : List Int) => ⟨look [(3, .own 1 (List.map (eI .i64) out12))], memOf Γ.n0 (bxs []) M, Γ.n0 + 19⟩) h (fun z h => ?_) (fun z h => ?_)
 ·refine sr ((md rfl (nt ((Tr.block ?_)))))
  refine Tr.loop (mk := fun ((out2, i3) : (List Int) × Int) => ⟨look [(0, .d (.int .u8 s1)), (3, .own 1 (List.map (eI .i64) out2)), (4, .d (.int .i64 i3))], memOf Γ.n0 (bxs []) M, Γ.n0 + 19⟩) h (by show WeakSt Γ (clean _ _ _) ⟨look _, memOf _ (bxs _) _, _⟩; exact weak_clean ⟨(.same rfl), ⟨(WkV.nilsO _), ⟨(.same rfl), trivial⟩⟩⟩ trivial rfl) (fun k4 z h => ?_)
  ·obtain ⟨out2, i3⟩ := z
   replace h : _ = some _ := h
   refine Tr.seq (sr ((md rfl (Rn.bin trivial rfl rfl rfl (Rn.nil (toN ?_))))))
   refine Tr.cond rfl (fun hb5 => ?_) (fun hb5 => ?_)
   ·replace h := ifT hb5 h
    refine Tr.skip (toN ?_)
    refine Tr.cutB (fun (out11 : List Int) => ⟨look [(0, .d (.int .u8 s1)), (3, .own 1 (List.map (eI .i64) out11)), (4, .d (.int .i64 i3))], memOf Γ.n0 (bxs []) M, Γ.n0 + 19⟩) h (fun z h => ?_) (fun z h => ?_)
    ·refine Tr.block (sr ((md rfl (md rfl ?_))))
     obtain ⟨s6, h7, h⟩ := bnd h
     refine Rn.bin trivial rfl rfl (shr_bin h7) (Rn.bin trivial rfl rfl rfl (Rn.bin trivial rfl rfl rfl (Rn.nil (toN ?_))))
     refine Tr.cond rfl (fun hb8 => ?_) (fun hb8 => ?_)
     ·replace h := bT hb8 h
      refine Tr.rgn (Rn.movTO trivial rfl (md rfl (Rn.bslice (xs := [.d (.int .i64 i3)]) (cs := [.d (.int .i64 i3)]) trivial rfl rfl rfl rfl ?_)))
      obtain ⟨x9, h10, h⟩ := bnd h
      refine Rn.app (e := (eI .i64)) trivial rfl rfl rfl (elems_box rfl rfl rfl) h10 rfl (Rn.movTO trivial rfl (Rn.nil ?_))
      replace h := si h; subst h
      show WeakSt Γ _ ⟨look _, memOf _ (bxs _) _, _⟩; exact weak_cut [16] ⟨(.same rfl), ⟨(.same rfl), ⟨(.same rfl), trivial⟩⟩⟩ trivial rfl
     ·replace h := bF hb8 h
      refine Tr.skip ?_
      replace h := si h; subst h
      show WeakSt Γ _ ⟨look _, memOf _ (bxs _) _, _⟩; exact weak_cut [] ⟨(.same rfl), ⟨(.same rfl), ⟨(.same rfl), trivial⟩⟩⟩ trivial rfl
    ·obtain ⟨out11, rfl⟩ : ∃ x, x = z := ⟨_, rfl⟩
     refine Tr.rgn (md rfl (Rn.bin trivial rfl rfl rfl (md rfl (Rn.nil ?_))))
     exact ⟨_, h, (by show WeakSt Γ (clean _ _ _) ⟨look _, memOf _ (bxs _) _, _⟩; exact weak_clean ⟨(.same rfl), ⟨(.same rfl), ⟨(.same rfl), trivial⟩⟩⟩ trivial rfl)⟩
   ·replace h := ifF hb5 h
    refine Tr.exit ?_
    replace h := si h; subst h
    show WeakSt Γ _ ⟨look _, memOf _ (bxs _) _, _⟩; exact weak_cut [] ⟨(.same rfl), trivial⟩ trivial rfl
 ·obtain ⟨out12, rfl⟩ : ∃ x, x = z := ⟨_, rfl⟩
  refine sr ((Rn.movTO trivial rfl (Rn.movTO trivial rfl (nt ((Tr.ret ?_))))))
  replace h := si h; subst h
  exact ⟨.inr rfl, (.own 1 (List.map (eI .i64) out12)), rfl, fun _ _ _ _ h => h, trivial, fun k hk => memOf_base hk⟩
theorem overseerref03_Empty_walk {P : Program} {c : Nat} (hcf : compFn P c = some F_overseerref03_Empty) : K_overseerref03_Empty P c (f_overseerref03_Empty) := by
 intro alphabet1 r h
 refine fn_trP hcf rfl fun Γ M hP hnt hM => ?_
 subst hP
 refine Tr.init [(0, .d (.lst 1 (List.map (eI .i64) alphabet1)))] rfl ?_
 unfold f_overseerref03_Empty at h
 unfold F_overseerref03_Empty
 refine sr ((Rn.alloc trivial rfl (nt ((sr ((Rn.bslice (xs := []) (cs := []) trivial rfl rfl rfl rfl (md rfl ?_))))))))
 obtain ⟨x2, h3, h⟩ := bnd h
 refine Rn.app0 (e := (eI .i64)) trivial rfl rfl rfl rfl elems_lst h3 rfl (Rn.build (v := .agg [.d (.lst 1 (List.map (eI .i64) x2)), .d (.int .i64 0), .nils 1, .nils 3]) trivial rfl (Rn.store (v := .agg [.d (.lst 1 (List.map (eI .i64) x2)), .d (.int .i64 0), .nils 1, .nils 3]) (cs' := [.d (.lst 1 (List.map (eI .i64) x2)), .d (.int .i64 0), .nils 1, .nils 3]) trivial rfl rfl rfl rfl rfl rfl (nt ((Tr.ret ?_)))))
 replace h := si h; subst h
 exact ⟨.inr rfl, (.agg [.d (.lst 1 (List.map (eI .i64) x2)), .d (.int .i64 0), .nils 1, .nils 3]), resCell rfl rfl rfl rfl, fun _ _ _ _ h => h, ⟨trivial, trivial, trivial, trivial, trivial⟩, fun k hk => memOf_base hk⟩
theorem overseerref03_Step_walk {P : Program} {c : Nat} (hcf : compFn P c = some F_overseerref03_Step) (fuel : Nat) : K_overseerref03_Step P c (f_overseerref03_Step fuel) := by
 intro a1 state2 event3 r h
 refine fn_trP hcf rfl fun Γ M hP hnt hM => ?_
 subst hP
 refine Tr.init [(0, .agg [.d (.lst 1 (List.map (eI .i64) a1.Alphabet)), .d (.int .i64 a1.States), .d (.lst 1 (List.map (eI .i64) a1.Marked)), .d (.lst 3 (List.map e_api_Edge a1.Edges))]), (1, .d (.int .i64 state2)), (2, .d (.int .i64 event3))] rfl ?_
 unfold f_overseerref03_Step at h
 unfold F_overseerref03_Step
 refine sr ((Rn.box (v := .agg [.d (.lst 1 (List.map (eI .i64) a1.Alphabet)), .d (.int .i64 a1.States), .d (.lst 1 (List.map (eI .i64) a1.Marked)), .d (.lst 3 (List.map e_api_Edge a1.Edges))]) (cs := [.d (.lst 1 (List.map (eI .i64) a1.Alphabet)), .d (.int .i64 a1.States), .d (.lst 1 (List.map (eI .i64) a1.Marked)), .d (.lst 3 (List.map e_api_Edge a1.Edges))]) trivial rfl rfl rfl rfl rfl (md rfl (nt ((Tr.seq (sr ((md rfl (nt ((Tr.block ?_))))))))))))
 refine Tr.loop (mk := fun (i4 : Int) => ⟨look [(1, .d (.int .i64 state2)), (2, .d (.int .i64 event3)), (3, .ptr (Γ.n0 + 3) 0), (7, .d (.int .i64 i4))], memOf Γ.n0 (bxs [(3, [.d (.lst 1 (List.map (eI .i64) a1.Alphabet)), .d (.int .i64 a1.States), .d (.lst 1 (List.map (eI .i64) a1.Marked)), .d (.lst 3 (List.map e_api_Edge a1.Edges))])]) M, Γ.n0 + 39⟩) h (by show WeakSt Γ (clean _ _ _) ⟨look _, memOf _ (bxs _) _, _⟩; exact weak_clean ⟨(.same rfl), ⟨(.same rfl), ⟨(kPtr rfl), ⟨(.same rfl), trivial⟩⟩⟩⟩ ⟨⟨_, rfl, rfl, (.same rfl)⟩, trivial⟩ rfl) (fun k5 z h => ?_)
 ·obtain ⟨i4, rfl⟩ : ∃ x, x = z := ⟨_, rfl⟩
  replace h : _ = some _ := h
  refine Tr.seq (sr ((md rfl (Rn.fldP (o' := 3) trivial rfl rfl (Rn.load (v := .d (.lst 3 (List.map e_api_Edge a1.Edges))) trivial rfl (boxOwn rfl) rfl rfl (Rn.lenD trivial rfl (Rn.bin trivial rfl rfl rfl (Rn.nil (toN ?_)))))))))
  refine Tr.cond rfl (fun hb6 => ?_) (fun hb6 => ?_)
  ·replace h := ifT hb6 h
   refine Tr.skip (toN (Tr.seq (Tr.block ?_)))
   refine Tr.cutB (fun (x12 : Bool) => ⟨look [(1, .d (.int .i64 state2)), (2, .d (.int .i64 event3)), (3, .ptr (Γ.n0 + 3) 0), (7, .d (.int .i64 i4)), (32, .d (.bool x12))], memOf Γ.n0 (bxs [(3, [.d (.lst 1 (List.map (eI .i64) a1.Alphabet)), .d (.int .i64 a1.States), .d (.lst 1 (List.map (eI .i64) a1.Marked)), .d (.lst 3 (List.map e_api_Edge a1.Edges))])]) M, Γ.n0 + 39⟩) h (fun z h => ?_) (fun z h => ?_)
   ·refine Tr.rgn (Rn.fldP (o' := 3) trivial rfl rfl (Rn.load (v := .d (.lst 3 (List.map e_api_Edge a1.Edges))) trivial rfl (boxOwn rfl) rfl rfl (md rfl ?_)))
    obtain ⟨x7, h8, h⟩ := bnd h
    refine Rn.idxD (e := e_api_Edge) trivial rfl rfl h8 (Rn.fldC trivial rfl (Rn.loadC (x := .int .i64 x7.From) trivial rfl (md rfl (Rn.bin trivial rfl rfl rfl (md rfl ?_)))))
    refine bsplit (x7.From == state2) (fun hb9 => ?_) (fun hb9 => ?_)
    ·replace h := bT hb9 h
     refine Rn.fldP (o' := 3) (gw rfl hb9) rfl rfl (Rn.load (v := .d (.lst 3 (List.map e_api_Edge a1.Edges))) (gw rfl hb9) rfl (boxOwn rfl) rfl rfl (Rn.movD (gw rfl hb9) rfl ?_))
     obtain ⟨x10, h11, h⟩ := bnd h
     refine Rn.idxD (e := e_api_Edge) (gw rfl hb9) rfl rfl h11 (Rn.fldC (gw rfl hb9) rfl (Rn.loadC (x := .int .i64 x10.Event) (gw rfl hb9) rfl (Rn.movD (gw rfl hb9) rfl (Rn.bin (gw rfl hb9) rfl rfl rfl (Rn.pickT (v := .d (.bool (x10.Event == event3))) trivial rfl hb9 rfl (Rn.nil ?_))))))
     replace h := si h; subst h
     show WeakSt Γ _ ⟨look _, memOf _ (bxs _) _, _⟩; exact weak_cut [] ⟨(.same rfl), ⟨(.same rfl), ⟨(kPtr rfl), ⟨(.same rfl), ⟨(.same rfl), trivial⟩⟩⟩⟩⟩ ⟨⟨_, rfl, rfl, (.same rfl)⟩, trivial⟩ rfl
    ·replace h := bF hb9 h
     refine Rn.sk (nw rfl hb9) (Rn.sk (nw rfl hb9) (Rn.sk (nw rfl hb9) (Rn.sk (nw rfl hb9) (Rn.sk (nw rfl hb9) (Rn.sk (nw rfl hb9) (Rn.sk (nw rfl hb9) (Rn.sk (nw rfl hb9) (Rn.pickF (v := .d (.bool false)) trivial rfl hb9 rfl (Rn.nil ?_)))))))))
     replace h := si h; subst h
     show WeakSt Γ _ ⟨look _, memOf _ (bxs _) _, _⟩; exact weak_cut [] ⟨(.same rfl), ⟨(.same rfl), ⟨(kPtr rfl), ⟨(.same rfl), ⟨(.same rfl), trivial⟩⟩⟩⟩⟩ ⟨⟨_, rfl, rfl, (.same rfl)⟩, trivial⟩ rfl
   ·obtain ⟨x12, rfl⟩ : ∃ x, x = z := ⟨_, rfl⟩
    refine Tr.cond rfl (fun hb13 => ?_) (fun hb13 => ?_)
    ·replace h := bT hb13 h
     refine sr ((Rn.fldP (o' := 3) trivial rfl rfl (Rn.load (v := .d (.lst 3 (List.map e_api_Edge a1.Edges))) trivial rfl (boxOwn rfl) rfl rfl (md rfl ?_))))
     obtain ⟨x14, h15, h⟩ := bnd h
     refine Rn.idxD (e := e_api_Edge) trivial rfl rfl h15 (Rn.fldC trivial rfl (Rn.loadC (x := .int .i64 x14.To) trivial rfl (md rfl (nt ((Tr.ret ?_))))))
     replace h := si h; subst h
     exact ⟨.inr rfl, (.d (.int .i64 x14.To)), rfl, fun _ _ _ _ h => h, trivial, fun k hk => memOf_base hk⟩
    ·replace h := bF hb13 h
     refine Tr.skip (toN (Tr.rgn (md rfl (Rn.bin trivial rfl rfl rfl (md rfl (Rn.nil ?_))))))
     exact ⟨_, h, (by show WeakSt Γ (clean _ _ _) ⟨look _, memOf _ (bxs _) _, _⟩; exact weak_clean ⟨(.same rfl), ⟨(.same rfl), ⟨(kPtr rfl), ⟨(.same rfl), trivial⟩⟩⟩⟩ ⟨⟨_, rfl, rfl, (.same rfl)⟩, trivial⟩ rfl)⟩
  ·replace h := ifF hb6 h
   refine Tr.exit (toN (sr ((md rfl (nt ((Tr.ret ?_)))))))
   replace h := si h; subst h
   exact ⟨.inr rfl, (.d (.int .i64 (-1))), rfl, fun _ _ _ _ h => h, trivial, fun k hk => memOf_base hk⟩
theorem overseerref03_has_walk {P : Program} {c : Nat} (hcf : compFn P c = some F_overseerref03_has) (fuel : Nat) : K_overseerref03_has P c (f_overseerref03_has fuel) := by
 intro l1 n2 r h
 refine fn_trP hcf rfl fun Γ M hP hnt hM => ?_
 subst hP
 refine Tr.init [(0, .d (.lst 1 (List.map (eI .i64) l1))), (1, .d (.int .i64 n2))] rfl ?_
 unfold f_overseerref03_has at h
 unfold F_overseerref03_has
 refine sr ((md rfl (nt ((Tr.seq (sr ((md rfl (nt ((Tr.block ?_)))))))))))
 refine Tr.loop (mk := fun (i3 : Int) => ⟨look [(0, .d (.lst 1 (List.map (eI .i64) l1))), (1, .d (.int .i64 n2)), (5, .d (.int .i64 i3))], memOf Γ.n0 (bxs []) M, Γ.n0 + 18⟩) h (by show WeakSt Γ (clean _ _ _) ⟨look _, memOf _ (bxs _) _, _⟩; exact weak_clean ⟨(.same rfl), ⟨(.same rfl), ⟨(.same rfl), trivial⟩⟩⟩ trivial rfl) (fun k4 z h => ?_)
 ·obtain ⟨i3, rfl⟩ : ∃ x, x = z := ⟨_, rfl⟩
  replace h : _ = some _ := h
  refine Tr.seq (sr ((md rfl (md rfl (Rn.lenD trivial rfl (Rn.bin trivial rfl rfl rfl (Rn.nil (toN ?_))))))))
  refine Tr.cond rfl (fun hb5 => ?_) (fun hb5 => ?_)
  ·replace h := ifT hb5 h
   refine Tr.skip (toN (Tr.seq (Tr.block (sr ((md rfl (md rfl ?_)))))))
   obtain ⟨x6, h7, h⟩ := bnd h
   refine Rn.idxD (e := (eI .i64)) trivial rfl rfl h7 (Rn.loadC (x := .int .i64 x6) trivial rfl (md rfl (Rn.bin trivial rfl rfl rfl (Rn.nil (toN ?_)))))
   refine Tr.cond rfl (fun hb8 => ?_) (fun hb8 => ?_)
   ·replace h := bT hb8 h
    refine sr ((md rfl (nt ((Tr.ret ?_)))))
    replace h := si h; subst h
    exact ⟨.inr rfl, (.d (.bool true)), rfl, fun _ _ _ _ h => h, trivial, fun k hk => memOf_base hk⟩
   ·replace h := bF hb8 h
    refine Tr.skip (toN (Tr.rgn (md rfl (Rn.bin trivial rfl rfl rfl (md rfl (Rn.nil ?_))))))
    exact ⟨_, h, (by show WeakSt Γ (clean _ _ _) ⟨look _, memOf _ (bxs _) _, _⟩; exact weak_clean ⟨(.same rfl), ⟨(.same rfl), ⟨(.same rfl), trivial⟩⟩⟩ trivial rfl)⟩
  ·replace h := ifF hb5 h
   refine Tr.exit (toN (sr ((md rfl (nt ((Tr.ret ?_)))))))
   replace h := si h; subst h
   exact ⟨.inr rfl, (.d (.bool false)), rfl, fun _ _ _ _ h => h, trivial, fun k hk => memOf_base hk⟩
theorem overseerref03_Found_walk {P : Program} {c : Nat} {f_overseerref03_Step : api_Automaton → Int → Int → Option Int} {f_overseerref03_has : (List Int) → Int → Option Bool}
    (H_overseerref03_Step : K_overseerref03_Step P 40 f_overseerref03_Step)
    (H_overseerref03_has : K_overseerref03_has P 51 f_overseerref03_has) (hcf : compFn P c = some F_overseerref03_Found) (fuel : Nat) : K_overseerref03_Found P c (f_overseerref03_Found f_overseerref03_Step f_overseerref03_has fuel) := by
 intro a1 r h
 refine fn_trP hcf rfl fun Γ M hP hnt hM => ?_
 subst hP
 refine Tr.init [(0, .agg [.d (.lst 1 (List.map (eI .i64) a1.Alphabet)), .d (.int .i64 a1.States), .d (.lst 1 (List.map (eI .i64) a1.Marked)), .d (.lst 3 (List.map e_api_Edge a1.Edges))])] rfl ?_
 unfold f_overseerref03_Found at h
 unfold F_overseerref03_Found
 refine sr ((Rn.box (v := .agg [.d (.lst 1 (List.map (eI .i64) a1.Alphabet)), .d (.int .i64 a1.States), .d (.lst 1 (List.map (eI .i64) a1.Marked)), .d (.lst 3 (List.map e_api_Edge a1.Edges))]) (cs := [.d (.lst 1 (List.map (eI .i64) a1.Alphabet)), .d (.int .i64 a1.States), .d (.lst 1 (List.map (eI .i64) a1.Marked)), .d (.lst 3 (List.map e_api_Edge a1.Edges))]) trivial rfl rfl rfl rfl rfl (Rn.movTC (v := .nils 1) trivial (nt ((sr ((Rn.movTC (v := .nils 1) trivial (Rn.nil (toN ?_))))))))))
 refine Tr.cutB (fun (out5 : List Int) => ⟨look [(1, .ptr (Γ.n0 + 1) 0), (3, .own 1 (List.map (eI .i64) out5))], memOf Γ.n0 (bxs [(1, [.d (.lst 1 (List.map (eI .i64) a1.Alphabet)), .d (.int .i64 a1.States), .d (.lst 1 (List.map (eI .i64) a1.Marked)), .d (.lst 3 (List.map e_api_Edge a1.Edges))])]) M, Γ.n0 + 50⟩) h (fun z h => ?_) (fun z h => ?_)
 ·refine sr ((Rn.fldP (o' := 1) trivial rfl rfl (Rn.load (v := .d (.int .i64 a1.States)) trivial rfl (boxOwn rfl) rfl rfl (Rn.bin trivial rfl rfl rfl (Rn.nil (toN ?_))))))
  refine Tr.cond rfl (fun hb2 => ?_) (fun hb2 => ?_)
  ·replace h := ifT hb2 h
   refine Tr.rgn (Rn.movTF (v := .nils 1) trivial rfl rfl (Rn.bslice (xs := [.d (.int .i64 0)]) (cs := [.d (.int .i64 0)]) trivial rfl rfl rfl rfl ?_))
   refine Rn.weak (by show WeakSt Γ _ ⟨look [(0, .agg [.d (.lst 1 (List.map (eI .i64) a1.Alphabet)), .d (.int .i64 a1.States), .d (.lst 1 (List.map (eI .i64) a1.Marked)), .d (.lst 3 (List.map e_api_Edge a1.Edges))]), (1, .ptr (Γ.n0 + 1) 0), (2, .nils 1), (3, .nils 1), (7, .ptr (Γ.n0 + 1) 1), (8, .d (.int .i64 a1.States)), (9, .d (.bool (decide (a1.States > 0)))), (10, .own 1 (List.map (eI .i64) [])), (11, .sl 1 (Γ.n0 + 11) 0 1 1)], memOf Γ.n0 (bxs [(1, [.d (.lst 1 (List.map (eI .i64) a1.Alphabet)), .d (.int .i64 a1.States), .d (.lst 1 (List.map (eI .i64) a1.Marked)), .d (.lst 3 (List.map e_api_Edge a1.Edges))]), (11, [.d (.int .i64 0)])]) M, Γ.n0 + 50⟩; exact weak_cut [] ⟨(.same rfl), ⟨(kPtr rfl), ⟨(.same rfl), ⟨(.same rfl), ⟨(kPtr rfl), ⟨(.same rfl), ⟨(.same rfl), ⟨(WkV.nilsO _), ⟨(kSl rfl), trivial⟩⟩⟩⟩⟩⟩⟩⟩⟩ ⟨⟨_, rfl, rfl, (.same rfl)⟩, ⟨⟨_, rfl, rfl, (.same rfl)⟩, trivial⟩⟩ rfl) ?_
   obtain ⟨x3, h4, h⟩ := bnd h
   refine Rn.app (e := (eI .i64)) trivial rfl rfl rfl (elems_box rfl rfl rfl) h4 rfl (Rn.movTO trivial rfl (Rn.nil ?_))
   replace h := si h; subst h
   show WeakSt Γ _ ⟨look _, memOf _ (bxs _) _, _⟩; exact weak_cut [11] ⟨(kPtr rfl), ⟨(.same rfl), trivial⟩⟩ ⟨⟨_, rfl, rfl, (.same rfl)⟩, trivial⟩ rfl
  ·replace h := ifF hb2 h
   refine Tr.skip ?_
   replace h := si h; subst h
   show WeakSt Γ _ ⟨look _, memOf _ (bxs _) _, _⟩; exact weak_cut [] ⟨(kPtr rfl), ⟨(WkV.nilsO _), trivial⟩⟩ ⟨⟨_, rfl, rfl, (.same rfl)⟩, trivial⟩ rfl
 ·obtain ⟨out5, rfl⟩ : ∃ x, x = z := ⟨_, rfl⟩
  refine Tr.cutB (fun (out29 : List Int) => ⟨look [(3, .own 1 (List.map (eI .i64) out29))], memOf Γ.n0 (bxs [(1, [.d (.lst 1 (List.map (eI .i64) a1.Alphabet)), .d (.int .i64 a1.States), .d (.lst 1 (List.map (eI .i64) a1.Marked)), .d (.lst 3 (List.map e_api_Edge a1.Edges))])]) M, Γ.n0 + 50⟩) h (fun z h => ?_) (fun z h => ?_)
  ·refine sr ((md rfl (nt ((Tr.block ?_)))))
   refine Tr.loop (mk := fun ((out6, i7) : (List Int) × Int) => ⟨look [(1, .ptr (Γ.n0 + 1) 0), (3, .own 1 (List.map (eI .i64) out6)), (4, .d (.int .i64 i7))], memOf Γ.n0 (bxs [(1, [.d (.lst 1 (List.map (eI .i64) a1.Alphabet)), .d (.int .i64 a1.States), .d (.lst 1 (List.map (eI .i64) a1.Marked)), .d (.lst 3 (List.map e_api_Edge a1.Edges))])]) M, Γ.n0 + 50⟩) h (by show WeakSt Γ (clean _ _ _) ⟨look _, memOf _ (bxs _) _, _⟩; exact weak_clean ⟨(kPtr rfl), ⟨(.same rfl), ⟨(.same rfl), trivial⟩⟩⟩ ⟨⟨_, rfl, rfl, (.same rfl)⟩, trivial⟩ rfl) (fun k8 z h => ?_)
   ·obtain ⟨out6, i7⟩ := z
    replace h : _ = some _ := h
    refine Tr.seq (sr ((md rfl (Rn.mov (v := .d (.lst 1 (List.map (eI .i64) out6))) trivial rfl (Rn.lenD trivial rfl (Rn.bin trivial rfl rfl rfl (Rn.nil (toN ?_))))))))
    refine Tr.cond rfl (fun hb9 => ?_) (fun hb9 => ?_)
    ·replace h := ifT hb9 h
     refine Tr.skip (toN ?_)
     refine Tr.cutB (fun (out28 : List Int) => ⟨look [(1, .ptr (Γ.n0 + 1) 0), (3, .own 1 (List.map (eI .i64) out28)), (4, .d (.int .i64 i7))], memOf Γ.n0 (bxs [(1, [.d (.lst 1 (List.map (eI .i64) a1.Alphabet)), .d (.int .i64 a1.States), .d (.lst 1 (List.map (eI .i64) a1.Marked)), .d (.lst 3 (List.map e_api_Edge a1.Edges))])]) M, Γ.n0 + 50⟩) h (fun z h => ?_) (fun z h => ?_)
     ·refine Tr.block (sr ((md rfl (nt ((Tr.block ?_))))))
      refine Tr.loop (mk := fun ((out10, k11) : (List Int) × Int) => ⟨look [(1, .ptr (Γ.n0 + 1) 0), (3, .own 1 (List.map (eI .i64) out10)), (4, .d (.int .i64 i7)), (5, .d (.int .i64 k11))], memOf Γ.n0 (bxs [(1, [.d (.lst 1 (List.map (eI .i64) a1.Alphabet)), .d (.int .i64 a1.States), .d (.lst 1 (List.map (eI .i64) a1.Marked)), .d (.lst 3 (List.map e_api_Edge a1.Edges))])]) M, Γ.n0 + 50⟩) h (by show WeakSt Γ (clean _ _ _) ⟨look _, memOf _ (bxs _) _, _⟩; exact weak_clean ⟨(kPtr rfl), ⟨(.same rfl), ⟨(.same rfl), ⟨(.same rfl), trivial⟩⟩⟩⟩ ⟨⟨_, rfl, rfl, (.same rfl)⟩, trivial⟩ rfl) (fun k12 z h => ?_)
      ·obtain ⟨out10, k11⟩ := z
       replace h : _ = some _ := h
       refine Tr.seq (sr ((md rfl (Rn.fldP (o' := 0) trivial rfl rfl (Rn.load (v := .d (.lst 1 (List.map (eI .i64) a1.Alphabet))) trivial rfl (boxOwn rfl) rfl rfl (Rn.lenD trivial rfl (Rn.bin trivial rfl rfl rfl (Rn.nil (toN ?_)))))))))
       refine Tr.cond rfl (fun hb13 => ?_) (fun hb13 => ?_)
       ·replace h := ifT hb13 h
        refine Tr.skip (toN ?_)
        refine Tr.cutB (fun (out27 : List Int) => ⟨look [(1, .ptr (Γ.n0 + 1) 0), (3, .own 1 (List.map (eI .i64) out27)), (4, .d (.int .i64 i7)), (5, .d (.int .i64 k11))], memOf Γ.n0 (bxs [(1, [.d (.lst 1 (List.map (eI .i64) a1.Alphabet)), .d (.int .i64 a1.States), .d (.lst 1 (List.map (eI .i64) a1.Marked)), .d (.lst 3 (List.map e_api_Edge a1.Edges))])]) M, Γ.n0 + 50⟩) h (fun z h => ?_) (fun z h => ?_)
        ·refine Tr.block (Tr.seq ?_)
         refine Tr.rgnD (by decide) ?_
         refine Rn.load (v := .agg [.d (.lst 1 (List.map (eI .i64) a1.Alphabet)), .d (.int .i64 a1.States), .d (.lst 1 (List.map (eI .i64) a1.Marked)), .d (.lst 3 (List.map e_api_Edge a1.Edges))]) trivial rfl (boxOwn rfl) rfl rfl (Rn.mov (v := .d (.lst 1 (List.map (eI .i64) out10))) trivial rfl (md rfl ?_))
         obtain ⟨x14, h15, h⟩ := bnd h
         refine Rn.idxD (e := (eI .i64)) trivial rfl rfl h15 (Rn.loadC (x := .int .i64 x14) trivial rfl (Rn.fldP (o' := 0) trivial rfl rfl (Rn.load (v := .d (.lst 1 (List.map (eI .i64) a1.Alphabet))) trivial rfl (boxOwn rfl) rfl rfl (md rfl ?_))))
         obtain ⟨x16, h17, h⟩ := bnd h
         refine Rn.idxD (e := (eI .i64)) trivial rfl rfl h17 (Rn.loadC (x := .int .i64 x16) trivial rfl ?_)
         obtain ⟨x19, h18, h⟩ := bnd h
         refine Rn.call (args := [.agg [.d (.lst 1 (List.map (eI .i64) a1.Alphabet)), .d (.int .i64 a1.States), .d (.lst 1 (List.map (eI .i64) a1.Marked)), .d (.lst 3 (List.map e_api_Edge a1.Edges))], .d (.int .i64 x14), .d (.int .i64 x16)]) trivial rfl (H_overseerref03_Step _ _ _ _ h18) pc0 (md rfl ?_)
         refine Rn.nil ⟨rfl, ?_⟩
         refine toN ?_
         refine Tr.cutB (fun (x23 : Bool) => ⟨look [(1, .ptr (Γ.n0 + 1) 0), (3, .own 1 (List.map (eI .i64) out10)), (4, .d (.int .i64 i7)), (5, .d (.int .i64 k11)), (6, .d (.int .i64 x19)), (44, .d (.bool x23))], memOf Γ.n0 (bxs [(1, [.d (.lst 1 (List.map (eI .i64) a1.Alphabet)), .d (.int .i64 a1.States), .d (.lst 1 (List.map (eI .i64) a1.Marked)), .d (.lst 3 (List.map e_api_Edge a1.Edges))])]) M, Γ.n0 + 50⟩) h (fun z h => ?_) (fun z h => ?_)
         ·refine Tr.rgn (md rfl (Rn.bin trivial rfl rfl rfl (md rfl ?_)))
          refine bsplit (decide (x19 ≥ 0)) (fun hb20 => ?_) (fun hb20 => ?_)
          ·replace h := ifT hb20 h
           refine Rn.mov (v := .d (.lst 1 (List.map (eI .i64) out10))) (gw rfl hb20) rfl (Rn.movD (gw rfl hb20) rfl ?_)
           obtain ⟨x22, h21, h⟩ := bnd h
           refine Rn.call (args := [.d (.lst 1 (List.map (eI .i64) out10)), .d (.int .i64 x19)]) (gw rfl hb20) rfl (H_overseerref03_has _ _ _ h21) pc9 (Rn.un (gw rfl hb20) rfl rfl (Rn.pickT (v := .d (.bool (!x22))) trivial rfl hb20 rfl (Rn.nil ?_)))
           replace h := si h; subst h
           show WeakSt Γ _ ⟨look _, memOf _ (bxs _) _, _⟩; exact weak_cut [] ⟨(kPtr rfl), ⟨(.same rfl), ⟨(.same rfl), ⟨(.same rfl), ⟨(.same rfl), ⟨(.same rfl), trivial⟩⟩⟩⟩⟩⟩ ⟨⟨_, rfl, rfl, (.same rfl)⟩, trivial⟩ rfl
          ·replace h := ifF hb20 h
           refine Rn.sk (nw rfl hb20) (Rn.sk (nw rfl hb20) (Rn.sk (nw rfl hb20) (Rn.sk (nw rfl hb20) (Rn.pickF (v := .d (.bool false)) trivial rfl hb20 rfl (Rn.nil ?_)))))
           replace h := si h; subst h
           show WeakSt Γ _ ⟨look _, memOf _ (bxs _) _, _⟩; exact weak_cut [] ⟨(kPtr rfl), ⟨(.same rfl), ⟨(.same rfl), ⟨(.same rfl), ⟨(.same rfl), ⟨(.same rfl), trivial⟩⟩⟩⟩⟩⟩ ⟨⟨_, rfl, rfl, (.same rfl)⟩, trivial⟩ rfl
         ·obtain ⟨x23, rfl⟩ : ∃ x, x = z := ⟨_, rfl⟩
          refine Tr.cond rfl (fun hb24 => ?_) (fun hb24 => ?_)
          ·replace h := bT hb24 h
           refine Tr.rgn (Rn.movTO trivial rfl (md rfl (Rn.bslice (xs := [.d (.int .i64 x19)]) (cs := [.d (.int .i64 x19)]) trivial rfl rfl rfl rfl ?_)))
           obtain ⟨x25, h26, h⟩ := bnd h
           refine Rn.app (e := (eI .i64)) trivial rfl rfl rfl (elems_box rfl rfl rfl) h26 rfl (Rn.movTO trivial rfl (Rn.nil ?_))
           replace h := si h; subst h
           show WeakSt Γ _ ⟨look _, memOf _ (bxs _) _, _⟩; exact weak_cut [47] ⟨(kPtr rfl), ⟨(.same rfl), ⟨(.same rfl), ⟨(.same rfl), trivial⟩⟩⟩⟩ ⟨⟨_, rfl, rfl, (.same rfl)⟩, trivial⟩ rfl
          ·replace h := bF hb24 h
           refine Tr.skip ?_
           replace h := si h; subst h
           show WeakSt Γ _ ⟨look _, memOf _ (bxs _) _, _⟩; exact weak_cut [] ⟨(kPtr rfl), ⟨(.same rfl), ⟨(.same rfl), ⟨(.same rfl), trivial⟩⟩⟩⟩ ⟨⟨_, rfl, rfl, (.same rfl)⟩, trivial⟩ rfl
        ·obtain ⟨out27, rfl⟩ : ∃ x, x = z := ⟨_, rfl⟩
         refine Tr.rgn (md rfl (Rn.bin trivial rfl rfl rfl (md rfl (Rn.nil ?_))))
         exact ⟨_, h, (by show WeakSt Γ (clean _ _ _) ⟨look _, memOf _ (bxs _) _, _⟩; exact weak_clean ⟨(kPtr rfl), ⟨(.same rfl), ⟨(.same rfl), ⟨(.same rfl), trivial⟩⟩⟩⟩ ⟨⟨_, rfl, rfl, (.same rfl)⟩, trivial⟩ rfl)⟩
       ·replace h := ifF hb13 h
        refine Tr.exit ?_
        replace h := si h; subst h
        show WeakSt Γ _ ⟨look _, memOf _ (bxs _) _, _⟩; exact weak_cut [] ⟨(kPtr rfl), ⟨(.same rfl), ⟨(.same rfl), trivial⟩⟩⟩ ⟨⟨_, rfl, rfl, (.same rfl)⟩, trivial⟩ rfl
     ·obtain ⟨out28, rfl⟩ : ∃ x, x = z := ⟨_, rfl⟩
      refine Tr.rgn (md rfl (Rn.bin trivial rfl rfl rfl (md rfl (Rn.nil ?_))))
      exact ⟨_, h, (by show WeakSt Γ (clean _ _ _) ⟨look _, memOf _ (bxs _) _, _⟩; exact weak_clean ⟨(kPtr rfl), ⟨(.same rfl), ⟨(.same rfl), trivial⟩⟩⟩ ⟨⟨_, rfl, rfl, (.same rfl)⟩, trivial⟩ rfl)⟩
    ·replace h := ifF hb9 h
     refine Tr.exit ?_
     replace h := si h; subst h
     show WeakSt Γ _ ⟨look _, memOf _ (bxs _) _, _⟩; exact weak_cut [] ⟨(.same rfl), trivial⟩ ⟨⟨_, rfl, rfl, (.same rfl)⟩, trivial⟩ rfl
  ·obtain ⟨out29, rfl⟩ : ∃ x, x = z := ⟨_, rfl⟩
   refine sr ((Rn.movTO trivial rfl (Rn.movTO trivial rfl (nt ((Tr.ret ?_))))))
   replace h := si h; subst h
   exact ⟨.inr rfl, (.own 1 (List.map (eI .i64) out29)), rfl, fun _ _ _ _ h => h, trivial, fun k hk => memOf_base hk⟩
theorem overseerref03_index_walk {P : Program} {c : Nat} (hcf : compFn P c = some F_overseerref03_index) (fuel : Nat) : K_overseerref03_index P c (f_overseerref03_index fuel) := by
 intro l1 n2 r h
 refine fn_trP hcf rfl fun Γ M hP hnt hM => ?_
 subst hP
 refine Tr.init [(0, .d (.lst 1 (List.map (eI .i64) l1))), (1, .d (.int .i64 n2))] rfl ?_
 unfold f_overseerref03_index at h
 unfold F_overseerref03_index
 refine sr ((md rfl (nt ((Tr.seq (sr ((md rfl (nt ((Tr.block ?_)))))))))))
 refine Tr.loop (mk := fun (i3 : Int) => ⟨look [(0, .d (.lst 1 (List.map (eI .i64) l1))), (1, .d (.int .i64 n2)), (5, .d (.int .i64 i3))], memOf Γ.n0 (bxs []) M, Γ.n0 + 19⟩) h (by show WeakSt Γ (clean _ _ _) ⟨look _, memOf _ (bxs _) _, _⟩; exact weak_clean ⟨(.same rfl), ⟨(.same rfl), ⟨(.same rfl), trivial⟩⟩⟩ trivial rfl) (fun k4 z h => ?_)
 ·obtain ⟨i3, rfl⟩ : ∃ x, x = z := ⟨_, rfl⟩
  replace h : _ = some _ := h
  refine Tr.seq (sr ((md rfl (md rfl (Rn.lenD trivial rfl (Rn.bin trivial rfl rfl rfl (Rn.nil (toN ?_))))))))
  refine Tr.cond rfl (fun hb5 => ?_) (fun hb5 => ?_)
  ·replace h := ifT hb5 h
   refine Tr.skip (toN (Tr.seq (Tr.block (sr ((md rfl (md rfl ?_)))))))
   obtain ⟨x6, h7, h⟩ := bnd h
   refine Rn.idxD (e := (eI .i64)) trivial rfl rfl h7 (Rn.loadC (x := .int .i64 x6) trivial rfl (md rfl (Rn.bin trivial rfl rfl rfl (Rn.nil (toN ?_)))))
   refine Tr.cond rfl (fun hb8 => ?_) (fun hb8 => ?_)
   ·replace h := bT hb8 h
    refine sr ((md rfl (md rfl (nt ((Tr.ret ?_))))))
    replace h := si h; subst h
    exact ⟨.inr rfl, (.d (.int .i64 i3)), rfl, fun _ _ _ _ h => h, trivial, fun k hk => memOf_base hk⟩
   ·replace h := bF hb8 h
    refine Tr.skip (toN (Tr.rgn (md rfl (Rn.bin trivial rfl rfl rfl (md rfl (Rn.nil ?_))))))
    exact ⟨_, h, (by show WeakSt Γ (clean _ _ _) ⟨look _, memOf _ (bxs _) _, _⟩; exact weak_clean ⟨(.same rfl), ⟨(.same rfl), ⟨(.same rfl), trivial⟩⟩⟩ trivial rfl)⟩
  ·replace h := ifF hb5 h
   refine Tr.exit (toN (sr ((md rfl (nt ((Tr.ret ?_)))))))
   replace h := si h; subst h
   exact ⟨.inr rfl, (.d (.int .i64 (-1))), rfl, fun _ _ _ _ h => h, trivial, fun k hk => memOf_base hk⟩
theorem overseerref03_Canonical_walk {P : Program} {c : Nat} {f_overseerref03_Step : api_Automaton → Int → Int → Option Int} {f_overseerref03_Empty : (List Int) → Option api_Automaton} {f_overseerref03_has : (List Int) → Int → Option Bool} {f_overseerref03_index : (List Int) → Int → Option Int} {f_overseerref03_Found : api_Automaton → Option ((List Int))}
    (H_overseerref03_Step : K_overseerref03_Step P 40 f_overseerref03_Step)
    (H_overseerref03_Empty : K_overseerref03_Empty P 47 f_overseerref03_Empty)
    (H_overseerref03_has : K_overseerref03_has P 51 f_overseerref03_has)
    (H_overseerref03_index : K_overseerref03_index P 57 f_overseerref03_index)
    (H_overseerref03_Found : K_overseerref03_Found P 61 f_overseerref03_Found) (hcf : compFn P c = some F_overseerref03_Canonical) (fuel : Nat) : K_overseerref03_Canonical P c (f_overseerref03_Canonical f_overseerref03_Step f_overseerref03_Empty f_overseerref03_has f_overseerref03_index f_overseerref03_Found fuel) := by
 intro a1 r h
 refine fn_trP hcf rfl fun Γ M hP hnt hM => ?_
 subst hP
 refine Tr.init [(0, .agg [.d (.lst 1 (List.map (eI .i64) a1.Alphabet)), .d (.int .i64 a1.States), .d (.lst 1 (List.map (eI .i64) a1.Marked)), .d (.lst 3 (List.map e_api_Edge a1.Edges))])] rfl ?_
 unfold f_overseerref03_Canonical at h
 unfold F_overseerref03_Canonical
 refine sr ((Rn.box (v := .agg [.d (.lst 1 (List.map (eI .i64) a1.Alphabet)), .d (.int .i64 a1.States), .d (.lst 1 (List.map (eI .i64) a1.Marked)), .d (.lst 3 (List.map e_api_Edge a1.Edges))]) (cs := [.d (.lst 1 (List.map (eI .i64) a1.Alphabet)), .d (.int .i64 a1.States), .d (.lst 1 (List.map (eI .i64) a1.Marked)), .d (.lst 3 (List.map e_api_Edge a1.Edges))]) trivial rfl rfl rfl rfl rfl (Rn.alloc trivial rfl (nt ((sr ((Rn.load (v := .agg [.d (.lst 1 (List.map (eI .i64) a1.Alphabet)), .d (.int .i64 a1.States), .d (.lst 1 (List.map (eI .i64) a1.Marked)), .d (.lst 3 (List.map e_api_Edge a1.Edges))]) trivial rfl (boxOwn rfl) rfl rfl ?_))))))))
 obtain ⟨x3, h2, h⟩ := bnd h
 refine Rn.call (args := [.agg [.d (.lst 1 (List.map (eI .i64) a1.Alphabet)), .d (.int .i64 a1.States), .d (.lst 1 (List.map (eI .i64) a1.Marked)), .d (.lst 3 (List.map e_api_Edge a1.Edges))]]) trivial rfl (H_overseerref03_Found _ _ h2) pc9 (Rn.movTO trivial rfl (nt ((sr ((Rn.fldP (o' := 0) trivial rfl rfl (Rn.load (v := .d (.lst 1 (List.map (eI .i64) a1.Alphabet))) trivial rfl (boxOwn rfl) rfl rfl ?_)))))))
 obtain ⟨x5, h4, h⟩ := bnd h
 refine Rn.call (args := [.d (.lst 1 (List.map (eI .i64) a1.Alphabet))]) trivial rfl (H_overseerref03_Empty _ _ h4) pc9 (Rn.alloc trivial rfl (Rn.store (v := .agg [.d (.lst 1 (List.map (eI .i64) x5.Alphabet)), .d (.int .i64 x5.States), .nils 1, .nils 3]) (cs' := [.d (.lst 1 (List.map (eI .i64) x5.Alphabet)), .d (.int .i64 x5.States), .nils 1, .nils 3]) trivial rfl rfl rfl rfl rfl rfl (nt ((sr ((Rn.mov (v := .d (.lst 1 (List.map (eI .i64) x3))) trivial rfl (Rn.lenD trivial rfl (Rn.fldP (o' := 1) trivial rfl rfl (Rn.store (v := .d (.int .i64 (x3.length : Int))) (cs' := [.d (.lst 1 (List.map (eI .i64) x5.Alphabet)), .d (.int .i64 (x3.length : Int)), .nils 1, .nils 3]) trivial rfl rfl rfl rfl rfl rfl (Rn.nil (toN ?_))))))))))))
 refine Tr.cutB (fun ((c42, c43, c44, out45, out46) : (List Int) × (List Int) × (List api_Edge) × (List Int) × (List api_Edge)) => ⟨look [(2, .ptr (Γ.n0 + 2) 0), (4, .ptr (Γ.n0 + 4) 0)], memOf Γ.n0 (bxs [(1, [.d (.lst 1 (List.map (eI .i64) a1.Alphabet)), .d (.int .i64 a1.States), .d (.lst 1 (List.map (eI .i64) a1.Marked)), .d (.lst 3 (List.map e_api_Edge a1.Edges))]), (2, [.own 1 (List.map (eI .i64) c42), .d (.int .i64 0), .own 1 (List.map (eI .i64) c43), .own 3 (List.map e_api_Edge c44)]), (4, [.d (.lst 1 (List.map (eI .i64) x5.Alphabet)), .d (.int .i64 (x3.length : Int)), .own 1 (List.map (eI .i64) out45), .own 3 (List.map e_api_Edge out46)])]) M, Γ.n0 + 71⟩) h (fun z h => ?_) (fun z h => ?_)
 ·refine sr ((md rfl (nt ((Tr.block ?_)))))
  refine Tr.loop (mk := fun ((i6, c7, c8, c9, out10, out11) : Int × (List Int) × (List Int) × (List api_Edge) × (List Int) × (List api_Edge)) => ⟨look [(1, .ptr (Γ.n0 + 1) 0), (2, .ptr (Γ.n0 + 2) 0), (3, .own 1 (List.map (eI .i64) x3)), (4, .ptr (Γ.n0 + 4) 0), (5, .d (.int .i64 i6))], memOf Γ.n0 (bxs [(1, [.d (.lst 1 (List.map (eI .i64) a1.Alphabet)), .d (.int .i64 a1.States), .d (.lst 1 (List.map (eI .i64) a1.Marked)), .d (.lst 3 (List.map e_api_Edge a1.Edges))]), (2, [.own 1 (List.map (eI .i64) c7), .d (.int .i64 0), .own 1 (List.map (eI .i64) c8), .own 3 (List.map e_api_Edge c9)]), (4, [.d (.lst 1 (List.map (eI .i64) x5.Alphabet)), .d (.int .i64 (x3.length : Int)), .own 1 (List.map (eI .i64) out10), .own 3 (List.map e_api_Edge out11)])]) M, Γ.n0 + 71⟩) h (by show WeakSt Γ (clean _ _ _) ⟨look _, memOf _ (bxs _) _, _⟩; exact weak_clean ⟨(kPtr rfl), ⟨(kPtr rfl), ⟨(.same rfl), ⟨(kPtr rfl), ⟨(.same rfl), trivial⟩⟩⟩⟩⟩ ⟨⟨_, rfl, rfl, (.same rfl)⟩, ⟨⟨_, rfl, rfl, (.cons (WkV.nilsO _) (.cons (.same rfl) (.cons (WkV.nilsO _) (.cons (WkV.nilsO _) .nil))))⟩, ⟨⟨_, rfl, rfl, (.cons (.same rfl) (.cons (.same rfl) (.cons (WkV.nilsO _) (.cons (WkV.nilsO _) .nil))))⟩, trivial⟩⟩⟩ rfl) (fun k12 z h => ?_)
  ·obtain ⟨i6, c7, c8, c9, out10, out11⟩ := z
   replace h : _ = some _ := h
   refine Tr.seq (sr ((md rfl (Rn.mov (v := .d (.lst 1 (List.map (eI .i64) x3))) trivial rfl (Rn.lenD trivial rfl (Rn.bin trivial rfl rfl rfl (Rn.nil (toN ?_))))))))
   refine Tr.cond rfl (fun hb13 => ?_) (fun hb13 => ?_)
   ·replace h := ifT hb13 h
    refine Tr.skip (toN ?_)
    refine Tr.cutB (fun ((out40, out41) : (List Int) × (List api_Edge)) => ⟨look [(1, .ptr (Γ.n0 + 1) 0), (2, .ptr (Γ.n0 + 2) 0), (3, .own 1 (List.map (eI .i64) x3)), (4, .ptr (Γ.n0 + 4) 0), (5, .d (.int .i64 i6))], memOf Γ.n0 (bxs [(1, [.d (.lst 1 (List.map (eI .i64) a1.Alphabet)), .d (.int .i64 a1.States), .d (.lst 1 (List.map (eI .i64) a1.Marked)), .d (.lst 3 (List.map e_api_Edge a1.Edges))]), (2, [.own 1 (List.map (eI .i64) c7), .d (.int .i64 0), .own 1 (List.map (eI .i64) c8), .own 3 (List.map e_api_Edge c9)]), (4, [.d (.lst 1 (List.map (eI .i64) x5.Alphabet)), .d (.int .i64 (x3.length : Int)), .own 1 (List.map (eI .i64) out40), .own 3 (List.map e_api_Edge out41)])]) M, Γ.n0 + 71⟩) h (fun z h => ?_) (fun z h => ?_)
    ·refine Tr.block ?_
     refine Tr.cutB (fun (out21 : List Int) => ⟨look [(1, .ptr (Γ.n0 + 1) 0), (2, .ptr (Γ.n0 + 2) 0), (3, .own 1 (List.map (eI .i64) x3)), (4, .ptr (Γ.n0 + 4) 0), (5, .d (.int .i64 i6))], memOf Γ.n0 (bxs [(1, [.d (.lst 1 (List.map (eI .i64) a1.Alphabet)), .d (.int .i64 a1.States), .d (.lst 1 (List.map (eI .i64) a1.Marked)), .d (.lst 3 (List.map e_api_Edge a1.Edges))]), (2, [.own 1 (List.map (eI .i64) c7), .d (.int .i64 0), .own 1 (List.map (eI .i64) c8), .own 3 (List.map e_api_Edge c9)]), (4, [.d (.lst 1 (List.map (eI .i64) x5.Alphabet)), .d (.int .i64 (x3.length : Int)), .own 1 (List.map (eI .i64) out21), .own 3 (List.map e_api_Edge out11)])]) M, Γ.n0 + 71⟩) h (fun z h => ?_) (fun z h => ?_)
     ·refine Tr.seq ?_
      refine Tr.rgnD (by decide) ?_
      refine Rn.fldP (o' := 2) trivial rfl rfl (Rn.load (v := .d (.lst 1 (List.map (eI .i64) a1.Marked))) trivial rfl (boxOwn rfl) rfl rfl (Rn.mov (v := .d (.lst 1 (List.map (eI .i64) x3))) trivial rfl (md rfl ?_)))
      obtain ⟨x14, h15, h⟩ := bnd h
      refine Rn.idxD (e := (eI .i64)) trivial rfl rfl h15 (Rn.loadC (x := .int .i64 x14) trivial rfl ?_)
      obtain ⟨x17, h16, h⟩ := bnd h
      refine Rn.call (args := [.d (.lst 1 (List.map (eI .i64) a1.Marked)), .d (.int .i64 x14)]) trivial rfl (H_overseerref03_has _ _ _ h16) pc0 ?_
      refine Rn.nil ⟨rfl, ?_⟩
      refine toN ?_
      refine Tr.cond rfl (fun hb18 => ?_) (fun hb18 => ?_)
      ·replace h := bT hb18 h
       refine Tr.rgn (Rn.fldP (o' := 2) trivial rfl rfl (Rn.loadT (cs' := [.d (.lst 1 (List.map (eI .i64) x5.Alphabet)), .d (.int .i64 (x3.length : Int)), .d (.lst 1 (List.map (eI .i64) out10)), .own 3 (List.map e_api_Edge out11)]) trivial rfl rfl rfl rfl (md rfl (Rn.bslice (xs := [.d (.int .i64 i6)]) (cs := [.d (.int .i64 i6)]) trivial rfl rfl rfl rfl ?_))))
       obtain ⟨x19, h20, h⟩ := bnd h
       refine Rn.app (e := (eI .i64)) trivial rfl rfl rfl (elems_box rfl rfl rfl) h20 rfl (Rn.fldP (o' := 2) trivial rfl rfl (Rn.storeO (cs' := [.d (.lst 1 (List.map (eI .i64) x5.Alphabet)), .d (.int .i64 (x3.length : Int)), .own 1 (List.map (eI .i64) x19), .own 3 (List.map e_api_Edge out11)]) trivial rfl rfl rfl rfl rfl (Rn.nil ?_)))
       replace h := si h; subst h
       show WeakSt Γ _ ⟨look _, memOf _ (bxs _) _, _⟩; exact weak_cut [32] ⟨(kPtr rfl), ⟨(kPtr rfl), ⟨(.same rfl), ⟨(kPtr rfl), ⟨(.same rfl), trivial⟩⟩⟩⟩⟩ ⟨⟨_, rfl, rfl, (.same rfl)⟩, ⟨⟨_, rfl, rfl, (.same rfl)⟩, ⟨⟨_, rfl, rfl, (.same rfl)⟩, trivial⟩⟩⟩ rfl
      ·replace h := bF hb18 h
       refine Tr.skip ?_
       replace h := si h; subst h
       show WeakSt Γ _ ⟨look _, memOf _ (bxs _) _, _⟩; exact weak_cut [] ⟨(kPtr rfl), ⟨(kPtr rfl), ⟨(.same rfl), ⟨(kPtr rfl), ⟨(.same rfl), trivial⟩⟩⟩⟩⟩ ⟨⟨_, rfl, rfl, (.same rfl)⟩, ⟨⟨_, rfl, rfl, (.same rfl)⟩, ⟨⟨_, rfl, rfl, (.same rfl)⟩, trivial⟩⟩⟩ rfl
     ·obtain ⟨out21, rfl⟩ : ∃ x, x = z := ⟨_, rfl⟩
      refine sr ((md rfl (nt ((Tr.block ?_)))))
      refine Tr.loop (mk := fun ((k22, out23) : Int × (List api_Edge)) => ⟨look [(1, .ptr (Γ.n0 + 1) 0), (2, .ptr (Γ.n0 + 2) 0), (3, .own 1 (List.map (eI .i64) x3)), (4, .ptr (Γ.n0 + 4) 0), (5, .d (.int .i64 i6)), (6, .d (.int .i64 k22))], memOf Γ.n0 (bxs [(1, [.d (.lst 1 (List.map (eI .i64) a1.Alphabet)), .d (.int .i64 a1.States), .d (.lst 1 (List.map (eI .i64) a1.Marked)), .d (.lst 3 (List.map e_api_Edge a1.Edges))]), (2, [.own 1 (List.map (eI .i64) c7), .d (.int .i64 0), .own 1 (List.map (eI .i64) c8), .own 3 (List.map e_api_Edge c9)]), (4, [.d (.lst 1 (List.map (eI .i64) x5.Alphabet)), .d (.int .i64 (x3.length : Int)), .own 1 (List.map (eI .i64) out21), .own 3 (List.map e_api_Edge out23)])]) M, Γ.n0 + 71⟩) h (by show WeakSt Γ (clean _ _ _) ⟨look _, memOf _ (bxs _) _, _⟩; exact weak_clean ⟨(kPtr rfl), ⟨(kPtr rfl), ⟨(.same rfl), ⟨(kPtr rfl), ⟨(.same rfl), ⟨(.same rfl), trivial⟩⟩⟩⟩⟩⟩ ⟨⟨_, rfl, rfl, (.same rfl)⟩, ⟨⟨_, rfl, rfl, (.same rfl)⟩, ⟨⟨_, rfl, rfl, (.same rfl)⟩, trivial⟩⟩⟩ rfl) (fun k24 z h => ?_)
      ·obtain ⟨k22, out23⟩ := z
       replace h : _ = some _ := h
       refine Tr.seq (sr ((md rfl (Rn.fldP (o' := 0) trivial rfl rfl (Rn.load (v := .d (.lst 1 (List.map (eI .i64) a1.Alphabet))) trivial rfl (boxOwn rfl) rfl rfl (Rn.lenD trivial rfl (Rn.bin trivial rfl rfl rfl (Rn.nil (toN ?_)))))))))
       refine Tr.cond rfl (fun hb25 => ?_) (fun hb25 => ?_)
       ·replace h := ifT hb25 h
        refine Tr.skip (toN ?_)
        refine Tr.cutB (fun (out39 : List api_Edge) => ⟨look [(1, .ptr (Γ.n0 + 1) 0), (2, .ptr (Γ.n0 + 2) 0), (3, .own 1 (List.map (eI .i64) x3)), (4, .ptr (Γ.n0 + 4) 0), (5, .d (.int .i64 i6)), (6, .d (.int .i64 k22))], memOf Γ.n0 (bxs [(1, [.d (.lst 1 (List.map (eI .i64) a1.Alphabet)), .d (.int .i64 a1.States), .d (.lst 1 (List.map (eI .i64) a1.Marked)), .d (.lst 3 (List.map e_api_Edge a1.Edges))]), (2, [.own 1 (List.map (eI .i64) c7), .d (.int .i64 0), .own 1 (List.map (eI .i64) c8), .own 3 (List.map e_api_Edge c9)]), (4, [.d (.lst 1 (List.map (eI .i64) x5.Alphabet)), .d (.int .i64 (x3.length : Int)), .own 1 (List.map (eI .i64) out21), .own 3 (List.map e_api_Edge out39)])]) M, Γ.n0 + 71⟩) h (fun z h => ?_) (fun z h => ?_)
        ·refine Tr.block (Tr.seq ?_)
         refine Tr.rgnD (by decide) ?_
         refine Rn.load (v := .agg [.d (.lst 1 (List.map (eI .i64) a1.Alphabet)), .d (.int .i64 a1.States), .d (.lst 1 (List.map (eI .i64) a1.Marked)), .d (.lst 3 (List.map e_api_Edge a1.Edges))]) trivial rfl (boxOwn rfl) rfl rfl (Rn.mov (v := .d (.lst 1 (List.map (eI .i64) x3))) trivial rfl (md rfl ?_))
         obtain ⟨x26, h27, h⟩ := bnd h
         refine Rn.idxD (e := (eI .i64)) trivial rfl rfl h27 (Rn.loadC (x := .int .i64 x26) trivial rfl (Rn.fldP (o' := 0) trivial rfl rfl (Rn.load (v := .d (.lst 1 (List.map (eI .i64) a1.Alphabet))) trivial rfl (boxOwn rfl) rfl rfl (md rfl ?_))))
         obtain ⟨x28, h29, h⟩ := bnd h
         refine Rn.idxD (e := (eI .i64)) trivial rfl rfl h29 (Rn.loadC (x := .int .i64 x28) trivial rfl ?_)
         obtain ⟨x31, h30, h⟩ := bnd h
         refine Rn.call (args := [.agg [.d (.lst 1 (List.map (eI .i64) a1.Alphabet)), .d (.int .i64 a1.States), .d (.lst 1 (List.map (eI .i64) a1.Marked)), .d (.lst 3 (List.map e_api_Edge a1.Edges))], .d (.int .i64 x26), .d (.int .i64 x28)]) trivial rfl (H_overseerref03_Step _ _ _ _ h30) pc0 (md rfl ?_)
         refine Rn.nil ⟨rfl, ?_⟩
         refine toN (sr ((md rfl (Rn.bin trivial rfl rfl rfl (Rn.nil (toN ?_))))))
         refine Tr.cond rfl (fun hb32 => ?_) (fun hb32 => ?_)
         ·replace h := ifT hb32 h
          refine Tr.rgnD (by decide) ?_
          refine Rn.fldP (o' := 3) trivial rfl rfl (Rn.loadT (cs' := [.d (.lst 1 (List.map (eI .i64) x5.Alphabet)), .d (.int .i64 (x3.length : Int)), .own 1 (List.map (eI .i64) out21), .d (.lst 3 (List.map e_api_Edge out23))]) trivial rfl rfl rfl rfl (md rfl (Rn.fldP (o' := 0) trivial rfl rfl (Rn.load (v := .d (.lst 1 (List.map (eI .i64) a1.Alphabet))) trivial rfl (boxOwn rfl) rfl rfl (md rfl ?_)))))
          obtain ⟨x33, h34, h⟩ := bnd h
          refine Rn.idxD (e := (eI .i64)) trivial rfl rfl h34 (Rn.loadC (x := .int .i64 x33) trivial rfl (Rn.mov (v := .d (.lst 1 (List.map (eI .i64) x3))) trivial rfl (md rfl ?_)))
          obtain ⟨x36, h35, h⟩ := bnd h
          refine Rn.call (args := [.d (.lst 1 (List.map (eI .i64) x3)), .d (.int .i64 x31)]) trivial rfl (H_overseerref03_index _ _ _ h35) pc2 (Rn.build (v := .agg [.d (.int .i64 i6), .d (.int .i64 x33), .d (.int .i64 x36)]) trivial rfl (Rn.bslice (xs := [.agg [.d (.int .i64 i6), .d (.int .i64 x33), .d (.int .i64 x36)]]) (cs := [.d (.int .i64 i6), .d (.int .i64 x33), .d (.int .i64 x36)]) trivial rfl rfl rfl rfl ?_))
          obtain ⟨x37, h38, h⟩ := bnd h
          refine Rn.app (e := e_api_Edge) trivial rfl rfl rfl (elems_box rfl rfl rfl) h38 rfl (Rn.fldP (o' := 3) trivial rfl rfl (Rn.storeO (cs' := [.d (.lst 1 (List.map (eI .i64) x5.Alphabet)), .d (.int .i64 (x3.length : Int)), .own 1 (List.map (eI .i64) out21), .own 3 (List.map e_api_Edge x37)]) trivial rfl rfl rfl rfl rfl ?_))
          refine Rn.nil ⟨rfl, ?_⟩
          replace h := si h; subst h
          show WeakSt Γ _ ⟨look _, memOf _ (bxs _) _, _⟩; exact weak_cut [67] ⟨(kPtr rfl), ⟨(kPtr rfl), ⟨(.same rfl), ⟨(kPtr rfl), ⟨(.same rfl), ⟨(.same rfl), trivial⟩⟩⟩⟩⟩⟩ ⟨⟨_, rfl, rfl, (.same rfl)⟩, ⟨⟨_, rfl, rfl, (.same rfl)⟩, ⟨⟨_, rfl, rfl, (.same rfl)⟩, trivial⟩⟩⟩ rfl
         ·replace h := ifF hb32 h
          refine Tr.skip ?_
          replace h := si h; subst h
          show WeakSt Γ _ ⟨look _, memOf _ (bxs _) _, _⟩; exact weak_cut [] ⟨(kPtr rfl), ⟨(kPtr rfl), ⟨(.same rfl), ⟨(kPtr rfl), ⟨(.same rfl), ⟨(.same rfl), trivial⟩⟩⟩⟩⟩⟩ ⟨⟨_, rfl, rfl, (.same rfl)⟩, ⟨⟨_, rfl, rfl, (.same rfl)⟩, ⟨⟨_, rfl, rfl, (.same rfl)⟩, trivial⟩⟩⟩ rfl
        ·obtain ⟨out39, rfl⟩ : ∃ x, x = z := ⟨_, rfl⟩
         refine Tr.rgn (md rfl (Rn.bin trivial rfl rfl rfl (md rfl (Rn.nil ?_))))
         exact ⟨_, h, (by show WeakSt Γ (clean _ _ _) ⟨look _, memOf _ (bxs _) _, _⟩; exact weak_clean ⟨(kPtr rfl), ⟨(kPtr rfl), ⟨(.same rfl), ⟨(kPtr rfl), ⟨(.same rfl), ⟨(.same rfl), trivial⟩⟩⟩⟩⟩⟩ ⟨⟨_, rfl, rfl, (.same rfl)⟩, ⟨⟨_, rfl, rfl, (.same rfl)⟩, ⟨⟨_, rfl, rfl, (.same rfl)⟩, trivial⟩⟩⟩ rfl)⟩
       ·replace h := ifF hb25 h
        refine Tr.exit ?_
        replace h := si h; subst h
        show WeakSt Γ _ ⟨look _, memOf _ (bxs _) _, _⟩; exact weak_cut [] ⟨(kPtr rfl), ⟨(kPtr rfl), ⟨(.same rfl), ⟨(kPtr rfl), ⟨(.same rfl), trivial⟩⟩⟩⟩⟩ ⟨⟨_, rfl, rfl, (.same rfl)⟩, ⟨⟨_, rfl, rfl, (.same rfl)⟩, ⟨⟨_, rfl, rfl, (.same rfl)⟩, trivial⟩⟩⟩ rfl
    ·obtain ⟨out40, out41⟩ := z
     refine Tr.rgn (md rfl (Rn.bin trivial rfl rfl rfl (md rfl (Rn.nil ?_))))
     exact ⟨_, h, (by show WeakSt Γ (clean _ _ _) ⟨look _, memOf _ (bxs _) _, _⟩; exact weak_clean ⟨(kPtr rfl), ⟨(kPtr rfl), ⟨(.same rfl), ⟨(kPtr rfl), ⟨(.same rfl), trivial⟩⟩⟩⟩⟩ ⟨⟨_, rfl, rfl, (.same rfl)⟩, ⟨⟨_, rfl, rfl, (.same rfl)⟩, ⟨⟨_, rfl, rfl, (.same rfl)⟩, trivial⟩⟩⟩ rfl)⟩
   ·replace h := ifF hb13 h
    refine Tr.exit ?_
    replace h := si h; subst h
    show WeakSt Γ _ ⟨look _, memOf _ (bxs _) _, _⟩; exact weak_cut [] ⟨(kPtr rfl), ⟨(kPtr rfl), trivial⟩⟩ ⟨⟨_, rfl, rfl, (.same rfl)⟩, ⟨⟨_, rfl, rfl, (.same rfl)⟩, ⟨⟨_, rfl, rfl, (.same rfl)⟩, trivial⟩⟩⟩ rfl
 ·obtain ⟨c42, c43, c44, out45, out46⟩ := z
  refine sr ((Rn.load (v := .agg [.d (.lst 1 (List.map (eI .i64) x5.Alphabet)), .d (.int .i64 (x3.length : Int)), .d (.lst 1 (List.map (eI .i64) out45)), .d (.lst 3 (List.map e_api_Edge out46))]) trivial rfl (boxOwn rfl) rfl rfl (Rn.store (v := .agg [.d (.lst 1 (List.map (eI .i64) x5.Alphabet)), .d (.int .i64 (x3.length : Int)), .d (.lst 1 (List.map (eI .i64) out45)), .d (.lst 3 (List.map e_api_Edge out46))]) (cs' := [.d (.lst 1 (List.map (eI .i64) x5.Alphabet)), .d (.int .i64 (x3.length : Int)), .d (.lst 1 (List.map (eI .i64) out45)), .d (.lst 3 (List.map e_api_Edge out46))]) trivial rfl rfl rfl rfl rfl rfl (nt ((Tr.ret ?_))))))
  replace h := si h; subst h
  exact ⟨.inr rfl, (.agg [.d (.lst 1 (List.map (eI .i64) x5.Alphabet)), .d (.int .i64 (x3.length : Int)), .d (.lst 1 (List.map (eI .i64) out45)), .d (.lst 3 (List.map e_api_Edge out46))]), resCell rfl rfl rfl rfl, fun _ _ _ _ h => h, ⟨trivial, trivial, trivial, trivial, trivial⟩, fun k hk => memOf_base hk⟩
theorem overseerlaw03_Make_walk {P : Program} {c : Nat} {f_overseerref03_Canonical : api_Automaton → Option api_Automaton} {f_overseerref03_Empty : (List Int) → Option api_Automaton}
    (H_overseerref03_Canonical : K_overseerref03_Canonical P 28 f_overseerref03_Canonical)
    (H_overseerref03_Empty : K_overseerref03_Empty P 47 f_overseerref03_Empty) (hcf : compFn P c = some F_overseerlaw03_Make) (fuel : Nat) : K_overseerlaw03_Make P c (f_overseerlaw03_Make f_overseerref03_Canonical f_overseerref03_Empty fuel) := by
 intro alphabet1 g2 r h
 refine fn_trP hcf rfl fun Γ M hP hnt hM => ?_
 subst hP
 refine Tr.init [(0, .d (.lst 1 (List.map (eI .i64) alphabet1))), (1, .agg [.d (.int .u8 g2.States), .d (.int .u8 g2.Marks), .d (.int .u8 g2.To.1.1), .d (.int .u8 g2.To.1.2.1), .d (.int .u8 g2.To.1.2.2.1), .d (.int .u8 g2.To.1.2.2.2.1), .d (.int .u8 g2.To.1.2.2.2.2), .d (.int .u8 g2.To.2.1.1), .d (.int .u8 g2.To.2.1.2.1), .d (.int .u8 g2.To.2.1.2.2.1), .d (.int .u8 g2.To.2.1.2.2.2.1), .d (.int .u8 g2.To.2.1.2.2.2.2), .d (.int .u8 g2.To.2.2.1.1), .d (.int .u8 g2.To.2.2.1.2.1), .d (.int .u8 g2.To.2.2.1.2.2.1), .d (.int .u8 g2.To.2.2.1.2.2.2.1), .d (.int .u8 g2.To.2.2.1.2.2.2.2), .d (.int .u8 g2.To.2.2.2.1.1), .d (.int .u8 g2.To.2.2.2.1.2.1), .d (.int .u8 g2.To.2.2.2.1.2.2.1), .d (.int .u8 g2.To.2.2.2.1.2.2.2.1), .d (.int .u8 g2.To.2.2.2.1.2.2.2.2), .d (.int .u8 g2.To.2.2.2.2.1), .d (.int .u8 g2.To.2.2.2.2.2.1), .d (.int .u8 g2.To.2.2.2.2.2.2.1), .d (.int .u8 g2.To.2.2.2.2.2.2.2.1), .d (.int .u8 g2.To.2.2.2.2.2.2.2.2)])] rfl ?_
 unfold f_overseerlaw03_Make at h
 unfold F_overseerlaw03_Make
 refine sr ((Rn.box (v := .agg [.d (.int .u8 g2.States), .d (.int .u8 g2.Marks), .d (.int .u8 g2.To.1.1), .d (.int .u8 g2.To.1.2.1), .d (.int .u8 g2.To.1.2.2.1), .d (.int .u8 g2.To.1.2.2.2.1), .d (.int .u8 g2.To.1.2.2.2.2), .d (.int .u8 g2.To.2.1.1), .d (.int .u8 g2.To.2.1.2.1), .d (.int .u8 g2.To.2.1.2.2.1), .d (.int .u8 g2.To.2.1.2.2.2.1), .d (.int .u8 g2.To.2.1.2.2.2.2), .d (.int .u8 g2.To.2.2.1.1), .d (.int .u8 g2.To.2.2.1.2.1), .d (.int .u8 g2.To.2.2.1.2.2.1), .d (.int .u8 g2.To.2.2.1.2.2.2.1), .d (.int .u8 g2.To.2.2.1.2.2.2.2), .d (.int .u8 g2.To.2.2.2.1.1), .d (.int .u8 g2.To.2.2.2.1.2.1), .d (.int .u8 g2.To.2.2.2.1.2.2.1), .d (.int .u8 g2.To.2.2.2.1.2.2.2.1), .d (.int .u8 g2.To.2.2.2.1.2.2.2.2), .d (.int .u8 g2.To.2.2.2.2.1), .d (.int .u8 g2.To.2.2.2.2.2.1), .d (.int .u8 g2.To.2.2.2.2.2.2.1), .d (.int .u8 g2.To.2.2.2.2.2.2.2.1), .d (.int .u8 g2.To.2.2.2.2.2.2.2.2)]) (cs := [.d (.int .u8 g2.States), .d (.int .u8 g2.Marks), .d (.int .u8 g2.To.1.1), .d (.int .u8 g2.To.1.2.1), .d (.int .u8 g2.To.1.2.2.1), .d (.int .u8 g2.To.1.2.2.2.1), .d (.int .u8 g2.To.1.2.2.2.2), .d (.int .u8 g2.To.2.1.1), .d (.int .u8 g2.To.2.1.2.1), .d (.int .u8 g2.To.2.1.2.2.1), .d (.int .u8 g2.To.2.1.2.2.2.1), .d (.int .u8 g2.To.2.1.2.2.2.2), .d (.int .u8 g2.To.2.2.1.1), .d (.int .u8 g2.To.2.2.1.2.1), .d (.int .u8 g2.To.2.2.1.2.2.1), .d (.int .u8 g2.To.2.2.1.2.2.2.1), .d (.int .u8 g2.To.2.2.1.2.2.2.2), .d (.int .u8 g2.To.2.2.2.1.1), .d (.int .u8 g2.To.2.2.2.1.2.1), .d (.int .u8 g2.To.2.2.2.1.2.2.1), .d (.int .u8 g2.To.2.2.2.1.2.2.2.1), .d (.int .u8 g2.To.2.2.2.1.2.2.2.2), .d (.int .u8 g2.To.2.2.2.2.1), .d (.int .u8 g2.To.2.2.2.2.2.1), .d (.int .u8 g2.To.2.2.2.2.2.2.1), .d (.int .u8 g2.To.2.2.2.2.2.2.2.1), .d (.int .u8 g2.To.2.2.2.2.2.2.2.2)]) trivial rfl rfl rfl rfl rfl (Rn.alloc trivial rfl (nt ((Tr.seq (sr ((Rn.fldP (o' := 0) trivial rfl rfl (Rn.load (v := .d (.int .u8 g2.States)) trivial rfl (boxOwn rfl) rfl rfl (Rn.bin trivial rfl rfl rfl (Rn.nil (toN ?_)))))))))))))
 refine Tr.cond rfl (fun hb3 => ?_) (fun hb3 => ?_)
 ·replace h := ifT hb3 h
  refine sr ((md rfl ?_))
  obtain ⟨x5, h4, h⟩ := bnd h
  refine Rn.call (args := [.d (.lst 1 (List.map (eI .i64) alphabet1))]) trivial rfl (H_overseerref03_Empty _ _ h4) pc9 (Rn.store (v := .agg [.d (.lst 1 (List.map (eI .i64) x5.Alphabet)), .d (.int .i64 x5.States), .nils 1, .nils 3]) (cs' := [.d (.lst 1 (List.map (eI .i64) x5.Alphabet)), .d (.int .i64 x5.States), .nils 1, .nils 3]) trivial rfl rfl rfl rfl rfl rfl (nt ((Tr.ret ?_))))
  replace h := si h; subst h
  exact ⟨.inr rfl, (.agg [.d (.lst 1 (List.map (eI .i64) x5.Alphabet)), .d (.int .i64 x5.States), .nils 1, .nils 3]), resCell rfl rfl rfl rfl, (WkV.agg (.cons (.same rfl) (.cons (.same rfl) (.cons (WkV.nilsD _) (.cons (WkV.nilsD _) .nil))))).rd, ⟨trivial, trivial, trivial, trivial, trivial⟩, fun k hk => memOf_base hk⟩
 ·replace h := ifF hb3 h
  refine Tr.skip (toN (sr ((md rfl ?_))))
  obtain ⟨x7, h6, h⟩ := bnd h
  refine Rn.call (args := [.d (.lst 1 (List.map (eI .i64) alphabet1))]) trivial rfl (H_overseerref03_Empty _ _ h6) pc9 (Rn.alloc trivial rfl (Rn.store (v := .agg [.d (.lst 1 (List.map (eI .i64) x7.Alphabet)), .d (.int .i64 x7.States), .nils 1, .nils 3]) (cs' := [.d (.lst 1 (List.map (eI .i64) x7.Alphabet)), .d (.int .i64 x7.States), .nils 1, .nils 3]) trivial rfl rfl rfl rfl rfl rfl (nt ((sr ((Rn.fldP (o' := 0) trivial rfl rfl (Rn.load (v := .d (.int .u8 g2.States)) trivial rfl (boxOwn rfl) rfl rfl (Rn.bin trivial rfl rfl rfl (Rn.conv trivial rfl (Rn.bin trivial rfl rfl rfl (Rn.fldP (o' := 1) trivial rfl rfl (Rn.store (v := .d (.int .i64 (IntKind.wrap .i64 (1 + (IntKind.wrap .i64 (Int.tmod g2.States 5)))))) (cs' := [.d (.lst 1 (List.map (eI .i64) x7.Alphabet)), .d (.int .i64 (IntKind.wrap .i64 (1 + (IntKind.wrap .i64 (Int.tmod g2.States 5))))), .nils 1, .nils 3]) trivial rfl rfl rfl rfl rfl rfl (Rn.nil (toN ?_)))))))))))))))
  refine Tr.cutB (fun ((c43, c44, c45, a46, a47, a48) : (List Int) × (List Int) × (List api_Edge) × Int × (List Int) × (List api_Edge)) => ⟨look [(4, .ptr (Γ.n0 + 4) 0), (5, .ptr (Γ.n0 + 5) 0)], memOf Γ.n0 (bxs [(3, [.d (.int .u8 g2.States), .d (.int .u8 g2.Marks), .d (.int .u8 g2.To.1.1), .d (.int .u8 g2.To.1.2.1), .d (.int .u8 g2.To.1.2.2.1), .d (.int .u8 g2.To.1.2.2.2.1), .d (.int .u8 g2.To.1.2.2.2.2), .d (.int .u8 g2.To.2.1.1), .d (.int .u8 g2.To.2.1.2.1), .d (.int .u8 g2.To.2.1.2.2.1), .d (.int .u8 g2.To.2.1.2.2.2.1), .d (.int .u8 g2.To.2.1.2.2.2.2), .d (.int .u8 g2.To.2.2.1.1), .d (.int .u8 g2.To.2.2.1.2.1), .d (.int .u8 g2.To.2.2.1.2.2.1), .d (.int .u8 g2.To.2.2.1.2.2.2.1), .d (.int .u8 g2.To.2.2.1.2.2.2.2), .d (.int .u8 g2.To.2.2.2.1.1), .d (.int .u8 g2.To.2.2.2.1.2.1), .d (.int .u8 g2.To.2.2.2.1.2.2.1), .d (.int .u8 g2.To.2.2.2.1.2.2.2.1), .d (.int .u8 g2.To.2.2.2.1.2.2.2.2), .d (.int .u8 g2.To.2.2.2.2.1), .d (.int .u8 g2.To.2.2.2.2.2.1), .d (.int .u8 g2.To.2.2.2.2.2.2.1), .d (.int .u8 g2.To.2.2.2.2.2.2.2.1), .d (.int .u8 g2.To.2.2.2.2.2.2.2.2)]), (4, [.own 1 (List.map (eI .i64) c43), .d (.int .i64 0), .own 1 (List.map (eI .i64) c44), .own 3 (List.map e_api_Edge c45)]), (5, [.d (.lst 1 (List.map (eI .i64) x7.Alphabet)), .d (.int .i64 a46), .own 1 (List.map (eI .i64) a47), .own 3 (List.map e_api_Edge a48)])]) M, Γ.n0 + 79⟩) h (fun z h => ?_) (fun z h => ?_)
  ·refine sr ((md rfl (nt ((Tr.block ?_)))))
   refine Tr.loop (mk := fun ((i8, c9, c10, c11, a12, a13, a14) : Int × (List Int) × (List Int) × (List api_Edge) × Int × (List Int) × (List api_Edge)) => ⟨look [(0, .d (.lst 1 (List.map (eI .i64) alphabet1))), (3, .ptr (Γ.n0 + 3) 0), (4, .ptr (Γ.n0 + 4) 0), (5, .ptr (Γ.n0 + 5) 0), (6, .d (.int .i64 i8))], memOf Γ.n0 (bxs [(3, [.d (.int .u8 g2.States), .d (.int .u8 g2.Marks), .d (.int .u8 g2.To.1.1), .d (.int .u8 g2.To.1.2.1), .d (.int .u8 g2.To.1.2.2.1), .d (.int .u8 g2.To.1.2.2.2.1), .d (.int .u8 g2.To.1.2.2.2.2), .d (.int .u8 g2.To.2.1.1), .d (.int .u8 g2.To.2.1.2.1), .d (.int .u8 g2.To.2.1.2.2.1), .d (.int .u8 g2.To.2.1.2.2.2.1), .d (.int .u8 g2.To.2.1.2.2.2.2), .d (.int .u8 g2.To.2.2.1.1), .d (.int .u8 g2.To.2.2.1.2.1), .d (.int .u8 g2.To.2.2.1.2.2.1), .d (.int .u8 g2.To.2.2.1.2.2.2.1), .d (.int .u8 g2.To.2.2.1.2.2.2.2), .d (.int .u8 g2.To.2.2.2.1.1), .d (.int .u8 g2.To.2.2.2.1.2.1), .d (.int .u8 g2.To.2.2.2.1.2.2.1), .d (.int .u8 g2.To.2.2.2.1.2.2.2.1), .d (.int .u8 g2.To.2.2.2.1.2.2.2.2), .d (.int .u8 g2.To.2.2.2.2.1), .d (.int .u8 g2.To.2.2.2.2.2.1), .d (.int .u8 g2.To.2.2.2.2.2.2.1), .d (.int .u8 g2.To.2.2.2.2.2.2.2.1), .d (.int .u8 g2.To.2.2.2.2.2.2.2.2)]), (4, [.own 1 (List.map (eI .i64) c9), .d (.int .i64 0), .own 1 (List.map (eI .i64) c10), .own 3 (List.map e_api_Edge c11)]), (5, [.d (.lst 1 (List.map (eI .i64) x7.Alphabet)), .d (.int .i64 a12), .own 1 (List.map (eI .i64) a13), .own 3 (List.map e_api_Edge a14)])]) M, Γ.n0 + 79⟩) h (by show WeakSt Γ (clean _ _ _) ⟨look _, memOf _ (bxs _) _, _⟩; exact weak_clean ⟨(.same rfl), ⟨(kPtr rfl), ⟨(kPtr rfl), ⟨(kPtr rfl), ⟨(.same rfl), trivial⟩⟩⟩⟩⟩ ⟨⟨_, rfl, rfl, (.same rfl)⟩, ⟨⟨_, rfl, rfl, (.cons (WkV.nilsO _) (.cons (.same rfl) (.cons (WkV.nilsO _) (.cons (WkV.nilsO _) .nil))))⟩, ⟨⟨_, rfl, rfl, (.cons (.same rfl) (.cons (.same rfl) (.cons (WkV.nilsO _) (.cons (WkV.nilsO _) .nil))))⟩, trivial⟩⟩⟩ rfl) (fun k15 z h => ?_)
   ·obtain ⟨i8, c9, c10, c11, a12, a13, a14⟩ := z
    replace h : _ = some _ := h
    refine Tr.seq (sr ((md rfl (Rn.fldP (o' := 1) trivial rfl rfl (Rn.load (v := .d (.int .i64 a12)) trivial rfl (boxOwn rfl) rfl rfl (Rn.bin trivial rfl rfl rfl (Rn.nil (toN ?_))))))))
    refine Tr.cond rfl (fun hb16 => ?_) (fun hb16 => ?_)
    ·replace h := ifT hb16 h
     refine Tr.skip (toN ?_)
     refine Tr.cutB (fun ((a41, a42) : (List Int) × (List api_Edge)) => ⟨look [(0, .d (.lst 1 (List.map (eI .i64) alphabet1))), (3, .ptr (Γ.n0 + 3) 0), (4, .ptr (Γ.n0 + 4) 0), (5, .ptr (Γ.n0 + 5) 0), (6, .d (.int .i64 i8))], memOf Γ.n0 (bxs [(3, [.d (.int .u8 g2.States), .d (.int .u8 g2.Marks), .d (.int .u8 g2.To.1.1), .d (.int .u8 g2.To.1.2.1), .d (.int .u8 g2.To.1.2.2.1), .d (.int .u8 g2.To.1.2.2.2.1), .d (.int .u8 g2.To.1.2.2.2.2), .d (.int .u8 g2.To.2.1.1), .d (.int .u8 g2.To.2.1.2.1), .d (.int .u8 g2.To.2.1.2.2.1), .d (.int .u8 g2.To.2.1.2.2.2.1), .d (.int .u8 g2.To.2.1.2.2.2.2), .d (.int .u8 g2.To.2.2.1.1), .d (.int .u8 g2.To.2.2.1.2.1), .d (.int .u8 g2.To.2.2.1.2.2.1), .d (.int .u8 g2.To.2.2.1.2.2.2.1), .d (.int .u8 g2.To.2.2.1.2.2.2.2), .d (.int .u8 g2.To.2.2.2.1.1), .d (.int .u8 g2.To.2.2.2.1.2.1), .d (.int .u8 g2.To.2.2.2.1.2.2.1), .d (.int .u8 g2.To.2.2.2.1.2.2.2.1), .d (.int .u8 g2.To.2.2.2.1.2.2.2.2), .d (.int .u8 g2.To.2.2.2.2.1), .d (.int .u8 g2.To.2.2.2.2.2.1), .d (.int .u8 g2.To.2.2.2.2.2.2.1), .d (.int .u8 g2.To.2.2.2.2.2.2.2.1), .d (.int .u8 g2.To.2.2.2.2.2.2.2.2)]), (4, [.own 1 (List.map (eI .i64) c9), .d (.int .i64 0), .own 1 (List.map (eI .i64) c10), .own 3 (List.map e_api_Edge c11)]), (5, [.d (.lst 1 (List.map (eI .i64) x7.Alphabet)), .d (.int .i64 a12), .own 1 (List.map (eI .i64) a41), .own 3 (List.map e_api_Edge a42)])]) M, Γ.n0 + 79⟩) h (fun z h => ?_) (fun z h => ?_)
     ·refine Tr.block ?_
      refine Tr.cutB (fun (a22 : List Int) => ⟨look [(0, .d (.lst 1 (List.map (eI .i64) alphabet1))), (3, .ptr (Γ.n0 + 3) 0), (4, .ptr (Γ.n0 + 4) 0), (5, .ptr (Γ.n0 + 5) 0), (6, .d (.int .i64 i8))], memOf Γ.n0 (bxs [(3, [.d (.int .u8 g2.States), .d (.int .u8 g2.Marks), .d (.int .u8 g2.To.1.1), .d (.int .u8 g2.To.1.2.1), .d (.int .u8 g2.To.1.2.2.1), .d (.int .u8 g2.To.1.2.2.2.1), .d (.int .u8 g2.To.1.2.2.2.2), .d (.int .u8 g2.To.2.1.1), .d (.int .u8 g2.To.2.1.2.1), .d (.int .u8 g2.To.2.1.2.2.1), .d (.int .u8 g2.To.2.1.2.2.2.1), .d (.int .u8 g2.To.2.1.2.2.2.2), .d (.int .u8 g2.To.2.2.1.1), .d (.int .u8 g2.To.2.2.1.2.1), .d (.int .u8 g2.To.2.2.1.2.2.1), .d (.int .u8 g2.To.2.2.1.2.2.2.1), .d (.int .u8 g2.To.2.2.1.2.2.2.2), .d (.int .u8 g2.To.2.2.2.1.1), .d (.int .u8 g2.To.2.2.2.1.2.1), .d (.int .u8 g2.To.2.2.2.1.2.2.1), .d (.int .u8 g2.To.2.2.2.1.2.2.2.1), .d (.int .u8 g2.To.2.2.2.1.2.2.2.2), .d (.int .u8 g2.To.2.2.2.2.1), .d (.int .u8 g2.To.2.2.2.2.2.1), .d (.int .u8 g2.To.2.2.2.2.2.2.1), .d (.int .u8 g2.To.2.2.2.2.2.2.2.1), .d (.int .u8 g2.To.2.2.2.2.2.2.2.2)]), (4, [.own 1 (List.map (eI .i64) c9), .d (.int .i64 0), .own 1 (List.map (eI .i64) c10), .own 3 (List.map e_api_Edge c11)]), (5, [.d (.lst 1 (List.map (eI .i64) x7.Alphabet)), .d (.int .i64 a12), .own 1 (List.map (eI .i64) a22), .own 3 (List.map e_api_Edge a14)])]) M, Γ.n0 + 79⟩) h (fun z h => ?_) (fun z h => ?_)
      ·refine sr ((Rn.fldP (o' := 1) trivial rfl rfl (Rn.load (v := .d (.int .u8 g2.Marks)) trivial rfl (boxOwn rfl) rfl rfl (md rfl ?_))))
       obtain ⟨s17, h18, h⟩ := bnd h
       refine Rn.bin trivial rfl rfl (shr_bin h18) (Rn.bin trivial rfl rfl rfl (Rn.bin trivial rfl rfl rfl (Rn.nil (toN ?_))))
       refine Tr.cond rfl (fun hb19 => ?_) (fun hb19 => ?_)
       ·replace h := bT hb19 h
        refine Tr.rgn (Rn.fldP (o' := 2) trivial rfl rfl (Rn.loadT (cs' := [.d (.lst 1 (List.map (eI .i64) x7.Alphabet)), .d (.int .i64 a12), .d (.lst 1 (List.map (eI .i64) a13)), .own 3 (List.map e_api_Edge a14)]) trivial rfl rfl rfl rfl (md rfl (Rn.bslice (xs := [.d (.int .i64 i8)]) (cs := [.d (.int .i64 i8)]) trivial rfl rfl rfl rfl ?_))))
        obtain ⟨x20, h21, h⟩ := bnd h
        refine Rn.app (e := (eI .i64)) trivial rfl rfl rfl (elems_box rfl rfl rfl) h21 rfl (Rn.fldP (o' := 2) trivial rfl rfl (Rn.storeO (cs' := [.d (.lst 1 (List.map (eI .i64) x7.Alphabet)), .d (.int .i64 a12), .own 1 (List.map (eI .i64) x20), .own 3 (List.map e_api_Edge a14)]) trivial rfl rfl rfl rfl rfl (Rn.nil ?_)))
        replace h := si h; subst h
        show WeakSt Γ _ ⟨look _, memOf _ (bxs _) _, _⟩; exact weak_cut [37] ⟨(.same rfl), ⟨(kPtr rfl), ⟨(kPtr rfl), ⟨(kPtr rfl), ⟨(.same rfl), trivial⟩⟩⟩⟩⟩ ⟨⟨_, rfl, rfl, (.same rfl)⟩, ⟨⟨_, rfl, rfl, (.same rfl)⟩, ⟨⟨_, rfl, rfl, (.same rfl)⟩, trivial⟩⟩⟩ rfl
       ·replace h := bF hb19 h
        refine Tr.skip ?_
        replace h := si h; subst h
        show WeakSt Γ _ ⟨look _, memOf _ (bxs _) _, _⟩; exact weak_cut [] ⟨(.same rfl), ⟨(kPtr rfl), ⟨(kPtr rfl), ⟨(kPtr rfl), ⟨(.same rfl), trivial⟩⟩⟩⟩⟩ ⟨⟨_, rfl, rfl, (.same rfl)⟩, ⟨⟨_, rfl, rfl, (.same rfl)⟩, ⟨⟨_, rfl, rfl, (.same rfl)⟩, trivial⟩⟩⟩ rfl
      ·obtain ⟨a22, rfl⟩ : ∃ x, x = z := ⟨_, rfl⟩
       refine sr ((md rfl (nt ((Tr.block ?_)))))
       refine Tr.loop (mk := fun ((k23, a24) : Int × (List api_Edge)) => ⟨look [(0, .d (.lst 1 (List.map (eI .i64) alphabet1))), (3, .ptr (Γ.n0 + 3) 0), (4, .ptr (Γ.n0 + 4) 0), (5, .ptr (Γ.n0 + 5) 0), (6, .d (.int .i64 i8)), (7, .d (.int .i64 k23))], memOf Γ.n0 (bxs [(3, [.d (.int .u8 g2.States), .d (.int .u8 g2.Marks), .d (.int .u8 g2.To.1.1), .d (.int .u8 g2.To.1.2.1), .d (.int .u8 g2.To.1.2.2.1), .d (.int .u8 g2.To.1.2.2.2.1), .d (.int .u8 g2.To.1.2.2.2.2), .d (.int .u8 g2.To.2.1.1), .d (.int .u8 g2.To.2.1.2.1), .d (.int .u8 g2.To.2.1.2.2.1), .d (.int .u8 g2.To.2.1.2.2.2.1), .d (.int .u8 g2.To.2.1.2.2.2.2), .d (.int .u8 g2.To.2.2.1.1), .d (.int .u8 g2.To.2.2.1.2.1), .d (.int .u8 g2.To.2.2.1.2.2.1), .d (.int .u8 g2.To.2.2.1.2.2.2.1), .d (.int .u8 g2.To.2.2.1.2.2.2.2), .d (.int .u8 g2.To.2.2.2.1.1), .d (.int .u8 g2.To.2.2.2.1.2.1), .d (.int .u8 g2.To.2.2.2.1.2.2.1), .d (.int .u8 g2.To.2.2.2.1.2.2.2.1), .d (.int .u8 g2.To.2.2.2.1.2.2.2.2), .d (.int .u8 g2.To.2.2.2.2.1), .d (.int .u8 g2.To.2.2.2.2.2.1), .d (.int .u8 g2.To.2.2.2.2.2.2.1), .d (.int .u8 g2.To.2.2.2.2.2.2.2.1), .d (.int .u8 g2.To.2.2.2.2.2.2.2.2)]), (4, [.own 1 (List.map (eI .i64) c9), .d (.int .i64 0), .own 1 (List.map (eI .i64) c10), .own 3 (List.map e_api_Edge c11)]), (5, [.d (.lst 1 (List.map (eI .i64) x7.Alphabet)), .d (.int .i64 a12), .own 1 (List.map (eI .i64) a22), .own 3 (List.map e_api_Edge a24)])]) M, Γ.n0 + 79⟩) h (by show WeakSt Γ (clean _ _ _) ⟨look _, memOf _ (bxs _) _, _⟩; exact weak_clean ⟨(.same rfl), ⟨(kPtr rfl), ⟨(kPtr rfl), ⟨(kPtr rfl), ⟨(.same rfl), ⟨(.same rfl), trivial⟩⟩⟩⟩⟩⟩ ⟨⟨_, rfl, rfl, (.same rfl)⟩, ⟨⟨_, rfl, rfl, (.same rfl)⟩, ⟨⟨_, rfl, rfl, (.same rfl)⟩, trivial⟩⟩⟩ rfl) (fun k25 z h => ?_)
       ·obtain ⟨k23, a24⟩ := z
        replace h : _ = some _ := h
        refine Tr.seq ?_
        refine Tr.cutB (fun (x27 : Bool) => ⟨look [(0, .d (.lst 1 (List.map (eI .i64) alphabet1))), (3, .ptr (Γ.n0 + 3) 0), (4, .ptr (Γ.n0 + 4) 0), (5, .ptr (Γ.n0 + 5) 0), (6, .d (.int .i64 i8)), (7, .d (.int .i64 k23)), (47, .d (.bool x27))], memOf Γ.n0 (bxs [(3, [.d (.int .u8 g2.States), .d (.int .u8 g2.Marks), .d (.int .u8 g2.To.1.1), .d (.int .u8 g2.To.1.2.1), .d (.int .u8 g2.To.1.2.2.1), .d (.int .u8 g2.To.1.2.2.2.1), .d (.int .u8 g2.To.1.2.2.2.2), .d (.int .u8 g2.To.2.1.1), .d (.int .u8 g2.To.2.1.2.1), .d (.int .u8 g2.To.2.1.2.2.1), .d (.int .u8 g2.To.2.1.2.2.2.1), .d (.int .u8 g2.To.2.1.2.2.2.2), .d (.int .u8 g2.To.2.2.1.1), .d (.int .u8 g2.To.2.2.1.2.1), .d (.int .u8 g2.To.2.2.1.2.2.1), .d (.int .u8 g2.To.2.2.1.2.2.2.1), .d (.int .u8 g2.To.2.2.1.2.2.2.2), .d (.int .u8 g2.To.2.2.2.1.1), .d (.int .u8 g2.To.2.2.2.1.2.1), .d (.int .u8 g2.To.2.2.2.1.2.2.1), .d (.int .u8 g2.To.2.2.2.1.2.2.2.1), .d (.int .u8 g2.To.2.2.2.1.2.2.2.2), .d (.int .u8 g2.To.2.2.2.2.1), .d (.int .u8 g2.To.2.2.2.2.2.1), .d (.int .u8 g2.To.2.2.2.2.2.2.1), .d (.int .u8 g2.To.2.2.2.2.2.2.2.1), .d (.int .u8 g2.To.2.2.2.2.2.2.2.2)]), (4, [.own 1 (List.map (eI .i64) c9), .d (.int .i64 0), .own 1 (List.map (eI .i64) c10), .own 3 (List.map e_api_Edge c11)]), (5, [.d (.lst 1 (List.map (eI .i64) x7.Alphabet)), .d (.int .i64 a12), .own 1 (List.map (eI .i64) a22), .own 3 (List.map e_api_Edge a24)])]) M, Γ.n0 + 79⟩) h (fun z h => ?_) (fun z h => ?_)
        ·refine Tr.rgn (md rfl (md rfl (Rn.lenD trivial rfl (Rn.bin trivial rfl rfl rfl (md rfl ?_)))))
         refine bsplit (decide (k23 < (alphabet1.length : Int))) (fun hb26 => ?_) (fun hb26 => ?_)
         ·replace h := ifT hb26 h
          refine Rn.movD (gw rfl hb26) rfl (Rn.bin (gw rfl hb26) rfl rfl rfl (Rn.pickT (v := .d (.bool (decide (k23 < 5)))) trivial rfl hb26 rfl (Rn.nil ?_)))
          replace h := si h; subst h
          show WeakSt Γ _ ⟨look _, memOf _ (bxs _) _, _⟩; exact weak_cut [] ⟨(.same rfl), ⟨(kPtr rfl), ⟨(kPtr rfl), ⟨(kPtr rfl), ⟨(.same rfl), ⟨(.same rfl), ⟨(.same rfl), trivial⟩⟩⟩⟩⟩⟩⟩ ⟨⟨_, rfl, rfl, (.same rfl)⟩, ⟨⟨_, rfl, rfl, (.same rfl)⟩, ⟨⟨_, rfl, rfl, (.same rfl)⟩, trivial⟩⟩⟩ rfl
         ·replace h := ifF hb26 h
          refine Rn.sk (nw rfl hb26) (Rn.sk (nw rfl hb26) (Rn.pickF (v := .d (.bool false)) trivial rfl hb26 rfl (Rn.nil ?_)))
          replace h := si h; subst h
          show WeakSt Γ _ ⟨look _, memOf _ (bxs _) _, _⟩; exact weak_cut [] ⟨(.same rfl), ⟨(kPtr rfl), ⟨(kPtr rfl), ⟨(kPtr rfl), ⟨(.same rfl), ⟨(.same rfl), ⟨(.same rfl), trivial⟩⟩⟩⟩⟩⟩⟩ ⟨⟨_, rfl, rfl, (.same rfl)⟩, ⟨⟨_, rfl, rfl, (.same rfl)⟩, ⟨⟨_, rfl, rfl, (.same rfl)⟩, trivial⟩⟩⟩ rfl
        ·obtain ⟨x27, rfl⟩ : ∃ x, x = z := ⟨_, rfl⟩
         refine Tr.cond rfl (fun hb28 => ?_) (fun hb28 => ?_)
         ·replace h := bT hb28 h
          refine Tr.skip (toN ?_)
          refine Tr.cutB (fun (a40 : List api_Edge) => ⟨look [(0, .d (.lst 1 (List.map (eI .i64) alphabet1))), (3, .ptr (Γ.n0 + 3) 0), (4, .ptr (Γ.n0 + 4) 0), (5, .ptr (Γ.n0 + 5) 0), (6, .d (.int .i64 i8)), (7, .d (.int .i64 k23))], memOf Γ.n0 (bxs [(3, [.d (.int .u8 g2.States), .d (.int .u8 g2.Marks), .d (.int .u8 g2.To.1.1), .d (.int .u8 g2.To.1.2.1), .d (.int .u8 g2.To.1.2.2.1), .d (.int .u8 g2.To.1.2.2.2.1), .d (.int .u8 g2.To.1.2.2.2.2), .d (.int .u8 g2.To.2.1.1), .d (.int .u8 g2.To.2.1.2.1), .d (.int .u8 g2.To.2.1.2.2.1), .d (.int .u8 g2.To.2.1.2.2.2.1), .d (.int .u8 g2.To.2.1.2.2.2.2), .d (.int .u8 g2.To.2.2.1.1), .d (.int .u8 g2.To.2.2.1.2.1), .d (.int .u8 g2.To.2.2.1.2.2.1), .d (.int .u8 g2.To.2.2.1.2.2.2.1), .d (.int .u8 g2.To.2.2.1.2.2.2.2), .d (.int .u8 g2.To.2.2.2.1.1), .d (.int .u8 g2.To.2.2.2.1.2.1), .d (.int .u8 g2.To.2.2.2.1.2.2.1), .d (.int .u8 g2.To.2.2.2.1.2.2.2.1), .d (.int .u8 g2.To.2.2.2.1.2.2.2.2), .d (.int .u8 g2.To.2.2.2.2.1), .d (.int .u8 g2.To.2.2.2.2.2.1), .d (.int .u8 g2.To.2.2.2.2.2.2.1), .d (.int .u8 g2.To.2.2.2.2.2.2.2.1), .d (.int .u8 g2.To.2.2.2.2.2.2.2.2)]), (4, [.own 1 (List.map (eI .i64) c9), .d (.int .i64 0), .own 1 (List.map (eI .i64) c10), .own 3 (List.map e_api_Edge c11)]), (5, [.d (.lst 1 (List.map (eI .i64) x7.Alphabet)), .d (.int .i64 a12), .own 1 (List.map (eI .i64) a22), .own 3 (List.map e_api_Edge a40)])]) M, Γ.n0 + 79⟩) h (fun z h => ?_) (fun z h => ?_)
          ·refine Tr.block (Tr.seq ?_)
           refine Tr.rgnD (by decide) ?_
           refine md rfl (md rfl (Rn.fldP (o' := 2) trivial rfl rfl ?_))
           obtain ⟨⟨⟩, h29, h⟩ := bnd h
           refine Rn.idxArr (o' := 2 + (Int.toNat i8 * 5)) trivial rfl rfl rfl h29 ?_
           obtain ⟨⟨⟩, h30, h⟩ := bnd h
           refine Rn.idxArr (o' := 2 + (Int.toNat i8 * 5 + Int.toNat k23 * 1)) trivial rfl rfl (Nat.add_assoc ..).symm h30 ?_
           obtain ⟨x31, h32, h⟩ := bnd h
           refine Rn.loadArr (e := (fun (z : Int) => .int .u8 z)) (pre := [.d (.int .u8 g2.States), .d (.int .u8 g2.Marks)]) (post := []) trivial rfl rfl (boxOwn rfl) rfl rfl h32 (Rn.conv trivial rfl (Rn.fldP (o' := 1) trivial rfl rfl (Rn.load (v := .d (.int .i64 a12)) trivial rfl (boxOwn rfl) rfl rfl (Rn.bin trivial rfl rfl rfl ?_))))
           obtain ⟨s33, h34, h⟩ := bnd h
           refine Rn.bin trivial rfl rfl (rem_bin h34) (md rfl ?_)
           refine Rn.nil ⟨rfl, ?_⟩
           refine toN (sr ((md rfl (Rn.fldP (o' := 1) trivial rfl rfl (Rn.load (v := .d (.int .i64 a12)) trivial rfl (boxOwn rfl) rfl rfl (Rn.bin trivial rfl rfl rfl (Rn.nil (toN ?_))))))))
           refine Tr.cond rfl (fun hb35 => ?_) (fun hb35 => ?_)
           ·replace h := ifT hb35 h
            refine Tr.rgnD (by decide) ?_
            refine Rn.fldP (o' := 3) trivial rfl rfl (Rn.loadT (cs' := [.d (.lst 1 (List.map (eI .i64) x7.Alphabet)), .d (.int .i64 a12), .own 1 (List.map (eI .i64) a22), .d (.lst 3 (List.map e_api_Edge a24))]) trivial rfl rfl rfl rfl (md rfl (md rfl (md rfl ?_))))
            obtain ⟨x36, h37, h⟩ := bnd h
            refine Rn.idxD (e := (eI .i64)) trivial rfl rfl h37 (Rn.loadC (x := .int .i64 x36) trivial rfl (md rfl (Rn.build (v := .agg [.d (.int .i64 i8), .d (.int .i64 x36), .d (.int .i64 s33)]) trivial rfl (Rn.bslice (xs := [.agg [.d (.int .i64 i8), .d (.int .i64 x36), .d (.int .i64 s33)]]) (cs := [.d (.int .i64 i8), .d (.int .i64 x36), .d (.int .i64 s33)]) trivial rfl rfl rfl rfl ?_))))
            obtain ⟨x38, h39, h⟩ := bnd h
            refine Rn.app (e := e_api_Edge) trivial rfl rfl rfl (elems_box rfl rfl rfl) h39 rfl (Rn.fldP (o' := 3) trivial rfl rfl (Rn.storeO (cs' := [.d (.lst 1 (List.map (eI .i64) x7.Alphabet)), .d (.int .i64 a12), .own 1 (List.map (eI .i64) a22), .own 3 (List.map e_api_Edge x38)]) trivial rfl rfl rfl rfl rfl ?_))
            refine Rn.nil ⟨rfl, ?_⟩
            replace h := si h; subst h
            show WeakSt Γ _ ⟨look _, memOf _ (bxs _) _, _⟩; exact weak_cut [74] ⟨(.same rfl), ⟨(kPtr rfl), ⟨(kPtr rfl), ⟨(kPtr rfl), ⟨(.same rfl), ⟨(.same rfl), trivial⟩⟩⟩⟩⟩⟩ ⟨⟨_, rfl, rfl, (.same rfl)⟩, ⟨⟨_, rfl, rfl, (.same rfl)⟩, ⟨⟨_, rfl, rfl, (.same rfl)⟩, trivial⟩⟩⟩ rfl
           ·replace h := ifF hb35 h
            refine Tr.skip ?_
            replace h := si h; subst h
            show WeakSt Γ _ ⟨look _, memOf _ (bxs _) _, _⟩; exact weak_cut [] ⟨(.same rfl), ⟨(kPtr rfl), ⟨(kPtr rfl), ⟨(kPtr rfl), ⟨(.same rfl), ⟨(.same rfl), trivial⟩⟩⟩⟩⟩⟩ ⟨⟨_, rfl, rfl, (.same rfl)⟩, ⟨⟨_, rfl, rfl, (.same rfl)⟩, ⟨⟨_, rfl, rfl, (.same rfl)⟩, trivial⟩⟩⟩ rfl
          ·obtain ⟨a40, rfl⟩ : ∃ x, x = z := ⟨_, rfl⟩
           refine Tr.rgn (md rfl (Rn.bin trivial rfl rfl rfl (md rfl (Rn.nil ?_))))
           exact ⟨_, h, (by show WeakSt Γ (clean _ _ _) ⟨look _, memOf _ (bxs _) _, _⟩; exact weak_clean ⟨(.same rfl), ⟨(kPtr rfl), ⟨(kPtr rfl), ⟨(kPtr rfl), ⟨(.same rfl), ⟨(.same rfl), trivial⟩⟩⟩⟩⟩⟩ ⟨⟨_, rfl, rfl, (.same rfl)⟩, ⟨⟨_, rfl, rfl, (.same rfl)⟩, ⟨⟨_, rfl, rfl, (.same rfl)⟩, trivial⟩⟩⟩ rfl)⟩
         ·replace h := bF hb28 h
          refine Tr.exit ?_
          replace h := si h; subst h
          show WeakSt Γ _ ⟨look _, memOf _ (bxs _) _, _⟩; exact weak_cut [] ⟨(.same rfl), ⟨(kPtr rfl), ⟨(kPtr rfl), ⟨(kPtr rfl), ⟨(.same rfl), trivial⟩⟩⟩⟩⟩ ⟨⟨_, rfl, rfl, (.same rfl)⟩, ⟨⟨_, rfl, rfl, (.same rfl)⟩, ⟨⟨_, rfl, rfl, (.same rfl)⟩, trivial⟩⟩⟩ rfl
     ·obtain ⟨a41, a42⟩ := z
      refine Tr.rgn (md rfl (Rn.bin trivial rfl rfl rfl (md rfl (Rn.nil ?_))))
      exact ⟨_, h, (by show WeakSt Γ (clean _ _ _) ⟨look _, memOf _ (bxs _) _, _⟩; exact weak_clean ⟨(.same rfl), ⟨(kPtr rfl), ⟨(kPtr rfl), ⟨(kPtr rfl), ⟨(.same rfl), trivial⟩⟩⟩⟩⟩ ⟨⟨_, rfl, rfl, (.same rfl)⟩, ⟨⟨_, rfl, rfl, (.same rfl)⟩, ⟨⟨_, rfl, rfl, (.same rfl)⟩, trivial⟩⟩⟩ rfl)⟩
    ·replace h := ifF hb16 h
     refine Tr.exit ?_
     replace h := si h; subst h
     show WeakSt Γ _ ⟨look _, memOf _ (bxs _) _, _⟩; exact weak_cut [] ⟨(kPtr rfl), ⟨(kPtr rfl), trivial⟩⟩ ⟨⟨_, rfl, rfl, (.same rfl)⟩, ⟨⟨_, rfl, rfl, (.same rfl)⟩, ⟨⟨_, rfl, rfl, (.same rfl)⟩, trivial⟩⟩⟩ rfl
  ·obtain ⟨c43, c44, c45, a46, a47, a48⟩ := z
   refine sr ((Rn.load (v := .agg [.d (.lst 1 (List.map (eI .i64) x7.Alphabet)), .d (.int .i64 a46), .d (.lst 1 (List.map (eI .i64) a47)), .d (.lst 3 (List.map e_api_Edge a48))]) trivial rfl (boxOwn rfl) rfl rfl ?_))
   obtain ⟨x50, h49, h⟩ := bnd h
   refine Rn.call (args := [.agg [.d (.lst 1 (List.map (eI .i64) x7.Alphabet)), .d (.int .i64 a46), .d (.lst 1 (List.map (eI .i64) a47)), .d (.lst 3 (List.map e_api_Edge a48))]]) trivial rfl (H_overseerref03_Canonical _ _ h49) pc9 (Rn.store (v := .agg [.d (.lst 1 (List.map (eI .i64) x50.Alphabet)), .d (.int .i64 x50.States), .d (.lst 1 (List.map (eI .i64) x50.Marked)), .d (.lst 3 (List.map e_api_Edge x50.Edges))]) (cs' := [.d (.lst 1 (List.map (eI .i64) x50.Alphabet)), .d (.int .i64 x50.States), .d (.lst 1 (List.map (eI .i64) x50.Marked)), .d (.lst 3 (List.map e_api_Edge x50.Edges))]) trivial rfl rfl rfl rfl rfl rfl (nt ((Tr.ret ?_))))
   replace h := si h; subst h
   exact ⟨.inr rfl, (.agg [.d (.lst 1 (List.map (eI .i64) x50.Alphabet)), .d (.int .i64 x50.States), .d (.lst 1 (List.map (eI .i64) x50.Marked)), .d (.lst 3 (List.map e_api_Edge x50.Edges))]), resCell rfl rfl rfl rfl, fun _ _ _ _ h => h, ⟨trivial, trivial, trivial, trivial, trivial⟩, fun k hk => memOf_base hk⟩
theorem automaton_Complete_walk {P : Program} {c : Nat} {f_automaton_Check : api_Automaton → Option Int} {f_automaton_canonical : api_Automaton → Option api_Automaton} {f_automaton_next : api_Automaton → Int → Int → Option Int}
    (H_automaton_Check : K_automaton_Check P 45 f_automaton_Check)
    (H_automaton_canonical : K_automaton_canonical P 56 f_automaton_canonical)
    (H_automaton_next : K_automaton_next P 67 f_automaton_next) (hcf : compFn P c = some F_automaton_Complete) (fuel : Nat) : K_automaton_Complete P c (f_automaton_Complete f_automaton_Check f_automaton_canonical f_automaton_next fuel) := by
 intro a1 r h
 refine fn_trP hcf rfl fun Γ M hP hnt hM => ?_
 subst hP
 refine Tr.init [(0, .agg [.d (.lst 1 (List.map (eI .i64) a1.Alphabet)), .d (.int .i64 a1.States), .d (.lst 1 (List.map (eI .i64) a1.Marked)), .d (.lst 3 (List.map e_api_Edge a1.Edges))])] rfl ?_
 unfold f_automaton_Complete at h
 unfold F_automaton_Complete
 refine sr ((Rn.box (v := .agg [.d (.lst 1 (List.map (eI .i64) a1.Alphabet)), .d (.int .i64 a1.States), .d (.lst 1 (List.map (eI .i64) a1.Marked)), .d (.lst 3 (List.map e_api_Edge a1.Edges))]) (cs := [.d (.lst 1 (List.map (eI .i64) a1.Alphabet)), .d (.int .i64 a1.States), .d (.lst 1 (List.map (eI .i64) a1.Marked)), .d (.lst 3 (List.map e_api_Edge a1.Edges))]) trivial rfl rfl rfl rfl rfl (Rn.alloc trivial rfl (md rfl (nt ((Tr.seq (sr ((Rn.load (v := .agg [.d (.lst 1 (List.map (eI .i64) a1.Alphabet)), .d (.int .i64 a1.States), .d (.lst 1 (List.map (eI .i64) a1.Marked)), .d (.lst 3 (List.map e_api_Edge a1.Edges))]) trivial rfl (boxOwn rfl) rfl rfl ?_))))))))))
 obtain ⟨x3, h2, h⟩ := bnd h
 refine Rn.call (args := [.agg [.d (.lst 1 (List.map (eI .i64) a1.Alphabet)), .d (.int .i64 a1.States), .d (.lst 1 (List.map (eI .i64) a1.Marked)), .d (.lst 3 (List.map e_api_Edge a1.Edges))]]) trivial rfl (H_automaton_Check _ _ h2) pc9 (md rfl (nt ((sr ((md rfl (Rn.bin trivial rfl rfl rfl (Rn.nil (toN ?_)))))))))
 refine Tr.cond rfl (fun hb4 => ?_) (fun hb4 => ?_)
 ·replace h := bT hb4 h
  refine sr ((Rn.build (v := .agg [.nils 1, .d (.int .i64 0), .nils 1, .nils 3]) trivial rfl (md rfl (Rn.store (v := .agg [.nils 1, .d (.int .i64 0), .nils 1, .nils 3]) (cs' := [.nils 1, .d (.int .i64 0), .nils 1, .nils 3]) trivial rfl rfl rfl rfl rfl rfl (md rfl (nt ((Tr.ret ?_))))))))
  replace h := si h; subst h
  exact ⟨.inr rfl, .tup [.agg [.nils 1, .d (.int .i64 0), .nils 1, .nils 3], .d (.int .i64 x3)], res2 (resCell rfl rfl rfl rfl) rfl, (WkV.tup (.cons (WkV.agg (.cons (WkV.nilsD _) (.cons (.same rfl) (.cons (WkV.nilsD _) (.cons (WkV.nilsD _) .nil))))) (.cons (.same rfl) .nil))).rd, ⟨⟨trivial, trivial, trivial, trivial, trivial⟩, trivial, trivial⟩, fun k hk => memOf_base hk⟩
 ·replace h := bF hb4 h
  refine Tr.skip (toN (sr ((Rn.fldP (o' := 0) trivial rfl rfl (Rn.load (v := .d (.lst 1 (List.map (eI .i64) a1.Alphabet))) trivial rfl (boxOwn rfl) rfl rfl (Rn.fldP (o' := 1) trivial rfl rfl (Rn.load (v := .d (.int .i64 a1.States)) trivial rfl (boxOwn rfl) rfl rfl (Rn.bin trivial rfl rfl rfl (Rn.fldP (o' := 2) trivial rfl rfl (Rn.load (v := .d (.lst 1 (List.map (eI .i64) a1.Marked))) trivial rfl (boxOwn rfl) rfl rfl (Rn.build (v := .agg [.d (.lst 1 (List.map (eI .i64) a1.Alphabet)), .d (.int .i64 (IntKind.wrap .i64 (a1.States + 1))), .d (.lst 1 (List.map (eI .i64) a1.Marked)), .nils 3]) trivial rfl (Rn.alloc trivial rfl (Rn.store (v := .agg [.d (.lst 1 (List.map (eI .i64) a1.Alphabet)), .d (.int .i64 (IntKind.wrap .i64 (a1.States + 1))), .d (.lst 1 (List.map (eI .i64) a1.Marked)), .nils 3]) (cs' := [.d (.lst 1 (List.map (eI .i64) a1.Alphabet)), .d (.int .i64 (IntKind.wrap .i64 (a1.States + 1))), .d (.lst 1 (List.map (eI .i64) a1.Marked)), .nils 3]) trivial rfl rfl rfl rfl rfl rfl (Rn.nil (toN ?_)))))))))))))))
  refine Tr.cutB (fun ((c28, c29, c30, r31, r32) : (List Int) × (List Int) × (List api_Edge) × Int × (List api_Edge)) => ⟨look [(2, .ptr (Γ.n0 + 2) 0), (5, .ptr (Γ.n0 + 5) 0)], memOf Γ.n0 (bxs [(1, [.d (.lst 1 (List.map (eI .i64) a1.Alphabet)), .d (.int .i64 a1.States), .d (.lst 1 (List.map (eI .i64) a1.Marked)), .d (.lst 3 (List.map e_api_Edge a1.Edges))]), (2, [.own 1 (List.map (eI .i64) c28), .d (.int .i64 0), .own 1 (List.map (eI .i64) c29), .own 3 (List.map e_api_Edge c30)]), (5, [.d (.lst 1 (List.map (eI .i64) a1.Alphabet)), .d (.int .i64 r31), .d (.lst 1 (List.map (eI .i64) a1.Marked)), .own 3 (List.map e_api_Edge r32)])]) M, Γ.n0 + 68⟩) h (fun z h => ?_) (fun z h => ?_)
  ·refine sr ((Rn.fldP (o' := 1) trivial rfl rfl (Rn.load (v := .d (.int .i64 (IntKind.wrap .i64 (a1.States + 1)))) trivial rfl (boxOwn rfl) rfl rfl (md rfl (nt ((Tr.block ?_)))))))
   refine Tr.loop (mk := fun ((x5, x6, c7, c8, c9, r10, r11) : Int × Int × (List Int) × (List Int) × (List api_Edge) × Int × (List api_Edge)) => ⟨look [(1, .ptr (Γ.n0 + 1) 0), (2, .ptr (Γ.n0 + 2) 0), (5, .ptr (Γ.n0 + 5) 0), (26, .d (.int .i64 x5)), (27, .d (.int .i64 x6))], memOf Γ.n0 (bxs [(1, [.d (.lst 1 (List.map (eI .i64) a1.Alphabet)), .d (.int .i64 a1.States), .d (.lst 1 (List.map (eI .i64) a1.Marked)), .d (.lst 3 (List.map e_api_Edge a1.Edges))]), (2, [.own 1 (List.map (eI .i64) c7), .d (.int .i64 0), .own 1 (List.map (eI .i64) c8), .own 3 (List.map e_api_Edge c9)]), (5, [.d (.lst 1 (List.map (eI .i64) a1.Alphabet)), .d (.int .i64 r10), .d (.lst 1 (List.map (eI .i64) a1.Marked)), .own 3 (List.map e_api_Edge r11)])]) M, Γ.n0 + 68⟩) h (by show WeakSt Γ (clean _ _ _) ⟨look _, memOf _ (bxs _) _, _⟩; exact weak_clean ⟨(kPtr rfl), ⟨(kPtr rfl), ⟨(kPtr rfl), ⟨(.same rfl), ⟨(.same rfl), trivial⟩⟩⟩⟩⟩ ⟨⟨_, rfl, rfl, (.same rfl)⟩, ⟨⟨_, rfl, rfl, (.cons (WkV.nilsO _) (.cons (.same rfl) (.cons (WkV.nilsO _) (.cons (WkV.nilsO _) .nil))))⟩, ⟨⟨_, rfl, rfl, (.cons (.same rfl) (.cons (.same rfl) (.cons (.same rfl) (.cons (WkV.nilsO _) .nil))))⟩, trivial⟩⟩⟩ rfl) (fun k12 z h => ?_)
   ·obtain ⟨x5, x6, c7, c8, c9, r10, r11⟩ := z
    replace h : _ = some _ := h
    refine sr ((Rn.bin trivial rfl rfl rfl (nt ((Tr.seq ?_)))))
    refine Tr.cond rfl (fun hb13 => ?_) (fun hb13 => ?_)
    ·replace h := ifT hb13 h
     refine Tr.skip (toN ?_)
     refine Tr.cutB (fun (r27 : List api_Edge) => ⟨look [(1, .ptr (Γ.n0 + 1) 0), (2, .ptr (Γ.n0 + 2) 0), (5, .ptr (Γ.n0 + 5) 0), (26, .d (.int .i64 x5)), (27, .d (.int .i64 x6))], memOf Γ.n0 (bxs [(1, [.d (.lst 1 (List.map (eI .i64) a1.Alphabet)), .d (.int .i64 a1.States), .d (.lst 1 (List.map (eI .i64) a1.Marked)), .d (.lst 3 (List.map e_api_Edge a1.Edges))]), (2, [.own 1 (List.map (eI .i64) c7), .d (.int .i64 0), .own 1 (List.map (eI .i64) c8), .own 3 (List.map e_api_Edge c9)]), (5, [.d (.lst 1 (List.map (eI .i64) a1.Alphabet)), .d (.int .i64 r10), .d (.lst 1 (List.map (eI .i64) a1.Marked)), .own 3 (List.map e_api_Edge r27)])]) M, Γ.n0 + 68⟩) h (fun z h => ?_) (fun z h => ?_)
     ·refine Tr.block (sr ((md rfl (md rfl (nt ((sr ((Rn.fldP (o' := 0) trivial rfl rfl (Rn.load (v := .d (.lst 1 (List.map (eI .i64) a1.Alphabet))) trivial rfl (boxOwn rfl) rfl rfl (Rn.lenD trivial rfl (md rfl (nt ((Tr.block ?_)))))))))))))))
      refine Tr.loop (mk := fun ((x14, r15) : Int × (List api_Edge)) => ⟨look [(1, .ptr (Γ.n0 + 1) 0), (2, .ptr (Γ.n0 + 2) 0), (5, .ptr (Γ.n0 + 5) 0), (6, .d (.int .i64 x6)), (26, .d (.int .i64 x5)), (27, .d (.int .i64 x6)), (31, .d (.lst 1 (List.map (eI .i64) a1.Alphabet))), (32, .d (.int .i64 (a1.Alphabet.length : Int))), (33, .d (.int .i64 x14))], memOf Γ.n0 (bxs [(1, [.d (.lst 1 (List.map (eI .i64) a1.Alphabet)), .d (.int .i64 a1.States), .d (.lst 1 (List.map (eI .i64) a1.Marked)), .d (.lst 3 (List.map e_api_Edge a1.Edges))]), (2, [.own 1 (List.map (eI .i64) c7), .d (.int .i64 0), .own 1 (List.map (eI .i64) c8), .own 3 (List.map e_api_Edge c9)]), (5, [.d (.lst 1 (List.map (eI .i64) a1.Alphabet)), .d (.int .i64 r10), .d (.lst 1 (List.map (eI .i64) a1.Marked)), .own 3 (List.map e_api_Edge r15)])]) M, Γ.n0 + 68⟩) h (by show WeakSt Γ (clean _ _ _) ⟨look _, memOf _ (bxs _) _, _⟩; exact weak_clean ⟨(kPtr rfl), ⟨(kPtr rfl), ⟨(kPtr rfl), ⟨(.same rfl), ⟨(.same rfl), ⟨(.same rfl), ⟨(.same rfl), ⟨(.same rfl), ⟨(.same rfl), trivial⟩⟩⟩⟩⟩⟩⟩⟩⟩ ⟨⟨_, rfl, rfl, (.same rfl)⟩, ⟨⟨_, rfl, rfl, (.same rfl)⟩, ⟨⟨_, rfl, rfl, (.same rfl)⟩, trivial⟩⟩⟩ rfl) (fun k16 z h => ?_)
      ·obtain ⟨x14, r15⟩ := z
       replace h : _ = some _ := h
       refine sr ((Rn.bin trivial rfl rfl rfl (nt ((Tr.seq ?_)))))
       refine Tr.cond rfl (fun hb17 => ?_) (fun hb17 => ?_)
       ·replace h := ifT hb17 h
        refine Tr.skip (toN (Tr.seq (Tr.block (Tr.seq (Tr.rgn ?_)))))
        obtain ⟨x18, h19, h⟩ := bnd h
        refine Rn.idxD (e := (eI .i64)) trivial rfl rfl h19 (Rn.loadC (x := .int .i64 x18) trivial rfl (md rfl (nt ((sr ((Rn.fldP (o' := 1) trivial rfl rfl (Rn.load (v := .d (.int .i64 a1.States)) trivial rfl (boxOwn rfl) rfl rfl (md rfl (Rn.nil (toN ?_)))))))))))
        refine Tr.cutB (fun (to24 : Int) => ⟨look [(1, .ptr (Γ.n0 + 1) 0), (2, .ptr (Γ.n0 + 2) 0), (5, .ptr (Γ.n0 + 5) 0), (6, .d (.int .i64 x6)), (8, .d (.int .i64 x18)), (9, .d (.int .i64 to24)), (26, .d (.int .i64 x5)), (27, .d (.int .i64 x6)), (31, .d (.lst 1 (List.map (eI .i64) a1.Alphabet))), (32, .d (.int .i64 (a1.Alphabet.length : Int))), (33, .d (.int .i64 x14))], memOf Γ.n0 (bxs [(1, [.d (.lst 1 (List.map (eI .i64) a1.Alphabet)), .d (.int .i64 a1.States), .d (.lst 1 (List.map (eI .i64) a1.Marked)), .d (.lst 3 (List.map e_api_Edge a1.Edges))]), (2, [.own 1 (List.map (eI .i64) c7), .d (.int .i64 0), .own 1 (List.map (eI .i64) c8), .own 3 (List.map e_api_Edge c9)]), (5, [.d (.lst 1 (List.map (eI .i64) a1.Alphabet)), .d (.int .i64 r10), .d (.lst 1 (List.map (eI .i64) a1.Marked)), .own 3 (List.map e_api_Edge r15)])]) M, Γ.n0 + 68⟩) h (fun z h => ?_) (fun z h => ?_)
        ·refine sr ((md rfl (Rn.fldP (o' := 1) trivial rfl rfl (Rn.load (v := .d (.int .i64 a1.States)) trivial rfl (boxOwn rfl) rfl rfl (Rn.bin trivial rfl rfl rfl (Rn.nil (toN ?_)))))))
         refine Tr.cond rfl (fun hb20 => ?_) (fun hb20 => ?_)
         ·replace h := ifT hb20 h
          refine sr ((Rn.load (v := .agg [.d (.lst 1 (List.map (eI .i64) a1.Alphabet)), .d (.int .i64 a1.States), .d (.lst 1 (List.map (eI .i64) a1.Marked)), .d (.lst 3 (List.map e_api_Edge a1.Edges))]) trivial rfl (boxOwn rfl) rfl rfl (md rfl (md rfl ?_))))
          obtain ⟨x22, h21, h⟩ := bnd h
          refine Rn.call (args := [.agg [.d (.lst 1 (List.map (eI .i64) a1.Alphabet)), .d (.int .i64 a1.States), .d (.lst 1 (List.map (eI .i64) a1.Marked)), .d (.lst 3 (List.map e_api_Edge a1.Edges))], .d (.int .i64 x6), .d (.int .i64 x18)]) trivial rfl (H_automaton_next _ _ _ _ h21) pc9 (md rfl (nt ((sr ((md rfl (Rn.bin trivial rfl rfl rfl (Rn.nil (toN ?_)))))))))
          refine Tr.cond rfl (fun hb23 => ?_) (fun hb23 => ?_)
          ·replace h := ifT hb23 h
           refine Tr.rgn (md rfl (md rfl (Rn.nil ?_)))
           replace h := si h; subst h
           show WeakSt Γ _ ⟨look _, memOf _ (bxs _) _, _⟩; exact weak_cut [] ⟨(kPtr rfl), ⟨(kPtr rfl), ⟨(kPtr rfl), ⟨(.same rfl), ⟨(.same rfl), ⟨(.same rfl), ⟨(.same rfl), ⟨(.same rfl), ⟨(.same rfl), ⟨(.same rfl), ⟨(.same rfl), trivial⟩⟩⟩⟩⟩⟩⟩⟩⟩⟩⟩ ⟨⟨_, rfl, rfl, (.same rfl)⟩, ⟨⟨_, rfl, rfl, (.same rfl)⟩, ⟨⟨_, rfl, rfl, (.same rfl)⟩, trivial⟩⟩⟩ rfl
          ·replace h := ifF hb23 h
           refine Tr.skip ?_
           replace h := si h; subst h
           show WeakSt Γ _ ⟨look _, memOf _ (bxs _) _, _⟩; exact weak_cut [] ⟨(kPtr rfl), ⟨(kPtr rfl), ⟨(kPtr rfl), ⟨(.same rfl), ⟨(.same rfl), ⟨(.same rfl), ⟨(.same rfl), ⟨(.same rfl), ⟨(.same rfl), ⟨(.same rfl), ⟨(.same rfl), trivial⟩⟩⟩⟩⟩⟩⟩⟩⟩⟩⟩ ⟨⟨_, rfl, rfl, (.same rfl)⟩, ⟨⟨_, rfl, rfl, (.same rfl)⟩, ⟨⟨_, rfl, rfl, (.same rfl)⟩, trivial⟩⟩⟩ rfl
         ·replace h := ifF hb20 h
          refine Tr.skip ?_
          replace h := si h; subst h
          show WeakSt Γ _ ⟨look _, memOf _ (bxs _) _, _⟩; exact weak_cut [] ⟨(kPtr rfl), ⟨(kPtr rfl), ⟨(kPtr rfl), ⟨(.same rfl), ⟨(.same rfl), ⟨(.same rfl), ⟨(.same rfl), ⟨(.same rfl), ⟨(.same rfl), ⟨(.same rfl), ⟨(.same rfl), trivial⟩⟩⟩⟩⟩⟩⟩⟩⟩⟩⟩ ⟨⟨_, rfl, rfl, (.same rfl)⟩, ⟨⟨_, rfl, rfl, (.same rfl)⟩, ⟨⟨_, rfl, rfl, (.same rfl)⟩, trivial⟩⟩⟩ rfl
        ·obtain ⟨to24, rfl⟩ : ∃ x, x = z := ⟨_, rfl⟩
         refine Tr.rgn (Rn.fldP (o' := 3) trivial rfl rfl (Rn.loadT (cs' := [.d (.lst 1 (List.map (eI .i64) a1.Alphabet)), .d (.int .i64 r10), .d (.lst 1 (List.map (eI .i64) a1.Marked)), .d (.lst 3 (List.map e_api_Edge r15))]) trivial rfl rfl rfl rfl (md rfl (md rfl (md rfl (Rn.build (v := .agg [.d (.int .i64 x6), .d (.int .i64 x18), .d (.int .i64 to24)]) trivial rfl (Rn.bslice (xs := [.agg [.d (.int .i64 x6), .d (.int .i64 x18), .d (.int .i64 to24)]]) (cs := [.d (.int .i64 x6), .d (.int .i64 x18), .d (.int .i64 to24)]) trivial rfl rfl rfl rfl ?_)))))))
         obtain ⟨x25, h26, h⟩ := bnd h
         refine Rn.app (e := e_api_Edge) trivial rfl rfl rfl (elems_box rfl rfl rfl) h26 rfl (Rn.fldP (o' := 3) trivial rfl rfl (Rn.storeO (cs' := [.d (.lst 1 (List.map (eI .i64) a1.Alphabet)), .d (.int .i64 r10), .d (.lst 1 (List.map (eI .i64) a1.Marked)), .own 3 (List.map e_api_Edge x25)]) trivial rfl rfl rfl rfl rfl (nt ((Tr.rgn (Rn.bin trivial rfl rfl rfl (md rfl (Rn.nil ?_))))))))
         exact ⟨_, h, (by show WeakSt Γ (clean _ _ _) ⟨look _, memOf _ (bxs _) _, _⟩; exact weak_clean ⟨(kPtr rfl), ⟨(kPtr rfl), ⟨(kPtr rfl), ⟨(.same rfl), ⟨(.same rfl), ⟨(.same rfl), ⟨(.same rfl), ⟨(.same rfl), ⟨(.same rfl), trivial⟩⟩⟩⟩⟩⟩⟩⟩⟩ ⟨⟨_, rfl, rfl, (.same rfl)⟩, ⟨⟨_, rfl, rfl, (.same rfl)⟩, ⟨⟨_, rfl, rfl, (.same rfl)⟩, trivial⟩⟩⟩ rfl)⟩
       ·replace h := ifF hb17 h
        refine Tr.exit ?_
        replace h := si h; subst h
        show WeakSt Γ _ ⟨look _, memOf _ (bxs _) _, _⟩; exact weak_cut [] ⟨(kPtr rfl), ⟨(kPtr rfl), ⟨(kPtr rfl), ⟨(.same rfl), ⟨(.same rfl), trivial⟩⟩⟩⟩⟩ ⟨⟨_, rfl, rfl, (.same rfl)⟩, ⟨⟨_, rfl, rfl, (.same rfl)⟩, ⟨⟨_, rfl, rfl, (.same rfl)⟩, trivial⟩⟩⟩ rfl
     ·obtain ⟨r27, rfl⟩ : ∃ x, x = z := ⟨_, rfl⟩
      refine Tr.rgn (Rn.bin trivial rfl rfl rfl (md rfl (Rn.nil ?_)))
      exact ⟨_, h, (by show WeakSt Γ (clean _ _ _) ⟨look _, memOf _ (bxs _) _, _⟩; exact weak_clean ⟨(kPtr rfl), ⟨(kPtr rfl), ⟨(kPtr rfl), ⟨(.same rfl), ⟨(.same rfl), trivial⟩⟩⟩⟩⟩ ⟨⟨_, rfl, rfl, (.same rfl)⟩, ⟨⟨_, rfl, rfl, (.same rfl)⟩, ⟨⟨_, rfl, rfl, (.same rfl)⟩, trivial⟩⟩⟩ rfl)⟩
    ·replace h := ifF hb13 h
     refine Tr.exit ?_
     replace h := si h; subst h
     show WeakSt Γ _ ⟨look _, memOf _ (bxs _) _, _⟩; exact weak_cut [] ⟨(kPtr rfl), ⟨(kPtr rfl), trivial⟩⟩ ⟨⟨_, rfl, rfl, (.same rfl)⟩, ⟨⟨_, rfl, rfl, (.same rfl)⟩, ⟨⟨_, rfl, rfl, (.same rfl)⟩, trivial⟩⟩⟩ rfl
  ·obtain ⟨c28, c29, c30, r31, r32⟩ := z
   refine sr ((Rn.load (v := .agg [.d (.lst 1 (List.map (eI .i64) a1.Alphabet)), .d (.int .i64 r31), .d (.lst 1 (List.map (eI .i64) a1.Marked)), .d (.lst 3 (List.map e_api_Edge r32))]) trivial rfl (boxOwn rfl) rfl rfl ?_))
   obtain ⟨x34, h33, h⟩ := bnd h
   refine Rn.call (args := [.agg [.d (.lst 1 (List.map (eI .i64) a1.Alphabet)), .d (.int .i64 r31), .d (.lst 1 (List.map (eI .i64) a1.Marked)), .d (.lst 3 (List.map e_api_Edge r32))]]) trivial rfl (H_automaton_canonical _ _ h33) pc9 (Rn.store (v := .agg [.d (.lst 1 (List.map (eI .i64) x34.Alphabet)), .d (.int .i64 x34.States), .d (.lst 1 (List.map (eI .i64) x34.Marked)), .d (.lst 3 (List.map e_api_Edge x34.Edges))]) (cs' := [.d (.lst 1 (List.map (eI .i64) x34.Alphabet)), .d (.int .i64 x34.States), .d (.lst 1 (List.map (eI .i64) x34.Marked)), .d (.lst 3 (List.map e_api_Edge x34.Edges))]) trivial rfl rfl rfl rfl rfl rfl (nt ((Tr.seq (sr ((Rn.fldP (o' := 1) trivial rfl rfl (Rn.load (v := .d (.int .i64 x34.States)) trivial rfl (boxOwn rfl) rfl rfl (Rn.bin trivial rfl rfl rfl (Rn.nil (toN ?_)))))))))))
   refine Tr.cond rfl (fun hb35 => ?_) (fun hb35 => ?_)
   ·replace h := ifT hb35 h
    refine sr ((Rn.build (v := .agg [.nils 1, .d (.int .i64 0), .nils 1, .nils 3]) trivial rfl (Rn.store (v := .agg [.nils 1, .d (.int .i64 0), .nils 1, .nils 3]) (cs' := [.nils 1, .d (.int .i64 0), .nils 1, .nils 3]) trivial rfl rfl rfl rfl rfl rfl (md rfl (nt ((Tr.ret ?_)))))))
    replace h := si h; subst h
    exact ⟨.inr rfl, .tup [.agg [.nils 1, .d (.int .i64 0), .nils 1, .nils 3], .d (.int .i64 3)], res2 (resCell rfl rfl rfl rfl) rfl, (WkV.tup (.cons (WkV.agg (.cons (WkV.nilsD _) (.cons (.same rfl) (.cons (WkV.nilsD _) (.cons (WkV.nilsD _) .nil))))) (.cons (.same rfl) .nil))).rd, ⟨⟨trivial, trivial, trivial, trivial, trivial⟩, trivial, trivial⟩, fun k hk => memOf_base hk⟩
   ·replace h := ifF hb35 h
    refine Tr.skip (toN (sr ((Rn.load (v := .agg [.d (.lst 1 (List.map (eI .i64) x34.Alphabet)), .d (.int .i64 x34.States), .d (.lst 1 (List.map (eI .i64) x34.Marked)), .d (.lst 3 (List.map e_api_Edge x34.Edges))]) trivial rfl (boxOwn rfl) rfl rfl (Rn.store (v := .agg [.d (.lst 1 (List.map (eI .i64) x34.Alphabet)), .d (.int .i64 x34.States), .d (.lst 1 (List.map (eI .i64) x34.Marked)), .d (.lst 3 (List.map e_api_Edge x34.Edges))]) (cs' := [.d (.lst 1 (List.map (eI .i64) x34.Alphabet)), .d (.int .i64 x34.States), .d (.lst 1 (List.map (eI .i64) x34.Marked)), .d (.lst 3 (List.map e_api_Edge x34.Edges))]) trivial rfl rfl rfl rfl rfl rfl (md rfl (nt ((Tr.ret ?_)))))))))
    replace h := si h; subst h
    exact ⟨.inr rfl, .tup [.agg [.d (.lst 1 (List.map (eI .i64) x34.Alphabet)), .d (.int .i64 x34.States), .d (.lst 1 (List.map (eI .i64) x34.Marked)), .d (.lst 3 (List.map e_api_Edge x34.Edges))], .d (.int .i64 0)], res2 (resCell rfl rfl rfl rfl) rfl, (WkV.tup (.cons (.same rfl) (.cons (.same rfl) .nil))).rd, ⟨⟨trivial, trivial, trivial, trivial, trivial⟩, trivial, trivial⟩, fun k hk => memOf_base hk⟩
theorem automaton_Closed_walk {P : Program} {c : Nat} {f_automaton_Check : api_Automaton → Option Int} {f_automaton_canonical : api_Automaton → Option api_Automaton}
    (H_automaton_Check : K_automaton_Check P 45 f_automaton_Check)
    (H_automaton_canonical : K_automaton_canonical P 56 f_automaton_canonical) (hcf : compFn P c = some F_automaton_Closed) (fuel : Nat) : K_automaton_Closed P c (f_automaton_Closed f_automaton_Check f_automaton_canonical fuel) := by
 intro a1 r h
 refine fn_trP hcf rfl fun Γ M hP hnt hM => ?_
 subst hP
 refine Tr.init [(0, .agg [.d (.lst 1 (List.map (eI .i64) a1.Alphabet)), .d (.int .i64 a1.States), .d (.lst 1 (List.map (eI .i64) a1.Marked)), .d (.lst 3 (List.map e_api_Edge a1.Edges))])] rfl ?_
 unfold f_automaton_Closed at h
 unfold F_automaton_Closed
 refine sr ((Rn.box (v := .agg [.d (.lst 1 (List.map (eI .i64) a1.Alphabet)), .d (.int .i64 a1.States), .d (.lst 1 (List.map (eI .i64) a1.Marked)), .d (.lst 3 (List.map e_api_Edge a1.Edges))]) (cs := [.d (.lst 1 (List.map (eI .i64) a1.Alphabet)), .d (.int .i64 a1.States), .d (.lst 1 (List.map (eI .i64) a1.Marked)), .d (.lst 3 (List.map e_api_Edge a1.Edges))]) trivial rfl rfl rfl rfl rfl (Rn.alloc trivial rfl (md rfl (nt ((Tr.seq (sr ((Rn.load (v := .agg [.d (.lst 1 (List.map (eI .i64) a1.Alphabet)), .d (.int .i64 a1.States), .d (.lst 1 (List.map (eI .i64) a1.Marked)), .d (.lst 3 (List.map e_api_Edge a1.Edges))]) trivial rfl (boxOwn rfl) rfl rfl ?_))))))))))
 obtain ⟨x3, h2, h⟩ := bnd h
 refine Rn.call (args := [.agg [.d (.lst 1 (List.map (eI .i64) a1.Alphabet)), .d (.int .i64 a1.States), .d (.lst 1 (List.map (eI .i64) a1.Marked)), .d (.lst 3 (List.map e_api_Edge a1.Edges))]]) trivial rfl (H_automaton_Check _ _ h2) pc9 (md rfl (nt ((sr ((md rfl (Rn.bin trivial rfl rfl rfl (Rn.nil (toN ?_)))))))))
 refine Tr.cond rfl (fun hb4 => ?_) (fun hb4 => ?_)
 ·replace h := bT hb4 h
  refine sr ((Rn.build (v := .agg [.nils 1, .d (.int .i64 0), .nils 1, .nils 3]) trivial rfl (md rfl (Rn.store (v := .agg [.nils 1, .d (.int .i64 0), .nils 1, .nils 3]) (cs' := [.nils 1, .d (.int .i64 0), .nils 1, .nils 3]) trivial rfl rfl rfl rfl rfl rfl (md rfl (nt ((Tr.ret ?_))))))))
  replace h := si h; subst h
  exact ⟨.inr rfl, .tup [.agg [.nils 1, .d (.int .i64 0), .nils 1, .nils 3], .d (.int .i64 x3)], res2 (resCell rfl rfl rfl rfl) rfl, (WkV.tup (.cons (WkV.agg (.cons (WkV.nilsD _) (.cons (.same rfl) (.cons (WkV.nilsD _) (.cons (WkV.nilsD _) .nil))))) (.cons (.same rfl) .nil))).rd, ⟨⟨trivial, trivial, trivial, trivial, trivial⟩, trivial, trivial⟩, fun k hk => memOf_base hk⟩
 ·replace h := bF hb4 h
  refine Tr.skip (toN (sr ((Rn.load (v := .agg [.d (.lst 1 (List.map (eI .i64) a1.Alphabet)), .d (.int .i64 a1.States), .d (.lst 1 (List.map (eI .i64) a1.Marked)), .d (.lst 3 (List.map e_api_Edge a1.Edges))]) trivial rfl (boxOwn rfl) rfl rfl ?_))))
  obtain ⟨x6, h5, h⟩ := bnd h
  refine Rn.call (args := [.agg [.d (.lst 1 (List.map (eI .i64) a1.Alphabet)), .d (.int .i64 a1.States), .d (.lst 1 (List.map (eI .i64) a1.Marked)), .d (.lst 3 (List.map e_api_Edge a1.Edges))]]) trivial rfl (H_automaton_canonical _ _ h5) pc9 (Rn.alloc trivial rfl (Rn.store (v := .agg [.d (.lst 1 (List.map (eI .i64) x6.Alphabet)), .d (.int .i64 x6.States), .d (.lst 1 (List.map (eI .i64) x6.Marked)), .d (.lst 3 (List.map e_api_Edge x6.Edges))]) (cs' := [.d (.lst 1 (List.map (eI .i64) x6.Alphabet)), .d (.int .i64 x6.States), .d (.lst 1 (List.map (eI .i64) x6.Marked)), .d (.lst 3 (List.map e_api_Edge x6.Edges))]) trivial rfl rfl rfl rfl rfl rfl (nt ((sr ((Rn.fldP (o' := 2) trivial rfl rfl (Rn.store (v := .nils 1) (cs' := [.d (.lst 1 (List.map (eI .i64) x6.Alphabet)), .d (.int .i64 x6.States), .nils 1, .d (.lst 3 (List.map e_api_Edge x6.Edges))]) trivial rfl rfl rfl rfl rfl rfl (Rn.nil (toN ?_))))))))))
  refine Tr.cutB (fun ((c16, c17, c18, r19) : (List Int) × (List Int) × (List api_Edge) × (List Int)) => ⟨look [(2, .ptr (Γ.n0 + 2) 0), (5, .ptr (Γ.n0 + 5) 0)], memOf Γ.n0 (bxs [(1, [.d (.lst 1 (List.map (eI .i64) a1.Alphabet)), .d (.int .i64 a1.States), .d (.lst 1 (List.map (eI .i64) a1.Marked)), .d (.lst 3 (List.map e_api_Edge a1.Edges))]), (2, [.own 1 (List.map (eI .i64) c16), .d (.int .i64 0), .own 1 (List.map (eI .i64) c17), .own 3 (List.map e_api_Edge c18)]), (5, [.d (.lst 1 (List.map (eI .i64) x6.Alphabet)), .d (.int .i64 x6.States), .own 1 (List.map (eI .i64) r19), .d (.lst 3 (List.map e_api_Edge x6.Edges))])]) M, Γ.n0 + 29⟩) h (fun z h => ?_) (fun z h => ?_)
  ·refine sr ((Rn.fldP (o' := 1) trivial rfl rfl (Rn.load (v := .d (.int .i64 x6.States)) trivial rfl (boxOwn rfl) rfl rfl (md rfl (nt ((Tr.block ?_)))))))
   refine Tr.loop (mk := fun ((x7, c8, c9, c10, r11) : Int × (List Int) × (List Int) × (List api_Edge) × (List Int)) => ⟨look [(2, .ptr (Γ.n0 + 2) 0), (5, .ptr (Γ.n0 + 5) 0), (17, .d (.int .i64 x6.States)), (18, .d (.int .i64 x7))], memOf Γ.n0 (bxs [(1, [.d (.lst 1 (List.map (eI .i64) a1.Alphabet)), .d (.int .i64 a1.States), .d (.lst 1 (List.map (eI .i64) a1.Marked)), .d (.lst 3 (List.map e_api_Edge a1.Edges))]), (2, [.own 1 (List.map (eI .i64) c8), .d (.int .i64 0), .own 1 (List.map (eI .i64) c9), .own 3 (List.map e_api_Edge c10)]), (5, [.d (.lst 1 (List.map (eI .i64) x6.Alphabet)), .d (.int .i64 x6.States), .own 1 (List.map (eI .i64) r11), .d (.lst 3 (List.map e_api_Edge x6.Edges))])]) M, Γ.n0 + 29⟩) h (by show WeakSt Γ (clean _ _ _) ⟨look _, memOf _ (bxs _) _, _⟩; exact weak_clean ⟨(kPtr rfl), ⟨(kPtr rfl), ⟨(.same rfl), ⟨(.same rfl), trivial⟩⟩⟩⟩ ⟨⟨_, rfl, rfl, (.same rfl)⟩, ⟨⟨_, rfl, rfl, (.cons (WkV.nilsO _) (.cons (.same rfl) (.cons (WkV.nilsO _) (.cons (WkV.nilsO _) .nil))))⟩, ⟨⟨_, rfl, rfl, (.cons (.same rfl) (.cons (.same rfl) (.cons (WkV.nilsO _) (.cons (.same rfl) .nil))))⟩, trivial⟩⟩⟩ rfl) (fun k12 z h => ?_)
   ·obtain ⟨x7, c8, c9, c10, r11⟩ := z
    replace h : _ = some _ := h
    refine sr ((Rn.bin trivial rfl rfl rfl (nt ((Tr.seq ?_)))))
    refine Tr.cond rfl (fun hb13 => ?_) (fun hb13 => ?_)
    ·replace h := ifT hb13 h
     refine Tr.skip (toN (Tr.seq (Tr.block (sr ((md rfl (md rfl (nt ((Tr.rgn (Rn.fldP (o' := 2) trivial rfl rfl (Rn.loadT (cs' := [.d (.lst 1 (List.map (eI .i64) x6.Alphabet)), .d (.int .i64 x6.States), .d (.lst 1 (List.map (eI .i64) r11)), .d (.lst 3 (List.map e_api_Edge x6.Edges))]) trivial rfl rfl rfl rfl (md rfl (Rn.bslice (xs := [.d (.int .i64 x7)]) (cs := [.d (.int .i64 x7)]) trivial rfl rfl rfl rfl ?_))))))))))))))
     obtain ⟨x14, h15, h⟩ := bnd h
     refine Rn.app (e := (eI .i64)) trivial rfl rfl rfl (elems_box rfl rfl rfl) h15 rfl (Rn.fldP (o' := 2) trivial rfl rfl (Rn.storeO (cs' := [.d (.lst 1 (List.map (eI .i64) x6.Alphabet)), .d (.int .i64 x6.States), .own 1 (List.map (eI .i64) x14), .d (.lst 3 (List.map e_api_Edge x6.Edges))]) trivial rfl rfl rfl rfl rfl (nt ((Tr.rgn (Rn.bin trivial rfl rfl rfl (md rfl (Rn.nil ?_))))))))
     exact ⟨_, h, (by show WeakSt Γ (clean _ _ _) ⟨look _, memOf _ (bxs _) _, _⟩; exact weak_clean ⟨(kPtr rfl), ⟨(kPtr rfl), ⟨(.same rfl), ⟨(.same rfl), trivial⟩⟩⟩⟩ ⟨⟨_, rfl, rfl, (.same rfl)⟩, ⟨⟨_, rfl, rfl, (.same rfl)⟩, ⟨⟨_, rfl, rfl, (.same rfl)⟩, trivial⟩⟩⟩ rfl)⟩
    ·replace h := ifF hb13 h
     refine Tr.exit ?_
     replace h := si h; subst h
     show WeakSt Γ _ ⟨look _, memOf _ (bxs _) _, _⟩; exact weak_cut [] ⟨(kPtr rfl), ⟨(kPtr rfl), trivial⟩⟩ ⟨⟨_, rfl, rfl, (.same rfl)⟩, ⟨⟨_, rfl, rfl, (.same rfl)⟩, ⟨⟨_, rfl, rfl, (.same rfl)⟩, trivial⟩⟩⟩ rfl
  ·obtain ⟨c16, c17, c18, r19⟩ := z
   refine sr ((Rn.load (v := .agg [.d (.lst 1 (List.map (eI .i64) x6.Alphabet)), .d (.int .i64 x6.States), .d (.lst 1 (List.map (eI .i64) r19)), .d (.lst 3 (List.map e_api_Edge x6.Edges))]) trivial rfl (boxOwn rfl) rfl rfl (Rn.store (v := .agg [.d (.lst 1 (List.map (eI .i64) x6.Alphabet)), .d (.int .i64 x6.States), .d (.lst 1 (List.map (eI .i64) r19)), .d (.lst 3 (List.map e_api_Edge x6.Edges))]) (cs' := [.d (.lst 1 (List.map (eI .i64) x6.Alphabet)), .d (.int .i64 x6.States), .d (.lst 1 (List.map (eI .i64) r19)), .d (.lst 3 (List.map e_api_Edge x6.Edges))]) trivial rfl rfl rfl rfl rfl rfl (md rfl (nt ((Tr.ret ?_)))))))
   replace h := si h; subst h
   exact ⟨.inr rfl, .tup [.agg [.d (.lst 1 (List.map (eI .i64) x6.Alphabet)), .d (.int .i64 x6.States), .d (.lst 1 (List.map (eI .i64) r19)), .d (.lst 3 (List.map e_api_Edge x6.Edges))], .d (.int .i64 0)], res2 (resCell rfl rfl rfl rfl) rfl, (WkV.tup (.cons (.same rfl) (.cons (.same rfl) .nil))).rd, ⟨⟨trivial, trivial, trivial, trivial, trivial⟩, trivial, trivial⟩, fun k hk => memOf_base hk⟩
theorem overseerref03_Complete_walk {P : Program} {c : Nat} {f_overseerref03_Canonical : api_Automaton → Option api_Automaton} {f_overseerref03_Step : api_Automaton → Int → Int → Option Int}
    (H_overseerref03_Canonical : K_overseerref03_Canonical P 28 f_overseerref03_Canonical)
    (H_overseerref03_Step : K_overseerref03_Step P 40 f_overseerref03_Step) (hcf : compFn P c = some F_overseerref03_Complete) (fuel : Nat) : K_overseerref03_Complete P c (f_overseerref03_Complete f_overseerref03_Canonical f_overseerref03_Step fuel) := by
 intro a1 r h
 refine fn_trP hcf rfl fun Γ M hP hnt hM => ?_
 subst hP
 refine Tr.init [(0, .agg [.d (.lst 1 (List.map (eI .i64) a1.Alphabet)), .d (.int .i64 a1.States), .d (.lst 1 (List.map (eI .i64) a1.Marked)), .d (.lst 3 (List.map e_api_Edge a1.Edges))])] rfl ?_
 unfold f_overseerref03_Complete at h
 unfold F_overseerref03_Complete
 refine sr ((Rn.box (v := .agg [.d (.lst 1 (List.map (eI .i64) a1.Alphabet)), .d (.int .i64 a1.States), .d (.lst 1 (List.map (eI .i64) a1.Marked)), .d (.lst 3 (List.map e_api_Edge a1.Edges))]) (cs := [.d (.lst 1 (List.map (eI .i64) a1.Alphabet)), .d (.int .i64 a1.States), .d (.lst 1 (List.map (eI .i64) a1.Marked)), .d (.lst 3 (List.map e_api_Edge a1.Edges))]) trivial rfl rfl rfl rfl rfl (Rn.alloc trivial rfl (nt ((sr ((Rn.fldP (o' := 0) trivial rfl rfl (Rn.load (v := .d (.lst 1 (List.map (eI .i64) a1.Alphabet))) trivial rfl (boxOwn rfl) rfl rfl (Rn.fldP (o' := 1) trivial rfl rfl (Rn.load (v := .d (.int .i64 a1.States)) trivial rfl (boxOwn rfl) rfl rfl (Rn.bin trivial rfl rfl rfl (Rn.fldP (o' := 2) trivial rfl rfl (Rn.load (v := .d (.lst 1 (List.map (eI .i64) a1.Marked))) trivial rfl (boxOwn rfl) rfl rfl (Rn.build (v := .agg [.d (.lst 1 (List.map (eI .i64) a1.Alphabet)), .d (.int .i64 (IntKind.wrap .i64 (a1.States + 1))), .d (.lst 1 (List.map (eI .i64) a1.Marked)), .nils 3]) trivial rfl (Rn.alloc trivial rfl (Rn.store (v := .agg [.d (.lst 1 (List.map (eI .i64) a1.Alphabet)), .d (.int .i64 (IntKind.wrap .i64 (a1.States + 1))), .d (.lst 1 (List.map (eI .i64) a1.Marked)), .nils 3]) (cs' := [.d (.lst 1 (List.map (eI .i64) a1.Alphabet)), .d (.int .i64 (IntKind.wrap .i64 (a1.States + 1))), .d (.lst 1 (List.map (eI .i64) a1.Marked)), .nils 3]) trivial rfl rfl rfl rfl rfl rfl (Rn.nil (toN ?_)))))))))))))))))))
 refine Tr.cutB (fun ((c25, c26, c27, out28, out29) : (List Int) × (List Int) × (List api_Edge) × Int × (List api_Edge)) => ⟨look [(2, .ptr (Γ.n0 + 2) 0), (3, .ptr (Γ.n0 + 3) 0)], memOf Γ.n0 (bxs [(1, [.d (.lst 1 (List.map (eI .i64) a1.Alphabet)), .d (.int .i64 a1.States), .d (.lst 1 (List.map (eI .i64) a1.Marked)), .d (.lst 3 (List.map e_api_Edge a1.Edges))]), (2, [.own 1 (List.map (eI .i64) c25), .d (.int .i64 0), .own 1 (List.map (eI .i64) c26), .own 3 (List.map e_api_Edge c27)]), (3, [.d (.lst 1 (List.map (eI .i64) a1.Alphabet)), .d (.int .i64 out28), .d (.lst 1 (List.map (eI .i64) a1.Marked)), .own 3 (List.map e_api_Edge out29)])]) M, Γ.n0 + 55⟩) h (fun z h => ?_) (fun z h => ?_)
 ·refine sr ((md rfl (nt ((Tr.block ?_)))))
  refine Tr.loop (mk := fun ((state2, c3, c4, c5, out6, out7) : Int × (List Int) × (List Int) × (List api_Edge) × Int × (List api_Edge)) => ⟨look [(1, .ptr (Γ.n0 + 1) 0), (2, .ptr (Γ.n0 + 2) 0), (3, .ptr (Γ.n0 + 3) 0), (4, .d (.int .i64 state2))], memOf Γ.n0 (bxs [(1, [.d (.lst 1 (List.map (eI .i64) a1.Alphabet)), .d (.int .i64 a1.States), .d (.lst 1 (List.map (eI .i64) a1.Marked)), .d (.lst 3 (List.map e_api_Edge a1.Edges))]), (2, [.own 1 (List.map (eI .i64) c3), .d (.int .i64 0), .own 1 (List.map (eI .i64) c4), .own 3 (List.map e_api_Edge c5)]), (3, [.d (.lst 1 (List.map (eI .i64) a1.Alphabet)), .d (.int .i64 out6), .d (.lst 1 (List.map (eI .i64) a1.Marked)), .own 3 (List.map e_api_Edge out7)])]) M, Γ.n0 + 55⟩) h (by show WeakSt Γ (clean _ _ _) ⟨look _, memOf _ (bxs _) _, _⟩; exact weak_clean ⟨(kPtr rfl), ⟨(kPtr rfl), ⟨(kPtr rfl), ⟨(.same rfl), trivial⟩⟩⟩⟩ ⟨⟨_, rfl, rfl, (.same rfl)⟩, ⟨⟨_, rfl, rfl, (.cons (WkV.nilsO _) (.cons (.same rfl) (.cons (WkV.nilsO _) (.cons (WkV.nilsO _) .nil))))⟩, ⟨⟨_, rfl, rfl, (.cons (.same rfl) (.cons (.same rfl) (.cons (.same rfl) (.cons (WkV.nilsO _) .nil))))⟩, trivial⟩⟩⟩ rfl) (fun k8 z h => ?_)
  ·obtain ⟨state2, c3, c4, c5, out6, out7⟩ := z
   replace h : _ = some _ := h
   refine Tr.seq (sr ((md rfl (Rn.fldP (o' := 1) trivial rfl rfl (Rn.load (v := .d (.int .i64 a1.States)) trivial rfl (boxOwn rfl) rfl rfl (Rn.bin trivial rfl rfl rfl (Rn.nil (toN ?_))))))))
   refine Tr.cond rfl (fun hb9 => ?_) (fun hb9 => ?_)
   ·replace h := ifT hb9 h
    refine Tr.skip (toN ?_)
    refine Tr.cutB (fun (out24 : List api_Edge) => ⟨look [(1, .ptr (Γ.n0 + 1) 0), (2, .ptr (Γ.n0 + 2) 0), (3, .ptr (Γ.n0 + 3) 0), (4, .d (.int .i64 state2))], memOf Γ.n0 (bxs [(1, [.d (.lst 1 (List.map (eI .i64) a1.Alphabet)), .d (.int .i64 a1.States), .d (.lst 1 (List.map (eI .i64) a1.Marked)), .d (.lst 3 (List.map e_api_Edge a1.Edges))]), (2, [.own 1 (List.map (eI .i64) c3), .d (.int .i64 0), .own 1 (List.map (eI .i64) c4), .own 3 (List.map e_api_Edge c5)]), (3, [.d (.lst 1 (List.map (eI .i64) a1.Alphabet)), .d (.int .i64 out6), .d (.lst 1 (List.map (eI .i64) a1.Marked)), .own 3 (List.map e_api_Edge out24)])]) M, Γ.n0 + 55⟩) h (fun z h => ?_) (fun z h => ?_)
    ·refine Tr.block (sr ((md rfl (nt ((Tr.block ?_))))))
     refine Tr.loop (mk := fun ((k10, out11) : Int × (List api_Edge)) => ⟨look [(1, .ptr (Γ.n0 + 1) 0), (2, .ptr (Γ.n0 + 2) 0), (3, .ptr (Γ.n0 + 3) 0), (4, .d (.int .i64 state2)), (5, .d (.int .i64 k10))], memOf Γ.n0 (bxs [(1, [.d (.lst 1 (List.map (eI .i64) a1.Alphabet)), .d (.int .i64 a1.States), .d (.lst 1 (List.map (eI .i64) a1.Marked)), .d (.lst 3 (List.map e_api_Edge a1.Edges))]), (2, [.own 1 (List.map (eI .i64) c3), .d (.int .i64 0), .own 1 (List.map (eI .i64) c4), .own 3 (List.map e_api_Edge c5)]), (3, [.d (.lst 1 (List.map (eI .i64) a1.Alphabet)), .d (.int .i64 out6), .d (.lst 1 (List.map (eI .i64) a1.Marked)), .own 3 (List.map e_api_Edge out11)])]) M, Γ.n0 + 55⟩) h (by show WeakSt Γ (clean _ _ _) ⟨look _, memOf _ (bxs _) _, _⟩; exact weak_clean ⟨(kPtr rfl), ⟨(kPtr rfl), ⟨(kPtr rfl), ⟨(.same rfl), ⟨(.same rfl), trivial⟩⟩⟩⟩⟩ ⟨⟨_, rfl, rfl, (.same rfl)⟩, ⟨⟨_, rfl, rfl, (.same rfl)⟩, ⟨⟨_, rfl, rfl, (.same rfl)⟩, trivial⟩⟩⟩ rfl) (fun k12 z h => ?_)
     ·obtain ⟨k10, out11⟩ := z
      replace h : _ = some _ := h
      refine Tr.seq (sr ((md rfl (Rn.fldP (o' := 0) trivial rfl rfl (Rn.load (v := .d (.lst 1 (List.map (eI .i64) a1.Alphabet))) trivial rfl (boxOwn rfl) rfl rfl (Rn.lenD trivial rfl (Rn.bin trivial rfl rfl rfl (Rn.nil (toN ?_)))))))))
      refine Tr.cond rfl (fun hb13 => ?_) (fun hb13 => ?_)
      ·replace h := ifT hb13 h
       refine Tr.skip (toN (Tr.seq (Tr.block (Tr.seq ?_))))
       refine Tr.rgnD (by decide) ?_
       refine Rn.load (v := .agg [.d (.lst 1 (List.map (eI .i64) a1.Alphabet)), .d (.int .i64 a1.States), .d (.lst 1 (List.map (eI .i64) a1.Marked)), .d (.lst 3 (List.map e_api_Edge a1.Edges))]) trivial rfl (boxOwn rfl) rfl rfl (md rfl (Rn.fldP (o' := 0) trivial rfl rfl (Rn.load (v := .d (.lst 1 (List.map (eI .i64) a1.Alphabet))) trivial rfl (boxOwn rfl) rfl rfl (md rfl ?_))))
       obtain ⟨x14, h15, h⟩ := bnd h
       refine Rn.idxD (e := (eI .i64)) trivial rfl rfl h15 (Rn.loadC (x := .int .i64 x14) trivial rfl ?_)
       obtain ⟨x17, h16, h⟩ := bnd h
       refine Rn.call (args := [.agg [.d (.lst 1 (List.map (eI .i64) a1.Alphabet)), .d (.int .i64 a1.States), .d (.lst 1 (List.map (eI .i64) a1.Marked)), .d (.lst 3 (List.map e_api_Edge a1.Edges))], .d (.int .i64 state2), .d (.int .i64 x14)]) trivial rfl (H_overseerref03_Step _ _ _ _ h16) pc0 (md rfl ?_)
       refine Rn.nil ⟨rfl, ?_⟩
       refine toN ?_
       refine Tr.cutB (fun (to19 : Int) => ⟨look [(1, .ptr (Γ.n0 + 1) 0), (2, .ptr (Γ.n0 + 2) 0), (3, .ptr (Γ.n0 + 3) 0), (4, .d (.int .i64 state2)), (5, .d (.int .i64 k10)), (6, .d (.int .i64 to19))], memOf Γ.n0 (bxs [(1, [.d (.lst 1 (List.map (eI .i64) a1.Alphabet)), .d (.int .i64 a1.States), .d (.lst 1 (List.map (eI .i64) a1.Marked)), .d (.lst 3 (List.map e_api_Edge a1.Edges))]), (2, [.own 1 (List.map (eI .i64) c3), .d (.int .i64 0), .own 1 (List.map (eI .i64) c4), .own 3 (List.map e_api_Edge c5)]), (3, [.d (.lst 1 (List.map (eI .i64) a1.Alphabet)), .d (.int .i64 out6), .d (.lst 1 (List.map (eI .i64) a1.Marked)), .own 3 (List.map e_api_Edge out11)])]) M, Γ.n0 + 55⟩) h (fun z h => ?_) (fun z h => ?_)
       ·refine sr ((md rfl (Rn.bin trivial rfl rfl rfl (Rn.nil (toN ?_)))))
        refine Tr.cond rfl (fun hb18 => ?_) (fun hb18 => ?_)
        ·replace h := ifT hb18 h
         refine Tr.rgn (Rn.fldP (o' := 1) trivial rfl rfl (Rn.load (v := .d (.int .i64 a1.States)) trivial rfl (boxOwn rfl) rfl rfl (md rfl (Rn.nil ?_))))
         replace h := si h; subst h
         show WeakSt Γ _ ⟨look _, memOf _ (bxs _) _, _⟩; exact weak_cut [] ⟨(kPtr rfl), ⟨(kPtr rfl), ⟨(kPtr rfl), ⟨(.same rfl), ⟨(.same rfl), ⟨(.same rfl), trivial⟩⟩⟩⟩⟩⟩ ⟨⟨_, rfl, rfl, (.same rfl)⟩, ⟨⟨_, rfl, rfl, (.same rfl)⟩, ⟨⟨_, rfl, rfl, (.same rfl)⟩, trivial⟩⟩⟩ rfl
        ·replace h := ifF hb18 h
         refine Tr.skip ?_
         replace h := si h; subst h
         show WeakSt Γ _ ⟨look _, memOf _ (bxs _) _, _⟩; exact weak_cut [] ⟨(kPtr rfl), ⟨(kPtr rfl), ⟨(kPtr rfl), ⟨(.same rfl), ⟨(.same rfl), ⟨(.same rfl), trivial⟩⟩⟩⟩⟩⟩ ⟨⟨_, rfl, rfl, (.same rfl)⟩, ⟨⟨_, rfl, rfl, (.same rfl)⟩, ⟨⟨_, rfl, rfl, (.same rfl)⟩, trivial⟩⟩⟩ rfl
       ·obtain ⟨to19, rfl⟩ : ∃ x, x = z := ⟨_, rfl⟩
        refine Tr.rgnD (by decide) ?_
        refine Rn.fldP (o' := 3) trivial rfl rfl (Rn.loadT (cs' := [.d (.lst 1 (List.map (eI .i64) a1.Alphabet)), .d (.int .i64 out6), .d (.lst 1 (List.map (eI .i64) a1.Marked)), .d (.lst 3 (List.map e_api_Edge out11))]) trivial rfl rfl rfl rfl (md rfl (Rn.fldP (o' := 0) trivial rfl rfl (Rn.load (v := .d (.lst 1 (List.map (eI .i64) a1.Alphabet))) trivial rfl (boxOwn rfl) rfl rfl (md rfl ?_)))))
        obtain ⟨x20, h21, h⟩ := bnd h
        refine Rn.idxD (e := (eI .i64)) trivial rfl rfl h21 (Rn.loadC (x := .int .i64 x20) trivial rfl (md rfl (Rn.build (v := .agg [.d (.int .i64 state2), .d (.int .i64 x20), .d (.int .i64 to19)]) trivial rfl (Rn.bslice (xs := [.agg [.d (.int .i64 state2), .d (.int .i64 x20), .d (.int .i64 to19)]]) (cs := [.d (.int .i64 state2), .d (.int .i64 x20), .d (.int .i64 to19)]) trivial rfl rfl rfl rfl ?_))))
        obtain ⟨x22, h23, h⟩ := bnd h
        refine Rn.app (e := e_api_Edge) trivial rfl rfl rfl (elems_box rfl rfl rfl) h23 rfl (Rn.fldP (o' := 3) trivial rfl rfl (Rn.storeO (cs' := [.d (.lst 1 (List.map (eI .i64) a1.Alphabet)), .d (.int .i64 out6), .d (.lst 1 (List.map (eI .i64) a1.Marked)), .own 3 (List.map e_api_Edge x22)]) trivial rfl rfl rfl rfl rfl ?_))
        refine Rn.nil ⟨rfl, ?_⟩
        refine toN (Tr.rgn (md rfl (Rn.bin trivial rfl rfl rfl (md rfl (Rn.nil ?_)))))
        exact ⟨_, h, (by show WeakSt Γ (clean _ _ _) ⟨look _, memOf _ (bxs _) _, _⟩; exact weak_clean ⟨(kPtr rfl), ⟨(kPtr rfl), ⟨(kPtr rfl), ⟨(.same rfl), ⟨(.same rfl), trivial⟩⟩⟩⟩⟩ ⟨⟨_, rfl, rfl, (.same rfl)⟩, ⟨⟨_, rfl, rfl, (.same rfl)⟩, ⟨⟨_, rfl, rfl, (.same rfl)⟩, trivial⟩⟩⟩ rfl)⟩
      ·replace h := ifF hb13 h
       refine Tr.exit ?_
       replace h := si h; subst h
       show WeakSt Γ _ ⟨look _, memOf _ (bxs _) _, _⟩; exact weak_cut [] ⟨(kPtr rfl), ⟨(kPtr rfl), ⟨(kPtr rfl), ⟨(.same rfl), trivial⟩⟩⟩⟩ ⟨⟨_, rfl, rfl, (.same rfl)⟩, ⟨⟨_, rfl, rfl, (.same rfl)⟩, ⟨⟨_, rfl, rfl, (.same rfl)⟩, trivial⟩⟩⟩ rfl
    ·obtain ⟨out24, rfl⟩ : ∃ x, x = z := ⟨_, rfl⟩
     refine Tr.rgn (md rfl (Rn.bin trivial rfl rfl rfl (md rfl (Rn.nil ?_))))
     exact ⟨_, h, (by show WeakSt Γ (clean _ _ _) ⟨look _, memOf _ (bxs _) _, _⟩; exact weak_clean ⟨(kPtr rfl), ⟨(kPtr rfl), ⟨(kPtr rfl), ⟨(.same rfl), trivial⟩⟩⟩⟩ ⟨⟨_, rfl, rfl, (.same rfl)⟩, ⟨⟨_, rfl, rfl, (.same rfl)⟩, ⟨⟨_, rfl, rfl, (.same rfl)⟩, trivial⟩⟩⟩ rfl)⟩
   ·replace h := ifF hb9 h
    refine Tr.exit ?_
    replace h := si h; subst h
    show WeakSt Γ _ ⟨look _, memOf _ (bxs _) _, _⟩; exact weak_cut [] ⟨(kPtr rfl), ⟨(kPtr rfl), trivial⟩⟩ ⟨⟨_, rfl, rfl, (.same rfl)⟩, ⟨⟨_, rfl, rfl, (.same rfl)⟩, ⟨⟨_, rfl, rfl, (.same rfl)⟩, trivial⟩⟩⟩ rfl
 ·obtain ⟨c25, c26, c27, out28, out29⟩ := z
  refine sr ((Rn.load (v := .agg [.d (.lst 1 (List.map (eI .i64) a1.Alphabet)), .d (.int .i64 out28), .d (.lst 1 (List.map (eI .i64) a1.Marked)), .d (.lst 3 (List.map e_api_Edge out29))]) trivial rfl (boxOwn rfl) rfl rfl ?_))
  obtain ⟨x31, h30, h⟩ := bnd h
  refine Rn.call (args := [.agg [.d (.lst 1 (List.map (eI .i64) a1.Alphabet)), .d (.int .i64 out28), .d (.lst 1 (List.map (eI .i64) a1.Marked)), .d (.lst 3 (List.map e_api_Edge out29))]]) trivial rfl (H_overseerref03_Canonical _ _ h30) pc9 (Rn.store (v := .agg [.d (.lst 1 (List.map (eI .i64) x31.Alphabet)), .d (.int .i64 x31.States), .d (.lst 1 (List.map (eI .i64) x31.Marked)), .d (.lst 3 (List.map e_api_Edge x31.Edges))]) (cs' := [.d (.lst 1 (List.map (eI .i64) x31.Alphabet)), .d (.int .i64 x31.States), .d (.lst 1 (List.map (eI .i64) x31.Marked)), .d (.lst 3 (List.map e_api_Edge x31.Edges))]) trivial rfl rfl rfl rfl rfl rfl (nt ((Tr.ret ?_))))
  replace h := si h; subst h
  exact ⟨.inr rfl, (.agg [.d (.lst 1 (List.map (eI .i64) x31.Alphabet)), .d (.int .i64 x31.States), .d (.lst 1 (List.map (eI .i64) x31.Marked)), .d (.lst 3 (List.map e_api_Edge x31.Edges))]), resCell rfl rfl rfl rfl, fun _ _ _ _ h => h, ⟨trivial, trivial, trivial, trivial, trivial⟩, fun k hk => memOf_base hk⟩
theorem overseerref03_Closed_walk {P : Program} {c : Nat} {f_overseerref03_Canonical : api_Automaton → Option api_Automaton}
    (H_overseerref03_Canonical : K_overseerref03_Canonical P 28 f_overseerref03_Canonical) (hcf : compFn P c = some F_overseerref03_Closed) (fuel : Nat) : K_overseerref03_Closed P c (f_overseerref03_Closed f_overseerref03_Canonical fuel) := by
 intro a1 r h
 refine fn_trP hcf rfl fun Γ M hP hnt hM => ?_
 subst hP
 refine Tr.init [(0, .agg [.d (.lst 1 (List.map (eI .i64) a1.Alphabet)), .d (.int .i64 a1.States), .d (.lst 1 (List.map (eI .i64) a1.Marked)), .d (.lst 3 (List.map e_api_Edge a1.Edges))])] rfl ?_
 unfold f_overseerref03_Closed at h
 unfold F_overseerref03_Closed
 refine sr ((Rn.box (v := .agg [.d (.lst 1 (List.map (eI .i64) a1.Alphabet)), .d (.int .i64 a1.States), .d (.lst 1 (List.map (eI .i64) a1.Marked)), .d (.lst 3 (List.map e_api_Edge a1.Edges))]) (cs := [.d (.lst 1 (List.map (eI .i64) a1.Alphabet)), .d (.int .i64 a1.States), .d (.lst 1 (List.map (eI .i64) a1.Marked)), .d (.lst 3 (List.map e_api_Edge a1.Edges))]) trivial rfl rfl rfl rfl rfl (Rn.alloc trivial rfl (nt ((sr ((Rn.load (v := .agg [.d (.lst 1 (List.map (eI .i64) a1.Alphabet)), .d (.int .i64 a1.States), .d (.lst 1 (List.map (eI .i64) a1.Marked)), .d (.lst 3 (List.map e_api_Edge a1.Edges))]) trivial rfl (boxOwn rfl) rfl rfl ?_))))))))
 obtain ⟨x3, h2, h⟩ := bnd h
 refine Rn.call (args := [.agg [.d (.lst 1 (List.map (eI .i64) a1.Alphabet)), .d (.int .i64 a1.States), .d (.lst 1 (List.map (eI .i64) a1.Marked)), .d (.lst 3 (List.map e_api_Edge a1.Edges))]]) trivial rfl (H_overseerref03_Canonical _ _ h2) pc9 (Rn.alloc trivial rfl (Rn.store (v := .agg [.d (.lst 1 (List.map (eI .i64) x3.Alphabet)), .d (.int .i64 x3.States), .d (.lst 1 (List.map (eI .i64) x3.Marked)), .d (.lst 3 (List.map e_api_Edge x3.Edges))]) (cs' := [.d (.lst 1 (List.map (eI .i64) x3.Alphabet)), .d (.int .i64 x3.States), .d (.lst 1 (List.map (eI .i64) x3.Marked)), .d (.lst 3 (List.map e_api_Edge x3.Edges))]) trivial rfl rfl rfl rfl rfl rfl (nt ((sr ((Rn.fldP (o' := 2) trivial rfl rfl (Rn.store (v := .nils 1) (cs' := [.d (.lst 1 (List.map (eI .i64) x3.Alphabet)), .d (.int .i64 x3.States), .nils 1, .d (.lst 3 (List.map e_api_Edge x3.Edges))]) trivial rfl rfl rfl rfl rfl rfl (Rn.nil (toN ?_))))))))))
 refine Tr.cutB (fun ((c13, c14, c15, out16) : (List Int) × (List Int) × (List api_Edge) × (List Int)) => ⟨look [(2, .ptr (Γ.n0 + 2) 0), (3, .ptr (Γ.n0 + 3) 0)], memOf Γ.n0 (bxs [(1, [.d (.lst 1 (List.map (eI .i64) a1.Alphabet)), .d (.int .i64 a1.States), .d (.lst 1 (List.map (eI .i64) a1.Marked)), .d (.lst 3 (List.map e_api_Edge a1.Edges))]), (2, [.own 1 (List.map (eI .i64) c13), .d (.int .i64 0), .own 1 (List.map (eI .i64) c14), .own 3 (List.map e_api_Edge c15)]), (3, [.d (.lst 1 (List.map (eI .i64) x3.Alphabet)), .d (.int .i64 x3.States), .own 1 (List.map (eI .i64) out16), .d (.lst 3 (List.map e_api_Edge x3.Edges))])]) M, Γ.n0 + 21⟩) h (fun z h => ?_) (fun z h => ?_)
 ·refine sr ((md rfl (nt ((Tr.block ?_)))))
  refine Tr.loop (mk := fun ((i4, c5, c6, c7, out8) : Int × (List Int) × (List Int) × (List api_Edge) × (List Int)) => ⟨look [(2, .ptr (Γ.n0 + 2) 0), (3, .ptr (Γ.n0 + 3) 0), (4, .d (.int .i64 i4))], memOf Γ.n0 (bxs [(1, [.d (.lst 1 (List.map (eI .i64) a1.Alphabet)), .d (.int .i64 a1.States), .d (.lst 1 (List.map (eI .i64) a1.Marked)), .d (.lst 3 (List.map e_api_Edge a1.Edges))]), (2, [.own 1 (List.map (eI .i64) c5), .d (.int .i64 0), .own 1 (List.map (eI .i64) c6), .own 3 (List.map e_api_Edge c7)]), (3, [.d (.lst 1 (List.map (eI .i64) x3.Alphabet)), .d (.int .i64 x3.States), .own 1 (List.map (eI .i64) out8), .d (.lst 3 (List.map e_api_Edge x3.Edges))])]) M, Γ.n0 + 21⟩) h (by show WeakSt Γ (clean _ _ _) ⟨look _, memOf _ (bxs _) _, _⟩; exact weak_clean ⟨(kPtr rfl), ⟨(kPtr rfl), ⟨(.same rfl), trivial⟩⟩⟩ ⟨⟨_, rfl, rfl, (.same rfl)⟩, ⟨⟨_, rfl, rfl, (.cons (WkV.nilsO _) (.cons (.same rfl) (.cons (WkV.nilsO _) (.cons (WkV.nilsO _) .nil))))⟩, ⟨⟨_, rfl, rfl, (.cons (.same rfl) (.cons (.same rfl) (.cons (WkV.nilsO _) (.cons (.same rfl) .nil))))⟩, trivial⟩⟩⟩ rfl) (fun k9 z h => ?_)
  ·obtain ⟨i4, c5, c6, c7, out8⟩ := z
   replace h : _ = some _ := h
   refine Tr.seq (sr ((md rfl (Rn.fldP (o' := 1) trivial rfl rfl (Rn.load (v := .d (.int .i64 x3.States)) trivial rfl (boxOwn rfl) rfl rfl (Rn.bin trivial rfl rfl rfl (Rn.nil (toN ?_))))))))
   refine Tr.cond rfl (fun hb10 => ?_) (fun hb10 => ?_)
   ·replace h := ifT hb10 h
    refine Tr.skip (toN (Tr.seq (Tr.block (Tr.rgn (Rn.fldP (o' := 2) trivial rfl rfl (Rn.loadT (cs' := [.d (.lst 1 (List.map (eI .i64) x3.Alphabet)), .d (.int .i64 x3.States), .d (.lst 1 (List.map (eI .i64) out8)), .d (.lst 3 (List.map e_api_Edge x3.Edges))]) trivial rfl rfl rfl rfl (md rfl (Rn.bslice (xs := [.d (.int .i64 i4)]) (cs := [.d (.int .i64 i4)]) trivial rfl rfl rfl rfl ?_))))))))
    obtain ⟨x11, h12, h⟩ := bnd h
    refine Rn.app (e := (eI .i64)) trivial rfl rfl rfl (elems_box rfl rfl rfl) h12 rfl (Rn.fldP (o' := 2) trivial rfl rfl (Rn.storeO (cs' := [.d (.lst 1 (List.map (eI .i64) x3.Alphabet)), .d (.int .i64 x3.States), .own 1 (List.map (eI .i64) x11), .d (.lst 3 (List.map e_api_Edge x3.Edges))]) trivial rfl rfl rfl rfl rfl (nt ((Tr.rgn (md rfl (Rn.bin trivial rfl rfl rfl (md rfl (Rn.nil ?_)))))))))
    exact ⟨_, h, (by show WeakSt Γ (clean _ _ _) ⟨look _, memOf _ (bxs _) _, _⟩; exact weak_clean ⟨(kPtr rfl), ⟨(kPtr rfl), ⟨(.same rfl), trivial⟩⟩⟩ ⟨⟨_, rfl, rfl, (.same rfl)⟩, ⟨⟨_, rfl, rfl, (.same rfl)⟩, ⟨⟨_, rfl, rfl, (.same rfl)⟩, trivial⟩⟩⟩ rfl)⟩
   ·replace h := ifF hb10 h
    refine Tr.exit ?_
    replace h := si h; subst h
    show WeakSt Γ _ ⟨look _, memOf _ (bxs _) _, _⟩; exact weak_cut [] ⟨(kPtr rfl), ⟨(kPtr rfl), trivial⟩⟩ ⟨⟨_, rfl, rfl, (.same rfl)⟩, ⟨⟨_, rfl, rfl, (.same rfl)⟩, ⟨⟨_, rfl, rfl, (.same rfl)⟩, trivial⟩⟩⟩ rfl
 ·obtain ⟨c13, c14, c15, out16⟩ := z
  refine sr ((Rn.load (v := .agg [.d (.lst 1 (List.map (eI .i64) x3.Alphabet)), .d (.int .i64 x3.States), .d (.lst 1 (List.map (eI .i64) out16)), .d (.lst 3 (List.map e_api_Edge x3.Edges))]) trivial rfl (boxOwn rfl) rfl rfl (Rn.store (v := .agg [.d (.lst 1 (List.map (eI .i64) x3.Alphabet)), .d (.int .i64 x3.States), .d (.lst 1 (List.map (eI .i64) out16)), .d (.lst 3 (List.map e_api_Edge x3.Edges))]) (cs' := [.d (.lst 1 (List.map (eI .i64) x3.Alphabet)), .d (.int .i64 x3.States), .d (.lst 1 (List.map (eI .i64) out16)), .d (.lst 3 (List.map e_api_Edge x3.Edges))]) trivial rfl rfl rfl rfl rfl rfl (nt ((Tr.ret ?_))))))
  replace h := si h; subst h
  exact ⟨.inr rfl, (.agg [.d (.lst 1 (List.map (eI .i64) x3.Alphabet)), .d (.int .i64 x3.States), .d (.lst 1 (List.map (eI .i64) out16)), .d (.lst 3 (List.map e_api_Edge x3.Edges))]), resCell rfl rfl rfl rfl, fun _ _ _ _ h => h, ⟨trivial, trivial, trivial, trivial, trivial⟩, fun k hk => memOf_base hk⟩
theorem automaton_reached_walk {P : Program} {c : Nat} {f_automaton_follow : api_Automaton → Int → (List Int) → Option (Int × Int)}
    (H_automaton_follow : K_automaton_follow P 66 f_automaton_follow) (hcf : compFn P c = some F_automaton_reached) : K_automaton_reached P c (f_automaton_reached f_automaton_follow) := by
 intro a1 word2 r h
 refine fn_trP hcf rfl fun Γ M hP hnt hM => ?_
 subst hP
 refine Tr.init [(0, .agg [.d (.lst 1 (List.map (eI .i64) a1.Alphabet)), .d (.int .i64 a1.States), .d (.lst 1 (List.map (eI .i64) a1.Marked)), .d (.lst 3 (List.map e_api_Edge a1.Edges))]), (1, .d (.lst 1 (List.map (eI .i64) word2)))] rfl ?_
 unfold f_automaton_reached at h
 unfold F_automaton_reached
 refine sr ((Rn.box (v := .agg [.d (.lst 1 (List.map (eI .i64) a1.Alphabet)), .d (.int .i64 a1.States), .d (.lst 1 (List.map (eI .i64) a1.Marked)), .d (.lst 3 (List.map e_api_Edge a1.Edges))]) (cs := [.d (.lst 1 (List.map (eI .i64) a1.Alphabet)), .d (.int .i64 a1.States), .d (.lst 1 (List.map (eI .i64) a1.Marked)), .d (.lst 3 (List.map e_api_Edge a1.Edges))]) trivial rfl rfl rfl rfl rfl (md rfl (md rfl (nt ((Tr.seq (sr ((Rn.fldP (o' := 1) trivial rfl rfl (Rn.load (v := .d (.int .i64 a1.States)) trivial rfl (boxOwn rfl) rfl rfl (Rn.bin trivial rfl rfl rfl (Rn.nil (toN ?_))))))))))))))
 refine Tr.cond rfl (fun hb3 => ?_) (fun hb3 => ?_)
 ·replace h := bT hb3 h
  refine sr ((md rfl (md rfl (nt ((Tr.ret ?_))))))
  replace h := si h; subst h
  exact ⟨.inr rfl, .tup [.d (.int .i64 0), .d (.bool false)], res2 rfl rfl, (WkV.tup (.cons (.same rfl) (.cons (.same rfl) .nil))).rd, ⟨trivial, trivial, trivial⟩, fun k hk => memOf_base hk⟩
 ·replace h := bF hb3 h
  refine Tr.skip (toN (sr ((Rn.load (v := .agg [.d (.lst 1 (List.map (eI .i64) a1.Alphabet)), .d (.int .i64 a1.States), .d (.lst 1 (List.map (eI .i64) a1.Marked)), .d (.lst 3 (List.map e_api_Edge a1.Edges))]) trivial rfl (boxOwn rfl) rfl rfl (md rfl ?_)))))
  obtain ⟨⟨r5, r6⟩, h4, h⟩ := bnd h
  refine Rn.call (args := [.agg [.d (.lst 1 (List.map (eI .i64) a1.Alphabet)), .d (.int .i64 a1.States), .d (.lst 1 (List.map (eI .i64) a1.Marked)), .d (.lst 3 (List.map e_api_Edge a1.Edges))], .d (.int .i64 0), .d (.lst 1 (List.map (eI .i64) word2))]) trivial rfl (H_automaton_follow _ _ _ _ h4) pc9 (Rn.mov (v := .tup [.d (.int .i64 r5), .d (.int .i64 r6)]) trivial rfl (Rn.ext (v := .d (.int .i64 r5)) (vs := [.d (.int .i64 r5), .d (.int .i64 r6)]) trivial rfl rfl rfl (Rn.ext (v := .d (.int .i64 r6)) (vs := [.d (.int .i64 r5), .d (.int .i64 r6)]) trivial rfl rfl rfl (md rfl (md rfl (nt ((sr ((md rfl (md rfl (md rfl (Rn.lenD trivial rfl (Rn.bin trivial rfl rfl rfl (md rfl (md rfl (nt ((Tr.ret ?_)))))))))))))))))))
  replace h := si h; subst h
  exact ⟨.inr rfl, .tup [.d (.int .i64 r5), .d (.bool (r6 == (word2.length : Int)))], res2 rfl rfl, (WkV.tup (.cons (.same rfl) (.cons (.same rfl) .nil))).rd, ⟨trivial, trivial, trivial⟩, fun k hk => memOf_base hk⟩
theorem automaton_Generates_walk {P : Program} {c : Nat} {f_automaton_Check : api_Automaton → Option Int} {f_automaton_reached : api_Automaton → (List Int) → Option (Int × Bool)}
    (H_automaton_Check : K_automaton_Check P 45 f_automaton_Check)
    (H_automaton_reached : K_automaton_reached P 62 f_automaton_reached) (hcf : compFn P c = some F_automaton_Generates) : K_automaton_Generates P c (f_automaton_Generates f_automaton_Check f_automaton_reached) := by
 intro a1 word2 r h
 refine fn_trP hcf rfl fun Γ M hP hnt hM => ?_
 subst hP
 refine Tr.init [(0, .agg [.d (.lst 1 (List.map (eI .i64) a1.Alphabet)), .d (.int .i64 a1.States), .d (.lst 1 (List.map (eI .i64) a1.Marked)), .d (.lst 3 (List.map e_api_Edge a1.Edges))]), (1, .d (.lst 1 (List.map (eI .i64) word2)))] rfl ?_
 unfold f_automaton_Generates at h
 unfold F_automaton_Generates
 refine sr ((Rn.box (v := .agg [.d (.lst 1 (List.map (eI .i64) a1.Alphabet)), .d (.int .i64 a1.States), .d (.lst 1 (List.map (eI .i64) a1.Marked)), .d (.lst 3 (List.map e_api_Edge a1.Edges))]) (cs := [.d (.lst 1 (List.map (eI .i64) a1.Alphabet)), .d (.int .i64 a1.States), .d (.lst 1 (List.map (eI .i64) a1.Marked)), .d (.lst 3 (List.map e_api_Edge a1.Edges))]) trivial rfl rfl rfl rfl rfl (md rfl (md rfl (nt ((Tr.seq (sr ((Rn.load (v := .agg [.d (.lst 1 (List.map (eI .i64) a1.Alphabet)), .d (.int .i64 a1.States), .d (.lst 1 (List.map (eI .i64) a1.Marked)), .d (.lst 3 (List.map e_api_Edge a1.Edges))]) trivial rfl (boxOwn rfl) rfl rfl ?_))))))))))
 obtain ⟨x4, h3, h⟩ := bnd h
 refine Rn.call (args := [.agg [.d (.lst 1 (List.map (eI .i64) a1.Alphabet)), .d (.int .i64 a1.States), .d (.lst 1 (List.map (eI .i64) a1.Marked)), .d (.lst 3 (List.map e_api_Edge a1.Edges))]]) trivial rfl (H_automaton_Check _ _ h3) pc9 (md rfl (nt ((sr ((md rfl (Rn.bin trivial rfl rfl rfl (Rn.nil (toN ?_)))))))))
 refine Tr.cond rfl (fun hb5 => ?_) (fun hb5 => ?_)
 ·replace h := bT hb5 h
  refine sr ((md rfl (md rfl (md rfl (nt ((Tr.ret ?_)))))))
  replace h := si h; subst h
  exact ⟨.inr rfl, .tup [.d (.bool false), .d (.int .i64 x4)], res2 rfl rfl, (WkV.tup (.cons (.same rfl) (.cons (.same rfl) .nil))).rd, ⟨trivial, trivial, trivial⟩, fun k hk => memOf_base hk⟩
 ·replace h := bF hb5 h
  refine Tr.skip (toN (sr ((Rn.load (v := .agg [.d (.lst 1 (List.map (eI .i64) a1.Alphabet)), .d (.int .i64 a1.States), .d (.lst 1 (List.map (eI .i64) a1.Marked)), .d (.lst 3 (List.map e_api_Edge a1.Edges))]) trivial rfl (boxOwn rfl) rfl rfl (md rfl ?_)))))
  obtain ⟨⟨r7, r8⟩, h6, h⟩ := bnd h
  refine Rn.call (args := [.agg [.d (.lst 1 (List.map (eI .i64) a1.Alphabet)), .d (.int .i64 a1.States), .d (.lst 1 (List.map (eI .i64) a1.Marked)), .d (.lst 3 (List.map e_api_Edge a1.Edges))], .d (.lst 1 (List.map (eI .i64) word2))]) trivial rfl (H_automaton_reached _ _ _ h6) pc9 (Rn.mov (v := .tup [.d (.int .i64 r7), .d (.bool r8)]) trivial rfl (Rn.ext (v := .d (.int .i64 r7)) (vs := [.d (.int .i64 r7), .d (.bool r8)]) trivial rfl rfl rfl (Rn.ext (v := .d (.bool r8)) (vs := [.d (.int .i64 r7), .d (.bool r8)]) trivial rfl rfl rfl (md rfl (md rfl (nt ((sr ((md rfl (md rfl (md rfl (nt ((Tr.ret ?_)))))))))))))))
  replace h := si h; subst h
  exact ⟨.inr rfl, .tup [.d (.bool r8), .d (.int .i64 0)], res2 rfl rfl, (WkV.tup (.cons (.same rfl) (.cons (.same rfl) .nil))).rd, ⟨trivial, trivial, trivial⟩, fun k hk => memOf_base hk⟩
theorem automaton_Accepts_walk {P : Program} {c : Nat} {f_automaton_Check : api_Automaton → Option Int} {f_slices_Contains_int : (List Int) → Int → Option Bool} {f_automaton_reached : api_Automaton → (List Int) → Option (Int × Bool)}
    (H_automaton_Check : K_automaton_Check P 45 f_automaton_Check)
    (H_slices_Contains_int : K_slices_Contains_int P 50 f_slices_Contains_int)
    (H_automaton_reached : K_automaton_reached P 62 f_automaton_reached) (hcf : compFn P c = some F_automaton_Accepts) : K_automaton_Accepts P c (f_automaton_Accepts f_automaton_Check f_slices_Contains_int f_automaton_reached) := by
 intro a1 word2 r h
 refine fn_trP hcf rfl fun Γ M hP hnt hM => ?_
 subst hP
 refine Tr.init [(0, .agg [.d (.lst 1 (List.map (eI .i64) a1.Alphabet)), .d (.int .i64 a1.States), .d (.lst 1 (List.map (eI .i64) a1.Marked)), .d (.lst 3 (List.map e_api_Edge a1.Edges))]), (1, .d (.lst 1 (List.map (eI .i64) word2)))] rfl ?_
 unfold f_automaton_Accepts at h
 unfold F_automaton_Accepts
 refine sr ((Rn.box (v := .agg [.d (.lst 1 (List.map (eI .i64) a1.Alphabet)), .d (.int .i64 a1.States), .d (.lst 1 (List.map (eI .i64) a1.Marked)), .d (.lst 3 (List.map e_api_Edge a1.Edges))]) (cs := [.d (.lst 1 (List.map (eI .i64) a1.Alphabet)), .d (.int .i64 a1.States), .d (.lst 1 (List.map (eI .i64) a1.Marked)), .d (.lst 3 (List.map e_api_Edge a1.Edges))]) trivial rfl rfl rfl rfl rfl (md rfl (md rfl (nt ((Tr.seq (sr ((Rn.load (v := .agg [.d (.lst 1 (List.map (eI .i64) a1.Alphabet)), .d (.int .i64 a1.States), .d (.lst 1 (List.map (eI .i64) a1.Marked)), .d (.lst 3 (List.map e_api_Edge a1.Edges))]) trivial rfl (boxOwn rfl) rfl rfl ?_))))))))))
 obtain ⟨x4, h3, h⟩ := bnd h
 refine Rn.call (args := [.agg [.d (.lst 1 (List.map (eI .i64) a1.Alphabet)), .d (.int .i64 a1.States), .d (.lst 1 (List.map (eI .i64) a1.Marked)), .d (.lst 3 (List.map e_api_Edge a1.Edges))]]) trivial rfl (H_automaton_Check _ _ h3) pc9 (md rfl (nt ((sr ((md rfl (Rn.bin trivial rfl rfl rfl (Rn.nil (toN ?_)))))))))
 refine Tr.cond rfl (fun hb5 => ?_) (fun hb5 => ?_)
 ·replace h := bT hb5 h
  refine sr ((md rfl (md rfl (md rfl (nt ((Tr.ret ?_)))))))
  replace h := si h; subst h
  exact ⟨.inr rfl, .tup [.d (.bool false), .d (.int .i64 x4)], res2 rfl rfl, (WkV.tup (.cons (.same rfl) (.cons (.same rfl) .nil))).rd, ⟨trivial, trivial, trivial⟩, fun k hk => memOf_base hk⟩
 ·replace h := bF hb5 h
  refine Tr.skip (toN (sr ((Rn.load (v := .agg [.d (.lst 1 (List.map (eI .i64) a1.Alphabet)), .d (.int .i64 a1.States), .d (.lst 1 (List.map (eI .i64) a1.Marked)), .d (.lst 3 (List.map e_api_Edge a1.Edges))]) trivial rfl (boxOwn rfl) rfl rfl (md rfl ?_)))))
  obtain ⟨⟨r7, r8⟩, h6, h⟩ := bnd h
  refine Rn.call (args := [.agg [.d (.lst 1 (List.map (eI .i64) a1.Alphabet)), .d (.int .i64 a1.States), .d (.lst 1 (List.map (eI .i64) a1.Marked)), .d (.lst 3 (List.map e_api_Edge a1.Edges))], .d (.lst 1 (List.map (eI .i64) word2))]) trivial rfl (H_automaton_reached _ _ _ h6) pc9 (Rn.mov (v := .tup [.d (.int .i64 r7), .d (.bool r8)]) trivial rfl (Rn.ext (v := .d (.int .i64 r7)) (vs := [.d (.int .i64 r7), .d (.bool r8)]) trivial rfl rfl rfl (Rn.ext (v := .d (.bool r8)) (vs := [.d (.int .i64 r7), .d (.bool r8)]) trivial rfl rfl rfl (md rfl (md rfl (nt ((sr ((md rfl (md rfl ?_)))))))))))
  refine bsplit r8 (fun hb9 => ?_) (fun hb9 => ?_)
  ·replace h := bT hb9 h
   refine Rn.fldP (o' := 2) (gw rfl hb9) rfl rfl (Rn.load (v := .d (.lst 1 (List.map (eI .i64) a1.Marked))) (gw rfl hb9) rfl (boxOwn rfl) rfl rfl (Rn.movD (gw rfl hb9) rfl ?_))
   obtain ⟨x11, h10, h⟩ := bnd h
   refine Rn.call (args := [.d (.lst 1 (List.map (eI .i64) a1.Marked)), .d (.int .i64 r7)]) (gw rfl hb9) rfl (H_slices_Contains_int _ _ _ h10) pc9 (Rn.pickT (v := .d (.bool x11)) trivial rfl hb9 rfl (md rfl (md rfl (nt ((Tr.ret ?_))))))
   replace h := si h; subst h
   exact ⟨.inr rfl, .tup [.d (.bool x11), .d (.int .i64 0)], res2 rfl rfl, (WkV.tup (.cons (.same rfl) (.cons (.same rfl) .nil))).rd, ⟨trivial, trivial, trivial⟩, fun k hk => memOf_base hk⟩
  ·replace h := bF hb9 h
   refine Rn.sk (nw rfl hb9) (Rn.sk (nw rfl hb9) (Rn.sk (nw rfl hb9) (Rn.sk (nw rfl hb9) (Rn.pickF (v := .d (.bool false)) trivial rfl hb9 rfl (md rfl (md rfl (nt ((Tr.ret ?_)))))))))
   replace h := si h; subst h
   exact ⟨.inr rfl, .tup [.d (.bool false), .d (.int .i64 0)], res2 rfl rfl, (WkV.tup (.cons (.same rfl) (.cons (.same rfl) .nil))).rd, ⟨trivial, trivial, trivial⟩, fun k hk => memOf_base hk⟩
end Go.Abs
end
section
namespace Go.Abs
open Go
set_option linter.unusedVariables false
set_option maxRecDepth 10000
set_option maxHeartbeats 4000000
theorem overseerlaw03_AutomatonCompletes_walk {P : Program} {c : Nat} {f_overseerlaw03_known : Option Bool} {f_overseerlaw03_Make : (List Int) → overseerlaw03_Graph → Option api_Automaton} {f_overseerlaw03_Set_Events : Int → Option ((List Int))} {f_overseerref03_Same : api_Automaton → api_Automaton → Option Bool} {f_automaton_Generates : api_Automaton → (List Int) → Option (Bool × Int)} {f_automaton_Accepts : api_Automaton → (List Int) → Option (Bool × Int)} {f_automaton_Complete : api_Automaton → Option (api_Automaton × Int)} {f_automaton_Closed : api_Automaton → Option (api_Automaton × Int)} {f_overseerref03_Complete : api_Automaton → Option api_Automaton} {f_overseerref03_Closed : api_Automaton → Option api_Automaton}
    (H_overseerlaw03_known : K_overseerlaw03_known P 13 f_overseerlaw03_known)
    (H_overseerlaw03_Make : K_overseerlaw03_Make P 14 f_overseerlaw03_Make)
    (H_overseerlaw03_Set_Events : K_overseerlaw03_Set_Events P 15 f_overseerlaw03_Set_Events)
    (H_overseerref03_Same : K_overseerref03_Same P 23 f_overseerref03_Same)
    (H_automaton_Generates : K_automaton_Generates P 31 f_automaton_Generates)
    (H_automaton_Accepts : K_automaton_Accepts P 32 f_automaton_Accepts)
    (H_automaton_Complete : K_automaton_Complete P 41 f_automaton_Complete)
    (H_automaton_Closed : K_automaton_Closed P 42 f_automaton_Closed)
    (H_overseerref03_Complete : K_overseerref03_Complete P 43 f_overseerref03_Complete)
    (H_overseerref03_Closed : K_overseerref03_Closed P 44 f_overseerref03_Closed) (hcf : compFn P c = some F_overseerlaw03_AutomatonCompletes) (fuel : Nat) : K_overseerlaw03_AutomatonCompletes P c (f_overseerlaw03_AutomatonCompletes f_overseerlaw03_known f_overseerlaw03_Make f_overseerlaw03_Set_Events f_overseerref03_Same f_automaton_Generates f_automaton_Accepts f_automaton_Complete f_automaton_Closed f_overseerref03_Complete f_overseerref03_Closed fuel) := by
 intro s1 g2 word3 r h
 refine fn_trP hcf rfl fun Γ M hP hnt hM => ?_
 subst hP
 refine Tr.init [(0, .d (.int .u8 s1)), (1, .agg [.d (.int .u8 g2.States), .d (.int .u8 g2.Marks), .d (.int .u8 g2.To.1.1), .d (.int .u8 g2.To.1.2.1), .d (.int .u8 g2.To.1.2.2.1), .d (.int .u8 g2.To.1.2.2.2.1), .d (.int .u8 g2.To.1.2.2.2.2), .d (.int .u8 g2.To.2.1.1), .d (.int .u8 g2.To.2.1.2.1), .d (.int .u8 g2.To.2.1.2.2.1), .d (.int .u8 g2.To.2.1.2.2.2.1), .d (.int .u8 g2.To.2.1.2.2.2.2), .d (.int .u8 g2.To.2.2.1.1), .d (.int .u8 g2.To.2.2.1.2.1), .d (.int .u8 g2.To.2.2.1.2.2.1), .d (.int .u8 g2.To.2.2.1.2.2.2.1), .d (.int .u8 g2.To.2.2.1.2.2.2.2), .d (.int .u8 g2.To.2.2.2.1.1), .d (.int .u8 g2.To.2.2.2.1.2.1), .d (.int .u8 g2.To.2.2.2.1.2.2.1), .d (.int .u8 g2.To.2.2.2.1.2.2.2.1), .d (.int .u8 g2.To.2.2.2.1.2.2.2.2), .d (.int .u8 g2.To.2.2.2.2.1), .d (.int .u8 g2.To.2.2.2.2.2.1), .d (.int .u8 g2.To.2.2.2.2.2.2.1), .d (.int .u8 g2.To.2.2.2.2.2.2.2.1), .d (.int .u8 g2.To.2.2.2.2.2.2.2.2)]), (2, .d (.lst 1 (List.map (eI .u8) word3)))] rfl ?_
 unfold f_overseerlaw03_AutomatonCompletes at h
 unfold F_overseerlaw03_AutomatonCompletes
 refine sr ((Rn.box (v := .agg [.d (.int .u8 g2.States), .d (.int .u8 g2.Marks), .d (.int .u8 g2.To.1.1), .d (.int .u8 g2.To.1.2.1), .d (.int .u8 g2.To.1.2.2.1), .d (.int .u8 g2.To.1.2.2.2.1), .d (.int .u8 g2.To.1.2.2.2.2), .d (.int .u8 g2.To.2.1.1), .d (.int .u8 g2.To.2.1.2.1), .d (.int .u8 g2.To.2.1.2.2.1), .d (.int .u8 g2.To.2.1.2.2.2.1), .d (.int .u8 g2.To.2.1.2.2.2.2), .d (.int .u8 g2.To.2.2.1.1), .d (.int .u8 g2.To.2.2.1.2.1), .d (.int .u8 g2.To.2.2.1.2.2.1), .d (.int .u8 g2.To.2.2.1.2.2.2.1), .d (.int .u8 g2.To.2.2.1.2.2.2.2), .d (.int .u8 g2.To.2.2.2.1.1), .d (.int .u8 g2.To.2.2.2.1.2.1), .d (.int .u8 g2.To.2.2.2.1.2.2.1), .d (.int .u8 g2.To.2.2.2.1.2.2.2.1), .d (.int .u8 g2.To.2.2.2.1.2.2.2.2), .d (.int .u8 g2.To.2.2.2.2.1), .d (.int .u8 g2.To.2.2.2.2.2.1), .d (.int .u8 g2.To.2.2.2.2.2.2.1), .d (.int .u8 g2.To.2.2.2.2.2.2.2.1), .d (.int .u8 g2.To.2.2.2.2.2.2.2.2)]) (cs := [.d (.int .u8 g2.States), .d (.int .u8 g2.Marks), .d (.int .u8 g2.To.1.1), .d (.int .u8 g2.To.1.2.1), .d (.int .u8 g2.To.1.2.2.1), .d (.int .u8 g2.To.1.2.2.2.1), .d (.int .u8 g2.To.1.2.2.2.2), .d (.int .u8 g2.To.2.1.1), .d (.int .u8 g2.To.2.1.2.1), .d (.int .u8 g2.To.2.1.2.2.1), .d (.int .u8 g2.To.2.1.2.2.2.1), .d (.int .u8 g2.To.2.1.2.2.2.2), .d (.int .u8 g2.To.2.2.1.1), .d (.int .u8 g2.To.2.2.1.2.1), .d (.int .u8 g2.To.2.2.1.2.2.1), .d (.int .u8 g2.To.2.2.1.2.2.2.1), .d (.int .u8 g2.To.2.2.1.2.2.2.2), .d (.int .u8 g2.To.2.2.2.1.1), .d (.int .u8 g2.To.2.2.2.1.2.1), .d (.int .u8 g2.To.2.2.2.1.2.2.1), .d (.int .u8 g2.To.2.2.2.1.2.2.2.1), .d (.int .u8 g2.To.2.2.2.1.2.2.2.2), .d (.int .u8 g2.To.2.2.2.2.1), .d (.int .u8 g2.To.2.2.2.2.2.1), .d (.int .u8 g2.To.2.2.2.2.2.2.1), .d (.int .u8 g2.To.2.2.2.2.2.2.2.1), .d (.int .u8 g2.To.2.2.2.2.2.2.2.2)]) trivial rfl rfl rfl rfl rfl (md rfl (nt ((Tr.seq ?_))))))
 refine Tr.cutB (fun (x7 : Bool) => ⟨look [(0, .d (.int .u8 s1)), (2, .d (.lst 1 (List.map (eI .u8) word3))), (4, .ptr (Γ.n0 + 4) 0), (30, .d (.bool x7))], memOf Γ.n0 (bxs [(4, [.d (.int .u8 g2.States), .d (.int .u8 g2.Marks), .d (.int .u8 g2.To.1.1), .d (.int .u8 g2.To.1.2.1), .d (.int .u8 g2.To.1.2.2.1), .d (.int .u8 g2.To.1.2.2.2.1), .d (.int .u8 g2.To.1.2.2.2.2), .d (.int .u8 g2.To.2.1.1), .d (.int .u8 g2.To.2.1.2.1), .d (.int .u8 g2.To.2.1.2.2.1), .d (.int .u8 g2.To.2.1.2.2.2.1), .d (.int .u8 g2.To.2.1.2.2.2.2), .d (.int .u8 g2.To.2.2.1.1), .d (.int .u8 g2.To.2.2.1.2.1), .d (.int .u8 g2.To.2.2.1.2.2.1), .d (.int .u8 g2.To.2.2.1.2.2.2.1), .d (.int .u8 g2.To.2.2.1.2.2.2.2), .d (.int .u8 g2.To.2.2.2.1.1), .d (.int .u8 g2.To.2.2.2.1.2.1), .d (.int .u8 g2.To.2.2.2.1.2.2.1), .d (.int .u8 g2.To.2.2.2.1.2.2.2.1), .d (.int .u8 g2.To.2.2.2.1.2.2.2.2), .d (.int .u8 g2.To.2.2.2.2.1), .d (.int .u8 g2.To.2.2.2.2.2.1), .d (.int .u8 g2.To.2.2.2.2.2.2.1), .d (.int .u8 g2.To.2.2.2.2.2.2.2.1), .d (.int .u8 g2.To.2.2.2.2.2.2.2.2)])]) M, Γ.n0 + 155⟩) h (fun z h => ?_) (fun z h => ?_)
 ·refine Tr.rgn ?_
  obtain ⟨x5, h4, h⟩ := bnd h
  refine Rn.call (args := []) trivial rfl (H_overseerlaw03_known _ h4) pc9 (Rn.un trivial rfl rfl (md rfl ?_))
  refine bsplit x5 (fun hb6 => ?_) (fun hb6 => ?_)
  ·replace h := bT hb6 h
   refine Rn.movD (gw rfl (nT hb6)) rfl (Rn.lenD (gw rfl (nT hb6)) rfl (Rn.bin (gw rfl (nT hb6)) rfl rfl rfl (Rn.pickF (v := .d (.bool (decide ((word3.length : Int) > 8)))) trivial rfl (nT hb6) rfl (Rn.nil ?_))))
   replace h := si h; subst h
   show WeakSt Γ _ ⟨look _, memOf _ (bxs _) _, _⟩; exact weak_cut [] ⟨(.same rfl), ⟨(.same rfl), ⟨(kPtr rfl), ⟨(.same rfl), trivial⟩⟩⟩⟩ ⟨⟨_, rfl, rfl, (.same rfl)⟩, trivial⟩ rfl
  ·replace h := bF hb6 h
   refine Rn.sk (nw rfl (nF hb6)) (Rn.sk (nw rfl (nF hb6)) (Rn.sk (nw rfl (nF hb6)) (Rn.pickT (v := .d (.bool true)) trivial rfl (nF hb6) rfl (Rn.nil ?_))))
   replace h := si h; subst h
   show WeakSt Γ _ ⟨look _, memOf _ (bxs _) _, _⟩; exact weak_cut [] ⟨(.same rfl), ⟨(.same rfl), ⟨(kPtr rfl), ⟨(.same rfl), trivial⟩⟩⟩⟩ ⟨⟨_, rfl, rfl, (.same rfl)⟩, trivial⟩ rfl
 ·obtain ⟨x7, rfl⟩ : ∃ x, x = z := ⟨_, rfl⟩
  refine Tr.cond rfl (fun hb8 => ?_) (fun hb8 => ?_)
  ·replace h := bT hb8 h
   refine Tr.seq (Tr.rgn ?_)
   obtain ⟨x10, h9, h⟩ := bnd h
   refine Rn.call (args := []) trivial rfl (H_overseerlaw03_known _ h9) pc9 (md rfl (nt ((Tr.ret ?_))))
   replace h := si h; subst h
   exact ⟨.inr rfl, (.d (.bool x10)), rfl, fun _ _ _ _ h => h, trivial, fun k hk => memOf_base hk⟩
  ·replace h := bF hb8 h
   refine Tr.skip (toN (Tr.seq ?_))
   refine Tr.rgnD (by decide) ?_
   refine md rfl ?_
   obtain ⟨x12, h11, h⟩ := bnd h
   refine Rn.call (args := [.d (.int .u8 s1)]) trivial rfl (H_overseerlaw03_Set_Events _ _ h11) (fun _ => memOut hM rfl) (Rn.load (v := .agg [.d (.int .u8 g2.States), .d (.int .u8 g2.Marks), .d (.int .u8 g2.To.1.1), .d (.int .u8 g2.To.1.2.1), .d (.int .u8 g2.To.1.2.2.1), .d (.int .u8 g2.To.1.2.2.2.1), .d (.int .u8 g2.To.1.2.2.2.2), .d (.int .u8 g2.To.2.1.1), .d (.int .u8 g2.To.2.1.2.1), .d (.int .u8 g2.To.2.1.2.2.1), .d (.int .u8 g2.To.2.1.2.2.2.1), .d (.int .u8 g2.To.2.1.2.2.2.2), .d (.int .u8 g2.To.2.2.1.1), .d (.int .u8 g2.To.2.2.1.2.1), .d (.int .u8 g2.To.2.2.1.2.2.1), .d (.int .u8 g2.To.2.2.1.2.2.2.1), .d (.int .u8 g2.To.2.2.1.2.2.2.2), .d (.int .u8 g2.To.2.2.2.1.1), .d (.int .u8 g2.To.2.2.2.1.2.1), .d (.int .u8 g2.To.2.2.2.1.2.2.1), .d (.int .u8 g2.To.2.2.2.1.2.2.2.1), .d (.int .u8 g2.To.2.2.2.1.2.2.2.2), .d (.int .u8 g2.To.2.2.2.2.1), .d (.int .u8 g2.To.2.2.2.2.2.1), .d (.int .u8 g2.To.2.2.2.2.2.2.1), .d (.int .u8 g2.To.2.2.2.2.2.2.2.1), .d (.int .u8 g2.To.2.2.2.2.2.2.2.2)]) trivial rfl (boxOwn rfl) rfl rfl ?_)
   obtain ⟨x14, h13, h⟩ := bnd h
   refine Rn.call (args := [.d (.lst 1 (List.map (eI .i64) x12)), .agg [.d (.int .u8 g2.States), .d (.int .u8 g2.Marks), .d (.int .u8 g2.To.1.1), .d (.int .u8 g2.To.1.2.1), .d (.int .u8 g2.To.1.2.2.1), .d (.int .u8 g2.To.1.2.2.2.1), .d (.int .u8 g2.To.1.2.2.2.2), .d (.int .u8 g2.To.2.1.1), .d (.int .u8 g2.To.2.1.2.1), .d (.int .u8 g2.To.2.1.2.2.1), .d (.int .u8 g2.To.2.1.2.2.2.1), .d (.int .u8 g2.To.2.1.2.2.2.2), .d (.int .u8 g2.To.2.2.1.1), .d (.int .u8 g2.To.2.2.1.2.1), .d (.int .u8 g2.To.2.2.1.2.2.1), .d (.int .u8 g2.To.2.2.1.2.2.2.1), .d (.int .u8 g2.To.2.2.1.2.2.2.2), .d (.int .u8 g2.To.2.2.2.1.1), .d (.int .u8 g2.To.2.2.2.1.2.1), .d (.int .u8 g2.To.2.2.2.1.2.2.1), .d (.int .u8 g2.To.2.2.2.1.2.2.2.1), .d (.int .u8 g2.To.2.2.2.1.2.2.2.2), .d (.int .u8 g2.To.2.2.2.2.1), .d (.int .u8 g2.To.2.2.2.2.2.1), .d (.int .u8 g2.To.2.2.2.2.2.2.1), .d (.int .u8 g2.To.2.2.2.2.2.2.2.1), .d (.int .u8 g2.To.2.2.2.2.2.2.2.2)]]) trivial rfl (H_overseerlaw03_Make _ _ _ h13) (fun _ => memOut hM rfl) (Rn.alloc trivial rfl (Rn.store (v := .agg [.d (.lst 1 (List.map (eI .i64) x14.Alphabet)), .d (.int .i64 x14.States), .d (.lst 1 (List.map (eI .i64) x14.Marked)), .d (.lst 3 (List.map e_api_Edge x14.Edges))]) (cs' := [.d (.lst 1 (List.map (eI .i64) x14.Alphabet)), .d (.int .i64 x14.States), .d (.lst 1 (List.map (eI .i64) x14.Marked)), .d (.lst 3 (List.map e_api_Edge x14.Edges))]) trivial rfl rfl rfl rfl rfl rfl ?_))
   refine Rn.nil ⟨rfl, ?_⟩
   refine toN (sr ((Rn.load (v := .agg [.d (.lst 1 (List.map (eI .i64) x14.Alphabet)), .d (.int .i64 x14.States), .d (.lst 1 (List.map (eI .i64) x14.Marked)), .d (.lst 3 (List.map e_api_Edge x14.Edges))]) trivial rfl (boxOwn rfl) rfl rfl ?_)))
   obtain ⟨⟨r16, r17⟩, h15, h⟩ := bnd h
   refine Rn.call (args := [.agg [.d (.lst 1 (List.map (eI .i64) x14.Alphabet)), .d (.int .i64 x14.States), .d (.lst 1 (List.map (eI .i64) x14.Marked)), .d (.lst 3 (List.map e_api_Edge x14.Edges))]]) trivial rfl (H_automaton_Complete _ _ h15) pc9 (Rn.mov (v := .tup [.agg [.d (.lst 1 (List.map (eI .i64) r16.Alphabet)), .d (.int .i64 r16.States), .d (.lst 1 (List.map (eI .i64) r16.Marked)), .d (.lst 3 (List.map e_api_Edge r16.Edges))], .d (.int .i64 r17)]) trivial rfl (Rn.ext (v := .agg [.d (.lst 1 (List.map (eI .i64) r16.Alphabet)), .d (.int .i64 r16.States), .d (.lst 1 (List.map (eI .i64) r16.Marked)), .d (.lst 3 (List.map e_api_Edge r16.Edges))]) (vs := [.agg [.d (.lst 1 (List.map (eI .i64) r16.Alphabet)), .d (.int .i64 r16.States), .d (.lst 1 (List.map (eI .i64) r16.Marked)), .d (.lst 3 (List.map e_api_Edge r16.Edges))], .d (.int .i64 r17)]) trivial rfl rfl rfl (Rn.ext (v := .d (.int .i64 r17)) (vs := [.agg [.d (.lst 1 (List.map (eI .i64) r16.Alphabet)), .d (.int .i64 r16.States), .d (.lst 1 (List.map (eI .i64) r16.Marked)), .d (.lst 3 (List.map e_api_Edge r16.Edges))], .d (.int .i64 r17)]) trivial rfl rfl rfl (Rn.alloc trivial rfl (Rn.store (v := .agg [.d (.lst 1 (List.map (eI .i64) r16.Alphabet)), .d (.int .i64 r16.States), .d (.lst 1 (List.map (eI .i64) r16.Marked)), .d (.lst 3 (List.map e_api_Edge r16.Edges))]) (cs' := [.d (.lst 1 (List.map (eI .i64) r16.Alphabet)), .d (.int .i64 r16.States), .d (.lst 1 (List.map (eI .i64) r16.Marked)), .d (.lst 3 (List.map e_api_Edge r16.Edges))]) trivial rfl rfl rfl rfl rfl rfl (md rfl (nt ((sr ((Rn.load (v := .agg [.d (.lst 1 (List.map (eI .i64) x14.Alphabet)), .d (.int .i64 x14.States), .d (.lst 1 (List.map (eI .i64) x14.Marked)), .d (.lst 3 (List.map e_api_Edge x14.Edges))]) trivial rfl (boxOwn rfl) rfl rfl ?_)))))))))))
   obtain ⟨⟨r19, r20⟩, h18, h⟩ := bnd h
   refine Rn.call (args := [.agg [.d (.lst 1 (List.map (eI .i64) x14.Alphabet)), .d (.int .i64 x14.States), .d (.lst 1 (List.map (eI .i64) x14.Marked)), .d (.lst 3 (List.map e_api_Edge x14.Edges))]]) trivial rfl (H_automaton_Closed _ _ h18) pc9 (Rn.mov (v := .tup [.agg [.d (.lst 1 (List.map (eI .i64) r19.Alphabet)), .d (.int .i64 r19.States), .d (.lst 1 (List.map (eI .i64) r19.Marked)), .d (.lst 3 (List.map e_api_Edge r19.Edges))], .d (.int .i64 r20)]) trivial rfl (Rn.ext (v := .agg [.d (.lst 1 (List.map (eI .i64) r19.Alphabet)), .d (.int .i64 r19.States), .d (.lst 1 (List.map (eI .i64) r19.Marked)), .d (.lst 3 (List.map e_api_Edge r19.Edges))]) (vs := [.agg [.d (.lst 1 (List.map (eI .i64) r19.Alphabet)), .d (.int .i64 r19.States), .d (.lst 1 (List.map (eI .i64) r19.Marked)), .d (.lst 3 (List.map e_api_Edge r19.Edges))], .d (.int .i64 r20)]) trivial rfl rfl rfl (Rn.ext (v := .d (.int .i64 r20)) (vs := [.agg [.d (.lst 1 (List.map (eI .i64) r19.Alphabet)), .d (.int .i64 r19.States), .d (.lst 1 (List.map (eI .i64) r19.Marked)), .d (.lst 3 (List.map e_api_Edge r19.Edges))], .d (.int .i64 r20)]) trivial rfl rfl rfl (Rn.alloc trivial rfl (Rn.store (v := .agg [.d (.lst 1 (List.map (eI .i64) r19.Alphabet)), .d (.int .i64 r19.States), .d (.lst 1 (List.map (eI .i64) r19.Marked)), .d (.lst 3 (List.map e_api_Edge r19.Edges))]) (cs' := [.d (.lst 1 (List.map (eI .i64) r19.Alphabet)), .d (.int .i64 r19.States), .d (.lst 1 (List.map (eI .i64) r19.Marked)), .d (.lst 3 (List.map e_api_Edge r19.Edges))]) trivial rfl rfl rfl rfl rfl rfl (md rfl (nt ((Tr.seq ?_)))))))))
   refine Tr.cutB (fun (x32 : Bool) => ⟨look [(2, .d (.lst 1 (List.map (eI .u8) word3))), (7, .ptr (Γ.n0 + 7) 0), (8, .ptr (Γ.n0 + 8) 0), (10, .ptr (Γ.n0 + 10) 0), (65, .d (.bool x32))], memOf Γ.n0 (bxs [(4, [.d (.int .u8 g2.States), .d (.int .u8 g2.Marks), .d (.int .u8 g2.To.1.1), .d (.int .u8 g2.To.1.2.1), .d (.int .u8 g2.To.1.2.2.1), .d (.int .u8 g2.To.1.2.2.2.1), .d (.int .u8 g2.To.1.2.2.2.2), .d (.int .u8 g2.To.2.1.1), .d (.int .u8 g2.To.2.1.2.1), .d (.int .u8 g2.To.2.1.2.2.1), .d (.int .u8 g2.To.2.1.2.2.2.1), .d (.int .u8 g2.To.2.1.2.2.2.2), .d (.int .u8 g2.To.2.2.1.1), .d (.int .u8 g2.To.2.2.1.2.1), .d (.int .u8 g2.To.2.2.1.2.2.1), .d (.int .u8 g2.To.2.2.1.2.2.2.1), .d (.int .u8 g2.To.2.2.1.2.2.2.2), .d (.int .u8 g2.To.2.2.2.1.1), .d (.int .u8 g2.To.2.2.2.1.2.1), .d (.int .u8 g2.To.2.2.2.1.2.2.1), .d (.int .u8 g2.To.2.2.2.1.2.2.2.1), .d (.int .u8 g2.To.2.2.2.1.2.2.2.2), .d (.int .u8 g2.To.2.2.2.2.1), .d (.int .u8 g2.To.2.2.2.2.2.1), .d (.int .u8 g2.To.2.2.2.2.2.2.1), .d (.int .u8 g2.To.2.2.2.2.2.2.2.1), .d (.int .u8 g2.To.2.2.2.2.2.2.2.2)]), (7, [.d (.lst 1 (List.map (eI .i64) x14.Alphabet)), .d (.int .i64 x14.States), .d (.lst 1 (List.map (eI .i64) x14.Marked)), .d (.lst 3 (List.map e_api_Edge x14.Edges))]), (8, [.d (.lst 1 (List.map (eI .i64) r16.Alphabet)), .d (.int .i64 r16.States), .d (.lst 1 (List.map (eI .i64) r16.Marked)), .d (.lst 3 (List.map e_api_Edge r16.Edges))]), (10, [.d (.lst 1 (List.map (eI .i64) r19.Alphabet)), .d (.int .i64 r19.States), .d (.lst 1 (List.map (eI .i64) r19.Marked)), .d (.lst 3 (List.map e_api_Edge r19.Edges))])]) M, Γ.n0 + 155⟩) h (fun z h => ?_) (fun z h => ?_)
   ·refine Tr.rgnD (by decide) ?_
    refine Rn.load (v := .agg [.d (.lst 1 (List.map (eI .i64) r16.Alphabet)), .d (.int .i64 r16.States), .d (.lst 1 (List.map (eI .i64) r16.Marked)), .d (.lst 3 (List.map e_api_Edge r16.Edges))]) trivial rfl (boxOwn rfl) rfl rfl (Rn.load (v := .agg [.d (.lst 1 (List.map (eI .i64) x14.Alphabet)), .d (.int .i64 x14.States), .d (.lst 1 (List.map (eI .i64) x14.Marked)), .d (.lst 3 (List.map e_api_Edge x14.Edges))]) trivial rfl (boxOwn rfl) rfl rfl ?_)
    obtain ⟨x22, h21, h⟩ := bnd h
    refine Rn.call (args := [.agg [.d (.lst 1 (List.map (eI .i64) x14.Alphabet)), .d (.int .i64 x14.States), .d (.lst 1 (List.map (eI .i64) x14.Marked)), .d (.lst 3 (List.map e_api_Edge x14.Edges))]]) trivial rfl (H_overseerref03_Complete _ _ h21) (fun _ => memOut hM rfl) ?_
    obtain ⟨x24, h23, h⟩ := bnd h
    refine Rn.call (args := [.agg [.d (.lst 1 (List.map (eI .i64) r16.Alphabet)), .d (.int .i64 r16.States), .d (.lst 1 (List.map (eI .i64) r16.Marked)), .d (.lst 3 (List.map e_api_Edge r16.Edges))], .agg [.d (.lst 1 (List.map (eI .i64) x22.Alphabet)), .d (.int .i64 x22.States), .d (.lst 1 (List.map (eI .i64) x22.Marked)), .d (.lst 3 (List.map e_api_Edge x22.Edges))]]) trivial rfl (H_overseerref03_Same _ _ _ h23) (fun _ => memOut hM rfl) (Rn.un trivial rfl rfl (md rfl ?_))
    refine bsplit x24 (fun hb25 => ?_) (fun hb25 => ?_)
    ·replace h := bT hb25 h
     refine Rn.movD (gw rfl (nT hb25)) rfl (Rn.bin (gw rfl (nT hb25)) rfl rfl rfl (Rn.pickF (v := .d (.bool (r17 != 0))) trivial rfl (nT hb25) rfl (md rfl ?_)))
     refine bsplit (r17 != 0) (fun hb26 => ?_) (fun hb26 => ?_)
     ·replace h := bT hb26 h
      refine Rn.sk (nw rfl hb26) (Rn.sk (nw rfl hb26) (Rn.sk (nw rfl hb26) (Rn.sk (nw rfl hb26) (Rn.sk (nw rfl hb26) (Rn.pickT (v := .d (.bool true)) trivial rfl hb26 rfl (md rfl (Rn.sk (nw (b := true) rfl rfl) (Rn.sk (nw (b := true) rfl rfl) (Rn.pickT (v := .d (.bool true)) trivial rfl rfl rfl ?_)))))))))
      refine Rn.nil ⟨rfl, ?_⟩
      replace h := si h; subst h
      show WeakSt Γ _ ⟨look _, memOf _ (bxs _) _, _⟩; exact weak_cut [] ⟨(.same rfl), ⟨(kPtr rfl), ⟨(kPtr rfl), ⟨(kPtr rfl), ⟨(.same rfl), trivial⟩⟩⟩⟩⟩ ⟨⟨_, rfl, rfl, (.same rfl)⟩, ⟨⟨_, rfl, rfl, (.same rfl)⟩, ⟨⟨_, rfl, rfl, (.same rfl)⟩, ⟨⟨_, rfl, rfl, (.same rfl)⟩, trivial⟩⟩⟩⟩ rfl
     ·replace h := bF hb26 h
      refine Rn.load (v := .agg [.d (.lst 1 (List.map (eI .i64) r19.Alphabet)), .d (.int .i64 r19.States), .d (.lst 1 (List.map (eI .i64) r19.Marked)), .d (.lst 3 (List.map e_api_Edge r19.Edges))]) (gw rfl hb26) rfl (boxOwn rfl) rfl rfl (Rn.load (v := .agg [.d (.lst 1 (List.map (eI .i64) x14.Alphabet)), .d (.int .i64 x14.States), .d (.lst 1 (List.map (eI .i64) x14.Marked)), .d (.lst 3 (List.map e_api_Edge x14.Edges))]) (gw rfl hb26) rfl (boxOwn rfl) rfl rfl ?_)
      obtain ⟨x28, h27, h⟩ := bnd h
      refine Rn.call (args := [.agg [.d (.lst 1 (List.map (eI .i64) x14.Alphabet)), .d (.int .i64 x14.States), .d (.lst 1 (List.map (eI .i64) x14.Marked)), .d (.lst 3 (List.map e_api_Edge x14.Edges))]]) (gw rfl hb26) rfl (H_overseerref03_Closed _ _ h27) (fun _ => memOut hM rfl) ?_
      obtain ⟨x30, h29, h⟩ := bnd h
      refine Rn.call (args := [.agg [.d (.lst 1 (List.map (eI .i64) r19.Alphabet)), .d (.int .i64 r19.States), .d (.lst 1 (List.map (eI .i64) r19.Marked)), .d (.lst 3 (List.map e_api_Edge r19.Edges))], .agg [.d (.lst 1 (List.map (eI .i64) x28.Alphabet)), .d (.int .i64 x28.States), .d (.lst 1 (List.map (eI .i64) x28.Marked)), .d (.lst 3 (List.map e_api_Edge x28.Edges))]]) (gw rfl hb26) rfl (H_overseerref03_Same _ _ _ h29) (fun _ => memOut hM rfl) (Rn.un (gw rfl hb26) rfl rfl (Rn.pickF (v := .d (.bool (!x30))) trivial rfl hb26 rfl (md rfl ?_)))
      refine bsplit x30 (fun hb31 => ?_) (fun hb31 => ?_)
      ·replace h := bT hb31 h
       refine Rn.movD (gw rfl (nT hb31)) rfl (Rn.bin (gw rfl (nT hb31)) rfl rfl rfl (Rn.pickF (v := .d (.bool (r20 != 0))) trivial rfl (nT hb31) rfl ?_))
       refine Rn.nil ⟨rfl, ?_⟩
       replace h := si h; subst h
       show WeakSt Γ _ ⟨look _, memOf _ (bxs _) _, _⟩; exact weak_cut [] ⟨(.same rfl), ⟨(kPtr rfl), ⟨(kPtr rfl), ⟨(kPtr rfl), ⟨(.same rfl), trivial⟩⟩⟩⟩⟩ ⟨⟨_, rfl, rfl, (.same rfl)⟩, ⟨⟨_, rfl, rfl, (.same rfl)⟩, ⟨⟨_, rfl, rfl, (.same rfl)⟩, ⟨⟨_, rfl, rfl, (.same rfl)⟩, trivial⟩⟩⟩⟩ rfl
      ·replace h := bF hb31 h
       refine Rn.sk (nw rfl (nF hb31)) (Rn.sk (nw rfl (nF hb31)) (Rn.pickT (v := .d (.bool true)) trivial rfl (nF hb31) rfl ?_))
       refine Rn.nil ⟨rfl, ?_⟩
       replace h := si h; subst h
       show WeakSt Γ _ ⟨look _, memOf _ (bxs _) _, _⟩; exact weak_cut [] ⟨(.same rfl), ⟨(kPtr rfl), ⟨(kPtr rfl), ⟨(kPtr rfl), ⟨(.same rfl), trivial⟩⟩⟩⟩⟩ ⟨⟨_, rfl, rfl, (.same rfl)⟩, ⟨⟨_, rfl, rfl, (.same rfl)⟩, ⟨⟨_, rfl, rfl, (.same rfl)⟩, ⟨⟨_, rfl, rfl, (.same rfl)⟩, trivial⟩⟩⟩⟩ rfl
    ·replace h := bF hb25 h
     refine Rn.sk (nw rfl (nF hb25)) (Rn.sk (nw rfl (nF hb25)) (Rn.pickT (v := .d (.bool true)) trivial rfl (nF hb25) rfl (md rfl (Rn.sk (nw (b := true) rfl rfl) (Rn.sk (nw (b := true) rfl rfl) (Rn.sk (nw (b := true) rfl rfl) (Rn.sk (nw (b := true) rfl rfl) (Rn.sk (nw (b := true) rfl rfl) (Rn.pickT (v := .d (.bool true)) trivial rfl rfl rfl (md rfl (Rn.sk (nw (b := true) rfl rfl) (Rn.sk (nw (b := true) rfl rfl) (Rn.pickT (v := .d (.bool true)) trivial rfl rfl rfl ?_)))))))))))))
     refine Rn.nil ⟨rfl, ?_⟩
     replace h := si h; subst h
     show WeakSt Γ _ ⟨look _, memOf _ (bxs _) _, _⟩; exact weak_cut [] ⟨(.same rfl), ⟨(kPtr rfl), ⟨(kPtr rfl), ⟨(kPtr rfl), ⟨(.same rfl), trivial⟩⟩⟩⟩⟩ ⟨⟨_, rfl, rfl, (.same rfl)⟩, ⟨⟨_, rfl, rfl, (.same rfl)⟩, ⟨⟨_, rfl, rfl, (.same rfl)⟩, ⟨⟨_, rfl, rfl, (.same rfl)⟩, trivial⟩⟩⟩⟩ rfl
   ·obtain ⟨x32, rfl⟩ : ∃ x, x = z := ⟨_, rfl⟩
    refine Tr.cond rfl (fun hb33 => ?_) (fun hb33 => ?_)
    ·replace h := bT hb33 h
     refine sr ((md rfl (nt ((Tr.ret ?_)))))
     replace h := si h; subst h
     exact ⟨.inr rfl, (.d (.bool false)), rfl, fun _ _ _ _ h => h, trivial, fun k hk => memOf_base hk⟩
    ·replace h := bF hb33 h
     refine Tr.skip (toN (sr ((Rn.movTC (v := .nils 1) trivial (Rn.nil (toN ?_))))))
     refine Tr.cutB (fun (w48 : List Int) => ⟨look [(7, .ptr (Γ.n0 + 7) 0), (8, .ptr (Γ.n0 + 8) 0), (10, .ptr (Γ.n0 + 10) 0), (12, .own 1 (List.map (eI .i64) w48))], memOf Γ.n0 (bxs [(4, [.d (.int .u8 g2.States), .d (.int .u8 g2.Marks), .d (.int .u8 g2.To.1.1), .d (.int .u8 g2.To.1.2.1), .d (.int .u8 g2.To.1.2.2.1), .d (.int .u8 g2.To.1.2.2.2.1), .d (.int .u8 g2.To.1.2.2.2.2), .d (.int .u8 g2.To.2.1.1), .d (.int .u8 g2.To.2.1.2.1), .d (.int .u8 g2.To.2.1.2.2.1), .d (.int .u8 g2.To.2.1.2.2.2.1), .d (.int .u8 g2.To.2.1.2.2.2.2), .d (.int .u8 g2.To.2.2.1.1), .d (.int .u8 g2.To.2.2.1.2.1), .d (.int .u8 g2.To.2.2.1.2.2.1), .d (.int .u8 g2.To.2.2.1.2.2.2.1), .d (.int .u8 g2.To.2.2.1.2.2.2.2), .d (.int .u8 g2.To.2.2.2.1.1), .d (.int .u8 g2.To.2.2.2.1.2.1), .d (.int .u8 g2.To.2.2.2.1.2.2.1), .d (.int .u8 g2.To.2.2.2.1.2.2.2.1), .d (.int .u8 g2.To.2.2.2.1.2.2.2.2), .d (.int .u8 g2.To.2.2.2.2.1), .d (.int .u8 g2.To.2.2.2.2.2.1), .d (.int .u8 g2.To.2.2.2.2.2.2.1), .d (.int .u8 g2.To.2.2.2.2.2.2.2.1), .d (.int .u8 g2.To.2.2.2.2.2.2.2.2)]), (7, [.d (.lst 1 (List.map (eI .i64) x14.Alphabet)), .d (.int .i64 x14.States), .d (.lst 1 (List.map (eI .i64) x14.Marked)), .d (.lst 3 (List.map e_api_Edge x14.Edges))]), (8, [.d (.lst 1 (List.map (eI .i64) r16.Alphabet)), .d (.int .i64 r16.States), .d (.lst 1 (List.map (eI .i64) r16.Marked)), .d (.lst 3 (List.map e_api_Edge r16.Edges))]), (10, [.d (.lst 1 (List.map (eI .i64) r19.Alphabet)), .d (.int .i64 r19.States), .d (.lst 1 (List.map (eI .i64) r19.Marked)), .d (.lst 3 (List.map e_api_Edge r19.Edges))])]) M, Γ.n0 + 155⟩) h (fun z h => ?_) (fun z h => ?_)
     ·refine sr ((md rfl (nt ((Tr.block ?_)))))
      refine Tr.loop (mk := fun ((w34, i35) : (List Int) × Int) => ⟨look [(2, .d (.lst 1 (List.map (eI .u8) word3))), (7, .ptr (Γ.n0 + 7) 0), (8, .ptr (Γ.n0 + 8) 0), (10, .ptr (Γ.n0 + 10) 0), (12, .own 1 (List.map (eI .i64) w34)), (13, .d (.int .i64 i35))], memOf Γ.n0 (bxs [(4, [.d (.int .u8 g2.States), .d (.int .u8 g2.Marks), .d (.int .u8 g2.To.1.1), .d (.int .u8 g2.To.1.2.1), .d (.int .u8 g2.To.1.2.2.1), .d (.int .u8 g2.To.1.2.2.2.1), .d (.int .u8 g2.To.1.2.2.2.2), .d (.int .u8 g2.To.2.1.1), .d (.int .u8 g2.To.2.1.2.1), .d (.int .u8 g2.To.2.1.2.2.1), .d (.int .u8 g2.To.2.1.2.2.2.1), .d (.int .u8 g2.To.2.1.2.2.2.2), .d (.int .u8 g2.To.2.2.1.1), .d (.int .u8 g2.To.2.2.1.2.1), .d (.int .u8 g2.To.2.2.1.2.2.1), .d (.int .u8 g2.To.2.2.1.2.2.2.1), .d (.int .u8 g2.To.2.2.1.2.2.2.2), .d (.int .u8 g2.To.2.2.2.1.1), .d (.int .u8 g2.To.2.2.2.1.2.1), .d (.int .u8 g2.To.2.2.2.1.2.2.1), .d (.int .u8 g2.To.2.2.2.1.2.2.2.1), .d (.int .u8 g2.To.2.2.2.1.2.2.2.2), .d (.int .u8 g2.To.2.2.2.2.1), .d (.int .u8 g2.To.2.2.2.2.2.1), .d (.int .u8 g2.To.2.2.2.2.2.2.1), .d (.int .u8 g2.To.2.2.2.2.2.2.2.1), .d (.int .u8 g2.To.2.2.2.2.2.2.2.2)]), (7, [.d (.lst 1 (List.map (eI .i64) x14.Alphabet)), .d (.int .i64 x14.States), .d (.lst 1 (List.map (eI .i64) x14.Marked)), .d (.lst 3 (List.map e_api_Edge x14.Edges))]), (8, [.d (.lst 1 (List.map (eI .i64) r16.Alphabet)), .d (.int .i64 r16.States), .d (.lst 1 (List.map (eI .i64) r16.Marked)), .d (.lst 3 (List.map e_api_Edge r16.Edges))]), (10, [.d (.lst 1 (List.map (eI .i64) r19.Alphabet)), .d (.int .i64 r19.States), .d (.lst 1 (List.map (eI .i64) r19.Marked)), .d (.lst 3 (List.map e_api_Edge r19.Edges))])]) M, Γ.n0 + 155⟩) h (by show WeakSt Γ (clean _ _ _) ⟨look _, memOf _ (bxs _) _, _⟩; exact weak_clean ⟨(.same rfl), ⟨(kPtr rfl), ⟨(kPtr rfl), ⟨(kPtr rfl), ⟨(WkV.nilsO _), ⟨(.same rfl), trivial⟩⟩⟩⟩⟩⟩ ⟨⟨_, rfl, rfl, (.same rfl)⟩, ⟨⟨_, rfl, rfl, (.same rfl)⟩, ⟨⟨_, rfl, rfl, (.same rfl)⟩, ⟨⟨_, rfl, rfl, (.same rfl)⟩, trivial⟩⟩⟩⟩ rfl) (fun k36 z h => ?_)
      ·obtain ⟨w34, i35⟩ := z
       replace h : _ = some _ := h
       refine Tr.seq ?_
       refine Tr.cutB (fun (x38 : Bool) => ⟨look [(2, .d (.lst 1 (List.map (eI .u8) word3))), (7, .ptr (Γ.n0 + 7) 0), (8, .ptr (Γ.n0 + 8) 0), (10, .ptr (Γ.n0 + 10) 0), (12, .own 1 (List.map (eI .i64) w34)), (13, .d (.int .i64 i35)), (75, .d (.bool x38))], memOf Γ.n0 (bxs [(4, [.d (.int .u8 g2.States), .d (.int .u8 g2.Marks), .d (.int .u8 g2.To.1.1), .d (.int .u8 g2.To.1.2.1), .d (.int .u8 g2.To.1.2.2.1), .d (.int .u8 g2.To.1.2.2.2.1), .d (.int .u8 g2.To.1.2.2.2.2), .d (.int .u8 g2.To.2.1.1), .d (.int .u8 g2.To.2.1.2.1), .d (.int .u8 g2.To.2.1.2.2.1), .d (.int .u8 g2.To.2.1.2.2.2.1), .d (.int .u8 g2.To.2.1.2.2.2.2), .d (.int .u8 g2.To.2.2.1.1), .d (.int .u8 g2.To.2.2.1.2.1), .d (.int .u8 g2.To.2.2.1.2.2.1), .d (.int .u8 g2.To.2.2.1.2.2.2.1), .d (.int .u8 g2.To.2.2.1.2.2.2.2), .d (.int .u8 g2.To.2.2.2.1.1), .d (.int .u8 g2.To.2.2.2.1.2.1), .d (.int .u8 g2.To.2.2.2.1.2.2.1), .d (.int .u8 g2.To.2.2.2.1.2.2.2.1), .d (.int .u8 g2.To.2.2.2.1.2.2.2.2), .d (.int .u8 g2.To.2.2.2.2.1), .d (.int .u8 g2.To.2.2.2.2.2.1), .d (.int .u8 g2.To.2.2.2.2.2.2.1), .d (.int .u8 g2.To.2.2.2.2.2.2.2.1), .d (.int .u8 g2.To.2.2.2.2.2.2.2.2)]), (7, [.d (.lst 1 (List.map (eI .i64) x14.Alphabet)), .d (.int .i64 x14.States), .d (.lst 1 (List.map (eI .i64) x14.Marked)), .d (.lst 3 (List.map e_api_Edge x14.Edges))]), (8, [.d (.lst 1 (List.map (eI .i64) r16.Alphabet)), .d (.int .i64 r16.States), .d (.lst 1 (List.map (eI .i64) r16.Marked)), .d (.lst 3 (List.map e_api_Edge r16.Edges))]), (10, [.d (.lst 1 (List.map (eI .i64) r19.Alphabet)), .d (.int .i64 r19.States), .d (.lst 1 (List.map (eI .i64) r19.Marked)), .d (.lst 3 (List.map e_api_Edge r19.Edges))])]) M, Γ.n0 + 155⟩) h (fun z h => ?_) (fun z h => ?_)
       ·refine Tr.rgn (md rfl (md rfl (Rn.lenD trivial rfl (Rn.bin trivial rfl rfl rfl (md rfl ?_)))))
        refine bsplit (decide (i35 < (word3.length : Int))) (fun hb37 => ?_) (fun hb37 => ?_)
        ·replace h := ifT hb37 h
         refine Rn.fldP (o' := 0) (gw rfl hb37) rfl rfl (Rn.load (v := .d (.lst 1 (List.map (eI .i64) x14.Alphabet))) (gw rfl hb37) rfl (boxOwn rfl) rfl rfl (Rn.lenD (gw rfl hb37) rfl (Rn.bin (gw rfl hb37) rfl rfl rfl (Rn.pickT (v := .d (.bool (decide ((x14.Alphabet.length : Int) > 0)))) trivial rfl hb37 rfl (Rn.nil ?_)))))
         replace h := si h; subst h
         show WeakSt Γ _ ⟨look _, memOf _ (bxs _) _, _⟩; exact weak_cut [] ⟨(.same rfl), ⟨(kPtr rfl), ⟨(kPtr rfl), ⟨(kPtr rfl), ⟨(.same rfl), ⟨(.same rfl), ⟨(.same rfl), trivial⟩⟩⟩⟩⟩⟩⟩ ⟨⟨_, rfl, rfl, (.same rfl)⟩, ⟨⟨_, rfl, rfl, (.same rfl)⟩, ⟨⟨_, rfl, rfl, (.same rfl)⟩, ⟨⟨_, rfl, rfl, (.same rfl)⟩, trivial⟩⟩⟩⟩ rfl
        ·replace h := ifF hb37 h
         refine Rn.sk (nw rfl hb37) (Rn.sk (nw rfl hb37) (Rn.sk (nw rfl hb37) (Rn.sk (nw rfl hb37) (Rn.pickF (v := .d (.bool false)) trivial rfl hb37 rfl (Rn.nil ?_)))))
         replace h := si h; subst h
         show WeakSt Γ _ ⟨look _, memOf _ (bxs _) _, _⟩; exact weak_cut [] ⟨(.same rfl), ⟨(kPtr rfl), ⟨(kPtr rfl), ⟨(kPtr rfl), ⟨(.same rfl), ⟨(.same rfl), ⟨(.same rfl), trivial⟩⟩⟩⟩⟩⟩⟩ ⟨⟨_, rfl, rfl, (.same rfl)⟩, ⟨⟨_, rfl, rfl, (.same rfl)⟩, ⟨⟨_, rfl, rfl, (.same rfl)⟩, ⟨⟨_, rfl, rfl, (.same rfl)⟩, trivial⟩⟩⟩⟩ rfl
       ·obtain ⟨x38, rfl⟩ : ∃ x, x = z := ⟨_, rfl⟩
        refine Tr.cond rfl (fun hb39 => ?_) (fun hb39 => ?_)
        ·replace h := bT hb39 h
         refine Tr.skip (toN (Tr.seq (Tr.block ?_)))
         refine Tr.rgnD (by decide) ?_
         refine Rn.movTO trivial rfl (Rn.fldP (o' := 0) trivial rfl rfl (Rn.load (v := .d (.lst 1 (List.map (eI .i64) x14.Alphabet))) trivial rfl (boxOwn rfl) rfl rfl (md rfl (md rfl ?_))))
         obtain ⟨x40, h41, h⟩ := bnd h
         refine Rn.idxD (e := (eI .u8)) trivial rfl rfl h41 (Rn.loadC (x := .int .u8 x40) trivial rfl (Rn.conv trivial rfl (Rn.fldP (o' := 0) trivial rfl rfl (Rn.load (v := .d (.lst 1 (List.map (eI .i64) x14.Alphabet))) trivial rfl (boxOwn rfl) rfl rfl (Rn.lenD trivial rfl ?_)))))
         obtain ⟨s42, h43, h⟩ := bnd h
         refine Rn.bin trivial rfl rfl (rem_bin h43) ?_
         obtain ⟨x44, h45, h⟩ := bnd h
         refine Rn.idxD (e := (eI .i64)) trivial rfl rfl h45 (Rn.loadC (x := .int .i64 x44) trivial rfl (Rn.bslice (xs := [.d (.int .i64 x44)]) (cs := [.d (.int .i64 x44)]) trivial rfl rfl rfl rfl ?_))
         obtain ⟨x46, h47, h⟩ := bnd h
         refine Rn.app (e := (eI .i64)) trivial rfl rfl rfl (elems_box rfl rfl rfl) h47 rfl (Rn.movTO trivial rfl ?_)
         refine Rn.nil ⟨rfl, ?_⟩
         refine toN (Tr.rgn (md rfl (Rn.bin trivial rfl rfl rfl (md rfl (Rn.nil ?_)))))
         exact ⟨_, h, (by show WeakSt Γ (clean _ _ _) ⟨look _, memOf _ (bxs _) _, _⟩; exact weak_clean ⟨(.same rfl), ⟨(kPtr rfl), ⟨(kPtr rfl), ⟨(kPtr rfl), ⟨(.same rfl), ⟨(.same rfl), trivial⟩⟩⟩⟩⟩⟩ ⟨⟨_, rfl, rfl, (.same rfl)⟩, ⟨⟨_, rfl, rfl, (.same rfl)⟩, ⟨⟨_, rfl, rfl, (.same rfl)⟩, ⟨⟨_, rfl, rfl, (.same rfl)⟩, trivial⟩⟩⟩⟩ rfl)⟩
        ·replace h := bF hb39 h
         refine Tr.exit ?_
         replace h := si h; subst h
         show WeakSt Γ _ ⟨look _, memOf _ (bxs _) _, _⟩; exact weak_cut [] ⟨(kPtr rfl), ⟨(kPtr rfl), ⟨(kPtr rfl), ⟨(.same rfl), trivial⟩⟩⟩⟩ ⟨⟨_, rfl, rfl, (.same rfl)⟩, ⟨⟨_, rfl, rfl, (.same rfl)⟩, ⟨⟨_, rfl, rfl, (.same rfl)⟩, ⟨⟨_, rfl, rfl, (.same rfl)⟩, trivial⟩⟩⟩⟩ rfl
     ·obtain ⟨w48, rfl⟩ : ∃ x, x = z := ⟨_, rfl⟩
      refine sr ((Rn.load (v := .agg [.d (.lst 1 (List.map (eI .i64) r16.Alphabet)), .d (.int .i64 r16.States), .d (.lst 1 (List.map (eI .i64) r16.Marked)), .d (.lst 3 (List.map e_api_Edge r16.Edges))]) trivial rfl (boxOwn rfl) rfl rfl (Rn.mov (v := .d (.lst 1 (List.map (eI .i64) w48))) trivial rfl ?_)))
      obtain ⟨⟨r50, r51⟩, h49, h⟩ := bnd h
      refine Rn.call (args := [.agg [.d (.lst 1 (List.map (eI .i64) r16.Alphabet)), .d (.int .i64 r16.States), .d (.lst 1 (List.map (eI .i64) r16.Marked)), .d (.lst 3 (List.map e_api_Edge r16.Edges))], .d (.lst 1 (List.map (eI .i64) w48))]) trivial rfl (H_automaton_Generates _ _ _ h49) pc9 (Rn.mov (v := .tup [.d (.bool r50), .d (.int .i64 r51)]) trivial rfl (Rn.ext (v := .d (.bool r50)) (vs := [.d (.bool r50), .d (.int .i64 r51)]) trivial rfl rfl rfl (Rn.ext (v := .d (.int .i64 r51)) (vs := [.d (.bool r50), .d (.int .i64 r51)]) trivial rfl rfl rfl (md rfl (md rfl (nt ((sr ((Rn.load (v := .agg [.d (.lst 1 (List.map (eI .i64) r16.Alphabet)), .d (.int .i64 r16.States), .d (.lst 1 (List.map (eI .i64) r16.Marked)), .d (.lst 3 (List.map e_api_Edge r16.Edges))]) trivial rfl (boxOwn rfl) rfl rfl (Rn.mov (v := .d (.lst 1 (List.map (eI .i64) w48))) trivial rfl ?_)))))))))))
      obtain ⟨⟨r53, r54⟩, h52, h⟩ := bnd h
      refine Rn.call (args := [.agg [.d (.lst 1 (List.map (eI .i64) r16.Alphabet)), .d (.int .i64 r16.States), .d (.lst 1 (List.map (eI .i64) r16.Marked)), .d (.lst 3 (List.map e_api_Edge r16.Edges))], .d (.lst 1 (List.map (eI .i64) w48))]) trivial rfl (H_automaton_Accepts _ _ _ h52) pc9 (Rn.mov (v := .tup [.d (.bool r53), .d (.int .i64 r54)]) trivial rfl (Rn.ext (v := .d (.bool r53)) (vs := [.d (.bool r53), .d (.int .i64 r54)]) trivial rfl rfl rfl (Rn.ext (v := .d (.int .i64 r54)) (vs := [.d (.bool r53), .d (.int .i64 r54)]) trivial rfl rfl rfl (md rfl (md rfl (nt ((sr ((Rn.load (v := .agg [.d (.lst 1 (List.map (eI .i64) r19.Alphabet)), .d (.int .i64 r19.States), .d (.lst 1 (List.map (eI .i64) r19.Marked)), .d (.lst 3 (List.map e_api_Edge r19.Edges))]) trivial rfl (boxOwn rfl) rfl rfl (Rn.mov (v := .d (.lst 1 (List.map (eI .i64) w48))) trivial rfl ?_)))))))))))
      obtain ⟨⟨r56, r57⟩, h55, h⟩ := bnd h
      refine Rn.call (args := [.agg [.d (.lst 1 (List.map (eI .i64) r19.Alphabet)), .d (.int .i64 r19.States), .d (.lst 1 (List.map (eI .i64) r19.Marked)), .d (.lst 3 (List.map e_api_Edge r19.Edges))], .d (.lst 1 (List.map (eI .i64) w48))]) trivial rfl (H_automaton_Accepts _ _ _ h55) pc9 (Rn.mov (v := .tup [.d (.bool r56), .d (.int .i64 r57)]) trivial rfl (Rn.ext (v := .d (.bool r56)) (vs := [.d (.bool r56), .d (.int .i64 r57)]) trivial rfl rfl rfl (Rn.ext (v := .d (.int .i64 r57)) (vs := [.d (.bool r56), .d (.int .i64 r57)]) trivial rfl rfl rfl (md rfl (md rfl (nt ((sr ((Rn.load (v := .agg [.d (.lst 1 (List.map (eI .i64) x14.Alphabet)), .d (.int .i64 x14.States), .d (.lst 1 (List.map (eI .i64) x14.Marked)), .d (.lst 3 (List.map e_api_Edge x14.Edges))]) trivial rfl (boxOwn rfl) rfl rfl (Rn.mov (v := .d (.lst 1 (List.map (eI .i64) w48))) trivial rfl ?_)))))))))))
      obtain ⟨⟨r59, r60⟩, h58, h⟩ := bnd h
      refine Rn.call (args := [.agg [.d (.lst 1 (List.map (eI .i64) x14.Alphabet)), .d (.int .i64 x14.States), .d (.lst 1 (List.map (eI .i64) x14.Marked)), .d (.lst 3 (List.map e_api_Edge x14.Edges))], .d (.lst 1 (List.map (eI .i64) w48))]) trivial rfl (H_automaton_Accepts _ _ _ h58) pc9 (Rn.mov (v := .tup [.d (.bool r59), .d (.int .i64 r60)]) trivial rfl (Rn.ext (v := .d (.bool r59)) (vs := [.d (.bool r59), .d (.int .i64 r60)]) trivial rfl rfl rfl (Rn.ext (v := .d (.int .i64 r60)) (vs := [.d (.bool r59), .d (.int .i64 r60)]) trivial rfl rfl rfl (md rfl (md rfl (nt ((sr ((Rn.load (v := .agg [.d (.lst 1 (List.map (eI .i64) x14.Alphabet)), .d (.int .i64 x14.States), .d (.lst 1 (List.map (eI .i64) x14.Marked)), .d (.lst 3 (List.map e_api_Edge x14.Edges))]) trivial rfl (boxOwn rfl) rfl rfl (Rn.mov (v := .d (.lst 1 (List.map (eI .i64) w48))) trivial rfl ?_)))))))))))
      obtain ⟨⟨r62, r63⟩, h61, h⟩ := bnd h
      refine Rn.call (args := [.agg [.d (.lst 1 (List.map (eI .i64) x14.Alphabet)), .d (.int .i64 x14.States), .d (.lst 1 (List.map (eI .i64) x14.Marked)), .d (.lst 3 (List.map e_api_Edge x14.Edges))], .d (.lst 1 (List.map (eI .i64) w48))]) trivial rfl (H_automaton_Generates _ _ _ h61) pc9 (Rn.mov (v := .tup [.d (.bool r62), .d (.int .i64 r63)]) trivial rfl (Rn.ext (v := .d (.bool r62)) (vs := [.d (.bool r62), .d (.int .i64 r63)]) trivial rfl rfl rfl (Rn.ext (v := .d (.int .i64 r63)) (vs := [.d (.bool r62), .d (.int .i64 r63)]) trivial rfl rfl rfl (md rfl (md rfl (Rn.nil (toN ?_)))))))
      refine Tr.cutB (fun (x71 : Bool) => ⟨look [(6, .d (.bool x71))], memOf Γ.n0 (bxs [(4, [.d (.int .u8 g2.States), .d (.int .u8 g2.Marks), .d (.int .u8 g2.To.1.1), .d (.int .u8 g2.To.1.2.1), .d (.int .u8 g2.To.1.2.2.1), .d (.int .u8 g2.To.1.2.2.2.1), .d (.int .u8 g2.To.1.2.2.2.2), .d (.int .u8 g2.To.2.1.1), .d (.int .u8 g2.To.2.1.2.1), .d (.int .u8 g2.To.2.1.2.2.1), .d (.int .u8 g2.To.2.1.2.2.2.1), .d (.int .u8 g2.To.2.1.2.2.2.2), .d (.int .u8 g2.To.2.2.1.1), .d (.int .u8 g2.To.2.2.1.2.1), .d (.int .u8 g2.To.2.2.1.2.2.1), .d (.int .u8 g2.To.2.2.1.2.2.2.1), .d (.int .u8 g2.To.2.2.1.2.2.2.2), .d (.int .u8 g2.To.2.2.2.1.1), .d (.int .u8 g2.To.2.2.2.1.2.1), .d (.int .u8 g2.To.2.2.2.1.2.2.1), .d (.int .u8 g2.To.2.2.2.1.2.2.2.1), .d (.int .u8 g2.To.2.2.2.1.2.2.2.2), .d (.int .u8 g2.To.2.2.2.2.1), .d (.int .u8 g2.To.2.2.2.2.2.1), .d (.int .u8 g2.To.2.2.2.2.2.2.1), .d (.int .u8 g2.To.2.2.2.2.2.2.2.1), .d (.int .u8 g2.To.2.2.2.2.2.2.2.2)]), (7, [.d (.lst 1 (List.map (eI .i64) x14.Alphabet)), .d (.int .i64 x14.States), .d (.lst 1 (List.map (eI .i64) x14.Marked)), .d (.lst 3 (List.map e_api_Edge x14.Edges))]), (8, [.d (.lst 1 (List.map (eI .i64) r16.Alphabet)), .d (.int .i64 r16.States), .d (.lst 1 (List.map (eI .i64) r16.Marked)), .d (.lst 3 (List.map e_api_Edge r16.Edges))]), (10, [.d (.lst 1 (List.map (eI .i64) r19.Alphabet)), .d (.int .i64 r19.States), .d (.lst 1 (List.map (eI .i64) r19.Marked)), .d (.lst 3 (List.map e_api_Edge r19.Edges))])]) M, Γ.n0 + 155⟩) h (fun z h => ?_) (fun z h => ?_)
      ·refine Tr.rgn (md rfl (Rn.bin trivial rfl rfl rfl (md rfl ?_)))
       refine bsplit (r51 == 0) (fun hb64 => ?_) (fun hb64 => ?_)
       ·replace h := bT hb64 h
        refine Rn.movD (gw rfl hb64) rfl (Rn.bin (gw rfl hb64) rfl rfl rfl (Rn.pickT (v := .d (.bool (r54 == 0))) trivial rfl hb64 rfl (md rfl ?_)))
        refine bsplit (r54 == 0) (fun hb65 => ?_) (fun hb65 => ?_)
        ·replace h := bT hb65 h
         refine Rn.movD (gw rfl hb65) rfl (Rn.bin (gw rfl hb65) rfl rfl rfl (Rn.pickT (v := .d (.bool (r57 == 0))) trivial rfl hb65 rfl (md rfl ?_)))
         refine bsplit (r57 == 0) (fun hb66 => ?_) (fun hb66 => ?_)
         ·replace h := bT hb66 h
          refine Rn.movD (gw rfl hb66) rfl (Rn.bin (gw rfl hb66) rfl rfl rfl (Rn.pickT (v := .d (.bool (r60 == 0))) trivial rfl hb66 rfl (md rfl ?_)))
          refine bsplit (r60 == 0) (fun hb67 => ?_) (fun hb67 => ?_)
          ·replace h := bT hb67 h
           refine Rn.movD (gw rfl hb67) rfl (Rn.bin (gw rfl hb67) rfl rfl rfl (Rn.pickT (v := .d (.bool (r63 == 0))) trivial rfl hb67 rfl (md rfl ?_)))
           refine bsplit (r63 == 0) (fun hb68 => ?_) (fun hb68 => ?_)
           ·replace h := bT hb68 h
            refine Rn.movD (gw rfl hb68) rfl (Rn.pickT (v := .d (.bool r50)) trivial rfl hb68 rfl (md rfl ?_))
            refine bsplit r50 (fun hb69 => ?_) (fun hb69 => ?_)
            ·replace h := bT hb69 h
             refine Rn.movD (gw rfl hb69) rfl (Rn.movD (gw rfl hb69) rfl (Rn.bin (gw rfl hb69) rfl rfl rfl (Rn.pickT (v := .d (.bool (r53 == r59))) trivial rfl hb69 rfl (md rfl ?_))))
             refine bsplit (r53 == r59) (fun hb70 => ?_) (fun hb70 => ?_)
             ·replace h := bT hb70 h
              refine Rn.movD (gw rfl hb70) rfl (Rn.movD (gw rfl hb70) rfl (Rn.bin (gw rfl hb70) rfl rfl rfl (Rn.pickT (v := .d (.bool (r56 == r62))) trivial rfl hb70 rfl (md rfl (Rn.nil ?_)))))
              replace h := si h; subst h
              show WeakSt Γ _ ⟨look _, memOf _ (bxs _) _, _⟩; exact weak_cut [] ⟨(.same rfl), trivial⟩ ⟨⟨_, rfl, rfl, (.same rfl)⟩, ⟨⟨_, rfl, rfl, (.same rfl)⟩, ⟨⟨_, rfl, rfl, (.same rfl)⟩, ⟨⟨_, rfl, rfl, (.same rfl)⟩, trivial⟩⟩⟩⟩ rfl
             ·replace h := bF hb70 h
              refine Rn.sk (nw rfl hb70) (Rn.sk (nw rfl hb70) (Rn.sk (nw rfl hb70) (Rn.pickF (v := .d (.bool false)) trivial rfl hb70 rfl (md rfl (Rn.nil ?_)))))
              replace h := si h; subst h
              show WeakSt Γ _ ⟨look _, memOf _ (bxs _) _, _⟩; exact weak_cut [] ⟨(.same rfl), trivial⟩ ⟨⟨_, rfl, rfl, (.same rfl)⟩, ⟨⟨_, rfl, rfl, (.same rfl)⟩, ⟨⟨_, rfl, rfl, (.same rfl)⟩, ⟨⟨_, rfl, rfl, (.same rfl)⟩, trivial⟩⟩⟩⟩ rfl
            ·replace h := bF hb69 h
             refine Rn.sk (nw rfl hb69) (Rn.sk (nw rfl hb69) (Rn.sk (nw rfl hb69) (Rn.pickF (v := .d (.bool false)) trivial rfl hb69 rfl (md rfl (Rn.sk (nw (b := false) rfl rfl) (Rn.sk (nw (b := false) rfl rfl) (Rn.sk (nw (b := false) rfl rfl) (Rn.pickF (v := .d (.bool false)) trivial rfl rfl rfl (md rfl (Rn.nil ?_))))))))))
             replace h := si h; subst h
             show WeakSt Γ _ ⟨look _, memOf _ (bxs _) _, _⟩; exact weak_cut [] ⟨(.same rfl), trivial⟩ ⟨⟨_, rfl, rfl, (.same rfl)⟩, ⟨⟨_, rfl, rfl, (.same rfl)⟩, ⟨⟨_, rfl, rfl, (.same rfl)⟩, ⟨⟨_, rfl, rfl, (.same rfl)⟩, trivial⟩⟩⟩⟩ rfl
           ·replace h := bF hb68 h
            refine Rn.sk (nw rfl hb68) (Rn.pickF (v := .d (.bool false)) trivial rfl hb68 rfl (md rfl (Rn.sk (nw (b := false) rfl rfl) (Rn.sk (nw (b := false) rfl rfl) (Rn.sk (nw (b := false) rfl rfl) (Rn.pickF (v := .d (.bool false)) trivial rfl rfl rfl (md rfl (Rn.sk (nw (b := false) rfl rfl) (Rn.sk (nw (b := false) rfl rfl) (Rn.sk (nw (b := false) rfl rfl) (Rn.pickF (v := .d (.bool false)) trivial rfl rfl rfl (md rfl (Rn.nil ?_)))))))))))))
            replace h := si h; subst h
            show WeakSt Γ _ ⟨look _, memOf _ (bxs _) _, _⟩; exact weak_cut [] ⟨(.same rfl), trivial⟩ ⟨⟨_, rfl, rfl, (.same rfl)⟩, ⟨⟨_, rfl, rfl, (.same rfl)⟩, ⟨⟨_, rfl, rfl, (.same rfl)⟩, ⟨⟨_, rfl, rfl, (.same rfl)⟩, trivial⟩⟩⟩⟩ rfl
          ·replace h := bF hb67 h
           refine Rn.sk (nw rfl hb67) (Rn.sk (nw rfl hb67) (Rn.pickF (v := .d (.bool false)) trivial rfl hb67 rfl (md rfl (Rn.sk (nw (b := false) rfl rfl) (Rn.pickF (v := .d (.bool false)) trivial rfl rfl rfl (md rfl (Rn.sk (nw (b := false) rfl rfl) (Rn.sk (nw (b := false) rfl rfl) (Rn.sk (nw (b := false) rfl rfl) (Rn.pickF (v := .d (.bool false)) trivial rfl rfl rfl (md rfl (Rn.sk (nw (b := false) rfl rfl) (Rn.sk (nw (b := false) rfl rfl) (Rn.sk (nw (b := false) rfl rfl) (Rn.pickF (v := .d (.bool false)) trivial rfl rfl rfl (md rfl (Rn.nil ?_)))))))))))))))))
           replace h := si h; subst h
           show WeakSt Γ _ ⟨look _, memOf _ (bxs _) _, _⟩; exact weak_cut [] ⟨(.same rfl), trivial⟩ ⟨⟨_, rfl, rfl, (.same rfl)⟩, ⟨⟨_, rfl, rfl, (.same rfl)⟩, ⟨⟨_, rfl, rfl, (.same rfl)⟩, ⟨⟨_, rfl, rfl, (.same rfl)⟩, trivial⟩⟩⟩⟩ rfl
         ·replace h := bF hb66 h
          refine Rn.sk (nw rfl hb66) (Rn.sk (nw rfl hb66) (Rn.pickF (v := .d (.bool false)) trivial rfl hb66 rfl (md rfl (Rn.sk (nw (b := false) rfl rfl) (Rn.sk (nw (b := false) rfl rfl) (Rn.pickF (v := .d (.bool false)) trivial rfl rfl rfl (md rfl (Rn.sk (nw (b := false) rfl rfl) (Rn.pickF (v := .d (.bool false)) trivial rfl rfl rfl (md rfl (Rn.sk (nw (b := false) rfl rfl) (Rn.sk (nw (b := false) rfl rfl) (Rn.sk (nw (b := false) rfl rfl) (Rn.pickF (v := .d (.bool false)) trivial rfl rfl rfl (md rfl (Rn.sk (nw (b := false) rfl rfl) (Rn.sk (nw (b := false) rfl rfl) (Rn.sk (nw (b := false) rfl rfl) (Rn.pickF (v := .d (.bool false)) trivial rfl rfl rfl (md rfl (Rn.nil ?_)))))))))))))))))))))
          replace h := si h; subst h
          show WeakSt Γ _ ⟨look _, memOf _ (bxs _) _, _⟩; exact weak_cut [] ⟨(.same rfl), trivial⟩ ⟨⟨_, rfl, rfl, (.same rfl)⟩, ⟨⟨_, rfl, rfl, (.same rfl)⟩, ⟨⟨_, rfl, rfl, (.same rfl)⟩, ⟨⟨_, rfl, rfl, (.same rfl)⟩, trivial⟩⟩⟩⟩ rfl
        ·replace h := bF hb65 h
         refine Rn.sk (nw rfl hb65) (Rn.sk (nw rfl hb65) (Rn.pickF (v := .d (.bool false)) trivial rfl hb65 rfl (md rfl (Rn.sk (nw (b := false) rfl rfl) (Rn.sk (nw (b := false) rfl rfl) (Rn.pickF (v := .d (.bool false)) trivial rfl rfl rfl (md rfl (Rn.sk (nw (b := false) rfl rfl) (Rn.sk (nw (b := false) rfl rfl) (Rn.pickF (v := .d (.bool false)) trivial rfl rfl rfl (md rfl (Rn.sk (nw (b := false) rfl rfl) (Rn.pickF (v := .d (.bool false)) trivial rfl rfl rfl (md rfl (Rn.sk (nw (b := false) rfl rfl) (Rn.sk (nw (b := false) rfl rfl) (Rn.sk (nw (b := false) rfl rfl) (Rn.pickF (v := .d (.bool false)) trivial rfl rfl rfl (md rfl (Rn.sk (nw (b := false) rfl rfl) (Rn.sk (nw (b := false) rfl rfl) (Rn.sk (nw (b := false) rfl rfl) (Rn.pickF (v := .d (.bool false)) trivial rfl rfl rfl (md rfl (Rn.nil ?_)))))))))))))))))))))))))
         replace h := si h; subst h
         show WeakSt Γ _ ⟨look _, memOf _ (bxs _) _, _⟩; exact weak_cut [] ⟨(.same rfl), trivial⟩ ⟨⟨_, rfl, rfl, (.same rfl)⟩, ⟨⟨_, rfl, rfl, (.same rfl)⟩, ⟨⟨_, rfl, rfl, (.same rfl)⟩, ⟨⟨_, rfl, rfl, (.same rfl)⟩, trivial⟩⟩⟩⟩ rfl
       ·replace h := bF hb64 h
        refine Rn.sk (nw rfl hb64) (Rn.sk (nw rfl hb64) (Rn.pickF (v := .d (.bool false)) trivial rfl hb64 rfl (md rfl (Rn.sk (nw (b := false) rfl rfl) (Rn.sk (nw (b := false) rfl rfl) (Rn.pickF (v := .d (.bool false)) trivial rfl rfl rfl (md rfl (Rn.sk (nw (b := false) rfl rfl) (Rn.sk (nw (b := false) rfl rfl) (Rn.pickF (v := .d (.bool false)) trivial rfl rfl rfl (md rfl (Rn.sk (nw (b := false) rfl rfl) (Rn.sk (nw (b := false) rfl rfl) (Rn.pickF (v := .d (.bool false)) trivial rfl rfl rfl (md rfl (Rn.sk (nw (b := false) rfl rfl) (Rn.pickF (v := .d (.bool false)) trivial rfl rfl rfl (md rfl (Rn.sk (nw (b := false) rfl rfl) (Rn.sk (nw (b := false) rfl rfl) (Rn.sk (nw (b := false) rfl rfl) (Rn.pickF (v := .d (.bool false)) trivial rfl rfl rfl (md rfl (Rn.sk (nw (b := false) rfl rfl) (Rn.sk (nw (b := false) rfl rfl) (Rn.sk (nw (b := false) rfl rfl) (Rn.pickF (v := .d (.bool false)) trivial rfl rfl rfl (md rfl (Rn.nil ?_)))))))))))))))))))))))))))))
        replace h := si h; subst h
        show WeakSt Γ _ ⟨look _, memOf _ (bxs _) _, _⟩; exact weak_cut [] ⟨(.same rfl), trivial⟩ ⟨⟨_, rfl, rfl, (.same rfl)⟩, ⟨⟨_, rfl, rfl, (.same rfl)⟩, ⟨⟨_, rfl, rfl, (.same rfl)⟩, ⟨⟨_, rfl, rfl, (.same rfl)⟩, trivial⟩⟩⟩⟩ rfl
      ·obtain ⟨x71, rfl⟩ : ∃ x, x = z := ⟨_, rfl⟩
       refine Tr.ret ?_
       replace h := si h; subst h
       exact ⟨.inr rfl, (.d (.bool x71)), rfl, fun _ _ _ _ h => h, trivial, fun k hk => memOf_base hk⟩
theorem slices_Equal_int_walk {P : Program} {c : Nat} (hcf : compFn P c = some F_slices_Equal_int) (fuel : Nat) : K_slices_Equal_int P c (f_slices_Equal_int fuel) := by
 intro s1 s2 r h
 refine fn_trP hcf rfl fun Γ M hP hnt hM => ?_
 subst hP
 refine Tr.init [(0, .d (.lst 1 (List.map (eI .i64) s1))), (1, .d (.lst 1 (List.map (eI .i64) s2)))] rfl ?_
 unfold f_slices_Equal_int at h
 unfold F_slices_Equal_int
 refine sr ((md rfl (nt ((Tr.seq (sr ((md rfl (Rn.lenD trivial rfl (md rfl (Rn.lenD trivial rfl (Rn.bin trivial rfl rfl rfl (Rn.nil (toN ?_))))))))))))))
 refine Tr.cond rfl (fun hb3 => ?_) (fun hb3 => ?_)
 ·replace h := bT hb3 h
  refine sr ((md rfl (nt ((Tr.ret ?_)))))
  replace h := si h; subst h
  exact ⟨.inr rfl, (.d (.bool false)), rfl, fun _ _ _ _ h => h, trivial, fun k hk => memOf_base hk⟩
 ·replace h := bF hb3 h
  refine Tr.skip (toN (Tr.seq (sr ((md rfl (Rn.lenD trivial rfl (md rfl (nt ((Tr.block ?_))))))))))
  refine Tr.loop (mk := fun (x4 : Int) => ⟨look [(0, .d (.lst 1 (List.map (eI .i64) s1))), (1, .d (.lst 1 (List.map (eI .i64) s2))), (12, .d (.int .i64 (s1.length : Int))), (13, .d (.int .i64 x4))], memOf Γ.n0 (bxs []) M, Γ.n0 + 26⟩) h (by show WeakSt Γ (clean _ _ _) ⟨look _, memOf _ (bxs _) _, _⟩; exact weak_clean ⟨(.same rfl), ⟨(.same rfl), ⟨(.same rfl), ⟨(.same rfl), trivial⟩⟩⟩⟩ trivial rfl) (fun k5 z h => ?_)
  ·obtain ⟨x4, rfl⟩ : ∃ x, x = z := ⟨_, rfl⟩
   replace h : _ = some _ := h
   refine sr ((Rn.bin trivial rfl rfl rfl (nt ((Tr.seq ?_)))))
   refine Tr.cond rfl (fun hb6 => ?_) (fun hb6 => ?_)
   ·replace h := ifT hb6 h
    refine Tr.skip (toN (Tr.seq (Tr.block (sr ((md rfl (md rfl (nt ((Tr.seq ?_))))))))))
    refine Tr.rgnD (by decide) ?_
    refine md rfl (md rfl ?_)
    obtain ⟨x7, h8, h⟩ := bnd h
    refine Rn.idxD (e := (eI .i64)) trivial rfl rfl h8 (Rn.loadC (x := .int .i64 x7) trivial rfl (md rfl (md rfl ?_)))
    obtain ⟨x9, h10, h⟩ := bnd h
    refine Rn.idxD (e := (eI .i64)) trivial rfl rfl h10 (Rn.loadC (x := .int .i64 x9) trivial rfl (Rn.bin trivial rfl rfl rfl ?_))
    refine Rn.nil ⟨rfl, ?_⟩
    refine toN ?_
    refine Tr.cond rfl (fun hb11 => ?_) (fun hb11 => ?_)
    ·replace h := bT hb11 h
     refine sr ((md rfl (nt ((Tr.ret ?_)))))
     replace h := si h; subst h
     exact ⟨.inr rfl, (.d (.bool false)), rfl, fun _ _ _ _ h => h, trivial, fun k hk => memOf_base hk⟩
    ·replace h := bF hb11 h
     refine Tr.skip (toN (Tr.rgn (Rn.bin trivial rfl rfl rfl (md rfl (Rn.nil ?_)))))
     exact ⟨_, h, (by show WeakSt Γ (clean _ _ _) ⟨look _, memOf _ (bxs _) _, _⟩; exact weak_clean ⟨(.same rfl), ⟨(.same rfl), ⟨(.same rfl), ⟨(.same rfl), trivial⟩⟩⟩⟩ trivial rfl)⟩
   ·replace h := ifF hb6 h
    refine Tr.exit (toN (sr ((md rfl (nt ((Tr.ret ?_)))))))
    replace h := si h; subst h
    exact ⟨.inr rfl, (.d (.bool true)), rfl, fun _ _ _ _ h => h, trivial, fun k hk => memOf_base hk⟩
theorem slices_Equal_Edge_walk {P : Program} {c : Nat} (hcf : compFn P c = some F_slices_Equal_Edge) (fuel : Nat) : K_slices_Equal_Edge P c (f_slices_Equal_Edge fuel) := by
 intro s1 s2 r h
 refine fn_trP hcf rfl fun Γ M hP hnt hM => ?_
 subst hP
 refine Tr.init [(0, .d (.lst 3 (List.map e_api_Edge s1))), (1, .d (.lst 3 (List.map e_api_Edge s2)))] rfl ?_
 unfold f_slices_Equal_Edge at h
 unfold F_slices_Equal_Edge
 refine sr ((md rfl (nt ((Tr.seq (sr ((md rfl (Rn.lenD trivial rfl (md rfl (Rn.lenD trivial rfl (Rn.bin trivial rfl rfl rfl (Rn.nil (toN ?_))))))))))))))
 refine Tr.cond rfl (fun hb3 => ?_) (fun hb3 => ?_)
 ·replace h := bT hb3 h
  refine sr ((md rfl (nt ((Tr.ret ?_)))))
  replace h := si h; subst h
  exact ⟨.inr rfl, (.d (.bool false)), rfl, fun _ _ _ _ h => h, trivial, fun k hk => memOf_base hk⟩
 ·replace h := bF hb3 h
  refine Tr.skip (toN (Tr.seq (sr ((md rfl (Rn.lenD trivial rfl (md rfl (nt ((Tr.block ?_))))))))))
  refine Tr.loop (mk := fun (x4 : Int) => ⟨look [(0, .d (.lst 3 (List.map e_api_Edge s1))), (1, .d (.lst 3 (List.map e_api_Edge s2))), (12, .d (.int .i64 (s1.length : Int))), (13, .d (.int .i64 x4))], memOf Γ.n0 (bxs []) M, Γ.n0 + 26⟩) h (by show WeakSt Γ (clean _ _ _) ⟨look _, memOf _ (bxs _) _, _⟩; exact weak_clean ⟨(.same rfl), ⟨(.same rfl), ⟨(.same rfl), ⟨(.same rfl), trivial⟩⟩⟩⟩ trivial rfl) (fun k5 z h => ?_)
  ·obtain ⟨x4, rfl⟩ : ∃ x, x = z := ⟨_, rfl⟩
   replace h : _ = some _ := h
   refine sr ((Rn.bin trivial rfl rfl rfl (nt ((Tr.seq ?_)))))
   refine Tr.cond rfl (fun hb6 => ?_) (fun hb6 => ?_)
   ·replace h := ifT hb6 h
    refine Tr.skip (toN (Tr.seq (Tr.block (sr ((md rfl (md rfl (nt ((Tr.seq ?_))))))))))
    refine Tr.rgnD (by decide) ?_
    refine md rfl (md rfl ?_)
    obtain ⟨x7, h8, h⟩ := bnd h
    refine Rn.idxD (e := e_api_Edge) trivial rfl rfl h8 (Rn.loadCA (vs := [.d (.int .i64 x7.From), .d (.int .i64 x7.Event), .d (.int .i64 x7.To)]) trivial rfl rfl rfl (md rfl (md rfl ?_)))
    obtain ⟨x9, h10, h⟩ := bnd h
    refine Rn.idxD (e := e_api_Edge) trivial rfl rfl h10 (Rn.loadCA (vs := [.d (.int .i64 x9.From), .d (.int .i64 x9.Event), .d (.int .i64 x9.To)]) trivial rfl rfl rfl (Rn.eqa (r := ((x7.From == x9.From) && ((x7.Event == x9.Event) && ((x7.To == x9.To) && true)))) trivial rfl rfl rfl ?_))
    refine Rn.nil ⟨rfl, ?_⟩
    refine toN ?_
    refine Tr.cond rfl (fun hb11 => ?_) (fun hb11 => ?_)
    ·have hb11 := nT' hb11
     replace h := bF hb11 h
     refine sr ((md rfl (nt ((Tr.ret ?_)))))
     replace h := si h; subst h
     exact ⟨.inr rfl, (.d (.bool false)), rfl, fun _ _ _ _ h => h, trivial, fun k hk => memOf_base hk⟩
    ·have hb11 := nF' hb11
     replace h := bT hb11 h
     refine Tr.skip (toN (Tr.rgn (Rn.bin trivial rfl rfl rfl (md rfl (Rn.nil ?_)))))
     exact ⟨_, h, (by show WeakSt Γ (clean _ _ _) ⟨look _, memOf _ (bxs _) _, _⟩; exact weak_clean ⟨(.same rfl), ⟨(.same rfl), ⟨(.same rfl), ⟨(.same rfl), trivial⟩⟩⟩⟩ trivial rfl)⟩
   ·replace h := ifF hb6 h
    refine Tr.exit (toN (sr ((md rfl (nt ((Tr.ret ?_)))))))
    replace h := si h; subst h
    exact ⟨.inr rfl, (.d (.bool true)), rfl, fun _ _ _ _ h => h, trivial, fun k hk => memOf_base hk⟩
end Go.Abs
end
section
namespace Go.Proofs
open Go.Abs
set_option maxRecDepth 100000
theorem C_overseerlaw03_AutomatonCompletes : compFn Try.prog 11 = some F_overseerlaw03_AutomatonCompletes := by kernel_rfl
theorem C_overseerlaw03_known : compFn Try.prog 13 = some F_overseerlaw03_known := by kernel_rfl
theorem C_overseerlaw03_Make : compFn Try.prog 14 = some F_overseerlaw03_Make := by kernel_rfl
theorem C_overseerlaw03_Set_Events : compFn Try.prog 15 = some F_overseerlaw03_Set_Events := by kernel_rfl
theorem C_automaton_Words : compFn Try.prog 16 = some F_automaton_Words := by kernel_rfl
theorem C_automaton_Relabel : compFn Try.prog 20 = some F_automaton_Relabel := by kernel_rfl
theorem C_overseerref03_Same : compFn Try.prog 23 = some F_overseerref03_Same := by kernel_rfl
theorem C_overseerref03_Canonical : compFn Try.prog 28 = some F_overseerref03_Canonical := by kernel_rfl
theorem C_automaton_Canonical : compFn Try.prog 29 = some F_automaton_Canonical := by kernel_rfl
theorem C_automaton_Generates : compFn Try.prog 31 = some F_automaton_Generates := by kernel_rfl
theorem C_automaton_Accepts : compFn Try.prog 32 = some F_automaton_Accepts := by kernel_rfl
theorem C_automaton_Run : compFn Try.prog 34 = some F_automaton_Run := by kernel_rfl
theorem C_overseerref03_SameInts : compFn Try.prog 38 = some F_overseerref03_SameInts := by kernel_rfl
theorem C_overseerref03_Step : compFn Try.prog 40 = some F_overseerref03_Step := by kernel_rfl
theorem C_automaton_Complete : compFn Try.prog 41 = some F_automaton_Complete := by kernel_rfl
theorem C_automaton_Closed : compFn Try.prog 42 = some F_automaton_Closed := by kernel_rfl
theorem C_overseerref03_Complete : compFn Try.prog 43 = some F_overseerref03_Complete := by kernel_rfl
theorem C_overseerref03_Closed : compFn Try.prog 44 = some F_overseerref03_Closed := by kernel_rfl
theorem C_automaton_Check : compFn Try.prog 45 = some F_automaton_Check := by kernel_rfl
theorem C_overseerlaw03_example : compFn Try.prog 46 = some F_overseerlaw03_example := by kernel_rfl
theorem C_overseerref03_Empty : compFn Try.prog 47 = some F_overseerref03_Empty := by kernel_rfl
theorem C_automaton_out : compFn Try.prog 48 = some F_automaton_out := by kernel_rfl
theorem C_slices_Clone_int : compFn Try.prog 49 = some F_slices_Clone_int := by kernel_rfl
theorem C_slices_Contains_int : compFn Try.prog 50 = some F_slices_Contains_int := by kernel_rfl
theorem C_overseerref03_has : compFn Try.prog 51 = some F_overseerref03_has := by kernel_rfl
theorem C_slices_Index_int : compFn Try.prog 54 = some F_slices_Index_int := by kernel_rfl
theorem C_automaton_canonical : compFn Try.prog 56 = some F_automaton_canonical := by kernel_rfl
theorem C_overseerref03_index : compFn Try.prog 57 = some F_overseerref03_index := by kernel_rfl
theorem C_slices_Equal_int : compFn Try.prog 58 = some F_slices_Equal_int := by kernel_rfl
theorem C_slices_Equal_Edge : compFn Try.prog 59 = some F_slices_Equal_Edge := by kernel_rfl
theorem C_overseerref03_Found : compFn Try.prog 61 = some F_overseerref03_Found := by kernel_rfl
theorem C_automaton_reached : compFn Try.prog 62 = some F_automaton_reached := by kernel_rfl
theorem C_automaton_checkState : compFn Try.prog 63 = some F_automaton_checkState := by kernel_rfl
theorem C_slices_ContainsFunc_int : compFn Try.prog 64 = some F_slices_ContainsFunc_int := by kernel_rfl
theorem C_automaton_Run_1 : compFn Try.prog 65 = some F_automaton_Run_1 := by kernel_rfl
theorem C_automaton_follow : compFn Try.prog 66 = some F_automaton_follow := by kernel_rfl
theorem C_automaton_next : compFn Try.prog 67 = some F_automaton_next := by kernel_rfl
theorem C_automaton_checkSet : compFn Try.prog 68 = some F_automaton_checkSet := by kernel_rfl
theorem C_automaton_checkEdges : compFn Try.prog 69 = some F_automaton_checkEdges := by kernel_rfl
theorem C_slices_BinarySearchFunc_int : compFn Try.prog 70 = some F_slices_BinarySearchFunc_int := by kernel_rfl
theorem C_automaton_out_1 : compFn Try.prog 71 = some F_automaton_out_1 := by kernel_rfl
theorem C_automaton_out_2 : compFn Try.prog 72 = some F_automaton_out_2 := by kernel_rfl
theorem C_slices_BinarySearch_int : compFn Try.prog 78 = some F_slices_BinarySearch_int := by kernel_rfl
theorem C_slices_IndexFunc_int : compFn Try.prog 79 = some F_slices_IndexFunc_int := by kernel_rfl
theorem C_slices_IndexFunc_Edge : compFn Try.prog 80 = some F_slices_IndexFunc_Edge := by kernel_rfl
theorem C_automaton_next_1 : compFn Try.prog 81 = some F_automaton_next_1 := by kernel_rfl
theorem C_cmp_Less_int : compFn Try.prog 86 = some F_cmp_Less_int := by kernel_rfl
theorem C_slices_isNaN_int : compFn Try.prog 87 = some F_slices_isNaN_int := by kernel_rfl
theorem C_cmp_isNaN_int : compFn Try.prog 106 = some F_cmp_isNaN_int := by kernel_rfl
end Go.Proofs
end
section
namespace Go.Abs
open Go Go.Sort Go.Shelf Go.RowKit Go.Lib Go.Proofs
set_option linter.unusedVariables false
set_option linter.unusedSectionVars false
section plain
variable {β : Type}
def insB (lt : β → β → Bool) (x : β) : List β → List β
  | [] => [x]
  | y :: ys => if lt y x then y :: insB lt x ys else x :: y :: ys
def isortB (lt : β → β → Bool) : List β → List β
  | [] => []
  | x :: xs => insB lt x (isortB lt xs)
def distB (lt : β → β → Bool) : List β → Bool
  | [] => true
  | x :: xs => xs.all (fun y => lt x y || lt y x) && distB lt xs
def sortO (ok : β → Bool) (lt : β → β → Bool) (l : List β) : Option (List β) := if l.all ok && distB lt l then some (isortB lt l) else none
theorem insB_perm (lt : β → β → Bool) (x : β) : ∀ l, (insB lt x l).Perm (x :: l)
  | [] => .refl _
  | y :: ys => by
    unfold insB; split
    · exact ((insB_perm lt x ys).cons y).trans (.swap x y ys)
    · exact .refl _
theorem isortB_perm (lt : β → β → Bool) : ∀ l, (isortB lt l).Perm l
  | [] => .refl _
  | x :: xs => (insB_perm lt x _).trans ((isortB_perm lt xs).cons x)
theorem isortB_length (lt : β → β → Bool) (l : List β) : (isortB lt l).length = l.length := (isortB_perm lt l).length_eq
theorem insB_sorted {lt : β → β → Bool} (h : SWO lt) (x : β) : ∀ l, l.Pairwise (fun a b => lt b a = false) → (insB lt x l).Pairwise fun a b => lt b a = false
  | [], _ => by simp [insB]
  | y :: ys, hl => by
    obtain ⟨h1, h2⟩ := List.pairwise_cons.1 hl
    unfold insB; split
    · rename_i hc
      refine List.pairwise_cons.2 ⟨fun z hz => ?_, insB_sorted h x ys h2⟩
      rcases List.mem_cons.1 ((insB_perm lt x ys).mem_iff.1 hz) with rfl | hz
      · cases hb : lt z y with
        | false => rfl
        | true => have := h.trans _ _ _ hc hb; rw [h.irrefl] at this; cases this
      · exact h1 z hz
    · rename_i hc
      have hc : lt y x = false := by cases h : lt y x <;> simp_all
      refine List.pairwise_cons.2 ⟨fun z hz => ?_, hl⟩
      rcases List.mem_cons.1 hz with rfl | hz
      · exact hc
      · exact h.ntrans _ _ _ (h1 z hz) hc
theorem isortB_sorted {lt : β → β → Bool} (h : SWO lt) : ∀ l, (isortB lt l).Pairwise fun a b => lt b a = false
  | [] => .nil
  | x :: xs => insB_sorted h x _ (isortB_sorted h xs)
theorem distB_anti {lt : β → β → Bool} : ∀ {l : List β}, distB lt l = true → ∀ a b, a ∈ l → b ∈ l → lt a b = false → lt b a = false → a = b
  | [], _, a, _, ha, _, _, _ => by cases ha
  | x :: xs, h, a, b, ha, hb, h1, h2 => by
    simp only [distB, Bool.and_eq_true, List.all_eq_true] at h
    obtain ⟨k1, k2⟩ := h
    rcases List.mem_cons.1 ha with e1 | ha' <;> rcases List.mem_cons.1 hb with e2 | hb'
    · rw [e1, e2]
    · subst e1; have := k1 b hb'; simp [h1, h2] at this
    · subst e2; have := k1 a ha'; simp [h1, h2] at this
    · exact distB_anti k2 a b ha' hb' h1 h2
theorem isortB_unique {lt : β → β → Bool} (h : SWO lt) {l m : List β} (hd : distB lt l = true) (hp : m.Perm l) (hs : m.Pairwise fun a b => lt b a = false) : m = isortB lt l := by
  refine List.Perm.eq_of_pairwise (le := fun a b => lt b a = false) (fun a b ha hb h1 h2 => ?_) hs (isortB_sorted h l) (hp.trans (isortB_perm lt l).symm)
  exact distB_anti hd a b (hp.mem_iff.1 ha) ((isortB_perm lt l).mem_iff.1 hb) h2 h1
theorem insB_map {α : Type} (f : α → β) (lt : β → β → Bool) (x : α) : ∀ l : List α, insB lt (f x) (l.map f) = (insB (fun a b => lt (f a) (f b)) x l).map f
  | [] => rfl
  | y :: ys => by
    simp only [List.map_cons, insB]; split
    · simp only [List.map_cons, insB_map f lt x ys]
    · rfl
theorem isortB_map {α : Type} (f : α → β) (lt : β → β → Bool) : ∀ l : List α, isortB lt (l.map f) = (isortB (fun a b => lt (f a) (f b)) l).map f
  | [] => rfl
  | x :: xs => by simp only [List.map_cons, isortB, isortB_map f lt xs, insB_map]
theorem distB_map {α : Type} (f : α → β) (lt : β → β → Bool) : ∀ l : List α, distB lt (l.map f) = distB (fun a b => lt (f a) (f b)) l
  | [] => rfl
  | x :: xs => by simp only [List.map_cons, distB, distB_map f lt xs, List.all_map]; rfl
end plain
theorem flatK_get {α : Type} [Inhabited α] {enc : α → List Value} {k : Nat} (hk : ∀ x, (enc x).length = k) (h0 : 0 < k) : ∀ (l : List α) (t : Nat), t < l.length * k → (l.map enc).flatten[t]? = some (enc l[t / k]!)[t % k]!
  | [], t, h => by simp at h
  | x :: xs, t, h => by
    rw [List.map_cons, List.flatten_cons]
    by_cases hl : t < k
    · rw [List.getElem?_append_left (by rw [hk]; exact hl), Nat.div_eq_of_lt hl, Nat.mod_eq_of_lt hl]
      have : t < (enc x).length := by rw [hk]; exact hl
      simp [this]
    · have hge : k ≤ t := by omega
      have h2 : t - k < xs.length * k := by simp only [List.length_cons, Nat.add_mul, Nat.one_mul] at h; omega
      rw [List.getElem?_append_right (by rw [hk]; exact hge), hk, flatK_get hk h0 xs (t - k) h2]
      have e1 : t / k = (t - k) / k + 1 := by rw [← Nat.add_div_right _ h0, Nat.sub_add_cancel hge]
      have e2 : t % k = (t - k) % k := by rw [Nat.mod_eq_sub_mod hge]
      rw [e1, e2]; simp
theorem flatK_row {α : Type} [Inhabited α] {enc : α → List Value} {k : Nat} (hk : ∀ x, (enc x).length = k) (h0 : 0 < k) (l : List α) : flatK enc k l.toArray = (l.map enc).flatten.toArray := by
  have hs : (l.map enc).flatten.length = l.length * k := by
    induction l with
    | nil => simp
    | cons x xs ih => rw [List.map_cons, List.flatten_cons, List.length_append, ih, hk]; simp [Nat.add_mul]; omega
  refine ext_get! (by simp [hs]) fun t ht => ?_
  have ht' : t < l.length * k := by simpa using ht
  rw [get_flatK _ _ _ _ (by simpa using ht')]
  have := flatK_get hk h0 l t ht'
  obtain ⟨h1, h2⟩ := List.getElem?_eq_some_iff.1 this
  rw [getElem!_pos _ t (by simpa using h1)]
  simp only [List.getElem_toArray, h2]
  simp
theorem rowV_flat {α : Type} (e : α → List D) (xs : List α) : rowV e xs = (xs.map fun x => (e x).map D.val).flatten := by
  unfold rowV; rw [List.map_flatten, List.map_map]; rfl
theorem rowFn_sortFunc {P : Program} {ρ : Ren} {α : Type} [Inhabited α] (L : SlLaysF0.n6 P ρ) {k : Nat} (aE : ∀ w, (isAgg (ρ.t 24)).run P w = .ok true w) (zE : ∀ w, (Go.sizeOf (ρ.t 24)).run P w = .ok k w) (e : α → List D) (hk : ∀ x, (e x).length = k) (h0 : 0 < k) (hsc : ∀ x, (e x).all D.scalar = true)
    (cf : α → α → Int) (hO : SWO (ltOf cf)) (g : Nat) (cb : Array Value) (eg : ∀ args w, (callFunc g args).run P w = .ok (.enter g args) w)
    (hcmp : ∀ (x y : α) (W : World), Calls P g (#[.agg ((e x).map D.val).toArray, .agg ((e y).map D.val).toArray] ++ cb) W fun r w' => r = .returned (.int .i64 (cf x y)) ∧ ∃ q os', w' = grow (W.drewN q) os') :
    RowFn P (ρ.f 6) e #[.func (.func g) #[] cb] (fun xs => (pdq (ltOf cf) xs.toArray 0 xs.length (Lib.bitLen xs.length) true true).toList) := by
  intro blk cap xs w hc hblk hsz
  have henc : ∀ x, ((fun x => (e x).map D.val) x).length = k := fun x => by simp [hk]
  have h1 : ∀ x : α, ∀ v ∈ (e x).map D.val, v.oneCell' = true := by
    intro x v hv
    obtain ⟨d, hd, rfl⟩ := List.mem_map.1 hv
    exact val_one (List.all_eq_true.1 (hsc x) d hd)
  have hH : HoldsK (fun x => (e x).map D.val) k w blk 0 xs.toArray := by
    unfold HoldsK
    rw [flatK_row henc h0, ← rowV_flat]
    intro j hj
    have hj' : j < (rowV e xs).length := by simpa using hj
    obtain ⟨k1, k2⟩ := hc j hj'
    rw [Nat.zero_add]
    refine ⟨k1.trans ?_, k2⟩
    rw [List.getElem?_eq_getElem hj', getElem!_pos _ j hj]; rfl
  have hcl : CmpLays P g cb (fun x => (e x).map D.val) k cf blk 0 xs.toArray.size w := fun _ _ _ _ x y => hcmp x y _
  have := AnyQ.slices_SortFunc_eq L k aE zE (fun x => (e x).map D.val) henc h1 cf hO g cb blk 0 cap xs.toArray w eg hcl hH hblk (by simpa using hsz)
  refine this.mono ?_
  rintro r w' ⟨rfl, n, os, rfl⟩
  refine ⟨rfl, n, os, ?_⟩
  unfold sortWorldK putRowK
  have hrow : flatK (fun x => (e x).map D.val) k (pdq (ltOf cf) xs.toArray 0 xs.toArray.size (Lib.bitLen xs.toArray.size) true true) = (rowV e (pdq (ltOf cf) xs.toArray 0 xs.length (Lib.bitLen xs.length) true true).toList).toArray := by
    rw [rowV_flat, ← flatK_row henc h0]; simp
  rw [hrow]
theorem RowFn.from_caller {P : Program} {f g : FuncId} {α : Type} {e : α → List D} {ex ex' : Array Value} {srt : List α → List α} (h : RowFn P g e ex' srt)
    (hcall : ∀ (p : Addr) (n cap : Nat) (w : World) (n' : Nat) (os : Array Obj) (F : Array Value), Calls P g (#[.slice (some p) n cap] ++ ex') w (fun e' w' => e' = .returned (.tuple #[]) ∧ ∃ n os, w' = grow (putRow id (Sort.ahead w n) p.block 0 F) os) →
      Calls P f (#[.slice (some p) n cap] ++ ex) w (fun e' w' => e' = .returned (.tuple #[]) ∧ ∃ n os, w' = grow (putRow id (Sort.ahead w n) p.block 0 F) os)) : RowFn P f e ex srt :=
  fun blk cap xs w hc hblk hsz => hcall ⟨blk, 0, none⟩ xs.length cap w 0 #[] _ (h blk cap xs w hc hblk hsz)
theorem acalls_none {P : Program} {f : FuncId} {ex : Array Value} {exV : List V} {sz nb : Nat} {M : Mem} (hb : HasBody P f = true) (hex : ∀ g w us, RFs g w exV us → us = ex.toList)
    (h : ∀ (p : Option Addr) (cap : Nat) (w : World), Calls P f (#[.slice p 0 cap] ++ ex) w fun e' w' => e' = .returned (.tuple #[]) ∧ w' = w) :
    ACalls P f (.d (.lst sz []) :: exV) M nb (.tup []) M nb := by
  refine ⟨hb, Nat.le_refl _, fun w g us hm hMon hfresh hus hfl hons => ?_⟩
  obtain ⟨u0, us', rfl, hu0, hus'⟩ := hus
  have h1 := hex _ _ _ hus'
  subst h1
  have h2 : ∃ p cap, u0 = .slice p 0 cap := by
    have := RF_d.1 hu0
    obtain ⟨a, cap, rfl, _, _⟩ := this
    exact ⟨a, cap, rfl⟩
  obtain ⟨p, cap, rfl⟩ := h2
  have e1 : (Value.slice p 0 cap :: ex.toList).toArray = #[.slice p 0 cap] ++ ex := by apply Array.ext'; simp
  rw [e1]
  refine (h p cap w).mono ?_
  rintro e' w' ⟨rfl, rfl⟩
  exact ⟨_, g, rfl, hm, ⟨[], rfl, rfl⟩, trivial, hMon, Fr.refl _ _ _⟩
section
variable {α : Type} [Inhabited α]
theorem pdq_list {lt : α → α → Bool} (hO : SWO lt) (xs : List α) (k : Nat) : (pdq lt xs.toArray 0 xs.length k true true).toList.Perm xs ∧ (pdq lt xs.toArray 0 xs.length k true true).toList.Pairwise fun a b => lt b a = false := by
  obtain ⟨⟨h1, _, h2⟩, h3⟩ := pdq_sorts lt hO xs.toArray 0 xs.length k true true (Nat.zero_le _) (by simp) (Or.inl rfl)
  generalize pdq lt xs.toArray 0 xs.length k true true = d at *
  have hs : d.size = xs.length := by simpa using h1
  refine ⟨?_, ?_⟩
  · have e1 : d.extract 0 xs.length = d := by rw [← hs]; exact Array.extract_size
    have e2 : xs.toArray.extract 0 xs.length = xs.toArray := by have : xs.length = xs.toArray.size := by simp
                                                                rw [this]; exact Array.extract_size
    rw [e1, e2] at h2
    simpa using h2
  · rw [List.pairwise_iff_getElem]
    intro i j hi hj hij
    have hi' : i < d.size := by simpa using hi
    have hj' : j < d.size := by simpa using hj
    have := h3 i j (Nat.zero_le _) hij (by omega)
    rw [getElem!_pos d i hi', getElem!_pos d j hj'] at this
    simpa using this
theorem pdq_isort {lt : α → α → Bool} (hO : SWO lt) (xs : List α) (k : Nat) (hd : distB lt xs = true) : (pdq lt xs.toArray 0 xs.length k true true).toList = isortB lt xs :=
  isortB_unique hO hd (pdq_list hO xs k).1 (pdq_list hO xs k).2
end
theorem rowK_sort {β : Type} {P : Program} {c : Nat} {e : β → List D} {sz N : Nat} {ok : β → Bool} {lt : β → β → Bool} [Inhabited {x : β // ok x = true}] {lt' : {x : β // ok x = true} → {x : β // ok x = true} → Bool}
    (hN : N < 4611686018427387904) (hk : ∀ x, (e x).length = sz) (hsc : ∀ x, (e x).all D.scalar = true) (hO : SWO lt') (hlt : ∀ x y, lt' x y = lt x.1 y.1) (hb : HasBody P c = true) {ex : Array Value} {exV : List V} (hex : ∀ g w us, RFs g w exV us → us = ex.toList)
    (hrow : RowFn P c (fun x : {x : β // ok x = true} => e x.1) ex (fun xs => (pdq lt' xs.toArray 0 xs.length (Lib.bitLen xs.length) true true).toList))
    (hnone : ∀ (p : Option Addr) (cap : Nat) (w : World), Calls P c (#[.slice p 0 cap] ++ ex) w fun e' w' => e' = .returned (.tuple #[]) ∧ w' = w) :
    RowK P c e sz exV (fun l => if l.length ≤ N then sortO ok lt l else none) := by
  intro xs ys h
  dsimp only at h
  split at h <;> try (cases h; done)
  rename_i hlN
  unfold sortO at h
  split at h <;> cases h
  rename_i hok
  simp only [Bool.and_eq_true, List.all_eq_true] at hok
  obtain ⟨ho, hd⟩ := hok
  obtain ⟨zs, rfl⟩ : ∃ zs : List {x : β // ok x = true}, xs = zs.map Subtype.val := ⟨xs.pmap Subtype.mk ho, by rw [List.map_pmap]; simp⟩
  have hd' : distB lt' zs = true := by
    rw [distB_map] at hd
    rw [show lt' = fun a b => lt a.1 b.1 from funext fun a => funext fun b => hlt a b]; exact hd
  have e1 : isortB lt (zs.map Subtype.val) = (isortB lt' zs).map Subtype.val := by
    rw [isortB_map, show lt' = fun a b => lt a.1 b.1 from funext fun a => funext fun b => hlt a b]
  refine ⟨isortB_length _ _, fun h0 => ?_, fun hl cap k0 M nb hM => ?_⟩
  · simp only [List.map_eq_nil_iff] at h0
    subst h0
    exact ⟨rfl, fun M nb => acalls_none hb hex hnone⟩
  · have hM' : M k0 = some (.cells (thCells (zs.map fun x => e x.1) ((cap - zs.length) * sz))) := by
      rw [hM, List.map_map, List.length_map]; rfl
    have := acalls_row (fun x => hk x.1) (fun x => hsc x.1) (fun xs => (pdq_list hO xs _).1.length_eq) hex hb hrow zs cap k0 M nb hM' (by rw [List.length_map] at hlN; omega)
    rw [pdq_isort hO zs _ hd'] at this
    rw [e1, List.map_map, List.length_map]
    exact this
end Go.Abs
end
