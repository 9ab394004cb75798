/-
  Part 5 of the proof: see the last text.
-/
import Derived.Test.YtkikefkbidaiaaaP4
import Derived.Test.YtkikefkbidaiaaaProg
import Derived.KernelRfl
import Derived.Shelf.SlSortCmp.NoneTotal
import Derived.Shelf.SortM.Plain
import Derived.Shelf.SortM.SortNone
import Derived.Shelf.Small.Bits
import Derived.WalkKit
import Derived.Shelf.SlIterI.Sorted
import Derived.RangeFuncBox
import Derived.RangeFuncLeaves
import Derived.Shelf.Abstract
import Derived.OwnWalkIn
import Derived.TacticsInMore
import Derived.RegionIn
import Derived.LoopNIn
import Derived.LoopIn
import Derived.OpenShut
import Derived.ProofKit
import Derived.Carry
import GoSem.Claim
import GoSem.ClaimJoined
import Derived.JoinedTies
set_option linter.unusedVariables false
set_option linter.unusedSimpArgs false
set_option linter.unusedSectionVars false
section
namespace Go.Abs
open Go
set_option linter.unusedVariables false
set_option maxRecDepth 10000
set_option maxHeartbeats 4000000
theorem overseerlaw03_known_walk {P : Program} {c : Nat} {f_automaton_Words : api_Automaton → Int → Bool → Option ((List (List Int)) × Int)} {f_automaton_Relabel : api_Automaton → (List Int) → Option (api_Automaton × Int)} {f_overseerref03_Same : api_Automaton → api_Automaton → Option Bool} {f_automaton_Canonical : api_Automaton → Option (api_Automaton × Int)} {f_automaton_Run : api_Automaton → Int → (List Int) → Option (Int × Int × Int)} {f_overseerref03_SameInts : (List Int) → (List Int) → Option Bool} {f_overseerlaw03_example : Option api_Automaton}
    (H_automaton_Words : K_automaton_Words P 16 f_automaton_Words)
    (H_automaton_Relabel : K_automaton_Relabel P 20 f_automaton_Relabel)
    (H_overseerref03_Same : K_overseerref03_Same P 23 f_overseerref03_Same)
    (H_automaton_Canonical : K_automaton_Canonical P 29 f_automaton_Canonical)
    (H_automaton_Run : K_automaton_Run P 34 f_automaton_Run)
    (H_overseerref03_SameInts : K_overseerref03_SameInts P 38 f_overseerref03_SameInts)
    (H_overseerlaw03_example : K_overseerlaw03_example P 46 f_overseerlaw03_example) (hcf : compFn P c = some F_overseerlaw03_known) : K_overseerlaw03_known P c (f_overseerlaw03_known f_automaton_Words f_automaton_Relabel f_overseerref03_Same f_automaton_Canonical f_automaton_Run f_overseerref03_SameInts f_overseerlaw03_example) := by
 intro  r h
 refine fn_trP hcf rfl fun Γ M hP hnt hM => ?_
 subst hP
 refine Tr.init [] rfl ?_
 unfold f_overseerlaw03_known at h
 unfold F_overseerlaw03_known
 refine sr ((md rfl (nt ((Tr.seq (Tr.rgn ?_))))))
 obtain ⟨x2, h1, h⟩ := bnd h
 refine Rn.call (args := []) trivial rfl (H_overseerlaw03_example _ h1) pc9 ?_
 obtain ⟨⟨r4, r5⟩, h3, h⟩ := bnd h
 refine Rn.call (args := [.agg [.d (.lst 1 (List.map (eI .i64) x2.Alphabet)), .d (.int .i64 x2.States), .d (.lst 1 (List.map (eI .i64) x2.Marked)), .d (.lst 3 (List.map e_api_Edge x2.Edges))]]) trivial rfl (H_automaton_Canonical _ _ h3) pc9 (Rn.mov (v := .tup [.agg [.d (.lst 1 (List.map (eI .i64) r4.Alphabet)), .d (.int .i64 r4.States), .d (.lst 1 (List.map (eI .i64) r4.Marked)), .d (.lst 3 (List.map e_api_Edge r4.Edges))], .d (.int .i64 r5)]) trivial rfl (Rn.ext (v := .agg [.d (.lst 1 (List.map (eI .i64) r4.Alphabet)), .d (.int .i64 r4.States), .d (.lst 1 (List.map (eI .i64) r4.Marked)), .d (.lst 3 (List.map e_api_Edge r4.Edges))]) (vs := [.agg [.d (.lst 1 (List.map (eI .i64) r4.Alphabet)), .d (.int .i64 r4.States), .d (.lst 1 (List.map (eI .i64) r4.Marked)), .d (.lst 3 (List.map e_api_Edge r4.Edges))], .d (.int .i64 r5)]) trivial rfl rfl rfl (Rn.ext (v := .d (.int .i64 r5)) (vs := [.agg [.d (.lst 1 (List.map (eI .i64) r4.Alphabet)), .d (.int .i64 r4.States), .d (.lst 1 (List.map (eI .i64) r4.Marked)), .d (.lst 3 (List.map e_api_Edge r4.Edges))], .d (.int .i64 r5)]) trivial rfl rfl rfl (Rn.alloc trivial rfl (Rn.store (v := .agg [.d (.lst 1 (List.map (eI .i64) r4.Alphabet)), .d (.int .i64 r4.States), .d (.lst 1 (List.map (eI .i64) r4.Marked)), .d (.lst 3 (List.map e_api_Edge r4.Edges))]) (cs' := [.d (.lst 1 (List.map (eI .i64) r4.Alphabet)), .d (.int .i64 r4.States), .d (.lst 1 (List.map (eI .i64) r4.Marked)), .d (.lst 3 (List.map e_api_Edge r4.Edges))]) trivial rfl rfl rfl rfl rfl rfl (md rfl (nt ((sr ((Rn.load (v := .agg [.d (.lst 1 (List.map (eI .i64) r4.Alphabet)), .d (.int .i64 r4.States), .d (.lst 1 (List.map (eI .i64) r4.Marked)), .d (.lst 3 (List.map e_api_Edge r4.Edges))]) trivial rfl (boxOwn rfl) rfl rfl (Rn.bslice (xs := [.d (.int .i64 0), .d (.int .i64 0)]) (cs := [.d (.int .i64 0), .d (.int .i64 0)]) trivial rfl rfl rfl rfl ?_))))))))))))
 refine Rn.weak (by show WeakSt Γ _ ⟨look [(0, .d (.bool false)), (1, .ptr (Γ.n0 + 1) 0), (2, .d (.int .i64 r5)), (10, .tup [.agg [.d (.lst 1 (List.map (eI .i64) r4.Alphabet)), .d (.int .i64 r4.States), .d (.lst 1 (List.map (eI .i64) r4.Marked)), .d (.lst 3 (List.map e_api_Edge r4.Edges))], .d (.int .i64 r5)]), (11, .agg [.d (.lst 1 (List.map (eI .i64) x2.Alphabet)), .d (.int .i64 x2.States), .d (.lst 1 (List.map (eI .i64) x2.Marked)), .d (.lst 3 (List.map e_api_Edge x2.Edges))]), (12, .tup [.agg [.d (.lst 1 (List.map (eI .i64) r4.Alphabet)), .d (.int .i64 r4.States), .d (.lst 1 (List.map (eI .i64) r4.Marked)), .d (.lst 3 (List.map e_api_Edge r4.Edges))], .d (.int .i64 r5)]), (13, .agg [.d (.lst 1 (List.map (eI .i64) r4.Alphabet)), .d (.int .i64 r4.States), .d (.lst 1 (List.map (eI .i64) r4.Marked)), .d (.lst 3 (List.map e_api_Edge r4.Edges))]), (14, .d (.int .i64 r5)), (16, .agg [.d (.lst 1 (List.map (eI .i64) r4.Alphabet)), .d (.int .i64 r4.States), .d (.lst 1 (List.map (eI .i64) r4.Marked)), .d (.lst 3 (List.map e_api_Edge r4.Edges))]), (17, .d (.lst 1 (List.map (eI .i64) [0, 0])))], memOf Γ.n0 (bxs [(1, [.d (.lst 1 (List.map (eI .i64) r4.Alphabet)), .d (.int .i64 r4.States), .d (.lst 1 (List.map (eI .i64) r4.Marked)), .d (.lst 3 (List.map e_api_Edge r4.Edges))])]) M, Γ.n0 + 99⟩; exact weak_freeze 17 [.int .i64 0, .int .i64 0] rfl rfl ⟨(.same rfl), ⟨(fPtr rfl), ⟨(.same rfl), ⟨(.same rfl), ⟨(.same rfl), ⟨(.same rfl), ⟨(.same rfl), ⟨(.same rfl), ⟨(.same rfl), ⟨(fSl rfl rfl), trivial⟩⟩⟩⟩⟩⟩⟩⟩⟩⟩ ⟨⟨_, rfl, rfl, (.same rfl)⟩, trivial⟩ rfl) ?_
 obtain ⟨⟨r7, r8, r9⟩, h6, h⟩ := bnd h
 refine Rn.call (args := [.agg [.d (.lst 1 (List.map (eI .i64) r4.Alphabet)), .d (.int .i64 r4.States), .d (.lst 1 (List.map (eI .i64) r4.Marked)), .d (.lst 3 (List.map e_api_Edge r4.Edges))], .d (.int .i64 0), .d (.lst 1 (List.map (eI .i64) [0, 0]))]) trivial rfl (H_automaton_Run _ _ _ _ h6) pc9 (Rn.mov (v := .tup [.d (.int .i64 r7), .d (.int .i64 r8), .d (.int .i64 r9)]) trivial rfl (Rn.ext (v := .d (.int .i64 r7)) (vs := [.d (.int .i64 r7), .d (.int .i64 r8), .d (.int .i64 r9)]) trivial rfl rfl rfl (Rn.ext (v := .d (.int .i64 r8)) (vs := [.d (.int .i64 r7), .d (.int .i64 r8), .d (.int .i64 r9)]) trivial rfl rfl rfl (Rn.ext (v := .d (.int .i64 r9)) (vs := [.d (.int .i64 r7), .d (.int .i64 r8), .d (.int .i64 r9)]) trivial rfl rfl rfl (md rfl (md rfl (md rfl (nt ((sr ((Rn.load (v := .agg [.d (.lst 1 (List.map (eI .i64) r4.Alphabet)), .d (.int .i64 r4.States), .d (.lst 1 (List.map (eI .i64) r4.Marked)), .d (.lst 3 (List.map e_api_Edge r4.Edges))]) trivial rfl (boxOwn rfl) rfl rfl ?_))))))))))))
 obtain ⟨⟨r11, r12⟩, h10, h⟩ := bnd h
 refine Rn.call (args := [.agg [.d (.lst 1 (List.map (eI .i64) r4.Alphabet)), .d (.int .i64 r4.States), .d (.lst 1 (List.map (eI .i64) r4.Marked)), .d (.lst 3 (List.map e_api_Edge r4.Edges))], .d (.int .i64 2), .d (.bool true)]) trivial rfl (H_automaton_Words _ _ _ _ h10) pc9 (Rn.mov (v := .tup [.d (.lst 1 (List.map (eL 1 (eI .i64)) r11)), .d (.int .i64 r12)]) trivial rfl (Rn.extTD (vs := [.d (.lst 1 (List.map (eL 1 (eI .i64)) r11)), .d (.int .i64 r12)]) trivial rfl rfl rfl (Rn.ext (v := .d (.int .i64 r12)) (vs := [.d (.lst 1 (List.map (eL 1 (eI .i64)) r11)), .d (.int .i64 r12)]) trivial rfl rfl rfl (Rn.movTD trivial rfl (md rfl (nt ((sr ((Rn.load (v := .agg [.d (.lst 1 (List.map (eI .i64) r4.Alphabet)), .d (.int .i64 r4.States), .d (.lst 1 (List.map (eI .i64) r4.Marked)), .d (.lst 3 (List.map e_api_Edge r4.Edges))]) trivial rfl (boxOwn rfl) rfl rfl (Rn.bslice (xs := [.d (.int .i64 3), .d (.int .i64 1)]) (cs := [.d (.int .i64 3), .d (.int .i64 1)]) trivial rfl rfl rfl rfl ?_)))))))))))
 refine Rn.weak (by show WeakSt Γ _ ⟨look [(0, .d (.bool false)), (1, .ptr (Γ.n0 + 1) 0), (2, .d (.int .i64 r5)), (3, .d (.int .i64 r7)), (4, .d (.int .i64 r8)), (5, .d (.int .i64 r9)), (6, .d (.lst 1 (List.map (eL 1 (eI .i64)) r11))), (7, .d (.int .i64 r12)), (10, .tup [.agg [.d (.lst 1 (List.map (eI .i64) r4.Alphabet)), .d (.int .i64 r4.States), .d (.lst 1 (List.map (eI .i64) r4.Marked)), .d (.lst 3 (List.map e_api_Edge r4.Edges))], .d (.int .i64 r5)]), (11, .agg [.d (.lst 1 (List.map (eI .i64) x2.Alphabet)), .d (.int .i64 x2.States), .d (.lst 1 (List.map (eI .i64) x2.Marked)), .d (.lst 3 (List.map e_api_Edge x2.Edges))]), (12, .tup [.agg [.d (.lst 1 (List.map (eI .i64) r4.Alphabet)), .d (.int .i64 r4.States), .d (.lst 1 (List.map (eI .i64) r4.Marked)), .d (.lst 3 (List.map e_api_Edge r4.Edges))], .d (.int .i64 r5)]), (13, .agg [.d (.lst 1 (List.map (eI .i64) r4.Alphabet)), .d (.int .i64 r4.States), .d (.lst 1 (List.map (eI .i64) r4.Marked)), .d (.lst 3 (List.map e_api_Edge r4.Edges))]), (14, .d (.int .i64 r5)), (15, .tup [.d (.int .i64 r7), .d (.int .i64 r8), .d (.int .i64 r9)]), (16, .agg [.d (.lst 1 (List.map (eI .i64) r4.Alphabet)), .d (.int .i64 r4.States), .d (.lst 1 (List.map (eI .i64) r4.Marked)), .d (.lst 3 (List.map e_api_Edge r4.Edges))]), (17, .d (.lst 1 (List.map (eI .i64) [0, 0]))), (18, .tup [.d (.int .i64 r7), .d (.int .i64 r8), .d (.int .i64 r9)]), (19, .d (.int .i64 r7)), (20, .d (.int .i64 r8)), (21, .d (.int .i64 r9)), (22, .tup [.d (.lst 1 (List.map (eL 1 (eI .i64)) r11)), .d (.int .i64 r12)]), (23, .agg [.d (.lst 1 (List.map (eI .i64) r4.Alphabet)), .d (.int .i64 r4.States), .d (.lst 1 (List.map (eI .i64) r4.Marked)), .d (.lst 3 (List.map e_api_Edge r4.Edges))]), (24, .tup [.own 1 (List.map (eL 1 (eI .i64)) r11), .d (.int .i64 r12)]), (25, .d (.lst 1 (List.map (eL 1 (eI .i64)) r11))), (26, .d (.int .i64 r12)), (28, .agg [.d (.lst 1 (List.map (eI .i64) r4.Alphabet)), .d (.int .i64 r4.States), .d (.lst 1 (List.map (eI .i64) r4.Marked)), .d (.lst 3 (List.map e_api_Edge r4.Edges))]), (29, .d (.lst 1 (List.map (eI .i64) [3, 1])))], memOf Γ.n0 (bxs [(1, [.d (.lst 1 (List.map (eI .i64) r4.Alphabet)), .d (.int .i64 r4.States), .d (.lst 1 (List.map (eI .i64) r4.Marked)), .d (.lst 3 (List.map e_api_Edge r4.Edges))])]) M, Γ.n0 + 99⟩; exact weak_freeze 29 [.int .i64 3, .int .i64 1] rfl rfl ⟨(.same rfl), ⟨(fPtr rfl), ⟨(.same rfl), ⟨(.same rfl), ⟨(.same rfl), ⟨(.same rfl), ⟨(.same rfl), ⟨(.same rfl), ⟨(.same rfl), ⟨(.same rfl), ⟨(.same rfl), ⟨(.same rfl), ⟨(.same rfl), ⟨(.same rfl), ⟨(.same rfl), ⟨(.same rfl), ⟨(.same rfl), ⟨(.same rfl), ⟨(.same rfl), ⟨(.same rfl), ⟨(.same rfl), ⟨(.same rfl), ⟨(.same rfl), ⟨(.same rfl), ⟨(.same rfl), ⟨(.same rfl), ⟨(fSl rfl rfl), trivial⟩⟩⟩⟩⟩⟩⟩⟩⟩⟩⟩⟩⟩⟩⟩⟩⟩⟩⟩⟩⟩⟩⟩⟩⟩⟩⟩ ⟨⟨_, rfl, rfl, (.same rfl)⟩, trivial⟩ rfl) ?_
 obtain ⟨⟨r14, r15⟩, h13, h⟩ := bnd h
 refine Rn.call (args := [.agg [.d (.lst 1 (List.map (eI .i64) r4.Alphabet)), .d (.int .i64 r4.States), .d (.lst 1 (List.map (eI .i64) r4.Marked)), .d (.lst 3 (List.map e_api_Edge r4.Edges))], .d (.lst 1 (List.map (eI .i64) [3, 1]))]) trivial rfl (H_automaton_Relabel _ _ _ h13) pc9 (Rn.mov (v := .tup [.agg [.d (.lst 1 (List.map (eI .i64) r14.Alphabet)), .d (.int .i64 r14.States), .d (.lst 1 (List.map (eI .i64) r14.Marked)), .d (.lst 3 (List.map e_api_Edge r14.Edges))], .d (.int .i64 r15)]) trivial rfl (Rn.ext (v := .agg [.d (.lst 1 (List.map (eI .i64) r14.Alphabet)), .d (.int .i64 r14.States), .d (.lst 1 (List.map (eI .i64) r14.Marked)), .d (.lst 3 (List.map e_api_Edge r14.Edges))]) (vs := [.agg [.d (.lst 1 (List.map (eI .i64) r14.Alphabet)), .d (.int .i64 r14.States), .d (.lst 1 (List.map (eI .i64) r14.Marked)), .d (.lst 3 (List.map e_api_Edge r14.Edges))], .d (.int .i64 r15)]) trivial rfl rfl rfl (Rn.ext (v := .d (.int .i64 r15)) (vs := [.agg [.d (.lst 1 (List.map (eI .i64) r14.Alphabet)), .d (.int .i64 r14.States), .d (.lst 1 (List.map (eI .i64) r14.Marked)), .d (.lst 3 (List.map e_api_Edge r14.Edges))], .d (.int .i64 r15)]) trivial rfl rfl rfl (Rn.alloc trivial rfl (Rn.store (v := .agg [.d (.lst 1 (List.map (eI .i64) r14.Alphabet)), .d (.int .i64 r14.States), .d (.lst 1 (List.map (eI .i64) r14.Marked)), .d (.lst 3 (List.map e_api_Edge r14.Edges))]) (cs' := [.d (.lst 1 (List.map (eI .i64) r14.Alphabet)), .d (.int .i64 r14.States), .d (.lst 1 (List.map (eI .i64) r14.Marked)), .d (.lst 3 (List.map e_api_Edge r14.Edges))]) trivial rfl rfl rfl rfl rfl rfl (md rfl (Rn.nil (toN ?_))))))))
 refine Tr.cutB (fun (x39 : Bool) => ⟨look [(0, .d (.bool x39))], memOf Γ.n0 (bxs [(1, [.d (.lst 1 (List.map (eI .i64) r4.Alphabet)), .d (.int .i64 r4.States), .d (.lst 1 (List.map (eI .i64) r4.Marked)), .d (.lst 3 (List.map e_api_Edge r4.Edges))]), (8, [.d (.lst 1 (List.map (eI .i64) r14.Alphabet)), .d (.int .i64 r14.States), .d (.lst 1 (List.map (eI .i64) r14.Marked)), .d (.lst 3 (List.map e_api_Edge r14.Edges))])]) M, Γ.n0 + 99⟩) h (fun z h => ?_) (fun z h => ?_)
 ·refine Tr.rgn (md rfl (Rn.bin trivial rfl rfl rfl (md rfl ?_)))
  refine bsplit (r5 == 0) (fun hb16 => ?_) (fun hb16 => ?_)
  ·replace h := bT hb16 h
   refine Rn.load (v := .agg [.d (.lst 1 (List.map (eI .i64) r4.Alphabet)), .d (.int .i64 r4.States), .d (.lst 1 (List.map (eI .i64) r4.Marked)), .d (.lst 3 (List.map e_api_Edge r4.Edges))]) (gw rfl hb16) rfl (boxOwn rfl) rfl rfl (Rn.bslice (xs := [.d (.int .i64 0), .d (.int .i64 2)]) (cs := [.d (.int .i64 0), .d (.int .i64 2)]) (gw rfl hb16) rfl rfl rfl rfl (Rn.bslice (xs := [.d (.int .i64 1)]) (cs := [.d (.int .i64 1)]) (gw rfl hb16) rfl rfl rfl rfl (Rn.build (v := .agg [.d (.int .i64 0), .d (.int .i64 0), .d (.int .i64 1)]) (gw rfl hb16) rfl (Rn.build (v := .agg [.d (.int .i64 0), .d (.int .i64 2), .d (.int .i64 0)]) (gw rfl hb16) rfl (Rn.build (v := .agg [.d (.int .i64 1), .d (.int .i64 2), .d (.int .i64 0)]) (gw rfl hb16) rfl (Rn.bslice (xs := [.agg [.d (.int .i64 0), .d (.int .i64 0), .d (.int .i64 1)], .agg [.d (.int .i64 0), .d (.int .i64 2), .d (.int .i64 0)], .agg [.d (.int .i64 1), .d (.int .i64 2), .d (.int .i64 0)]]) (cs := [.d (.int .i64 0), .d (.int .i64 0), .d (.int .i64 1), .d (.int .i64 0), .d (.int .i64 2), .d (.int .i64 0), .d (.int .i64 1), .d (.int .i64 2), .d (.int .i64 0)]) (gw rfl hb16) rfl rfl rfl rfl (Rn.build (v := .agg [.sl 1 (Γ.n0 + 37) 0 2 2, .d (.int .i64 2), .sl 1 (Γ.n0 + 38) 0 1 1, .sl 3 (Γ.n0 + 42) 0 3 3]) (gw rfl hb16) rfl ?_)))))))
   refine Rn.weak (by show WeakSt Γ _ ⟨look [(0, .d (.bool false)), (1, .ptr (Γ.n0 + 1) 0), (2, .d (.int .i64 r5)), (3, .d (.int .i64 r7)), (4, .d (.int .i64 r8)), (5, .d (.int .i64 r9)), (6, .d (.lst 1 (List.map (eL 1 (eI .i64)) r11))), (7, .d (.int .i64 r12)), (8, .ptr (Γ.n0 + 8) 0), (9, .d (.int .i64 r15)), (10, .tup [.agg [.d (.lst 1 (List.map (eI .i64) r4.Alphabet)), .d (.int .i64 r4.States), .d (.lst 1 (List.map (eI .i64) r4.Marked)), .d (.lst 3 (List.map e_api_Edge r4.Edges))], .d (.int .i64 r5)]), (11, .agg [.d (.lst 1 (List.map (eI .i64) x2.Alphabet)), .d (.int .i64 x2.States), .d (.lst 1 (List.map (eI .i64) x2.Marked)), .d (.lst 3 (List.map e_api_Edge x2.Edges))]), (12, .tup [.agg [.d (.lst 1 (List.map (eI .i64) r4.Alphabet)), .d (.int .i64 r4.States), .d (.lst 1 (List.map (eI .i64) r4.Marked)), .d (.lst 3 (List.map e_api_Edge r4.Edges))], .d (.int .i64 r5)]), (13, .agg [.d (.lst 1 (List.map (eI .i64) r4.Alphabet)), .d (.int .i64 r4.States), .d (.lst 1 (List.map (eI .i64) r4.Marked)), .d (.lst 3 (List.map e_api_Edge r4.Edges))]), (14, .d (.int .i64 r5)), (15, .tup [.d (.int .i64 r7), .d (.int .i64 r8), .d (.int .i64 r9)]), (16, .agg [.d (.lst 1 (List.map (eI .i64) r4.Alphabet)), .d (.int .i64 r4.States), .d (.lst 1 (List.map (eI .i64) r4.Marked)), .d (.lst 3 (List.map e_api_Edge r4.Edges))]), (17, .d (.lst 1 (List.map (eI .i64) [0, 0]))), (18, .tup [.d (.int .i64 r7), .d (.int .i64 r8), .d (.int .i64 r9)]), (19, .d (.int .i64 r7)), (20, .d (.int .i64 r8)), (21, .d (.int .i64 r9)), (22, .tup [.d (.lst 1 (List.map (eL 1 (eI .i64)) r11)), .d (.int .i64 r12)]), (23, .agg [.d (.lst 1 (List.map (eI .i64) r4.Alphabet)), .d (.int .i64 r4.States), .d (.lst 1 (List.map (eI .i64) r4.Marked)), .d (.lst 3 (List.map e_api_Edge r4.Edges))]), (24, .tup [.own 1 (List.map (eL 1 (eI .i64)) r11), .d (.int .i64 r12)]), (25, .d (.lst 1 (List.map (eL 1 (eI .i64)) r11))), (26, .d (.int .i64 r12)), (27, .tup [.agg [.d (.lst 1 (List.map (eI .i64) r14.Alphabet)), .d (.int .i64 r14.States), .d (.lst 1 (List.map (eI .i64) r14.Marked)), .d (.lst 3 (List.map e_api_Edge r14.Edges))], .d (.int .i64 r15)]), (28, .agg [.d (.lst 1 (List.map (eI .i64) r4.Alphabet)), .d (.int .i64 r4.States), .d (.lst 1 (List.map (eI .i64) r4.Marked)), .d (.lst 3 (List.map e_api_Edge r4.Edges))]), (29, .d (.lst 1 (List.map (eI .i64) [3, 1]))), (30, .tup [.agg [.d (.lst 1 (List.map (eI .i64) r14.Alphabet)), .d (.int .i64 r14.States), .d (.lst 1 (List.map (eI .i64) r14.Marked)), .d (.lst 3 (List.map e_api_Edge r14.Edges))], .d (.int .i64 r15)]), (31, .agg [.d (.lst 1 (List.map (eI .i64) r14.Alphabet)), .d (.int .i64 r14.States), .d (.lst 1 (List.map (eI .i64) r14.Marked)), .d (.lst 3 (List.map e_api_Edge r14.Edges))]), (32, .d (.int .i64 r15)), (33, .d (.int .i64 r5)), (34, .d (.bool (r5 == 0))), (35, .d (.bool (r5 == 0))), (36, .agg [.d (.lst 1 (List.map (eI .i64) r4.Alphabet)), .d (.int .i64 r4.States), .d (.lst 1 (List.map (eI .i64) r4.Marked)), .d (.lst 3 (List.map e_api_Edge r4.Edges))]), (37, .d (.lst 1 (List.map (eI .i64) [0, 2]))), (38, .sl 1 (Γ.n0 + 38) 0 1 1), (39, .agg [.d (.int .i64 0), .d (.int .i64 0), .d (.int .i64 1)]), (40, .agg [.d (.int .i64 0), .d (.int .i64 2), .d (.int .i64 0)]), (41, .agg [.d (.int .i64 1), .d (.int .i64 2), .d (.int .i64 0)]), (42, .sl 3 (Γ.n0 + 42) 0 3 3), (43, .agg [.d (.lst 1 (List.map (eI .i64) [0, 2])), .d (.int .i64 2), .sl 1 (Γ.n0 + 38) 0 1 1, .sl 3 (Γ.n0 + 42) 0 3 3])], memOf Γ.n0 (bxs [(1, [.d (.lst 1 (List.map (eI .i64) r4.Alphabet)), .d (.int .i64 r4.States), .d (.lst 1 (List.map (eI .i64) r4.Marked)), .d (.lst 3 (List.map e_api_Edge r4.Edges))]), (8, [.d (.lst 1 (List.map (eI .i64) r14.Alphabet)), .d (.int .i64 r14.States), .d (.lst 1 (List.map (eI .i64) r14.Marked)), .d (.lst 3 (List.map e_api_Edge r14.Edges))]), (38, [.d (.int .i64 1)]), (42, [.d (.int .i64 0), .d (.int .i64 0), .d (.int .i64 1), .d (.int .i64 0), .d (.int .i64 2), .d (.int .i64 0), .d (.int .i64 1), .d (.int .i64 2), .d (.int .i64 0)])]) M, Γ.n0 + 99⟩; exact weak_freeze 37 [.int .i64 0, .int .i64 2] rfl rfl ⟨(.same rfl), ⟨(fPtr rfl), ⟨(.same rfl), ⟨(.same rfl), ⟨(.same rfl), ⟨(.same rfl), ⟨(.same rfl), ⟨(.same rfl), ⟨(fPtr rfl), ⟨(.same rfl), ⟨(.same rfl), ⟨(.same rfl), ⟨(.same rfl), ⟨(.same rfl), ⟨(.same rfl), ⟨(.same rfl), ⟨(.same rfl), ⟨(.same rfl), ⟨(.same rfl), ⟨(.same rfl), ⟨(.same rfl), ⟨(.same rfl), ⟨(.same rfl), ⟨(.same rfl), ⟨(.same rfl), ⟨(.same rfl), ⟨(.same rfl), ⟨(.same rfl), ⟨(.same rfl), ⟨(.same rfl), ⟨(.same rfl), ⟨(.same rfl), ⟨(.same rfl), ⟨(.same rfl), ⟨(.same rfl), ⟨(.same rfl), ⟨(.same rfl), ⟨(fSl rfl rfl), ⟨(fSlO rfl), ⟨(.same rfl), ⟨(.same rfl), ⟨(.same rfl), ⟨(fSlO rfl), ⟨(WkV.agg (.cons (fSl rfl rfl) (.cons (.same rfl) (.cons (fSlO rfl) (.cons (fSlO rfl) .nil))))), trivial⟩⟩⟩⟩⟩⟩⟩⟩⟩⟩⟩⟩⟩⟩⟩⟩⟩⟩⟩⟩⟩⟩⟩⟩⟩⟩⟩⟩⟩⟩⟩⟩⟩⟩⟩⟩⟩⟩⟩⟩⟩⟩⟩⟩ ⟨⟨_, rfl, rfl, (.same rfl)⟩, ⟨⟨_, rfl, rfl, (.same rfl)⟩, ⟨⟨_, rfl, rfl, (.same rfl)⟩, ⟨⟨_, rfl, rfl, (.same rfl)⟩, trivial⟩⟩⟩⟩ rfl) ?_
   refine Rn.weak (by show WeakSt Γ _ ⟨look [(0, .d (.bool false)), (1, .ptr (Γ.n0 + 1) 0), (2, .d (.int .i64 r5)), (3, .d (.int .i64 r7)), (4, .d (.int .i64 r8)), (5, .d (.int .i64 r9)), (6, .d (.lst 1 (List.map (eL 1 (eI .i64)) r11))), (7, .d (.int .i64 r12)), (8, .ptr (Γ.n0 + 8) 0), (9, .d (.int .i64 r15)), (10, .tup [.agg [.d (.lst 1 (List.map (eI .i64) r4.Alphabet)), .d (.int .i64 r4.States), .d (.lst 1 (List.map (eI .i64) r4.Marked)), .d (.lst 3 (List.map e_api_Edge r4.Edges))], .d (.int .i64 r5)]), (11, .agg [.d (.lst 1 (List.map (eI .i64) x2.Alphabet)), .d (.int .i64 x2.States), .d (.lst 1 (List.map (eI .i64) x2.Marked)), .d (.lst 3 (List.map e_api_Edge x2.Edges))]), (12, .tup [.agg [.d (.lst 1 (List.map (eI .i64) r4.Alphabet)), .d (.int .i64 r4.States), .d (.lst 1 (List.map (eI .i64) r4.Marked)), .d (.lst 3 (List.map e_api_Edge r4.Edges))], .d (.int .i64 r5)]), (13, .agg [.d (.lst 1 (List.map (eI .i64) r4.Alphabet)), .d (.int .i64 r4.States), .d (.lst 1 (List.map (eI .i64) r4.Marked)), .d (.lst 3 (List.map e_api_Edge r4.Edges))]), (14, .d (.int .i64 r5)), (15, .tup [.d (.int .i64 r7), .d (.int .i64 r8), .d (.int .i64 r9)]), (16, .agg [.d (.lst 1 (List.map (eI .i64) r4.Alphabet)), .d (.int .i64 r4.States), .d (.lst 1 (List.map (eI .i64) r4.Marked)), .d (.lst 3 (List.map e_api_Edge r4.Edges))]), (17, .d (.lst 1 (List.map (eI .i64) [0, 0]))), (18, .tup [.d (.int .i64 r7), .d (.int .i64 r8), .d (.int .i64 r9)]), (19, .d (.int .i64 r7)), (20, .d (.int .i64 r8)), (21, .d (.int .i64 r9)), (22, .tup [.d (.lst 1 (List.map (eL 1 (eI .i64)) r11)), .d (.int .i64 r12)]), (23, .agg [.d (.lst 1 (List.map (eI .i64) r4.Alphabet)), .d (.int .i64 r4.States), .d (.lst 1 (List.map (eI .i64) r4.Marked)), .d (.lst 3 (List.map e_api_Edge r4.Edges))]), (24, .tup [.own 1 (List.map (eL 1 (eI .i64)) r11), .d (.int .i64 r12)]), (25, .d (.lst 1 (List.map (eL 1 (eI .i64)) r11))), (26, .d (.int .i64 r12)), (27, .tup [.agg [.d (.lst 1 (List.map (eI .i64) r14.Alphabet)), .d (.int .i64 r14.States), .d (.lst 1 (List.map (eI .i64) r14.Marked)), .d (.lst 3 (List.map e_api_Edge r14.Edges))], .d (.int .i64 r15)]), (28, .agg [.d (.lst 1 (List.map (eI .i64) r4.Alphabet)), .d (.int .i64 r4.States), .d (.lst 1 (List.map (eI .i64) r4.Marked)), .d (.lst 3 (List.map e_api_Edge r4.Edges))]), (29, .d (.lst 1 (List.map (eI .i64) [3, 1]))), (30, .tup [.agg [.d (.lst 1 (List.map (eI .i64) r14.Alphabet)), .d (.int .i64 r14.States), .d (.lst 1 (List.map (eI .i64) r14.Marked)), .d (.lst 3 (List.map e_api_Edge r14.Edges))], .d (.int .i64 r15)]), (31, .agg [.d (.lst 1 (List.map (eI .i64) r14.Alphabet)), .d (.int .i64 r14.States), .d (.lst 1 (List.map (eI .i64) r14.Marked)), .d (.lst 3 (List.map e_api_Edge r14.Edges))]), (32, .d (.int .i64 r15)), (33, .d (.int .i64 r5)), (34, .d (.bool (r5 == 0))), (35, .d (.bool (r5 == 0))), (36, .agg [.d (.lst 1 (List.map (eI .i64) r4.Alphabet)), .d (.int .i64 r4.States), .d (.lst 1 (List.map (eI .i64) r4.Marked)), .d (.lst 3 (List.map e_api_Edge r4.Edges))]), (37, .d (.lst 1 (List.map (eI .i64) [0, 2]))), (38, .d (.lst 1 (List.map (eI .i64) [1]))), (39, .agg [.d (.int .i64 0), .d (.int .i64 0), .d (.int .i64 1)]), (40, .agg [.d (.int .i64 0), .d (.int .i64 2), .d (.int .i64 0)]), (41, .agg [.d (.int .i64 1), .d (.int .i64 2), .d (.int .i64 0)]), (42, .sl 3 (Γ.n0 + 42) 0 3 3), (43, .agg [.d (.lst 1 (List.map (eI .i64) [0, 2])), .d (.int .i64 2), .d (.lst 1 (List.map (eI .i64) [1])), .sl 3 (Γ.n0 + 42) 0 3 3])], memOf Γ.n0 (bxs [(1, [.d (.lst 1 (List.map (eI .i64) r4.Alphabet)), .d (.int .i64 r4.States), .d (.lst 1 (List.map (eI .i64) r4.Marked)), .d (.lst 3 (List.map e_api_Edge r4.Edges))]), (8, [.d (.lst 1 (List.map (eI .i64) r14.Alphabet)), .d (.int .i64 r14.States), .d (.lst 1 (List.map (eI .i64) r14.Marked)), .d (.lst 3 (List.map e_api_Edge r14.Edges))]), (42, [.d (.int .i64 0), .d (.int .i64 0), .d (.int .i64 1), .d (.int .i64 0), .d (.int .i64 2), .d (.int .i64 0), .d (.int .i64 1), .d (.int .i64 2), .d (.int .i64 0)])]) M, Γ.n0 + 99⟩; exact weak_freeze 38 [.int .i64 1] rfl rfl ⟨(.same rfl), ⟨(fPtr rfl), ⟨(.same rfl), ⟨(.same rfl), ⟨(.same rfl), ⟨(.same rfl), ⟨(.same rfl), ⟨(.same rfl), ⟨(fPtr rfl), ⟨(.same rfl), ⟨(.same rfl), ⟨(.same rfl), ⟨(.same rfl), ⟨(.same rfl), ⟨(.same rfl), ⟨(.same rfl), ⟨(.same rfl), ⟨(.same rfl), ⟨(.same rfl), ⟨(.same rfl), ⟨(.same rfl), ⟨(.same rfl), ⟨(.same rfl), ⟨(.same rfl), ⟨(.same rfl), ⟨(.same rfl), ⟨(.same rfl), ⟨(.same rfl), ⟨(.same rfl), ⟨(.same rfl), ⟨(.same rfl), ⟨(.same rfl), ⟨(.same rfl), ⟨(.same rfl), ⟨(.same rfl), ⟨(.same rfl), ⟨(.same rfl), ⟨(.same rfl), ⟨(fSl rfl rfl), ⟨(.same rfl), ⟨(.same rfl), ⟨(.same rfl), ⟨(fSlO rfl), ⟨(WkV.agg (.cons (.same rfl) (.cons (.same rfl) (.cons (fSl rfl rfl) (.cons (fSlO rfl) .nil))))), trivial⟩⟩⟩⟩⟩⟩⟩⟩⟩⟩⟩⟩⟩⟩⟩⟩⟩⟩⟩⟩⟩⟩⟩⟩⟩⟩⟩⟩⟩⟩⟩⟩⟩⟩⟩⟩⟩⟩⟩⟩⟩⟩⟩⟩ ⟨⟨_, rfl, rfl, (.same rfl)⟩, ⟨⟨_, rfl, rfl, (.same rfl)⟩, ⟨⟨_, rfl, rfl, (.same rfl)⟩, trivial⟩⟩⟩ rfl) ?_
   refine Rn.weak (by show WeakSt Γ _ ⟨look [(0, .d (.bool false)), (1, .ptr (Γ.n0 + 1) 0), (2, .d (.int .i64 r5)), (3, .d (.int .i64 r7)), (4, .d (.int .i64 r8)), (5, .d (.int .i64 r9)), (6, .d (.lst 1 (List.map (eL 1 (eI .i64)) r11))), (7, .d (.int .i64 r12)), (8, .ptr (Γ.n0 + 8) 0), (9, .d (.int .i64 r15)), (10, .tup [.agg [.d (.lst 1 (List.map (eI .i64) r4.Alphabet)), .d (.int .i64 r4.States), .d (.lst 1 (List.map (eI .i64) r4.Marked)), .d (.lst 3 (List.map e_api_Edge r4.Edges))], .d (.int .i64 r5)]), (11, .agg [.d (.lst 1 (List.map (eI .i64) x2.Alphabet)), .d (.int .i64 x2.States), .d (.lst 1 (List.map (eI .i64) x2.Marked)), .d (.lst 3 (List.map e_api_Edge x2.Edges))]), (12, .tup [.agg [.d (.lst 1 (List.map (eI .i64) r4.Alphabet)), .d (.int .i64 r4.States), .d (.lst 1 (List.map (eI .i64) r4.Marked)), .d (.lst 3 (List.map e_api_Edge r4.Edges))], .d (.int .i64 r5)]), (13, .agg [.d (.lst 1 (List.map (eI .i64) r4.Alphabet)), .d (.int .i64 r4.States), .d (.lst 1 (List.map (eI .i64) r4.Marked)), .d (.lst 3 (List.map e_api_Edge r4.Edges))]), (14, .d (.int .i64 r5)), (15, .tup [.d (.int .i64 r7), .d (.int .i64 r8), .d (.int .i64 r9)]), (16, .agg [.d (.lst 1 (List.map (eI .i64) r4.Alphabet)), .d (.int .i64 r4.States), .d (.lst 1 (List.map (eI .i64) r4.Marked)), .d (.lst 3 (List.map e_api_Edge r4.Edges))]), (17, .d (.lst 1 (List.map (eI .i64) [0, 0]))), (18, .tup [.d (.int .i64 r7), .d (.int .i64 r8), .d (.int .i64 r9)]), (19, .d (.int .i64 r7)), (20, .d (.int .i64 r8)), (21, .d (.int .i64 r9)), (22, .tup [.d (.lst 1 (List.map (eL 1 (eI .i64)) r11)), .d (.int .i64 r12)]), (23, .agg [.d (.lst 1 (List.map (eI .i64) r4.Alphabet)), .d (.int .i64 r4.States), .d (.lst 1 (List.map (eI .i64) r4.Marked)), .d (.lst 3 (List.map e_api_Edge r4.Edges))]), (24, .tup [.own 1 (List.map (eL 1 (eI .i64)) r11), .d (.int .i64 r12)]), (25, .d (.lst 1 (List.map (eL 1 (eI .i64)) r11))), (26, .d (.int .i64 r12)), (27, .tup [.agg [.d (.lst 1 (List.map (eI .i64) r14.Alphabet)), .d (.int .i64 r14.States), .d (.lst 1 (List.map (eI .i64) r14.Marked)), .d (.lst 3 (List.map e_api_Edge r14.Edges))], .d (.int .i64 r15)]), (28, .agg [.d (.lst 1 (List.map (eI .i64) r4.Alphabet)), .d (.int .i64 r4.States), .d (.lst 1 (List.map (eI .i64) r4.Marked)), .d (.lst 3 (List.map e_api_Edge r4.Edges))]), (29, .d (.lst 1 (List.map (eI .i64) [3, 1]))), (30, .tup [.agg [.d (.lst 1 (List.map (eI .i64) r14.Alphabet)), .d (.int .i64 r14.States), .d (.lst 1 (List.map (eI .i64) r14.Marked)), .d (.lst 3 (List.map e_api_Edge r14.Edges))], .d (.int .i64 r15)]), (31, .agg [.d (.lst 1 (List.map (eI .i64) r14.Alphabet)), .d (.int .i64 r14.States), .d (.lst 1 (List.map (eI .i64) r14.Marked)), .d (.lst 3 (List.map e_api_Edge r14.Edges))]), (32, .d (.int .i64 r15)), (33, .d (.int .i64 r5)), (34, .d (.bool (r5 == 0))), (35, .d (.bool (r5 == 0))), (36, .agg [.d (.lst 1 (List.map (eI .i64) r4.Alphabet)), .d (.int .i64 r4.States), .d (.lst 1 (List.map (eI .i64) r4.Marked)), .d (.lst 3 (List.map e_api_Edge r4.Edges))]), (37, .d (.lst 1 (List.map (eI .i64) [0, 2]))), (38, .d (.lst 1 (List.map (eI .i64) [1]))), (39, .agg [.d (.int .i64 0), .d (.int .i64 0), .d (.int .i64 1)]), (40, .agg [.d (.int .i64 0), .d (.int .i64 2), .d (.int .i64 0)]), (41, .agg [.d (.int .i64 1), .d (.int .i64 2), .d (.int .i64 0)]), (42, .d (.lst 3 (List.map e_api_Edge [(api_Edge.mk 0 0 1), (api_Edge.mk 0 2 0), (api_Edge.mk 1 2 0)]))), (43, .agg [.d (.lst 1 (List.map (eI .i64) [0, 2])), .d (.int .i64 2), .d (.lst 1 (List.map (eI .i64) [1])), .d (.lst 3 (List.map e_api_Edge [(api_Edge.mk 0 0 1), (api_Edge.mk 0 2 0), (api_Edge.mk 1 2 0)]))])], memOf Γ.n0 (bxs [(1, [.d (.lst 1 (List.map (eI .i64) r4.Alphabet)), .d (.int .i64 r4.States), .d (.lst 1 (List.map (eI .i64) r4.Marked)), .d (.lst 3 (List.map e_api_Edge r4.Edges))]), (8, [.d (.lst 1 (List.map (eI .i64) r14.Alphabet)), .d (.int .i64 r14.States), .d (.lst 1 (List.map (eI .i64) r14.Marked)), .d (.lst 3 (List.map e_api_Edge r14.Edges))])]) M, Γ.n0 + 99⟩; exact weak_freeze 42 [.int .i64 0, .int .i64 0, .int .i64 1, .int .i64 0, .int .i64 2, .int .i64 0, .int .i64 1, .int .i64 2, .int .i64 0] rfl rfl ⟨(.same rfl), ⟨(fPtr rfl), ⟨(.same rfl), ⟨(.same rfl), ⟨(.same rfl), ⟨(.same rfl), ⟨(.same rfl), ⟨(.same rfl), ⟨(fPtr rfl), ⟨(.same rfl), ⟨(.same rfl), ⟨(.same rfl), ⟨(.same rfl), ⟨(.same rfl), ⟨(.same rfl), ⟨(.same rfl), ⟨(.same rfl), ⟨(.same rfl), ⟨(.same rfl), ⟨(.same rfl), ⟨(.same rfl), ⟨(.same rfl), ⟨(.same rfl), ⟨(.same rfl), ⟨(.same rfl), ⟨(.same rfl), ⟨(.same rfl), ⟨(.same rfl), ⟨(.same rfl), ⟨(.same rfl), ⟨(.same rfl), ⟨(.same rfl), ⟨(.same rfl), ⟨(.same rfl), ⟨(.same rfl), ⟨(.same rfl), ⟨(.same rfl), ⟨(.same rfl), ⟨(.same rfl), ⟨(.same rfl), ⟨(.same rfl), ⟨(.same rfl), ⟨(fSl rfl rfl), ⟨(WkV.agg (.cons (.same rfl) (.cons (.same rfl) (.cons (.same rfl) (.cons (fSl rfl rfl) .nil))))), trivial⟩⟩⟩⟩⟩⟩⟩⟩⟩⟩⟩⟩⟩⟩⟩⟩⟩⟩⟩⟩⟩⟩⟩⟩⟩⟩⟩⟩⟩⟩⟩⟩⟩⟩⟩⟩⟩⟩⟩⟩⟩⟩⟩⟩ ⟨⟨_, rfl, rfl, (.same rfl)⟩, ⟨⟨_, rfl, rfl, (.same rfl)⟩, trivial⟩⟩ rfl) ?_
   obtain ⟨x18, h17, h⟩ := bnd h
   refine Rn.call (args := [.agg [.d (.lst 1 (List.map (eI .i64) r4.Alphabet)), .d (.int .i64 r4.States), .d (.lst 1 (List.map (eI .i64) r4.Marked)), .d (.lst 3 (List.map e_api_Edge r4.Edges))], .agg [.d (.lst 1 (List.map (eI .i64) [0, 2])), .d (.int .i64 2), .d (.lst 1 (List.map (eI .i64) [1])), .d (.lst 3 (List.map e_api_Edge [(api_Edge.mk 0 0 1), (api_Edge.mk 0 2 0), (api_Edge.mk 1 2 0)]))]]) (gw rfl hb16) rfl (H_overseerref03_Same _ _ _ h17) pc9 (Rn.pickT (v := .d (.bool x18)) trivial rfl hb16 rfl (md rfl ?_))
   refine bsplit x18 (fun hb19 => ?_) (fun hb19 => ?_)
   ·replace h := bT hb19 h
    refine Rn.movD (gw rfl hb19) rfl (Rn.bin (gw rfl hb19) rfl rfl rfl (Rn.pickT (v := .d (.bool (r9 == 0))) trivial rfl hb19 rfl (md rfl ?_)))
    refine bsplit (r9 == 0) (fun hb20 => ?_) (fun hb20 => ?_)
    ·replace h := bT hb20 h
     refine Rn.movD (gw rfl hb20) rfl (Rn.bin (gw rfl hb20) rfl rfl rfl (Rn.pickT (v := .d (.bool (r7 == 1))) trivial rfl hb20 rfl (md rfl ?_)))
     refine bsplit (r7 == 1) (fun hb21 => ?_) (fun hb21 => ?_)
     ·replace h := bT hb21 h
      refine Rn.movD (gw rfl hb21) rfl (Rn.bin (gw rfl hb21) rfl rfl rfl (Rn.pickT (v := .d (.bool (r8 == 1))) trivial rfl hb21 rfl (md rfl ?_)))
      refine bsplit (r8 == 1) (fun hb22 => ?_) (fun hb22 => ?_)
      ·replace h := bT hb22 h
       refine Rn.movD (gw rfl hb22) rfl (Rn.bin (gw rfl hb22) rfl rfl rfl (Rn.pickT (v := .d (.bool (r12 == 0))) trivial rfl hb22 rfl (md rfl ?_)))
       refine bsplit (r12 == 0) (fun hb23 => ?_) (fun hb23 => ?_)
       ·replace h := bT hb23 h
        refine Rn.movD (gw rfl hb23) rfl (Rn.lenD (gw rfl hb23) rfl (Rn.bin (gw rfl hb23) rfl rfl rfl (Rn.pickT (v := .d (.bool ((r11.length : Int) == 2))) trivial rfl hb23 rfl (md rfl ?_))))
        refine bsplit ((r11.length : Int) == 2) (fun hb24 => ?_) (fun hb24 => ?_)
        ·replace h := bT hb24 h
         refine Rn.movD (gw rfl hb24) rfl ?_
         obtain ⟨x25, h26, h⟩ := bnd h
         refine Rn.idxD (e := (eL 1 (eI .i64))) (gw rfl hb24) rfl rfl h26 (Rn.loadC (x := .lst 1 (List.map (eI .i64) x25)) (gw rfl hb24) rfl (Rn.bslice (xs := [.d (.int .i64 0)]) (cs := [.d (.int .i64 0)]) (gw rfl hb24) rfl rfl rfl rfl ?_))
         refine Rn.weak (by show WeakSt Γ _ ⟨look [(0, .d (.bool false)), (1, .ptr (Γ.n0 + 1) 0), (2, .d (.int .i64 r5)), (3, .d (.int .i64 r7)), (4, .d (.int .i64 r8)), (5, .d (.int .i64 r9)), (6, .d (.lst 1 (List.map (eL 1 (eI .i64)) r11))), (7, .d (.int .i64 r12)), (8, .ptr (Γ.n0 + 8) 0), (9, .d (.int .i64 r15)), (10, .tup [.agg [.d (.lst 1 (List.map (eI .i64) r4.Alphabet)), .d (.int .i64 r4.States), .d (.lst 1 (List.map (eI .i64) r4.Marked)), .d (.lst 3 (List.map e_api_Edge r4.Edges))], .d (.int .i64 r5)]), (11, .agg [.d (.lst 1 (List.map (eI .i64) x2.Alphabet)), .d (.int .i64 x2.States), .d (.lst 1 (List.map (eI .i64) x2.Marked)), .d (.lst 3 (List.map e_api_Edge x2.Edges))]), (12, .tup [.agg [.d (.lst 1 (List.map (eI .i64) r4.Alphabet)), .d (.int .i64 r4.States), .d (.lst 1 (List.map (eI .i64) r4.Marked)), .d (.lst 3 (List.map e_api_Edge r4.Edges))], .d (.int .i64 r5)]), (13, .agg [.d (.lst 1 (List.map (eI .i64) r4.Alphabet)), .d (.int .i64 r4.States), .d (.lst 1 (List.map (eI .i64) r4.Marked)), .d (.lst 3 (List.map e_api_Edge r4.Edges))]), (14, .d (.int .i64 r5)), (15, .tup [.d (.int .i64 r7), .d (.int .i64 r8), .d (.int .i64 r9)]), (16, .agg [.d (.lst 1 (List.map (eI .i64) r4.Alphabet)), .d (.int .i64 r4.States), .d (.lst 1 (List.map (eI .i64) r4.Marked)), .d (.lst 3 (List.map e_api_Edge r4.Edges))]), (17, .d (.lst 1 (List.map (eI .i64) [0, 0]))), (18, .tup [.d (.int .i64 r7), .d (.int .i64 r8), .d (.int .i64 r9)]), (19, .d (.int .i64 r7)), (20, .d (.int .i64 r8)), (21, .d (.int .i64 r9)), (22, .tup [.d (.lst 1 (List.map (eL 1 (eI .i64)) r11)), .d (.int .i64 r12)]), (23, .agg [.d (.lst 1 (List.map (eI .i64) r4.Alphabet)), .d (.int .i64 r4.States), .d (.lst 1 (List.map (eI .i64) r4.Marked)), .d (.lst 3 (List.map e_api_Edge r4.Edges))]), (24, .tup [.own 1 (List.map (eL 1 (eI .i64)) r11), .d (.int .i64 r12)]), (25, .d (.lst 1 (List.map (eL 1 (eI .i64)) r11))), (26, .d (.int .i64 r12)), (27, .tup [.agg [.d (.lst 1 (List.map (eI .i64) r14.Alphabet)), .d (.int .i64 r14.States), .d (.lst 1 (List.map (eI .i64) r14.Marked)), .d (.lst 3 (List.map e_api_Edge r14.Edges))], .d (.int .i64 r15)]), (28, .agg [.d (.lst 1 (List.map (eI .i64) r4.Alphabet)), .d (.int .i64 r4.States), .d (.lst 1 (List.map (eI .i64) r4.Marked)), .d (.lst 3 (List.map e_api_Edge r4.Edges))]), (29, .d (.lst 1 (List.map (eI .i64) [3, 1]))), (30, .tup [.agg [.d (.lst 1 (List.map (eI .i64) r14.Alphabet)), .d (.int .i64 r14.States), .d (.lst 1 (List.map (eI .i64) r14.Marked)), .d (.lst 3 (List.map e_api_Edge r14.Edges))], .d (.int .i64 r15)]), (31, .agg [.d (.lst 1 (List.map (eI .i64) r14.Alphabet)), .d (.int .i64 r14.States), .d (.lst 1 (List.map (eI .i64) r14.Marked)), .d (.lst 3 (List.map e_api_Edge r14.Edges))]), (32, .d (.int .i64 r15)), (33, .d (.int .i64 r5)), (34, .d (.bool (r5 == 0))), (35, .d (.bool (r5 == 0))), (36, .agg [.d (.lst 1 (List.map (eI .i64) r4.Alphabet)), .d (.int .i64 r4.States), .d (.lst 1 (List.map (eI .i64) r4.Marked)), .d (.lst 3 (List.map e_api_Edge r4.Edges))]), (37, .d (.lst 1 (List.map (eI .i64) [0, 2]))), (38, .d (.lst 1 (List.map (eI .i64) [1]))), (39, .agg [.d (.int .i64 0), .d (.int .i64 0), .d (.int .i64 1)]), (40, .agg [.d (.int .i64 0), .d (.int .i64 2), .d (.int .i64 0)]), (41, .agg [.d (.int .i64 1), .d (.int .i64 2), .d (.int .i64 0)]), (42, .d (.lst 3 (List.map e_api_Edge [(api_Edge.mk 0 0 1), (api_Edge.mk 0 2 0), (api_Edge.mk 1 2 0)]))), (43, .agg [.d (.lst 1 (List.map (eI .i64) [0, 2])), .d (.int .i64 2), .d (.lst 1 (List.map (eI .i64) [1])), .d (.lst 3 (List.map e_api_Edge [(api_Edge.mk 0 0 1), (api_Edge.mk 0 2 0), (api_Edge.mk 1 2 0)]))]), (44, .d (.bool x18)), (45, .d (.bool x18)), (46, .d (.bool x18)), (47, .d (.int .i64 r9)), (48, .d (.bool (r9 == 0))), (49, .d (.bool (r9 == 0))), (50, .d (.bool (r9 == 0))), (51, .d (.int .i64 r7)), (52, .d (.bool (r7 == 1))), (53, .d (.bool (r7 == 1))), (54, .d (.bool (r7 == 1))), (55, .d (.int .i64 r8)), (56, .d (.bool (r8 == 1))), (57, .d (.bool (r8 == 1))), (58, .d (.bool (r8 == 1))), (59, .d (.int .i64 r12)), (60, .d (.bool (r12 == 0))), (61, .d (.bool (r12 == 0))), (62, .d (.bool (r12 == 0))), (63, .d (.lst 1 (List.map (eL 1 (eI .i64)) r11))), (64, .d (.int .i64 (r11.length : Int))), (65, .d (.bool ((r11.length : Int) == 2))), (66, .d (.bool ((r11.length : Int) == 2))), (67, .d (.bool ((r11.length : Int) == 2))), (68, .d (.lst 1 (List.map (eL 1 (eI .i64)) r11))), (69, .cref ((eL 1 (eI .i64)) x25)), (70, .d (.lst 1 (List.map (eI .i64) x25))), (71, .d (.lst 1 (List.map (eI .i64) [0])))], memOf Γ.n0 (bxs [(1, [.d (.lst 1 (List.map (eI .i64) r4.Alphabet)), .d (.int .i64 r4.States), .d (.lst 1 (List.map (eI .i64) r4.Marked)), .d (.lst 3 (List.map e_api_Edge r4.Edges))]), (8, [.d (.lst 1 (List.map (eI .i64) r14.Alphabet)), .d (.int .i64 r14.States), .d (.lst 1 (List.map (eI .i64) r14.Marked)), .d (.lst 3 (List.map e_api_Edge r14.Edges))])]) M, Γ.n0 + 99⟩; exact weak_freeze 71 [.int .i64 0] rfl rfl ⟨(.same rfl), ⟨(fPtr rfl), ⟨(.same rfl), ⟨(.same rfl), ⟨(.same rfl), ⟨(.same rfl), ⟨(.same rfl), ⟨(.same rfl), ⟨(fPtr rfl), ⟨(.same rfl), ⟨(.same rfl), ⟨(.same rfl), ⟨(.same rfl), ⟨(.same rfl), ⟨(.same rfl), ⟨(.same rfl), ⟨(.same rfl), ⟨(.same rfl), ⟨(.same rfl), ⟨(.same rfl), ⟨(.same rfl), ⟨(.same rfl), ⟨(.same rfl), ⟨(.same rfl), ⟨(.same rfl), ⟨(.same rfl), ⟨(.same rfl), ⟨(.same rfl), ⟨(.same rfl), ⟨(.same rfl), ⟨(.same rfl), ⟨(.same rfl), ⟨(.same rfl), ⟨(.same rfl), ⟨(.same rfl), ⟨(.same rfl), ⟨(.same rfl), ⟨(.same rfl), ⟨(.same rfl), ⟨(.same rfl), ⟨(.same rfl), ⟨(.same rfl), ⟨(.same rfl), ⟨(.same rfl), ⟨(.same rfl), ⟨(.same rfl), ⟨(.same rfl), ⟨(.same rfl), ⟨(.same rfl), ⟨(.same rfl), ⟨(.same rfl), ⟨(.same rfl), ⟨(.same rfl), ⟨(.same rfl), ⟨(.same rfl), ⟨(.same rfl), ⟨(.same rfl), ⟨(.same rfl), ⟨(.same rfl), ⟨(.same rfl), ⟨(.same rfl), ⟨(.same rfl), ⟨(.same rfl), ⟨(.same rfl), ⟨(.same rfl), ⟨(.same rfl), ⟨(.same rfl), ⟨(.same rfl), ⟨(.same rfl), ⟨(.same rfl), ⟨(.same rfl), ⟨(fSl rfl rfl), trivial⟩⟩⟩⟩⟩⟩⟩⟩⟩⟩⟩⟩⟩⟩⟩⟩⟩⟩⟩⟩⟩⟩⟩⟩⟩⟩⟩⟩⟩⟩⟩⟩⟩⟩⟩⟩⟩⟩⟩⟩⟩⟩⟩⟩⟩⟩⟩⟩⟩⟩⟩⟩⟩⟩⟩⟩⟩⟩⟩⟩⟩⟩⟩⟩⟩⟩⟩⟩⟩⟩⟩⟩ ⟨⟨_, rfl, rfl, (.same rfl)⟩, ⟨⟨_, rfl, rfl, (.same rfl)⟩, trivial⟩⟩ rfl) ?_
         obtain ⟨x28, h27, h⟩ := bnd h
         refine Rn.call (args := [.d (.lst 1 (List.map (eI .i64) x25)), .d (.lst 1 (List.map (eI .i64) [0]))]) (gw rfl hb24) rfl (H_overseerref03_SameInts _ _ _ h27) pc9 (Rn.pickT (v := .d (.bool x28)) trivial rfl hb24 rfl (md rfl ?_))
         refine bsplit x28 (fun hb29 => ?_) (fun hb29 => ?_)
         ·replace h := bT hb29 h
          refine Rn.movD (gw rfl hb29) rfl ?_
          obtain ⟨x30, h31, h⟩ := bnd h
          refine Rn.idxD (e := (eL 1 (eI .i64))) (gw rfl hb29) rfl rfl h31 (Rn.loadC (x := .lst 1 (List.map (eI .i64) x30)) (gw rfl hb29) rfl (Rn.bslice (xs := [.d (.int .i64 2), .d (.int .i64 0)]) (cs := [.d (.int .i64 2), .d (.int .i64 0)]) (gw rfl hb29) rfl rfl rfl rfl ?_))
          refine Rn.weak (by show WeakSt Γ _ ⟨look [(0, .d (.bool false)), (1, .ptr (Γ.n0 + 1) 0), (2, .d (.int .i64 r5)), (3, .d (.int .i64 r7)), (4, .d (.int .i64 r8)), (5, .d (.int .i64 r9)), (6, .d (.lst 1 (List.map (eL 1 (eI .i64)) r11))), (7, .d (.int .i64 r12)), (8, .ptr (Γ.n0 + 8) 0), (9, .d (.int .i64 r15)), (10, .tup [.agg [.d (.lst 1 (List.map (eI .i64) r4.Alphabet)), .d (.int .i64 r4.States), .d (.lst 1 (List.map (eI .i64) r4.Marked)), .d (.lst 3 (List.map e_api_Edge r4.Edges))], .d (.int .i64 r5)]), (11, .agg [.d (.lst 1 (List.map (eI .i64) x2.Alphabet)), .d (.int .i64 x2.States), .d (.lst 1 (List.map (eI .i64) x2.Marked)), .d (.lst 3 (List.map e_api_Edge x2.Edges))]), (12, .tup [.agg [.d (.lst 1 (List.map (eI .i64) r4.Alphabet)), .d (.int .i64 r4.States), .d (.lst 1 (List.map (eI .i64) r4.Marked)), .d (.lst 3 (List.map e_api_Edge r4.Edges))], .d (.int .i64 r5)]), (13, .agg [.d (.lst 1 (List.map (eI .i64) r4.Alphabet)), .d (.int .i64 r4.States), .d (.lst 1 (List.map (eI .i64) r4.Marked)), .d (.lst 3 (List.map e_api_Edge r4.Edges))]), (14, .d (.int .i64 r5)), (15, .tup [.d (.int .i64 r7), .d (.int .i64 r8), .d (.int .i64 r9)]), (16, .agg [.d (.lst 1 (List.map (eI .i64) r4.Alphabet)), .d (.int .i64 r4.States), .d (.lst 1 (List.map (eI .i64) r4.Marked)), .d (.lst 3 (List.map e_api_Edge r4.Edges))]), (17, .d (.lst 1 (List.map (eI .i64) [0, 0]))), (18, .tup [.d (.int .i64 r7), .d (.int .i64 r8), .d (.int .i64 r9)]), (19, .d (.int .i64 r7)), (20, .d (.int .i64 r8)), (21, .d (.int .i64 r9)), (22, .tup [.d (.lst 1 (List.map (eL 1 (eI .i64)) r11)), .d (.int .i64 r12)]), (23, .agg [.d (.lst 1 (List.map (eI .i64) r4.Alphabet)), .d (.int .i64 r4.States), .d (.lst 1 (List.map (eI .i64) r4.Marked)), .d (.lst 3 (List.map e_api_Edge r4.Edges))]), (24, .tup [.own 1 (List.map (eL 1 (eI .i64)) r11), .d (.int .i64 r12)]), (25, .d (.lst 1 (List.map (eL 1 (eI .i64)) r11))), (26, .d (.int .i64 r12)), (27, .tup [.agg [.d (.lst 1 (List.map (eI .i64) r14.Alphabet)), .d (.int .i64 r14.States), .d (.lst 1 (List.map (eI .i64) r14.Marked)), .d (.lst 3 (List.map e_api_Edge r14.Edges))], .d (.int .i64 r15)]), (28, .agg [.d (.lst 1 (List.map (eI .i64) r4.Alphabet)), .d (.int .i64 r4.States), .d (.lst 1 (List.map (eI .i64) r4.Marked)), .d (.lst 3 (List.map e_api_Edge r4.Edges))]), (29, .d (.lst 1 (List.map (eI .i64) [3, 1]))), (30, .tup [.agg [.d (.lst 1 (List.map (eI .i64) r14.Alphabet)), .d (.int .i64 r14.States), .d (.lst 1 (List.map (eI .i64) r14.Marked)), .d (.lst 3 (List.map e_api_Edge r14.Edges))], .d (.int .i64 r15)]), (31, .agg [.d (.lst 1 (List.map (eI .i64) r14.Alphabet)), .d (.int .i64 r14.States), .d (.lst 1 (List.map (eI .i64) r14.Marked)), .d (.lst 3 (List.map e_api_Edge r14.Edges))]), (32, .d (.int .i64 r15)), (33, .d (.int .i64 r5)), (34, .d (.bool (r5 == 0))), (35, .d (.bool (r5 == 0))), (36, .agg [.d (.lst 1 (List.map (eI .i64) r4.Alphabet)), .d (.int .i64 r4.States), .d (.lst 1 (List.map (eI .i64) r4.Marked)), .d (.lst 3 (List.map e_api_Edge r4.Edges))]), (37, .d (.lst 1 (List.map (eI .i64) [0, 2]))), (38, .d (.lst 1 (List.map (eI .i64) [1]))), (39, .agg [.d (.int .i64 0), .d (.int .i64 0), .d (.int .i64 1)]), (40, .agg [.d (.int .i64 0), .d (.int .i64 2), .d (.int .i64 0)]), (41, .agg [.d (.int .i64 1), .d (.int .i64 2), .d (.int .i64 0)]), (42, .d (.lst 3 (List.map e_api_Edge [(api_Edge.mk 0 0 1), (api_Edge.mk 0 2 0), (api_Edge.mk 1 2 0)]))), (43, .agg [.d (.lst 1 (List.map (eI .i64) [0, 2])), .d (.int .i64 2), .d (.lst 1 (List.map (eI .i64) [1])), .d (.lst 3 (List.map e_api_Edge [(api_Edge.mk 0 0 1), (api_Edge.mk 0 2 0), (api_Edge.mk 1 2 0)]))]), (44, .d (.bool x18)), (45, .d (.bool x18)), (46, .d (.bool x18)), (47, .d (.int .i64 r9)), (48, .d (.bool (r9 == 0))), (49, .d (.bool (r9 == 0))), (50, .d (.bool (r9 == 0))), (51, .d (.int .i64 r7)), (52, .d (.bool (r7 == 1))), (53, .d (.bool (r7 == 1))), (54, .d (.bool (r7 == 1))), (55, .d (.int .i64 r8)), (56, .d (.bool (r8 == 1))), (57, .d (.bool (r8 == 1))), (58, .d (.bool (r8 == 1))), (59, .d (.int .i64 r12)), (60, .d (.bool (r12 == 0))), (61, .d (.bool (r12 == 0))), (62, .d (.bool (r12 == 0))), (63, .d (.lst 1 (List.map (eL 1 (eI .i64)) r11))), (64, .d (.int .i64 (r11.length : Int))), (65, .d (.bool ((r11.length : Int) == 2))), (66, .d (.bool ((r11.length : Int) == 2))), (67, .d (.bool ((r11.length : Int) == 2))), (68, .d (.lst 1 (List.map (eL 1 (eI .i64)) r11))), (69, .cref ((eL 1 (eI .i64)) x25)), (70, .d (.lst 1 (List.map (eI .i64) x25))), (71, .d (.lst 1 (List.map (eI .i64) [0]))), (72, .d (.bool x28)), (73, .d (.bool x28)), (74, .d (.bool x28)), (75, .d (.lst 1 (List.map (eL 1 (eI .i64)) r11))), (76, .cref ((eL 1 (eI .i64)) x30)), (77, .d (.lst 1 (List.map (eI .i64) x30))), (78, .d (.lst 1 (List.map (eI .i64) [2, 0])))], memOf Γ.n0 (bxs [(1, [.d (.lst 1 (List.map (eI .i64) r4.Alphabet)), .d (.int .i64 r4.States), .d (.lst 1 (List.map (eI .i64) r4.Marked)), .d (.lst 3 (List.map e_api_Edge r4.Edges))]), (8, [.d (.lst 1 (List.map (eI .i64) r14.Alphabet)), .d (.int .i64 r14.States), .d (.lst 1 (List.map (eI .i64) r14.Marked)), .d (.lst 3 (List.map e_api_Edge r14.Edges))])]) M, Γ.n0 + 99⟩; exact weak_freeze 78 [.int .i64 2, .int .i64 0] rfl rfl ⟨(.same rfl), ⟨(fPtr rfl), ⟨(.same rfl), ⟨(.same rfl), ⟨(.same rfl), ⟨(.same rfl), ⟨(.same rfl), ⟨(.same rfl), ⟨(fPtr rfl), ⟨(.same rfl), ⟨(.same rfl), ⟨(.same rfl), ⟨(.same rfl), ⟨(.same rfl), ⟨(.same rfl), ⟨(.same rfl), ⟨(.same rfl), ⟨(.same rfl), ⟨(.same rfl), ⟨(.same rfl), ⟨(.same rfl), ⟨(.same rfl), ⟨(.same rfl), ⟨(.same rfl), ⟨(.same rfl), ⟨(.same rfl), ⟨(.same rfl), ⟨(.same rfl), ⟨(.same rfl), ⟨(.same rfl), ⟨(.same rfl), ⟨(.same rfl), ⟨(.same rfl), ⟨(.same rfl), ⟨(.same rfl), ⟨(.same rfl), ⟨(.same rfl), ⟨(.same rfl), ⟨(.same rfl), ⟨(.same rfl), ⟨(.same rfl), ⟨(.same rfl), ⟨(.same rfl), ⟨(.same rfl), ⟨(.same rfl), ⟨(.same rfl), ⟨(.same rfl), ⟨(.same rfl), ⟨(.same rfl), ⟨(.same rfl), ⟨(.same rfl), ⟨(.same rfl), ⟨(.same rfl), ⟨(.same rfl), ⟨(.same rfl), ⟨(.same rfl), ⟨(.same rfl), ⟨(.same rfl), ⟨(.same rfl), ⟨(.same rfl), ⟨(.same rfl), ⟨(.same rfl), ⟨(.same rfl), ⟨(.same rfl), ⟨(.same rfl), ⟨(.same rfl), ⟨(.same rfl), ⟨(.same rfl), ⟨(.same rfl), ⟨(.same rfl), ⟨(.same rfl), ⟨(.same rfl), ⟨(.same rfl), ⟨(.same rfl), ⟨(.same rfl), ⟨(.same rfl), ⟨(.same rfl), ⟨(.same rfl), ⟨(fSl rfl rfl), trivial⟩⟩⟩⟩⟩⟩⟩⟩⟩⟩⟩⟩⟩⟩⟩⟩⟩⟩⟩⟩⟩⟩⟩⟩⟩⟩⟩⟩⟩⟩⟩⟩⟩⟩⟩⟩⟩⟩⟩⟩⟩⟩⟩⟩⟩⟩⟩⟩⟩⟩⟩⟩⟩⟩⟩⟩⟩⟩⟩⟩⟩⟩⟩⟩⟩⟩⟩⟩⟩⟩⟩⟩⟩⟩⟩⟩⟩⟩⟩ ⟨⟨_, rfl, rfl, (.same rfl)⟩, ⟨⟨_, rfl, rfl, (.same rfl)⟩, trivial⟩⟩ rfl) ?_
          obtain ⟨x33, h32, h⟩ := bnd h
          refine Rn.call (args := [.d (.lst 1 (List.map (eI .i64) x30)), .d (.lst 1 (List.map (eI .i64) [2, 0]))]) (gw rfl hb29) rfl (H_overseerref03_SameInts _ _ _ h32) pc9 (Rn.pickT (v := .d (.bool x33)) trivial rfl hb29 rfl (md rfl ?_))
          refine bsplit x33 (fun hb34 => ?_) (fun hb34 => ?_)
          ·replace h := bT hb34 h
           refine Rn.movD (gw rfl hb34) rfl (Rn.bin (gw rfl hb34) rfl rfl rfl (Rn.pickT (v := .d (.bool (r15 == 0))) trivial rfl hb34 rfl (md rfl ?_)))
           refine bsplit (r15 == 0) (fun hb35 => ?_) (fun hb35 => ?_)
           ·replace h := bT hb35 h
            refine Rn.fldP (o' := 3) (gw rfl hb35) rfl rfl (Rn.load (v := .d (.lst 3 (List.map e_api_Edge r14.Edges))) (gw rfl hb35) rfl (boxOwn rfl) rfl rfl (Rn.lenD (gw rfl hb35) rfl (Rn.bin (gw rfl hb35) rfl rfl rfl (Rn.pickT (v := .d (.bool ((r14.Edges.length : Int) == 3))) trivial rfl hb35 rfl (md rfl ?_)))))
            refine bsplit ((r14.Edges.length : Int) == 3) (fun hb36 => ?_) (fun hb36 => ?_)
            ·replace h := bT hb36 h
             refine Rn.fldP (o' := 3) (gw rfl hb36) rfl rfl (Rn.load (v := .d (.lst 3 (List.map e_api_Edge r14.Edges))) (gw rfl hb36) rfl (boxOwn rfl) rfl rfl ?_)
             obtain ⟨x37, h38, h⟩ := bnd h
             refine Rn.idxD (e := e_api_Edge) (gw rfl hb36) rfl rfl h38 (Rn.loadCA (vs := [.d (.int .i64 x37.From), .d (.int .i64 x37.Event), .d (.int .i64 x37.To)]) (gw rfl hb36) rfl rfl rfl (Rn.build (v := .agg [.d (.int .i64 0), .d (.int .i64 3), .d (.int .i64 1)]) (gw rfl hb36) rfl (Rn.eqa (r := ((x37.From == 0) && ((x37.Event == 3) && ((x37.To == 1) && true)))) (gw rfl hb36) rfl rfl rfl (Rn.pickT (v := .d (.bool ((x37.From == 0) && ((x37.Event == 3) && ((x37.To == 1) && true))))) trivial rfl hb36 rfl (md rfl (Rn.nil ?_))))))
             replace h := si h; subst h
             show WeakSt Γ _ ⟨look _, memOf _ (bxs _) _, _⟩; exact weak_cut [] ⟨(.same rfl), trivial⟩ ⟨⟨_, rfl, rfl, (.same rfl)⟩, ⟨⟨_, rfl, rfl, (.same rfl)⟩, trivial⟩⟩ rfl
            ·replace h := bF hb36 h
             refine Rn.sk (nw rfl hb36) (Rn.sk (nw rfl hb36) (Rn.sk (nw rfl hb36) (Rn.sk (nw rfl hb36) (Rn.sk (nw rfl hb36) (Rn.sk (nw rfl hb36) (Rn.pickF (v := .d (.bool false)) trivial rfl hb36 rfl (md rfl (Rn.nil ?_))))))))
             replace h := si h; subst h
             show WeakSt Γ _ ⟨look _, memOf _ (bxs _) _, _⟩; exact weak_cut [] ⟨(.same rfl), trivial⟩ ⟨⟨_, rfl, rfl, (.same rfl)⟩, ⟨⟨_, rfl, rfl, (.same rfl)⟩, trivial⟩⟩ rfl
           ·replace h := bF hb35 h
            refine Rn.sk (nw rfl hb35) (Rn.sk (nw rfl hb35) (Rn.sk (nw rfl hb35) (Rn.sk (nw rfl hb35) (Rn.pickF (v := .d (.bool false)) trivial rfl hb35 rfl (md rfl (Rn.sk (nw (b := false) rfl rfl) (Rn.sk (nw (b := false) rfl rfl) (Rn.sk (nw (b := false) rfl rfl) (Rn.sk (nw (b := false) rfl rfl) (Rn.sk (nw (b := false) rfl rfl) (Rn.sk (nw (b := false) rfl rfl) (Rn.pickF (v := .d (.bool false)) trivial rfl rfl rfl (md rfl (Rn.nil ?_))))))))))))))
            replace h := si h; subst h
            show WeakSt Γ _ ⟨look _, memOf _ (bxs _) _, _⟩; exact weak_cut [] ⟨(.same rfl), trivial⟩ ⟨⟨_, rfl, rfl, (.same rfl)⟩, ⟨⟨_, rfl, rfl, (.same rfl)⟩, trivial⟩⟩ rfl
          ·replace h := bF hb34 h
           refine Rn.sk (nw rfl hb34) (Rn.sk (nw rfl hb34) (Rn.pickF (v := .d (.bool false)) trivial rfl hb34 rfl (md rfl (Rn.sk (nw (b := false) rfl rfl) (Rn.sk (nw (b := false) rfl rfl) (Rn.sk (nw (b := false) rfl rfl) (Rn.sk (nw (b := false) rfl rfl) (Rn.pickF (v := .d (.bool false)) trivial rfl rfl rfl (md rfl (Rn.sk (nw (b := false) rfl rfl) (Rn.sk (nw (b := false) rfl rfl) (Rn.sk (nw (b := false) rfl rfl) (Rn.sk (nw (b := false) rfl rfl) (Rn.sk (nw (b := false) rfl rfl) (Rn.sk (nw (b := false) rfl rfl) (Rn.pickF (v := .d (.bool false)) trivial rfl rfl rfl (md rfl (Rn.nil ?_))))))))))))))))))
           replace h := si h; subst h
           show WeakSt Γ _ ⟨look _, memOf _ (bxs _) _, _⟩; exact weak_cut [] ⟨(.same rfl), trivial⟩ ⟨⟨_, rfl, rfl, (.same rfl)⟩, ⟨⟨_, rfl, rfl, (.same rfl)⟩, trivial⟩⟩ rfl
         ·replace h := bF hb29 h
          refine Rn.sk (nw rfl hb29) (Rn.sk (nw rfl hb29) (Rn.sk (nw rfl hb29) (Rn.sk (nw rfl hb29) (Rn.sk (nw rfl hb29) (Rn.pickF (v := .d (.bool false)) trivial rfl hb29 rfl (md rfl (Rn.sk (nw (b := false) rfl rfl) (Rn.sk (nw (b := false) rfl rfl) (Rn.pickF (v := .d (.bool false)) trivial rfl rfl rfl (md rfl (Rn.sk (nw (b := false) rfl rfl) (Rn.sk (nw (b := false) rfl rfl) (Rn.sk (nw (b := false) rfl rfl) (Rn.sk (nw (b := false) rfl rfl) (Rn.pickF (v := .d (.bool false)) trivial rfl rfl rfl (md rfl (Rn.sk (nw (b := false) rfl rfl) (Rn.sk (nw (b := false) rfl rfl) (Rn.sk (nw (b := false) rfl rfl) (Rn.sk (nw (b := false) rfl rfl) (Rn.sk (nw (b := false) rfl rfl) (Rn.sk (nw (b := false) rfl rfl) (Rn.pickF (v := .d (.bool false)) trivial rfl rfl rfl (md rfl (Rn.nil ?_)))))))))))))))))))))))))
          replace h := si h; subst h
          show WeakSt Γ _ ⟨look _, memOf _ (bxs _) _, _⟩; exact weak_cut [] ⟨(.same rfl), trivial⟩ ⟨⟨_, rfl, rfl, (.same rfl)⟩, ⟨⟨_, rfl, rfl, (.same rfl)⟩, trivial⟩⟩ rfl
        ·replace h := bF hb24 h
         refine Rn.sk (nw rfl hb24) (Rn.sk (nw rfl hb24) (Rn.sk (nw rfl hb24) (Rn.sk (nw rfl hb24) (Rn.sk (nw rfl hb24) (Rn.pickF (v := .d (.bool false)) trivial rfl hb24 rfl (md rfl (Rn.sk (nw (b := false) rfl rfl) (Rn.sk (nw (b := false) rfl rfl) (Rn.sk (nw (b := false) rfl rfl) (Rn.sk (nw (b := false) rfl rfl) (Rn.sk (nw (b := false) rfl rfl) (Rn.pickF (v := .d (.bool false)) trivial rfl rfl rfl (md rfl (Rn.sk (nw (b := false) rfl rfl) (Rn.sk (nw (b := false) rfl rfl) (Rn.pickF (v := .d (.bool false)) trivial rfl rfl rfl (md rfl (Rn.sk (nw (b := false) rfl rfl) (Rn.sk (nw (b := false) rfl rfl) (Rn.sk (nw (b := false) rfl rfl) (Rn.sk (nw (b := false) rfl rfl) (Rn.pickF (v := .d (.bool false)) trivial rfl rfl rfl (md rfl (Rn.sk (nw (b := false) rfl rfl) (Rn.sk (nw (b := false) rfl rfl) (Rn.sk (nw (b := false) rfl rfl) (Rn.sk (nw (b := false) rfl rfl) (Rn.sk (nw (b := false) rfl rfl) (Rn.sk (nw (b := false) rfl rfl) (Rn.pickF (v := .d (.bool false)) trivial rfl rfl rfl (md rfl (Rn.nil ?_))))))))))))))))))))))))))))))))
         replace h := si h; subst h
         show WeakSt Γ _ ⟨look _, memOf _ (bxs _) _, _⟩; exact weak_cut [] ⟨(.same rfl), trivial⟩ ⟨⟨_, rfl, rfl, (.same rfl)⟩, ⟨⟨_, rfl, rfl, (.same rfl)⟩, trivial⟩⟩ rfl
       ·replace h := bF hb23 h
        refine Rn.sk (nw rfl hb23) (Rn.sk (nw rfl hb23) (Rn.sk (nw rfl hb23) (Rn.pickF (v := .d (.bool false)) trivial rfl hb23 rfl (md rfl (Rn.sk (nw (b := false) rfl rfl) (Rn.sk (nw (b := false) rfl rfl) (Rn.sk (nw (b := false) rfl rfl) (Rn.sk (nw (b := false) rfl rfl) (Rn.sk (nw (b := false) rfl rfl) (Rn.pickF (v := .d (.bool false)) trivial rfl rfl rfl (md rfl (Rn.sk (nw (b := false) rfl rfl) (Rn.sk (nw (b := false) rfl rfl) (Rn.sk (nw (b := false) rfl rfl) (Rn.sk (nw (b := false) rfl rfl) (Rn.sk (nw (b := false) rfl rfl) (Rn.pickF (v := .d (.bool false)) trivial rfl rfl rfl (md rfl (Rn.sk (nw (b := false) rfl rfl) (Rn.sk (nw (b := false) rfl rfl) (Rn.pickF (v := .d (.bool false)) trivial rfl rfl rfl (md rfl (Rn.sk (nw (b := false) rfl rfl) (Rn.sk (nw (b := false) rfl rfl) (Rn.sk (nw (b := false) rfl rfl) (Rn.sk (nw (b := false) rfl rfl) (Rn.pickF (v := .d (.bool false)) trivial rfl rfl rfl (md rfl (Rn.sk (nw (b := false) rfl rfl) (Rn.sk (nw (b := false) rfl rfl) (Rn.sk (nw (b := false) rfl rfl) (Rn.sk (nw (b := false) rfl rfl) (Rn.sk (nw (b := false) rfl rfl) (Rn.sk (nw (b := false) rfl rfl) (Rn.pickF (v := .d (.bool false)) trivial rfl rfl rfl (md rfl (Rn.nil ?_)))))))))))))))))))))))))))))))))))))
        replace h := si h; subst h
        show WeakSt Γ _ ⟨look _, memOf _ (bxs _) _, _⟩; exact weak_cut [] ⟨(.same rfl), trivial⟩ ⟨⟨_, rfl, rfl, (.same rfl)⟩, ⟨⟨_, rfl, rfl, (.same rfl)⟩, trivial⟩⟩ rfl
      ·replace h := bF hb22 h
       refine Rn.sk (nw rfl hb22) (Rn.sk (nw rfl hb22) (Rn.pickF (v := .d (.bool false)) trivial rfl hb22 rfl (md rfl (Rn.sk (nw (b := false) rfl rfl) (Rn.sk (nw (b := false) rfl rfl) (Rn.sk (nw (b := false) rfl rfl) (Rn.pickF (v := .d (.bool false)) trivial rfl rfl rfl (md rfl (Rn.sk (nw (b := false) rfl rfl) (Rn.sk (nw (b := false) rfl rfl) (Rn.sk (nw (b := false) rfl rfl) (Rn.sk (nw (b := false) rfl rfl) (Rn.sk (nw (b := false) rfl rfl) (Rn.pickF (v := .d (.bool false)) trivial rfl rfl rfl (md rfl (Rn.sk (nw (b := false) rfl rfl) (Rn.sk (nw (b := false) rfl rfl) (Rn.sk (nw (b := false) rfl rfl) (Rn.sk (nw (b := false) rfl rfl) (Rn.sk (nw (b := false) rfl rfl) (Rn.pickF (v := .d (.bool false)) trivial rfl rfl rfl (md rfl (Rn.sk (nw (b := false) rfl rfl) (Rn.sk (nw (b := false) rfl rfl) (Rn.pickF (v := .d (.bool false)) trivial rfl rfl rfl (md rfl (Rn.sk (nw (b := false) rfl rfl) (Rn.sk (nw (b := false) rfl rfl) (Rn.sk (nw (b := false) rfl rfl) (Rn.sk (nw (b := false) rfl rfl) (Rn.pickF (v := .d (.bool false)) trivial rfl rfl rfl (md rfl (Rn.sk (nw (b := false) rfl rfl) (Rn.sk (nw (b := false) rfl rfl) (Rn.sk (nw (b := false) rfl rfl) (Rn.sk (nw (b := false) rfl rfl) (Rn.sk (nw (b := false) rfl rfl) (Rn.sk (nw (b := false) rfl rfl) (Rn.pickF (v := .d (.bool false)) trivial rfl rfl rfl ?_)))))))))))))))))))))))))))))))))))))))
       refine md rfl (Rn.nil ?_)
       replace h := si h; subst h
       show WeakSt Γ _ ⟨look _, memOf _ (bxs _) _, _⟩; exact weak_cut [] ⟨(.same rfl), trivial⟩ ⟨⟨_, rfl, rfl, (.same rfl)⟩, ⟨⟨_, rfl, rfl, (.same rfl)⟩, trivial⟩⟩ rfl
     ·replace h := bF hb21 h
      refine Rn.sk (nw rfl hb21) (Rn.sk (nw rfl hb21) (Rn.pickF (v := .d (.bool false)) trivial rfl hb21 rfl (md rfl (Rn.sk (nw (b := false) rfl rfl) (Rn.sk (nw (b := false) rfl rfl) (Rn.pickF (v := .d (.bool false)) trivial rfl rfl rfl (md rfl (Rn.sk (nw (b := false) rfl rfl) (Rn.sk (nw (b := false) rfl rfl) (Rn.sk (nw (b := false) rfl rfl) (Rn.pickF (v := .d (.bool false)) trivial rfl rfl rfl (md rfl (Rn.sk (nw (b := false) rfl rfl) (Rn.sk (nw (b := false) rfl rfl) (Rn.sk (nw (b := false) rfl rfl) (Rn.sk (nw (b := false) rfl rfl) (Rn.sk (nw (b := false) rfl rfl) (Rn.pickF (v := .d (.bool false)) trivial rfl rfl rfl (md rfl (Rn.sk (nw (b := false) rfl rfl) (Rn.sk (nw (b := false) rfl rfl) (Rn.sk (nw (b := false) rfl rfl) (Rn.sk (nw (b := false) rfl rfl) (Rn.sk (nw (b := false) rfl rfl) (Rn.pickF (v := .d (.bool false)) trivial rfl rfl rfl (md rfl (Rn.sk (nw (b := false) rfl rfl) (Rn.sk (nw (b := false) rfl rfl) (Rn.pickF (v := .d (.bool false)) trivial rfl rfl rfl (md rfl (Rn.sk (nw (b := false) rfl rfl) (Rn.sk (nw (b := false) rfl rfl) (Rn.sk (nw (b := false) rfl rfl) (Rn.sk (nw (b := false) rfl rfl) (Rn.pickF (v := .d (.bool false)) trivial rfl rfl rfl (md rfl (Rn.sk (nw (b := false) rfl rfl) (Rn.sk (nw (b := false) rfl rfl) (Rn.sk (nw (b := false) rfl rfl) ?_)))))))))))))))))))))))))))))))))))))))
      refine Rn.sk (nw (b := false) rfl rfl) (Rn.sk (nw (b := false) rfl rfl) (Rn.sk (nw (b := false) rfl rfl) (Rn.pickF (v := .d (.bool false)) trivial rfl rfl rfl (md rfl (Rn.nil ?_)))))
      replace h := si h; subst h
      show WeakSt Γ _ ⟨look _, memOf _ (bxs _) _, _⟩; exact weak_cut [] ⟨(.same rfl), trivial⟩ ⟨⟨_, rfl, rfl, (.same rfl)⟩, ⟨⟨_, rfl, rfl, (.same rfl)⟩, trivial⟩⟩ rfl
    ·replace h := bF hb20 h
     refine Rn.sk (nw rfl hb20) (Rn.sk (nw rfl hb20) (Rn.pickF (v := .d (.bool false)) trivial rfl hb20 rfl (md rfl (Rn.sk (nw (b := false) rfl rfl) (Rn.sk (nw (b := false) rfl rfl) (Rn.pickF (v := .d (.bool false)) trivial rfl rfl rfl (md rfl (Rn.sk (nw (b := false) rfl rfl) (Rn.sk (nw (b := false) rfl rfl) (Rn.pickF (v := .d (.bool false)) trivial rfl rfl rfl (md rfl (Rn.sk (nw (b := false) rfl rfl) (Rn.sk (nw (b := false) rfl rfl) (Rn.sk (nw (b := false) rfl rfl) (Rn.pickF (v := .d (.bool false)) trivial rfl rfl rfl (md rfl (Rn.sk (nw (b := false) rfl rfl) (Rn.sk (nw (b := false) rfl rfl) (Rn.sk (nw (b := false) rfl rfl) (Rn.sk (nw (b := false) rfl rfl) (Rn.sk (nw (b := false) rfl rfl) (Rn.pickF (v := .d (.bool false)) trivial rfl rfl rfl (md rfl (Rn.sk (nw (b := false) rfl rfl) (Rn.sk (nw (b := false) rfl rfl) (Rn.sk (nw (b := false) rfl rfl) (Rn.sk (nw (b := false) rfl rfl) (Rn.sk (nw (b := false) rfl rfl) (Rn.pickF (v := .d (.bool false)) trivial rfl rfl rfl (md rfl (Rn.sk (nw (b := false) rfl rfl) (Rn.sk (nw (b := false) rfl rfl) (Rn.pickF (v := .d (.bool false)) trivial rfl rfl rfl (md rfl (Rn.sk (nw (b := false) rfl rfl) (Rn.sk (nw (b := false) rfl rfl) (Rn.sk (nw (b := false) rfl rfl) (Rn.sk (nw (b := false) rfl rfl) (Rn.pickF (v := .d (.bool false)) trivial rfl rfl rfl ?_)))))))))))))))))))))))))))))))))))))))
     refine md rfl (Rn.sk (nw (b := false) rfl rfl) (Rn.sk (nw (b := false) rfl rfl) (Rn.sk (nw (b := false) rfl rfl) (Rn.sk (nw (b := false) rfl rfl) (Rn.sk (nw (b := false) rfl rfl) (Rn.sk (nw (b := false) rfl rfl) (Rn.pickF (v := .d (.bool false)) trivial rfl rfl rfl (md rfl (Rn.nil ?_)))))))))
     replace h := si h; subst h
     show WeakSt Γ _ ⟨look _, memOf _ (bxs _) _, _⟩; exact weak_cut [] ⟨(.same rfl), trivial⟩ ⟨⟨_, rfl, rfl, (.same rfl)⟩, ⟨⟨_, rfl, rfl, (.same rfl)⟩, trivial⟩⟩ rfl
   ·replace h := bF hb19 h
    refine Rn.sk (nw rfl hb19) (Rn.sk (nw rfl hb19) (Rn.pickF (v := .d (.bool false)) trivial rfl hb19 rfl (md rfl (Rn.sk (nw (b := false) rfl rfl) (Rn.sk (nw (b := false) rfl rfl) (Rn.pickF (v := .d (.bool false)) trivial rfl rfl rfl (md rfl (Rn.sk (nw (b := false) rfl rfl) (Rn.sk (nw (b := false) rfl rfl) (Rn.pickF (v := .d (.bool false)) trivial rfl rfl rfl (md rfl (Rn.sk (nw (b := false) rfl rfl) (Rn.sk (nw (b := false) rfl rfl) (Rn.pickF (v := .d (.bool false)) trivial rfl rfl rfl (md rfl (Rn.sk (nw (b := false) rfl rfl) (Rn.sk (nw (b := false) rfl rfl) (Rn.sk (nw (b := false) rfl rfl) (Rn.pickF (v := .d (.bool false)) trivial rfl rfl rfl (md rfl (Rn.sk (nw (b := false) rfl rfl) (Rn.sk (nw (b := false) rfl rfl) (Rn.sk (nw (b := false) rfl rfl) (Rn.sk (nw (b := false) rfl rfl) (Rn.sk (nw (b := false) rfl rfl) (Rn.pickF (v := .d (.bool false)) trivial rfl rfl rfl (md rfl (Rn.sk (nw (b := false) rfl rfl) (Rn.sk (nw (b := false) rfl rfl) (Rn.sk (nw (b := false) rfl rfl) (Rn.sk (nw (b := false) rfl rfl) (Rn.sk (nw (b := false) rfl rfl) (Rn.pickF (v := .d (.bool false)) trivial rfl rfl rfl (md rfl (Rn.sk (nw (b := false) rfl rfl) (Rn.sk (nw (b := false) rfl rfl) (Rn.pickF (v := .d (.bool false)) trivial rfl rfl rfl (md rfl (Rn.sk (nw (b := false) rfl rfl) ?_)))))))))))))))))))))))))))))))))))))))
    refine Rn.sk (nw (b := false) rfl rfl) (Rn.sk (nw (b := false) rfl rfl) (Rn.sk (nw (b := false) rfl rfl) (Rn.pickF (v := .d (.bool false)) trivial rfl rfl rfl (md rfl (Rn.sk (nw (b := false) rfl rfl) (Rn.sk (nw (b := false) rfl rfl) (Rn.sk (nw (b := false) rfl rfl) (Rn.sk (nw (b := false) rfl rfl) (Rn.sk (nw (b := false) rfl rfl) (Rn.sk (nw (b := false) rfl rfl) (Rn.pickF (v := .d (.bool false)) trivial rfl rfl rfl (md rfl (Rn.nil ?_)))))))))))))
    replace h := si h; subst h
    show WeakSt Γ _ ⟨look _, memOf _ (bxs _) _, _⟩; exact weak_cut [] ⟨(.same rfl), trivial⟩ ⟨⟨_, rfl, rfl, (.same rfl)⟩, ⟨⟨_, rfl, rfl, (.same rfl)⟩, trivial⟩⟩ rfl
  ·replace h := bF hb16 h
   refine Rn.sk (nw rfl hb16) (Rn.sk (nw rfl hb16) (Rn.sk (nw rfl hb16) (Rn.sk (nw rfl hb16) (Rn.sk (nw rfl hb16) (Rn.sk (nw rfl hb16) (Rn.sk (nw rfl hb16) (Rn.sk (nw rfl hb16) (Rn.sk (nw rfl hb16) (Rn.pickF (v := .d (.bool false)) trivial rfl hb16 rfl (md rfl (Rn.sk (nw (b := false) rfl rfl) (Rn.sk (nw (b := false) rfl rfl) (Rn.pickF (v := .d (.bool false)) trivial rfl rfl rfl (md rfl (Rn.sk (nw (b := false) rfl rfl) (Rn.sk (nw (b := false) rfl rfl) (Rn.pickF (v := .d (.bool false)) trivial rfl rfl rfl (md rfl (Rn.sk (nw (b := false) rfl rfl) (Rn.sk (nw (b := false) rfl rfl) (Rn.pickF (v := .d (.bool false)) trivial rfl rfl rfl (md rfl (Rn.sk (nw (b := false) rfl rfl) (Rn.sk (nw (b := false) rfl rfl) (Rn.pickF (v := .d (.bool false)) trivial rfl rfl rfl (md rfl (Rn.sk (nw (b := false) rfl rfl) (Rn.sk (nw (b := false) rfl rfl) (Rn.sk (nw (b := false) rfl rfl) (Rn.pickF (v := .d (.bool false)) trivial rfl rfl rfl (md rfl (Rn.sk (nw (b := false) rfl rfl) (Rn.sk (nw (b := false) rfl rfl) (Rn.sk (nw (b := false) rfl rfl) (Rn.sk (nw (b := false) rfl rfl) (Rn.sk (nw (b := false) rfl rfl) (Rn.pickF (v := .d (.bool false)) trivial rfl rfl rfl (md rfl (Rn.sk (nw (b := false) rfl rfl) ?_)))))))))))))))))))))))))))))))))))))))
   refine Rn.sk (nw (b := false) rfl rfl) (Rn.sk (nw (b := false) rfl rfl) (Rn.sk (nw (b := false) rfl rfl) (Rn.sk (nw (b := false) rfl rfl) (Rn.pickF (v := .d (.bool false)) trivial rfl rfl rfl (md rfl (Rn.sk (nw (b := false) rfl rfl) (Rn.sk (nw (b := false) rfl rfl) (Rn.pickF (v := .d (.bool false)) trivial rfl rfl rfl (md rfl (Rn.sk (nw (b := false) rfl rfl) (Rn.sk (nw (b := false) rfl rfl) (Rn.sk (nw (b := false) rfl rfl) (Rn.sk (nw (b := false) rfl rfl) (Rn.pickF (v := .d (.bool false)) trivial rfl rfl rfl (md rfl (Rn.sk (nw (b := false) rfl rfl) (Rn.sk (nw (b := false) rfl rfl) (Rn.sk (nw (b := false) rfl rfl) (Rn.sk (nw (b := false) rfl rfl) (Rn.sk (nw (b := false) rfl rfl) (Rn.sk (nw (b := false) rfl rfl) (Rn.pickF (v := .d (.bool false)) trivial rfl rfl rfl (md rfl (Rn.nil ?_))))))))))))))))))))))))
   replace h := si h; subst h
   show WeakSt Γ _ ⟨look _, memOf _ (bxs _) _, _⟩; exact weak_cut [] ⟨(.same rfl), trivial⟩ ⟨⟨_, rfl, rfl, (.same rfl)⟩, ⟨⟨_, rfl, rfl, (.same rfl)⟩, trivial⟩⟩ rfl
 ·obtain ⟨x39, rfl⟩ : ∃ x, x = z := ⟨_, rfl⟩
  refine Tr.ret ?_
  replace h := si h; subst h
  exact ⟨.inr rfl, (.d (.bool x39)), rfl, fun _ _ _ _ h => h, trivial, fun k hk => memOf_base hk⟩
theorem overseerlaw03_few_walk {P : Program} {c : Nat} (hcf : compFn P c = some F_overseerlaw03_few) : K_overseerlaw03_few P c (f_overseerlaw03_few) := by
 intro a1 r h
 refine fn_trP hcf rfl fun Γ M hP hnt hM => ?_
 subst hP
 refine Tr.init [(0, .agg [.d (.lst 1 (List.map (eI .i64) a1.Alphabet)), .d (.int .i64 a1.States), .d (.lst 1 (List.map (eI .i64) a1.Marked)), .d (.lst 3 (List.map e_api_Edge a1.Edges))])] rfl ?_
 unfold f_overseerlaw03_few at h
 unfold F_overseerlaw03_few
 refine sr ((Rn.box (v := .agg [.d (.lst 1 (List.map (eI .i64) a1.Alphabet)), .d (.int .i64 a1.States), .d (.lst 1 (List.map (eI .i64) a1.Marked)), .d (.lst 3 (List.map e_api_Edge a1.Edges))]) (cs := [.d (.lst 1 (List.map (eI .i64) a1.Alphabet)), .d (.int .i64 a1.States), .d (.lst 1 (List.map (eI .i64) a1.Marked)), .d (.lst 3 (List.map e_api_Edge a1.Edges))]) trivial rfl rfl rfl rfl rfl (md rfl (nt ((sr ((Rn.fldP (o' := 0) trivial rfl rfl (Rn.load (v := .d (.lst 1 (List.map (eI .i64) a1.Alphabet))) trivial rfl (boxOwn rfl) rfl rfl (Rn.lenD trivial rfl (Rn.bin trivial rfl rfl rfl (md rfl ?_))))))))))))
 refine bsplit (decide ((a1.Alphabet.length : Int) ≤ 12)) (fun hb2 => ?_) (fun hb2 => ?_)
 ·replace h := ifT hb2 h
  refine Rn.fldP (o' := 2) (gw rfl hb2) rfl rfl (Rn.load (v := .d (.lst 1 (List.map (eI .i64) a1.Marked))) (gw rfl hb2) rfl (boxOwn rfl) rfl rfl (Rn.lenD (gw rfl hb2) rfl (Rn.bin (gw rfl hb2) rfl rfl rfl (Rn.pickT (v := .d (.bool (decide ((a1.Marked.length : Int) ≤ 12)))) trivial rfl hb2 rfl (md rfl ?_)))))
  refine bsplit (decide ((a1.Marked.length : Int) ≤ 12)) (fun hb3 => ?_) (fun hb3 => ?_)
  ·replace h := ifT hb3 h
   refine Rn.fldP (o' := 3) (gw rfl hb3) rfl rfl (Rn.load (v := .d (.lst 3 (List.map e_api_Edge a1.Edges))) (gw rfl hb3) rfl (boxOwn rfl) rfl rfl (Rn.lenD (gw rfl hb3) rfl (Rn.bin (gw rfl hb3) rfl rfl rfl (Rn.pickT (v := .d (.bool (decide ((a1.Edges.length : Int) ≤ 12)))) trivial rfl hb3 rfl (md rfl (nt ((Tr.ret ?_))))))))
   replace h := si h; subst h
   exact ⟨.inr rfl, (.d (.bool (decide ((a1.Edges.length : Int) ≤ 12)))), rfl, fun _ _ _ _ h => h, trivial, fun k hk => memOf_base hk⟩
  ·replace h := ifF hb3 h
   refine Rn.sk (nw rfl hb3) (Rn.sk (nw rfl hb3) (Rn.sk (nw rfl hb3) (Rn.sk (nw rfl hb3) (Rn.pickF (v := .d (.bool false)) trivial rfl hb3 rfl (md rfl (nt ((Tr.ret ?_))))))))
   replace h := si h; subst h
   exact ⟨.inr rfl, (.d (.bool false)), rfl, fun _ _ _ _ h => h, trivial, fun k hk => memOf_base hk⟩
 ·replace h := ifF hb2 h
  refine Rn.sk (nw rfl hb2) (Rn.sk (nw rfl hb2) (Rn.sk (nw rfl hb2) (Rn.sk (nw rfl hb2) (Rn.pickF (v := .d (.bool false)) trivial rfl hb2 rfl (md rfl (Rn.sk (nw (b := false) rfl rfl) (Rn.sk (nw (b := false) rfl rfl) (Rn.sk (nw (b := false) rfl rfl) (Rn.sk (nw (b := false) rfl rfl) (Rn.pickF (v := .d (.bool false)) trivial rfl rfl rfl (md rfl (nt ((Tr.ret ?_))))))))))))))
  replace h := si h; subst h
  exact ⟨.inr rfl, (.d (.bool false)), rfl, fun _ _ _ _ h => h, trivial, fun k hk => memOf_base hk⟩
theorem overseerref03_List_walk {P : Program} {c : Nat} (hcf : compFn P c = some F_overseerref03_List) (fuel : Nat) : K_overseerref03_List P c (f_overseerref03_List fuel) := by
 intro l1 most2 r h
 refine fn_trP hcf rfl fun Γ M hP hnt hM => ?_
 subst hP
 refine Tr.init [(0, .d (.lst 1 (List.map (eI .i64) l1))), (1, .d (.int .i64 most2))] rfl ?_
 unfold f_overseerref03_List at h
 unfold F_overseerref03_List
 refine sr ((md rfl (nt ((Tr.seq (sr ((md rfl (nt ((Tr.block ?_)))))))))))
 refine Tr.loop (mk := fun (i3 : Int) => ⟨look [(0, .d (.lst 1 (List.map (eI .i64) l1))), (1, .d (.int .i64 most2)), (5, .d (.int .i64 i3))], memOf Γ.n0 (bxs []) M, Γ.n0 + 39⟩) h (by show WeakSt Γ (clean _ _ _) ⟨look _, memOf _ (bxs _) _, _⟩; exact weak_clean ⟨(.same rfl), ⟨(.same rfl), ⟨(.same rfl), trivial⟩⟩⟩ trivial rfl) (fun k4 z h => ?_)
 ·obtain ⟨i3, rfl⟩ : ∃ x, x = z := ⟨_, rfl⟩
  replace h : _ = some _ := h
  refine Tr.seq (sr ((md rfl (md rfl (Rn.lenD trivial rfl (Rn.bin trivial rfl rfl rfl (Rn.nil (toN ?_))))))))
  refine Tr.cond rfl (fun hb5 => ?_) (fun hb5 => ?_)
  ·replace h := ifT hb5 h
   refine Tr.skip (toN (Tr.seq (Tr.block (Tr.seq ?_))))
   refine Tr.cutB (fun (x11 : Bool) => ⟨look [(0, .d (.lst 1 (List.map (eI .i64) l1))), (1, .d (.int .i64 most2)), (5, .d (.int .i64 i3)), (24, .d (.bool x11))], memOf Γ.n0 (bxs []) M, Γ.n0 + 39⟩) h (fun z h => ?_) (fun z h => ?_)
   ·refine Tr.rgn (md rfl (md rfl ?_))
    obtain ⟨x6, h7, h⟩ := bnd h
    refine Rn.idxD (e := (eI .i64)) trivial rfl rfl h7 (Rn.loadC (x := .int .i64 x6) trivial rfl (Rn.bin trivial rfl rfl rfl (md rfl ?_)))
    refine bsplit (decide (x6 < 0)) (fun hb8 => ?_) (fun hb8 => ?_)
    ·replace h := ifT hb8 h
     refine Rn.sk (nw rfl hb8) (Rn.sk (nw rfl hb8) (Rn.sk (nw rfl hb8) (Rn.sk (nw rfl hb8) (Rn.sk (nw rfl hb8) (Rn.sk (nw rfl hb8) (Rn.pickT (v := .d (.bool true)) trivial rfl hb8 rfl (Rn.nil ?_)))))))
     replace h := si h; subst h
     show WeakSt Γ _ ⟨look _, memOf _ (bxs _) _, _⟩; exact weak_cut [] ⟨(.same rfl), ⟨(.same rfl), ⟨(.same rfl), ⟨(.same rfl), trivial⟩⟩⟩⟩ trivial rfl
    ·replace h := ifF hb8 h
     refine Rn.movD (gw rfl hb8) rfl (Rn.movD (gw rfl hb8) rfl ?_)
     obtain ⟨x9, h10, h⟩ := bnd h
     refine Rn.idxD (e := (eI .i64)) (gw rfl hb8) rfl rfl h10 (Rn.loadC (x := .int .i64 x9) (gw rfl hb8) rfl (Rn.movD (gw rfl hb8) rfl (Rn.bin (gw rfl hb8) rfl rfl rfl (Rn.pickF (v := .d (.bool (decide (x9 ≥ most2)))) trivial rfl hb8 rfl (Rn.nil ?_)))))
     replace h := si h; subst h
     show WeakSt Γ _ ⟨look _, memOf _ (bxs _) _, _⟩; exact weak_cut [] ⟨(.same rfl), ⟨(.same rfl), ⟨(.same rfl), ⟨(.same rfl), trivial⟩⟩⟩⟩ trivial rfl
   ·obtain ⟨x11, rfl⟩ : ∃ x, x = z := ⟨_, rfl⟩
    refine Tr.cond rfl (fun hb12 => ?_) (fun hb12 => ?_)
    ·replace h := bT hb12 h
     refine sr ((md rfl (nt ((Tr.ret ?_)))))
     replace h := si h; subst h
     exact ⟨.inr rfl, (.d (.int .i64 2)), rfl, fun _ _ _ _ h => h, trivial, fun k hk => memOf_base hk⟩
    ·replace h := bF hb12 h
     refine Tr.skip (toN ?_)
     refine Tr.cutB (fun (x18 : Bool) => ⟨look [(0, .d (.lst 1 (List.map (eI .i64) l1))), (1, .d (.int .i64 most2)), (5, .d (.int .i64 i3)), (38, .d (.bool x18))], memOf Γ.n0 (bxs []) M, Γ.n0 + 39⟩) h (fun z h => ?_) (fun z h => ?_)
     ·refine Tr.rgnD (by decide) ?_
      refine md rfl (Rn.bin trivial rfl rfl rfl (md rfl ?_))
      refine bsplit (decide (i3 > 0)) (fun hb13 => ?_) (fun hb13 => ?_)
      ·replace h := ifT hb13 h
       refine Rn.movD (gw rfl hb13) rfl (Rn.movD (gw rfl hb13) rfl ?_)
       obtain ⟨x14, h15, h⟩ := bnd h
       refine Rn.idxD (e := (eI .i64)) (gw rfl hb13) rfl rfl h15 (Rn.loadC (x := .int .i64 x14) (gw rfl hb13) rfl (Rn.movD (gw rfl hb13) rfl (Rn.movD (gw rfl hb13) rfl (Rn.bin (gw rfl hb13) rfl rfl rfl ?_))))
       obtain ⟨x16, h17, h⟩ := bnd h
       refine Rn.idxD (e := (eI .i64)) (gw rfl hb13) rfl rfl h17 (Rn.loadC (x := .int .i64 x16) (gw rfl hb13) rfl (Rn.bin (gw rfl hb13) rfl rfl rfl (Rn.pickT (v := .d (.bool (decide (x14 ≤ x16)))) trivial rfl hb13 rfl ?_)))
       refine Rn.nil ⟨rfl, ?_⟩
       replace h := si h; subst h
       show WeakSt Γ _ ⟨look _, memOf _ (bxs _) _, _⟩; exact weak_cut [] ⟨(.same rfl), ⟨(.same rfl), ⟨(.same rfl), ⟨(.same rfl), trivial⟩⟩⟩⟩ trivial rfl
      ·replace h := ifF hb13 h
       refine Rn.sk (nw rfl hb13) (Rn.sk (nw rfl hb13) (Rn.sk (nw rfl hb13) (Rn.sk (nw rfl hb13) (Rn.sk (nw rfl hb13) (Rn.sk (nw rfl hb13) (Rn.sk (nw rfl hb13) (Rn.sk (nw rfl hb13) (Rn.sk (nw rfl hb13) (Rn.sk (nw rfl hb13) (Rn.pickF (v := .d (.bool false)) trivial rfl hb13 rfl ?_))))))))))
       refine Rn.nil ⟨rfl, ?_⟩
       replace h := si h; subst h
       show WeakSt Γ _ ⟨look _, memOf _ (bxs _) _, _⟩; exact weak_cut [] ⟨(.same rfl), ⟨(.same rfl), ⟨(.same rfl), ⟨(.same rfl), trivial⟩⟩⟩⟩ trivial rfl
     ·obtain ⟨x18, rfl⟩ : ∃ x, x = z := ⟨_, rfl⟩
      refine Tr.cond rfl (fun hb19 => ?_) (fun hb19 => ?_)
      ·replace h := bT hb19 h
       refine sr ((md rfl (nt ((Tr.ret ?_)))))
       replace h := si h; subst h
       exact ⟨.inr rfl, (.d (.int .i64 5)), rfl, fun _ _ _ _ h => h, trivial, fun k hk => memOf_base hk⟩
      ·replace h := bF hb19 h
       refine Tr.skip (toN (Tr.rgn (md rfl (Rn.bin trivial rfl rfl rfl (md rfl (Rn.nil ?_))))))
       exact ⟨_, h, (by show WeakSt Γ (clean _ _ _) ⟨look _, memOf _ (bxs _) _, _⟩; exact weak_clean ⟨(.same rfl), ⟨(.same rfl), ⟨(.same rfl), trivial⟩⟩⟩ trivial rfl)⟩
  ·replace h := ifF hb5 h
   refine Tr.exit (toN (sr ((md rfl (nt ((Tr.ret ?_)))))))
   replace h := si h; subst h
   exact ⟨.inr rfl, (.d (.int .i64 0)), rfl, fun _ _ _ _ h => h, trivial, fun k hk => memOf_base hk⟩
theorem overseerref03_has_walk {P : Program} {c : Nat} (hcf : compFn P c = some F_overseerref03_has) (fuel : Nat) : K_overseerref03_has P c (f_overseerref03_has fuel) := by
 intro l1 n2 r h
 refine fn_trP hcf rfl fun Γ M hP hnt hM => ?_
 subst hP
 refine Tr.init [(0, .d (.lst 1 (List.map (eI .i64) l1))), (1, .d (.int .i64 n2))] rfl ?_
 unfold f_overseerref03_has at h
 unfold F_overseerref03_has
 refine sr ((md rfl (nt ((Tr.seq (sr ((md rfl (nt ((Tr.block ?_)))))))))))
 refine Tr.loop (mk := fun (i3 : Int) => ⟨look [(0, .d (.lst 1 (List.map (eI .i64) l1))), (1, .d (.int .i64 n2)), (5, .d (.int .i64 i3))], memOf Γ.n0 (bxs []) M, Γ.n0 + 18⟩) h (by show WeakSt Γ (clean _ _ _) ⟨look _, memOf _ (bxs _) _, _⟩; exact weak_clean ⟨(.same rfl), ⟨(.same rfl), ⟨(.same rfl), trivial⟩⟩⟩ trivial rfl) (fun k4 z h => ?_)
 ·obtain ⟨i3, rfl⟩ : ∃ x, x = z := ⟨_, rfl⟩
  replace h : _ = some _ := h
  refine Tr.seq (sr ((md rfl (md rfl (Rn.lenD trivial rfl (Rn.bin trivial rfl rfl rfl (Rn.nil (toN ?_))))))))
  refine Tr.cond rfl (fun hb5 => ?_) (fun hb5 => ?_)
  ·replace h := ifT hb5 h
   refine Tr.skip (toN (Tr.seq (Tr.block (sr ((md rfl (md rfl ?_)))))))
   obtain ⟨x6, h7, h⟩ := bnd h
   refine Rn.idxD (e := (eI .i64)) trivial rfl rfl h7 (Rn.loadC (x := .int .i64 x6) trivial rfl (md rfl (Rn.bin trivial rfl rfl rfl (Rn.nil (toN ?_)))))
   refine Tr.cond rfl (fun hb8 => ?_) (fun hb8 => ?_)
   ·replace h := bT hb8 h
    refine sr ((md rfl (nt ((Tr.ret ?_)))))
    replace h := si h; subst h
    exact ⟨.inr rfl, (.d (.bool true)), rfl, fun _ _ _ _ h => h, trivial, fun k hk => memOf_base hk⟩
   ·replace h := bF hb8 h
    refine Tr.skip (toN (Tr.rgn (md rfl (Rn.bin trivial rfl rfl rfl (md rfl (Rn.nil ?_))))))
    exact ⟨_, h, (by show WeakSt Γ (clean _ _ _) ⟨look _, memOf _ (bxs _) _, _⟩; exact weak_clean ⟨(.same rfl), ⟨(.same rfl), ⟨(.same rfl), trivial⟩⟩⟩ trivial rfl)⟩
  ·replace h := ifF hb5 h
   refine Tr.exit (toN (sr ((md rfl (nt ((Tr.ret ?_)))))))
   replace h := si h; subst h
   exact ⟨.inr rfl, (.d (.bool false)), rfl, fun _ _ _ _ h => h, trivial, fun k hk => memOf_base hk⟩
theorem overseerref03_Check_walk {P : Program} {c : Nat} {f_overseerref03_has : (List Int) → Int → Option Bool} {f_overseerref03_List : (List Int) → Int → Option Int}
    (H_overseerref03_has : K_overseerref03_has P 51 f_overseerref03_has)
    (H_overseerref03_List : K_overseerref03_List P 60 f_overseerref03_List) (hcf : compFn P c = some F_overseerref03_Check) (fuel : Nat) : K_overseerref03_Check P c (f_overseerref03_Check f_overseerref03_has f_overseerref03_List fuel) := by
 intro a1 r h
 refine fn_trP hcf rfl fun Γ M hP hnt hM => ?_
 subst hP
 refine Tr.init [(0, .agg [.d (.lst 1 (List.map (eI .i64) a1.Alphabet)), .d (.int .i64 a1.States), .d (.lst 1 (List.map (eI .i64) a1.Marked)), .d (.lst 3 (List.map e_api_Edge a1.Edges))])] rfl ?_
 unfold f_overseerref03_Check at h
 unfold F_overseerref03_Check
 refine sr ((Rn.box (v := .agg [.d (.lst 1 (List.map (eI .i64) a1.Alphabet)), .d (.int .i64 a1.States), .d (.lst 1 (List.map (eI .i64) a1.Marked)), .d (.lst 3 (List.map e_api_Edge a1.Edges))]) (cs := [.d (.lst 1 (List.map (eI .i64) a1.Alphabet)), .d (.int .i64 a1.States), .d (.lst 1 (List.map (eI .i64) a1.Marked)), .d (.lst 3 (List.map e_api_Edge a1.Edges))]) trivial rfl rfl rfl rfl rfl (md rfl (nt ((Tr.seq (sr ((Rn.fldP (o' := 0) trivial rfl rfl (Rn.load (v := .d (.lst 1 (List.map (eI .i64) a1.Alphabet))) trivial rfl (boxOwn rfl) rfl rfl ?_))))))))))
 obtain ⟨x3, h2, h⟩ := bnd h
 refine Rn.call (args := [.d (.lst 1 (List.map (eI .i64) a1.Alphabet)), .d (.int .i64 32)]) trivial rfl (H_overseerref03_List _ _ _ h2) pc9 (md rfl (nt ((sr ((md rfl (Rn.bin trivial rfl rfl rfl (Rn.nil (toN ?_)))))))))
 refine Tr.cond rfl (fun hb4 => ?_) (fun hb4 => ?_)
 ·replace h := bT hb4 h
  refine sr ((md rfl (md rfl (nt ((Tr.ret ?_))))))
  replace h := si h; subst h
  exact ⟨.inr rfl, (.d (.int .i64 x3)), rfl, fun _ _ _ _ h => h, trivial, fun k hk => memOf_base hk⟩
 ·replace h := bF hb4 h
  refine Tr.skip (toN (Tr.seq (sr ((Rn.fldP (o' := 1) trivial rfl rfl (Rn.load (v := .d (.int .i64 a1.States)) trivial rfl (boxOwn rfl) rfl rfl (Rn.bin trivial rfl rfl rfl (Rn.nil (toN ?_)))))))))
  refine Tr.cond rfl (fun hb5 => ?_) (fun hb5 => ?_)
  ·replace h := ifT hb5 h
   refine sr ((md rfl (nt ((Tr.ret ?_)))))
   replace h := si h; subst h
   exact ⟨.inr rfl, (.d (.int .i64 2)), rfl, fun _ _ _ _ h => h, trivial, fun k hk => memOf_base hk⟩
  ·replace h := ifF hb5 h
   refine Tr.skip (toN (Tr.seq (sr ((Rn.fldP (o' := 1) trivial rfl rfl (Rn.load (v := .d (.int .i64 a1.States)) trivial rfl (boxOwn rfl) rfl rfl (Rn.bin trivial rfl rfl rfl (Rn.nil (toN ?_)))))))))
   refine Tr.cond rfl (fun hb6 => ?_) (fun hb6 => ?_)
   ·replace h := ifT hb6 h
    refine sr ((md rfl (nt ((Tr.ret ?_)))))
    replace h := si h; subst h
    exact ⟨.inr rfl, (.d (.int .i64 3)), rfl, fun _ _ _ _ h => h, trivial, fun k hk => memOf_base hk⟩
   ·replace h := ifF hb6 h
    refine Tr.skip (toN (Tr.seq (sr ((Rn.fldP (o' := 2) trivial rfl rfl (Rn.load (v := .d (.lst 1 (List.map (eI .i64) a1.Marked))) trivial rfl (boxOwn rfl) rfl rfl (Rn.fldP (o' := 1) trivial rfl rfl (Rn.load (v := .d (.int .i64 a1.States)) trivial rfl (boxOwn rfl) rfl rfl ?_))))))))
    obtain ⟨x8, h7, h⟩ := bnd h
    refine Rn.call (args := [.d (.lst 1 (List.map (eI .i64) a1.Marked)), .d (.int .i64 a1.States)]) trivial rfl (H_overseerref03_List _ _ _ h7) pc9 (md rfl (nt ((sr ((md rfl (Rn.bin trivial rfl rfl rfl (Rn.nil (toN ?_)))))))))
    refine Tr.cond rfl (fun hb9 => ?_) (fun hb9 => ?_)
    ·replace h := bT hb9 h
     refine sr ((md rfl (md rfl (nt ((Tr.ret ?_))))))
     replace h := si h; subst h
     exact ⟨.inr rfl, (.d (.int .i64 x8)), rfl, fun _ _ _ _ h => h, trivial, fun k hk => memOf_base hk⟩
    ·replace h := bF hb9 h
     refine Tr.skip (toN (Tr.seq (sr ((md rfl (nt ((Tr.block ?_))))))))
     refine Tr.loop (mk := fun (i10 : Int) => ⟨look [(1, .ptr (Γ.n0 + 1) 0), (5, .d (.int .i64 i10))], memOf Γ.n0 (bxs [(1, [.d (.lst 1 (List.map (eI .i64) a1.Alphabet)), .d (.int .i64 a1.States), .d (.lst 1 (List.map (eI .i64) a1.Marked)), .d (.lst 3 (List.map e_api_Edge a1.Edges))])]) M, Γ.n0 + 105⟩) h (by show WeakSt Γ (clean _ _ _) ⟨look _, memOf _ (bxs _) _, _⟩; exact weak_clean ⟨(kPtr rfl), ⟨(.same rfl), trivial⟩⟩ ⟨⟨_, rfl, rfl, (.same rfl)⟩, trivial⟩ rfl) (fun k11 z h => ?_)
     ·obtain ⟨i10, rfl⟩ : ∃ x, x = z := ⟨_, rfl⟩
      replace h : _ = some _ := h
      refine Tr.seq (sr ((md rfl (Rn.fldP (o' := 3) trivial rfl rfl (Rn.load (v := .d (.lst 3 (List.map e_api_Edge a1.Edges))) trivial rfl (boxOwn rfl) rfl rfl (Rn.lenD trivial rfl (Rn.bin trivial rfl rfl rfl (Rn.nil (toN ?_)))))))))
      refine Tr.cond rfl (fun hb12 => ?_) (fun hb12 => ?_)
      ·replace h := ifT hb12 h
       refine Tr.skip (toN (Tr.seq (Tr.block (sr ((Rn.fldP (o' := 3) trivial rfl rfl (Rn.load (v := .d (.lst 3 (List.map e_api_Edge a1.Edges))) trivial rfl (boxOwn rfl) rfl rfl (md rfl ?_))))))))
       obtain ⟨x13, h14, h⟩ := bnd h
       refine Rn.idxD (e := e_api_Edge) trivial rfl rfl h14 (Rn.loadCA (vs := [.d (.int .i64 x13.From), .d (.int .i64 x13.Event), .d (.int .i64 x13.To)]) trivial rfl rfl rfl (Rn.alloc trivial rfl (Rn.store (v := .agg [.d (.int .i64 x13.From), .d (.int .i64 x13.Event), .d (.int .i64 x13.To)]) (cs' := [.d (.int .i64 x13.From), .d (.int .i64 x13.Event), .d (.int .i64 x13.To)]) trivial rfl rfl rfl rfl rfl rfl (nt ((Tr.seq ?_))))))
       refine Tr.cutB (fun (x18 : Bool) => ⟨look [(1, .ptr (Γ.n0 + 1) 0), (5, .d (.int .i64 i10)), (6, .ptr (Γ.n0 + 6) 0), (60, .d (.bool x18))], memOf Γ.n0 (bxs [(1, [.d (.lst 1 (List.map (eI .i64) a1.Alphabet)), .d (.int .i64 a1.States), .d (.lst 1 (List.map (eI .i64) a1.Marked)), .d (.lst 3 (List.map e_api_Edge a1.Edges))]), (6, [.d (.int .i64 x13.From), .d (.int .i64 x13.Event), .d (.int .i64 x13.To)])]) M, Γ.n0 + 105⟩) h (fun z h => ?_) (fun z h => ?_)
       ·refine Tr.rgn (Rn.fldP (o' := 0) trivial rfl rfl (Rn.load (v := .d (.int .i64 x13.From)) trivial rfl (boxOwn rfl) rfl rfl (Rn.bin trivial rfl rfl rfl (md rfl ?_))))
        refine bsplit (decide (x13.From < 0)) (fun hb15 => ?_) (fun hb15 => ?_)
        ·replace h := ifT hb15 h
         refine Rn.sk (nw rfl hb15) (Rn.sk (nw rfl hb15) (Rn.sk (nw rfl hb15) (Rn.sk (nw rfl hb15) (Rn.sk (nw rfl hb15) (Rn.pickT (v := .d (.bool true)) trivial rfl hb15 rfl (md rfl (Rn.sk (nw (b := true) rfl rfl) (Rn.sk (nw (b := true) rfl rfl) (Rn.sk (nw (b := true) rfl rfl) (Rn.pickT (v := .d (.bool true)) trivial rfl rfl rfl (md rfl (Rn.sk (nw (b := true) rfl rfl) (Rn.sk (nw (b := true) rfl rfl) (Rn.sk (nw (b := true) rfl rfl) (Rn.sk (nw (b := true) rfl rfl) (Rn.sk (nw (b := true) rfl rfl) (Rn.pickT (v := .d (.bool true)) trivial rfl rfl rfl (Rn.nil ?_))))))))))))))))))
         replace h := si h; subst h
         show WeakSt Γ _ ⟨look _, memOf _ (bxs _) _, _⟩; exact weak_cut [] ⟨(kPtr rfl), ⟨(.same rfl), ⟨(kPtr rfl), ⟨(.same rfl), trivial⟩⟩⟩⟩ ⟨⟨_, rfl, rfl, (.same rfl)⟩, ⟨⟨_, rfl, rfl, (.same rfl)⟩, trivial⟩⟩ rfl
        ·replace h := ifF hb15 h
         refine Rn.fldP (o' := 0) (gw rfl hb15) rfl rfl (Rn.load (v := .d (.int .i64 x13.From)) (gw rfl hb15) rfl (boxOwn rfl) rfl rfl (Rn.fldP (o' := 1) (gw rfl hb15) rfl rfl (Rn.load (v := .d (.int .i64 a1.States)) (gw rfl hb15) rfl (boxOwn rfl) rfl rfl (Rn.bin (gw rfl hb15) rfl rfl rfl (Rn.pickF (v := .d (.bool (decide (x13.From ≥ a1.States)))) trivial rfl hb15 rfl (md rfl ?_))))))
         refine bsplit (decide (x13.From ≥ a1.States)) (fun hb16 => ?_) (fun hb16 => ?_)
         ·replace h := ifT hb16 h
          refine Rn.sk (nw rfl hb16) (Rn.sk (nw rfl hb16) (Rn.sk (nw rfl hb16) (Rn.pickT (v := .d (.bool true)) trivial rfl hb16 rfl (md rfl (Rn.sk (nw (b := true) rfl rfl) (Rn.sk (nw (b := true) rfl rfl) (Rn.sk (nw (b := true) rfl rfl) (Rn.sk (nw (b := true) rfl rfl) (Rn.sk (nw (b := true) rfl rfl) (Rn.pickT (v := .d (.bool true)) trivial rfl rfl rfl (Rn.nil ?_)))))))))))
          replace h := si h; subst h
          show WeakSt Γ _ ⟨look _, memOf _ (bxs _) _, _⟩; exact weak_cut [] ⟨(kPtr rfl), ⟨(.same rfl), ⟨(kPtr rfl), ⟨(.same rfl), trivial⟩⟩⟩⟩ ⟨⟨_, rfl, rfl, (.same rfl)⟩, ⟨⟨_, rfl, rfl, (.same rfl)⟩, trivial⟩⟩ rfl
         ·replace h := ifF hb16 h
          refine Rn.fldP (o' := 2) (gw rfl hb16) rfl rfl (Rn.load (v := .d (.int .i64 x13.To)) (gw rfl hb16) rfl (boxOwn rfl) rfl rfl (Rn.bin (gw rfl hb16) rfl rfl rfl (Rn.pickF (v := .d (.bool (decide (x13.To < 0)))) trivial rfl hb16 rfl (md rfl ?_))))
          refine bsplit (decide (x13.To < 0)) (fun hb17 => ?_) (fun hb17 => ?_)
          ·replace h := ifT hb17 h
           refine Rn.sk (nw rfl hb17) (Rn.sk (nw rfl hb17) (Rn.sk (nw rfl hb17) (Rn.sk (nw rfl hb17) (Rn.sk (nw rfl hb17) (Rn.pickT (v := .d (.bool true)) trivial rfl hb17 rfl (Rn.nil ?_))))))
           replace h := si h; subst h
           show WeakSt Γ _ ⟨look _, memOf _ (bxs _) _, _⟩; exact weak_cut [] ⟨(kPtr rfl), ⟨(.same rfl), ⟨(kPtr rfl), ⟨(.same rfl), trivial⟩⟩⟩⟩ ⟨⟨_, rfl, rfl, (.same rfl)⟩, ⟨⟨_, rfl, rfl, (.same rfl)⟩, trivial⟩⟩ rfl
          ·replace h := ifF hb17 h
           refine Rn.fldP (o' := 2) (gw rfl hb17) rfl rfl (Rn.load (v := .d (.int .i64 x13.To)) (gw rfl hb17) rfl (boxOwn rfl) rfl rfl (Rn.fldP (o' := 1) (gw rfl hb17) rfl rfl (Rn.load (v := .d (.int .i64 a1.States)) (gw rfl hb17) rfl (boxOwn rfl) rfl rfl (Rn.bin (gw rfl hb17) rfl rfl rfl (Rn.pickF (v := .d (.bool (decide (x13.To ≥ a1.States)))) trivial rfl hb17 rfl (Rn.nil ?_))))))
           replace h := si h; subst h
           show WeakSt Γ _ ⟨look _, memOf _ (bxs _) _, _⟩; exact weak_cut [] ⟨(kPtr rfl), ⟨(.same rfl), ⟨(kPtr rfl), ⟨(.same rfl), trivial⟩⟩⟩⟩ ⟨⟨_, rfl, rfl, (.same rfl)⟩, ⟨⟨_, rfl, rfl, (.same rfl)⟩, trivial⟩⟩ rfl
       ·obtain ⟨x18, rfl⟩ : ∃ x, x = z := ⟨_, rfl⟩
        refine Tr.cond rfl (fun hb19 => ?_) (fun hb19 => ?_)
        ·replace h := bT hb19 h
         refine sr ((md rfl (nt ((Tr.ret ?_)))))
         replace h := si h; subst h
         exact ⟨.inr rfl, (.d (.int .i64 2)), rfl, fun _ _ _ _ h => h, trivial, fun k hk => memOf_base hk⟩
        ·replace h := bF hb19 h
         refine Tr.skip (toN (Tr.seq (sr ((Rn.fldP (o' := 0) trivial rfl rfl (Rn.load (v := .d (.lst 1 (List.map (eI .i64) a1.Alphabet))) trivial rfl (boxOwn rfl) rfl rfl (Rn.fldP (o' := 1) trivial rfl rfl (Rn.load (v := .d (.int .i64 x13.Event)) trivial rfl (boxOwn rfl) rfl rfl ?_))))))))
         obtain ⟨x21, h20, h⟩ := bnd h
         refine Rn.call (args := [.d (.lst 1 (List.map (eI .i64) a1.Alphabet)), .d (.int .i64 x13.Event)]) trivial rfl (H_overseerref03_has _ _ _ h20) pc9 (Rn.un trivial rfl rfl (Rn.nil (toN ?_)))
         refine Tr.cond rfl (fun hb22 => ?_) (fun hb22 => ?_)
         ·have hb22 := nT' hb22
          replace h := bF hb22 h
          refine sr ((md rfl (nt ((Tr.ret ?_)))))
          replace h := si h; subst h
          exact ⟨.inr rfl, (.d (.int .i64 9)), rfl, fun _ _ _ _ h => h, trivial, fun k hk => memOf_base hk⟩
         ·have hb22 := nF' hb22
          replace h := bT hb22 h
          refine Tr.skip (toN ?_)
          refine Tr.cutB (fun (x32 : Bool) => ⟨look [(1, .ptr (Γ.n0 + 1) 0), (5, .d (.int .i64 i10)), (104, .d (.bool x32))], memOf Γ.n0 (bxs [(1, [.d (.lst 1 (List.map (eI .i64) a1.Alphabet)), .d (.int .i64 a1.States), .d (.lst 1 (List.map (eI .i64) a1.Marked)), .d (.lst 3 (List.map e_api_Edge a1.Edges))]), (6, [.d (.int .i64 x13.From), .d (.int .i64 x13.Event), .d (.int .i64 x13.To)])]) M, Γ.n0 + 105⟩) h (fun z h => ?_) (fun z h => ?_)
          ·refine Tr.rgnD (by decide) ?_
           refine md rfl (Rn.bin trivial rfl rfl rfl (md rfl ?_))
           refine bsplit (decide (i10 > 0)) (fun hb23 => ?_) (fun hb23 => ?_)
           ·replace h := ifT hb23 h
            refine Rn.fldP (o' := 0) (gw rfl hb23) rfl rfl (Rn.load (v := .d (.int .i64 x13.From)) (gw rfl hb23) rfl (boxOwn rfl) rfl rfl (Rn.fldP (o' := 3) (gw rfl hb23) rfl rfl (Rn.load (v := .d (.lst 3 (List.map e_api_Edge a1.Edges))) (gw rfl hb23) rfl (boxOwn rfl) rfl rfl (Rn.movD (gw rfl hb23) rfl (Rn.bin (gw rfl hb23) rfl rfl rfl ?_)))))
            obtain ⟨x24, h25, h⟩ := bnd h
            refine Rn.idxD (e := e_api_Edge) (gw rfl hb23) rfl rfl h25 (Rn.fldC (gw rfl hb23) rfl (Rn.loadC (x := .int .i64 x24.From) (gw rfl hb23) rfl (Rn.bin (gw rfl hb23) rfl rfl rfl (Rn.movD (gw rfl hb23) rfl ?_))))
            refine bsplit (decide (x13.From < x24.From)) (fun hb26 => ?_) (fun hb26 => ?_)
            ·replace h := ifT hb26 h
             refine Rn.sk (nw rfl hb26) (Rn.sk (nw rfl hb26) (Rn.sk (nw rfl hb26) (Rn.sk (nw rfl hb26) (Rn.sk (nw rfl hb26) (Rn.sk (nw rfl hb26) (Rn.sk (nw rfl hb26) (Rn.sk (nw rfl hb26) (Rn.sk (nw rfl hb26) (Rn.sk (nw rfl hb26) (Rn.sk (nw rfl hb26) (Rn.sk (nu rfl) (Rn.sk (nu rfl) (Rn.sk (nu rfl) (Rn.sk (nu rfl) (Rn.sk (nu rfl) (Rn.sk (nu rfl) (Rn.sk (nu rfl) (Rn.sk (nu rfl) (Rn.sk (nu rfl) (Rn.sk (nu rfl) (Rn.sk (nw rfl hb26) (Rn.pickT (v := .d (.bool true)) (gw rfl hb23) rfl hb26 rfl (Rn.pickT (v := .d (.bool true)) trivial rfl hb23 rfl ?_)))))))))))))))))))))))
             refine Rn.nil ⟨rfl, ?_⟩
             replace h := si h; subst h
             show WeakSt Γ _ ⟨look _, memOf _ (bxs _) _, _⟩; exact weak_cut [] ⟨(kPtr rfl), ⟨(.same rfl), ⟨(.same rfl), trivial⟩⟩⟩ ⟨⟨_, rfl, rfl, (.same rfl)⟩, ⟨⟨_, rfl, rfl, (.same rfl)⟩, trivial⟩⟩ rfl
            ·replace h := ifF hb26 h
             refine Rn.fldP (o' := 0) (gw rfl hb26) rfl rfl (Rn.load (v := .d (.int .i64 x13.From)) (gw rfl hb26) rfl (boxOwn rfl) rfl rfl (Rn.fldP (o' := 3) (gw rfl hb26) rfl rfl (Rn.load (v := .d (.lst 3 (List.map e_api_Edge a1.Edges))) (gw rfl hb26) rfl (boxOwn rfl) rfl rfl (Rn.movD (gw rfl hb26) rfl (Rn.bin (gw rfl hb26) rfl rfl rfl ?_)))))
             obtain ⟨x27, h28, h⟩ := bnd h
             refine Rn.idxD (e := e_api_Edge) (gw rfl hb26) rfl rfl h28 (Rn.fldC (gw rfl hb26) rfl (Rn.loadC (x := .int .i64 x27.From) (gw rfl hb26) rfl (Rn.bin (gw rfl hb26) rfl rfl rfl (Rn.movD (gw rfl hb26) rfl ?_))))
             refine bsplit (x13.From == x27.From) (fun hb29 => ?_) (fun hb29 => ?_)
             ·replace h := bT hb29 h
              refine Rn.fldP (o' := 1) (gw rfl hb29) rfl rfl (Rn.load (v := .d (.int .i64 x13.Event)) (gw rfl hb29) rfl (boxOwn rfl) rfl rfl (Rn.fldP (o' := 3) (gw rfl hb29) rfl rfl (Rn.load (v := .d (.lst 3 (List.map e_api_Edge a1.Edges))) (gw rfl hb29) rfl (boxOwn rfl) rfl rfl (Rn.movD (gw rfl hb29) rfl (Rn.bin (gw rfl hb29) rfl rfl rfl ?_)))))
              obtain ⟨x30, h31, h⟩ := bnd h
              refine Rn.idxD (e := e_api_Edge) (gw rfl hb29) rfl rfl h31 (Rn.fldC (gw rfl hb29) rfl (Rn.loadC (x := .int .i64 x30.Event) (gw rfl hb29) rfl (Rn.bin (gw rfl hb29) rfl rfl rfl (Rn.pickT (v := .d (.bool (decide (x13.Event ≤ x30.Event)))) (gw rfl hb26) rfl hb29 rfl (Rn.pickF (v := .d (.bool (decide (x13.Event ≤ x30.Event)))) (gw rfl hb23) rfl hb26 rfl (Rn.pickT (v := .d (.bool (decide (x13.Event ≤ x30.Event)))) trivial rfl hb23 rfl ?_))))))
              refine Rn.nil ⟨rfl, ?_⟩
              replace h := si h; subst h
              show WeakSt Γ _ ⟨look _, memOf _ (bxs _) _, _⟩; exact weak_cut [] ⟨(kPtr rfl), ⟨(.same rfl), ⟨(.same rfl), trivial⟩⟩⟩ ⟨⟨_, rfl, rfl, (.same rfl)⟩, ⟨⟨_, rfl, rfl, (.same rfl)⟩, trivial⟩⟩ rfl
             ·replace h := bF hb29 h
              refine Rn.sk (nw rfl hb29) (Rn.sk (nw rfl hb29) (Rn.sk (nw rfl hb29) (Rn.sk (nw rfl hb29) (Rn.sk (nw rfl hb29) (Rn.sk (nw rfl hb29) (Rn.sk (nw rfl hb29) (Rn.sk (nw rfl hb29) (Rn.sk (nw rfl hb29) (Rn.sk (nw rfl hb29) (Rn.pickF (v := .d (.bool false)) (gw rfl hb26) rfl hb29 rfl (Rn.pickF (v := .d (.bool false)) (gw rfl hb23) rfl hb26 rfl (Rn.pickT (v := .d (.bool false)) trivial rfl hb23 rfl ?_))))))))))))
              refine Rn.nil ⟨rfl, ?_⟩
              replace h := si h; subst h
              show WeakSt Γ _ ⟨look _, memOf _ (bxs _) _, _⟩; exact weak_cut [] ⟨(kPtr rfl), ⟨(.same rfl), ⟨(.same rfl), trivial⟩⟩⟩ ⟨⟨_, rfl, rfl, (.same rfl)⟩, ⟨⟨_, rfl, rfl, (.same rfl)⟩, trivial⟩⟩ rfl
           ·replace h := ifF hb23 h
            refine Rn.sk (nw rfl hb23) (Rn.sk (nw rfl hb23) (Rn.sk (nw rfl hb23) (Rn.sk (nw rfl hb23) (Rn.sk (nw rfl hb23) (Rn.sk (nw rfl hb23) (Rn.sk (nw rfl hb23) (Rn.sk (nw rfl hb23) (Rn.sk (nw rfl hb23) (Rn.sk (nw rfl hb23) (Rn.sk (nw rfl hb23) (Rn.sk (nu rfl) (Rn.sk (nu rfl) (Rn.sk (nu rfl) (Rn.sk (nu rfl) (Rn.sk (nu rfl) (Rn.sk (nu rfl) (Rn.sk (nu rfl) (Rn.sk (nu rfl) (Rn.sk (nu rfl) (Rn.sk (nu rfl) (Rn.sk (nu rfl) (Rn.sk (nu rfl) (Rn.sk (nu rfl) (Rn.sk (nu rfl) (Rn.sk (nu rfl) (Rn.sk (nu rfl) (Rn.sk (nu rfl) (Rn.sk (nu rfl) (Rn.sk (nu rfl) (Rn.sk (nu rfl) (Rn.sk (nu rfl) (Rn.sk (nu rfl) (Rn.sk (nw rfl hb23) (Rn.pickF (v := .d (.bool false)) trivial rfl hb23 rfl ?_))))))))))))))))))))))))))))))))))
            refine Rn.nil ⟨rfl, ?_⟩
            replace h := si h; subst h
            show WeakSt Γ _ ⟨look _, memOf _ (bxs _) _, _⟩; exact weak_cut [] ⟨(kPtr rfl), ⟨(.same rfl), ⟨(.same rfl), trivial⟩⟩⟩ ⟨⟨_, rfl, rfl, (.same rfl)⟩, ⟨⟨_, rfl, rfl, (.same rfl)⟩, trivial⟩⟩ rfl
          ·obtain ⟨x32, rfl⟩ : ∃ x, x = z := ⟨_, rfl⟩
           refine Tr.cond rfl (fun hb33 => ?_) (fun hb33 => ?_)
           ·replace h := bT hb33 h
            refine sr ((md rfl (nt ((Tr.ret ?_)))))
            replace h := si h; subst h
            exact ⟨.inr rfl, (.d (.int .i64 5)), rfl, fun _ _ _ _ h => h, trivial, fun k hk => memOf_base hk⟩
           ·replace h := bF hb33 h
            refine Tr.skip (toN (Tr.rgn (md rfl (Rn.bin trivial rfl rfl rfl (md rfl (Rn.nil ?_))))))
            exact ⟨_, h, (by show WeakSt Γ (clean _ _ _) ⟨look _, memOf _ (bxs _) _, _⟩; exact weak_clean ⟨(kPtr rfl), ⟨(.same rfl), trivial⟩⟩ ⟨⟨_, rfl, rfl, (.same rfl)⟩, trivial⟩ rfl)⟩
      ·replace h := ifF hb12 h
       refine Tr.exit (toN (sr ((md rfl (nt ((Tr.ret ?_)))))))
       replace h := si h; subst h
       exact ⟨.inr rfl, (.d (.int .i64 0)), rfl, fun _ _ _ _ h => h, trivial, fun k hk => memOf_base hk⟩
theorem automaton_reached_walk {P : Program} {c : Nat} {f_automaton_follow : api_Automaton → Int → (List Int) → Option (Int × Int)}
    (H_automaton_follow : K_automaton_follow P 66 f_automaton_follow) (hcf : compFn P c = some F_automaton_reached) : K_automaton_reached P c (f_automaton_reached f_automaton_follow) := by
 intro a1 word2 r h
 refine fn_trP hcf rfl fun Γ M hP hnt hM => ?_
 subst hP
 refine Tr.init [(0, .agg [.d (.lst 1 (List.map (eI .i64) a1.Alphabet)), .d (.int .i64 a1.States), .d (.lst 1 (List.map (eI .i64) a1.Marked)), .d (.lst 3 (List.map e_api_Edge a1.Edges))]), (1, .d (.lst 1 (List.map (eI .i64) word2)))] rfl ?_
 unfold f_automaton_reached at h
 unfold F_automaton_reached
 refine sr ((Rn.box (v := .agg [.d (.lst 1 (List.map (eI .i64) a1.Alphabet)), .d (.int .i64 a1.States), .d (.lst 1 (List.map (eI .i64) a1.Marked)), .d (.lst 3 (List.map e_api_Edge a1.Edges))]) (cs := [.d (.lst 1 (List.map (eI .i64) a1.Alphabet)), .d (.int .i64 a1.States), .d (.lst 1 (List.map (eI .i64) a1.Marked)), .d (.lst 3 (List.map e_api_Edge a1.Edges))]) trivial rfl rfl rfl rfl rfl (md rfl (md rfl (nt ((Tr.seq (sr ((Rn.fldP (o' := 1) trivial rfl rfl (Rn.load (v := .d (.int .i64 a1.States)) trivial rfl (boxOwn rfl) rfl rfl (Rn.bin trivial rfl rfl rfl (Rn.nil (toN ?_))))))))))))))
 refine Tr.cond rfl (fun hb3 => ?_) (fun hb3 => ?_)
 ·replace h := bT hb3 h
  refine sr ((md rfl (md rfl (nt ((Tr.ret ?_))))))
  replace h := si h; subst h
  exact ⟨.inr rfl, .tup [.d (.int .i64 0), .d (.bool false)], res2 rfl rfl, (WkV.tup (.cons (.same rfl) (.cons (.same rfl) .nil))).rd, ⟨trivial, trivial, trivial⟩, fun k hk => memOf_base hk⟩
 ·replace h := bF hb3 h
  refine Tr.skip (toN (sr ((Rn.load (v := .agg [.d (.lst 1 (List.map (eI .i64) a1.Alphabet)), .d (.int .i64 a1.States), .d (.lst 1 (List.map (eI .i64) a1.Marked)), .d (.lst 3 (List.map e_api_Edge a1.Edges))]) trivial rfl (boxOwn rfl) rfl rfl (md rfl ?_)))))
  obtain ⟨⟨r5, r6⟩, h4, h⟩ := bnd h
  refine Rn.call (args := [.agg [.d (.lst 1 (List.map (eI .i64) a1.Alphabet)), .d (.int .i64 a1.States), .d (.lst 1 (List.map (eI .i64) a1.Marked)), .d (.lst 3 (List.map e_api_Edge a1.Edges))], .d (.int .i64 0), .d (.lst 1 (List.map (eI .i64) word2))]) trivial rfl (H_automaton_follow _ _ _ _ h4) pc9 (Rn.mov (v := .tup [.d (.int .i64 r5), .d (.int .i64 r6)]) trivial rfl (Rn.ext (v := .d (.int .i64 r5)) (vs := [.d (.int .i64 r5), .d (.int .i64 r6)]) trivial rfl rfl rfl (Rn.ext (v := .d (.int .i64 r6)) (vs := [.d (.int .i64 r5), .d (.int .i64 r6)]) trivial rfl rfl rfl (md rfl (md rfl (nt ((sr ((md rfl (md rfl (md rfl (Rn.lenD trivial rfl (Rn.bin trivial rfl rfl rfl (md rfl (md rfl (nt ((Tr.ret ?_)))))))))))))))))))
  replace h := si h; subst h
  exact ⟨.inr rfl, .tup [.d (.int .i64 r5), .d (.bool (r6 == (word2.length : Int)))], res2 rfl rfl, (WkV.tup (.cons (.same rfl) (.cons (.same rfl) .nil))).rd, ⟨trivial, trivial, trivial⟩, fun k hk => memOf_base hk⟩
theorem automaton_Generates_walk {P : Program} {c : Nat} {f_automaton_Check : api_Automaton → Option Int} {f_automaton_reached : api_Automaton → (List Int) → Option (Int × Bool)}
    (H_automaton_Check : K_automaton_Check P 45 f_automaton_Check)
    (H_automaton_reached : K_automaton_reached P 62 f_automaton_reached) (hcf : compFn P c = some F_automaton_Generates) : K_automaton_Generates P c (f_automaton_Generates f_automaton_Check f_automaton_reached) := by
 intro a1 word2 r h
 refine fn_trP hcf rfl fun Γ M hP hnt hM => ?_
 subst hP
 refine Tr.init [(0, .agg [.d (.lst 1 (List.map (eI .i64) a1.Alphabet)), .d (.int .i64 a1.States), .d (.lst 1 (List.map (eI .i64) a1.Marked)), .d (.lst 3 (List.map e_api_Edge a1.Edges))]), (1, .d (.lst 1 (List.map (eI .i64) word2)))] rfl ?_
 unfold f_automaton_Generates at h
 unfold F_automaton_Generates
 refine sr ((Rn.box (v := .agg [.d (.lst 1 (List.map (eI .i64) a1.Alphabet)), .d (.int .i64 a1.States), .d (.lst 1 (List.map (eI .i64) a1.Marked)), .d (.lst 3 (List.map e_api_Edge a1.Edges))]) (cs := [.d (.lst 1 (List.map (eI .i64) a1.Alphabet)), .d (.int .i64 a1.States), .d (.lst 1 (List.map (eI .i64) a1.Marked)), .d (.lst 3 (List.map e_api_Edge a1.Edges))]) trivial rfl rfl rfl rfl rfl (md rfl (md rfl (nt ((Tr.seq (sr ((Rn.load (v := .agg [.d (.lst 1 (List.map (eI .i64) a1.Alphabet)), .d (.int .i64 a1.States), .d (.lst 1 (List.map (eI .i64) a1.Marked)), .d (.lst 3 (List.map e_api_Edge a1.Edges))]) trivial rfl (boxOwn rfl) rfl rfl ?_))))))))))
 obtain ⟨x4, h3, h⟩ := bnd h
 refine Rn.call (args := [.agg [.d (.lst 1 (List.map (eI .i64) a1.Alphabet)), .d (.int .i64 a1.States), .d (.lst 1 (List.map (eI .i64) a1.Marked)), .d (.lst 3 (List.map e_api_Edge a1.Edges))]]) trivial rfl (H_automaton_Check _ _ h3) pc9 (md rfl (nt ((sr ((md rfl (Rn.bin trivial rfl rfl rfl (Rn.nil (toN ?_)))))))))
 refine Tr.cond rfl (fun hb5 => ?_) (fun hb5 => ?_)
 ·replace h := bT hb5 h
  refine sr ((md rfl (md rfl (md rfl (nt ((Tr.ret ?_)))))))
  replace h := si h; subst h
  exact ⟨.inr rfl, .tup [.d (.bool false), .d (.int .i64 x4)], res2 rfl rfl, (WkV.tup (.cons (.same rfl) (.cons (.same rfl) .nil))).rd, ⟨trivial, trivial, trivial⟩, fun k hk => memOf_base hk⟩
 ·replace h := bF hb5 h
  refine Tr.skip (toN (sr ((Rn.load (v := .agg [.d (.lst 1 (List.map (eI .i64) a1.Alphabet)), .d (.int .i64 a1.States), .d (.lst 1 (List.map (eI .i64) a1.Marked)), .d (.lst 3 (List.map e_api_Edge a1.Edges))]) trivial rfl (boxOwn rfl) rfl rfl (md rfl ?_)))))
  obtain ⟨⟨r7, r8⟩, h6, h⟩ := bnd h
  refine Rn.call (args := [.agg [.d (.lst 1 (List.map (eI .i64) a1.Alphabet)), .d (.int .i64 a1.States), .d (.lst 1 (List.map (eI .i64) a1.Marked)), .d (.lst 3 (List.map e_api_Edge a1.Edges))], .d (.lst 1 (List.map (eI .i64) word2))]) trivial rfl (H_automaton_reached _ _ _ h6) pc9 (Rn.mov (v := .tup [.d (.int .i64 r7), .d (.bool r8)]) trivial rfl (Rn.ext (v := .d (.int .i64 r7)) (vs := [.d (.int .i64 r7), .d (.bool r8)]) trivial rfl rfl rfl (Rn.ext (v := .d (.bool r8)) (vs := [.d (.int .i64 r7), .d (.bool r8)]) trivial rfl rfl rfl (md rfl (md rfl (nt ((sr ((md rfl (md rfl (md rfl (nt ((Tr.ret ?_)))))))))))))))
  replace h := si h; subst h
  exact ⟨.inr rfl, .tup [.d (.bool r8), .d (.int .i64 0)], res2 rfl rfl, (WkV.tup (.cons (.same rfl) (.cons (.same rfl) .nil))).rd, ⟨trivial, trivial, trivial⟩, fun k hk => memOf_base hk⟩
theorem automaton_Accepts_walk {P : Program} {c : Nat} {f_automaton_Check : api_Automaton → Option Int} {f_slices_Contains_int : (List Int) → Int → Option Bool} {f_automaton_reached : api_Automaton → (List Int) → Option (Int × Bool)}
    (H_automaton_Check : K_automaton_Check P 45 f_automaton_Check)
    (H_slices_Contains_int : K_slices_Contains_int P 50 f_slices_Contains_int)
    (H_automaton_reached : K_automaton_reached P 62 f_automaton_reached) (hcf : compFn P c = some F_automaton_Accepts) : K_automaton_Accepts P c (f_automaton_Accepts f_automaton_Check f_slices_Contains_int f_automaton_reached) := by
 intro a1 word2 r h
 refine fn_trP hcf rfl fun Γ M hP hnt hM => ?_
 subst hP
 refine Tr.init [(0, .agg [.d (.lst 1 (List.map (eI .i64) a1.Alphabet)), .d (.int .i64 a1.States), .d (.lst 1 (List.map (eI .i64) a1.Marked)), .d (.lst 3 (List.map e_api_Edge a1.Edges))]), (1, .d (.lst 1 (List.map (eI .i64) word2)))] rfl ?_
 unfold f_automaton_Accepts at h
 unfold F_automaton_Accepts
 refine sr ((Rn.box (v := .agg [.d (.lst 1 (List.map (eI .i64) a1.Alphabet)), .d (.int .i64 a1.States), .d (.lst 1 (List.map (eI .i64) a1.Marked)), .d (.lst 3 (List.map e_api_Edge a1.Edges))]) (cs := [.d (.lst 1 (List.map (eI .i64) a1.Alphabet)), .d (.int .i64 a1.States), .d (.lst 1 (List.map (eI .i64) a1.Marked)), .d (.lst 3 (List.map e_api_Edge a1.Edges))]) trivial rfl rfl rfl rfl rfl (md rfl (md rfl (nt ((Tr.seq (sr ((Rn.load (v := .agg [.d (.lst 1 (List.map (eI .i64) a1.Alphabet)), .d (.int .i64 a1.States), .d (.lst 1 (List.map (eI .i64) a1.Marked)), .d (.lst 3 (List.map e_api_Edge a1.Edges))]) trivial rfl (boxOwn rfl) rfl rfl ?_))))))))))
 obtain ⟨x4, h3, h⟩ := bnd h
 refine Rn.call (args := [.agg [.d (.lst 1 (List.map (eI .i64) a1.Alphabet)), .d (.int .i64 a1.States), .d (.lst 1 (List.map (eI .i64) a1.Marked)), .d (.lst 3 (List.map e_api_Edge a1.Edges))]]) trivial rfl (H_automaton_Check _ _ h3) pc9 (md rfl (nt ((sr ((md rfl (Rn.bin trivial rfl rfl rfl (Rn.nil (toN ?_)))))))))
 refine Tr.cond rfl (fun hb5 => ?_) (fun hb5 => ?_)
 ·replace h := bT hb5 h
  refine sr ((md rfl (md rfl (md rfl (nt ((Tr.ret ?_)))))))
  replace h := si h; subst h
  exact ⟨.inr rfl, .tup [.d (.bool false), .d (.int .i64 x4)], res2 rfl rfl, (WkV.tup (.cons (.same rfl) (.cons (.same rfl) .nil))).rd, ⟨trivial, trivial, trivial⟩, fun k hk => memOf_base hk⟩
 ·replace h := bF hb5 h
  refine Tr.skip (toN (sr ((Rn.load (v := .agg [.d (.lst 1 (List.map (eI .i64) a1.Alphabet)), .d (.int .i64 a1.States), .d (.lst 1 (List.map (eI .i64) a1.Marked)), .d (.lst 3 (List.map e_api_Edge a1.Edges))]) trivial rfl (boxOwn rfl) rfl rfl (md rfl ?_)))))
  obtain ⟨⟨r7, r8⟩, h6, h⟩ := bnd h
  refine Rn.call (args := [.agg [.d (.lst 1 (List.map (eI .i64) a1.Alphabet)), .d (.int .i64 a1.States), .d (.lst 1 (List.map (eI .i64) a1.Marked)), .d (.lst 3 (List.map e_api_Edge a1.Edges))], .d (.lst 1 (List.map (eI .i64) word2))]) trivial rfl (H_automaton_reached _ _ _ h6) pc9 (Rn.mov (v := .tup [.d (.int .i64 r7), .d (.bool r8)]) trivial rfl (Rn.ext (v := .d (.int .i64 r7)) (vs := [.d (.int .i64 r7), .d (.bool r8)]) trivial rfl rfl rfl (Rn.ext (v := .d (.bool r8)) (vs := [.d (.int .i64 r7), .d (.bool r8)]) trivial rfl rfl rfl (md rfl (md rfl (nt ((sr ((md rfl (md rfl ?_)))))))))))
  refine bsplit r8 (fun hb9 => ?_) (fun hb9 => ?_)
  ·replace h := bT hb9 h
   refine Rn.fldP (o' := 2) (gw rfl hb9) rfl rfl (Rn.load (v := .d (.lst 1 (List.map (eI .i64) a1.Marked))) (gw rfl hb9) rfl (boxOwn rfl) rfl rfl (Rn.movD (gw rfl hb9) rfl ?_))
   obtain ⟨x11, h10, h⟩ := bnd h
   refine Rn.call (args := [.d (.lst 1 (List.map (eI .i64) a1.Marked)), .d (.int .i64 r7)]) (gw rfl hb9) rfl (H_slices_Contains_int _ _ _ h10) pc9 (Rn.pickT (v := .d (.bool x11)) trivial rfl hb9 rfl (md rfl (md rfl (nt ((Tr.ret ?_))))))
   replace h := si h; subst h
   exact ⟨.inr rfl, .tup [.d (.bool x11), .d (.int .i64 0)], res2 rfl rfl, (WkV.tup (.cons (.same rfl) (.cons (.same rfl) .nil))).rd, ⟨trivial, trivial, trivial⟩, fun k hk => memOf_base hk⟩
  ·replace h := bF hb9 h
   refine Rn.sk (nw rfl hb9) (Rn.sk (nw rfl hb9) (Rn.sk (nw rfl hb9) (Rn.sk (nw rfl hb9) (Rn.pickF (v := .d (.bool false)) trivial rfl hb9 rfl (md rfl (md rfl (nt ((Tr.ret ?_)))))))))
   replace h := si h; subst h
   exact ⟨.inr rfl, .tup [.d (.bool false), .d (.int .i64 0)], res2 rfl rfl, (WkV.tup (.cons (.same rfl) (.cons (.same rfl) .nil))).rd, ⟨trivial, trivial, trivial⟩, fun k hk => memOf_base hk⟩
theorem overseerlaw03_AutomatonLanguages_walk {P : Program} {c : Nat} {f_overseerlaw03_known : Option Bool} {f_overseerlaw03_few : api_Automaton → Option Bool} {f_overseerref03_Check : api_Automaton → Option Int} {f_automaton_Canonical : api_Automaton → Option (api_Automaton × Int)} {f_automaton_Generates : api_Automaton → (List Int) → Option (Bool × Int)} {f_automaton_Accepts : api_Automaton → (List Int) → Option (Bool × Int)}
    (H_overseerlaw03_known : K_overseerlaw03_known P 13 f_overseerlaw03_known)
    (H_overseerlaw03_few : K_overseerlaw03_few P 25 f_overseerlaw03_few)
    (H_overseerref03_Check : K_overseerref03_Check P 27 f_overseerref03_Check)
    (H_automaton_Canonical : K_automaton_Canonical P 29 f_automaton_Canonical)
    (H_automaton_Generates : K_automaton_Generates P 31 f_automaton_Generates)
    (H_automaton_Accepts : K_automaton_Accepts P 32 f_automaton_Accepts) (hcf : compFn P c = some F_overseerlaw03_AutomatonLanguages) (fuel : Nat) : K_overseerlaw03_AutomatonLanguages P c (f_overseerlaw03_AutomatonLanguages f_overseerlaw03_known f_overseerlaw03_few f_overseerref03_Check f_automaton_Canonical f_automaton_Generates f_automaton_Accepts fuel) := by
 intro a1 word2 r h
 refine fn_trP hcf rfl fun Γ M hP hnt hM => ?_
 subst hP
 refine Tr.init [(0, .agg [.d (.lst 1 (List.map (eI .i64) a1.Alphabet)), .d (.int .i64 a1.States), .d (.lst 1 (List.map (eI .i64) a1.Marked)), .d (.lst 3 (List.map e_api_Edge a1.Edges))]), (1, .d (.lst 1 (List.map (eI .i64) word2)))] rfl ?_
 unfold f_overseerlaw03_AutomatonLanguages at h
 unfold F_overseerlaw03_AutomatonLanguages
 refine sr ((Rn.box (v := .agg [.d (.lst 1 (List.map (eI .i64) a1.Alphabet)), .d (.int .i64 a1.States), .d (.lst 1 (List.map (eI .i64) a1.Marked)), .d (.lst 3 (List.map e_api_Edge a1.Edges))]) (cs := [.d (.lst 1 (List.map (eI .i64) a1.Alphabet)), .d (.int .i64 a1.States), .d (.lst 1 (List.map (eI .i64) a1.Marked)), .d (.lst 3 (List.map e_api_Edge a1.Edges))]) trivial rfl rfl rfl rfl rfl (md rfl (nt ((Tr.seq ?_))))))
 refine Tr.cutB (fun (x13 : Bool) => ⟨look [(1, .d (.lst 1 (List.map (eI .i64) word2))), (2, .ptr (Γ.n0 + 2) 0), (39, .d (.bool x13))], memOf Γ.n0 (bxs [(2, [.d (.lst 1 (List.map (eI .i64) a1.Alphabet)), .d (.int .i64 a1.States), .d (.lst 1 (List.map (eI .i64) a1.Marked)), .d (.lst 3 (List.map e_api_Edge a1.Edges))])]) M, Γ.n0 + 142⟩) h (fun z h => ?_) (fun z h => ?_)
 ·refine Tr.rgn ?_
  obtain ⟨x4, h3, h⟩ := bnd h
  refine Rn.call (args := []) trivial rfl (H_overseerlaw03_known _ h3) pc9 (Rn.un trivial rfl rfl (md rfl ?_))
  refine bsplit x4 (fun hb5 => ?_) (fun hb5 => ?_)
  ·replace h := bT hb5 h
   refine Rn.load (v := .agg [.d (.lst 1 (List.map (eI .i64) a1.Alphabet)), .d (.int .i64 a1.States), .d (.lst 1 (List.map (eI .i64) a1.Marked)), .d (.lst 3 (List.map e_api_Edge a1.Edges))]) (gw rfl (nT hb5)) rfl (boxOwn rfl) rfl rfl ?_
   obtain ⟨x7, h6, h⟩ := bnd h
   refine Rn.call (args := [.agg [.d (.lst 1 (List.map (eI .i64) a1.Alphabet)), .d (.int .i64 a1.States), .d (.lst 1 (List.map (eI .i64) a1.Marked)), .d (.lst 3 (List.map e_api_Edge a1.Edges))]]) (gw rfl (nT hb5)) rfl (H_overseerlaw03_few _ _ h6) pc9 (Rn.un (gw rfl (nT hb5)) rfl rfl (Rn.pickF (v := .d (.bool (!x7))) trivial rfl (nT hb5) rfl (md rfl ?_)))
   refine bsplit x7 (fun hb8 => ?_) (fun hb8 => ?_)
   ·replace h := bT hb8 h
    refine Rn.fldP (o' := 1) (gw rfl (nT hb8)) rfl rfl (Rn.load (v := .d (.int .i64 a1.States)) (gw rfl (nT hb8)) rfl (boxOwn rfl) rfl rfl (Rn.bin (gw rfl (nT hb8)) rfl rfl rfl (Rn.pickF (v := .d (.bool (decide (a1.States > 64)))) trivial rfl (nT hb8) rfl (md rfl ?_))))
    refine bsplit (decide (a1.States > 64)) (fun hb9 => ?_) (fun hb9 => ?_)
    ·replace h := ifT hb9 h
     refine Rn.sk (nw rfl hb9) (Rn.sk (nw rfl hb9) (Rn.sk (nw rfl hb9) (Rn.pickT (v := .d (.bool true)) trivial rfl hb9 rfl (md rfl (Rn.sk (nw (b := true) rfl rfl) (Rn.sk (nw (b := true) rfl rfl) (Rn.sk (nw (b := true) rfl rfl) (Rn.pickT (v := .d (.bool true)) trivial rfl rfl rfl (Rn.nil ?_)))))))))
     replace h := si h; subst h
     show WeakSt Γ _ ⟨look _, memOf _ (bxs _) _, _⟩; exact weak_cut [] ⟨(.same rfl), ⟨(kPtr rfl), ⟨(.same rfl), trivial⟩⟩⟩ ⟨⟨_, rfl, rfl, (.same rfl)⟩, trivial⟩ rfl
    ·replace h := ifF hb9 h
     refine Rn.load (v := .agg [.d (.lst 1 (List.map (eI .i64) a1.Alphabet)), .d (.int .i64 a1.States), .d (.lst 1 (List.map (eI .i64) a1.Marked)), .d (.lst 3 (List.map e_api_Edge a1.Edges))]) (gw rfl hb9) rfl (boxOwn rfl) rfl rfl ?_
     obtain ⟨x11, h10, h⟩ := bnd h
     refine Rn.call (args := [.agg [.d (.lst 1 (List.map (eI .i64) a1.Alphabet)), .d (.int .i64 a1.States), .d (.lst 1 (List.map (eI .i64) a1.Marked)), .d (.lst 3 (List.map e_api_Edge a1.Edges))]]) (gw rfl hb9) rfl (H_overseerref03_Check _ _ h10) pc9 (Rn.bin (gw rfl hb9) rfl rfl rfl (Rn.pickF (v := .d (.bool (x11 != 0))) trivial rfl hb9 rfl (md rfl ?_)))
     refine bsplit (x11 != 0) (fun hb12 => ?_) (fun hb12 => ?_)
     ·replace h := bT hb12 h
      refine Rn.sk (nw rfl hb12) (Rn.sk (nw rfl hb12) (Rn.sk (nw rfl hb12) (Rn.pickT (v := .d (.bool true)) trivial rfl hb12 rfl (Rn.nil ?_))))
      replace h := si h; subst h
      show WeakSt Γ _ ⟨look _, memOf _ (bxs _) _, _⟩; exact weak_cut [] ⟨(.same rfl), ⟨(kPtr rfl), ⟨(.same rfl), trivial⟩⟩⟩ ⟨⟨_, rfl, rfl, (.same rfl)⟩, trivial⟩ rfl
     ·replace h := bF hb12 h
      refine Rn.movD (gw rfl hb12) rfl (Rn.lenD (gw rfl hb12) rfl (Rn.bin (gw rfl hb12) rfl rfl rfl (Rn.pickF (v := .d (.bool (decide ((word2.length : Int) > 8)))) trivial rfl hb12 rfl (Rn.nil ?_))))
      replace h := si h; subst h
      show WeakSt Γ _ ⟨look _, memOf _ (bxs _) _, _⟩; exact weak_cut [] ⟨(.same rfl), ⟨(kPtr rfl), ⟨(.same rfl), trivial⟩⟩⟩ ⟨⟨_, rfl, rfl, (.same rfl)⟩, trivial⟩ rfl
   ·replace h := bF hb8 h
    refine Rn.sk (nw rfl (nF hb8)) (Rn.sk (nw rfl (nF hb8)) (Rn.sk (nw rfl (nF hb8)) (Rn.pickT (v := .d (.bool true)) trivial rfl (nF hb8) rfl (md rfl (Rn.sk (nw (b := true) rfl rfl) (Rn.sk (nw (b := true) rfl rfl) (Rn.sk (nw (b := true) rfl rfl) (Rn.pickT (v := .d (.bool true)) trivial rfl rfl rfl (md rfl (Rn.sk (nw (b := true) rfl rfl) (Rn.sk (nw (b := true) rfl rfl) (Rn.sk (nw (b := true) rfl rfl) (Rn.pickT (v := .d (.bool true)) trivial rfl rfl rfl (Rn.nil ?_))))))))))))))
    replace h := si h; subst h
    show WeakSt Γ _ ⟨look _, memOf _ (bxs _) _, _⟩; exact weak_cut [] ⟨(.same rfl), ⟨(kPtr rfl), ⟨(.same rfl), trivial⟩⟩⟩ ⟨⟨_, rfl, rfl, (.same rfl)⟩, trivial⟩ rfl
  ·replace h := bF hb5 h
   refine Rn.sk (nw rfl (nF hb5)) (Rn.sk (nw rfl (nF hb5)) (Rn.sk (nw rfl (nF hb5)) (Rn.pickT (v := .d (.bool true)) trivial rfl (nF hb5) rfl (md rfl (Rn.sk (nw (b := true) rfl rfl) (Rn.sk (nw (b := true) rfl rfl) (Rn.sk (nw (b := true) rfl rfl) (Rn.pickT (v := .d (.bool true)) trivial rfl rfl rfl (md rfl (Rn.sk (nw (b := true) rfl rfl) (Rn.sk (nw (b := true) rfl rfl) (Rn.sk (nw (b := true) rfl rfl) (Rn.pickT (v := .d (.bool true)) trivial rfl rfl rfl (md rfl (Rn.sk (nw (b := true) rfl rfl) (Rn.sk (nw (b := true) rfl rfl) (Rn.sk (nw (b := true) rfl rfl) (Rn.pickT (v := .d (.bool true)) trivial rfl rfl rfl (Rn.nil ?_)))))))))))))))))))
   replace h := si h; subst h
   show WeakSt Γ _ ⟨look _, memOf _ (bxs _) _, _⟩; exact weak_cut [] ⟨(.same rfl), ⟨(kPtr rfl), ⟨(.same rfl), trivial⟩⟩⟩ ⟨⟨_, rfl, rfl, (.same rfl)⟩, trivial⟩ rfl
 ·obtain ⟨x13, rfl⟩ : ∃ x, x = z := ⟨_, rfl⟩
  refine Tr.cond rfl (fun hb14 => ?_) (fun hb14 => ?_)
  ·replace h := bT hb14 h
   refine Tr.seq (Tr.rgn ?_)
   obtain ⟨x16, h15, h⟩ := bnd h
   refine Rn.call (args := []) trivial rfl (H_overseerlaw03_known _ h15) pc9 (md rfl (nt ((Tr.ret ?_))))
   replace h := si h; subst h
   exact ⟨.inr rfl, (.d (.bool x16)), rfl, fun _ _ _ _ h => h, trivial, fun k hk => memOf_base hk⟩
  ·replace h := bF hb14 h
   refine Tr.skip (toN (sr ((Rn.load (v := .agg [.d (.lst 1 (List.map (eI .i64) a1.Alphabet)), .d (.int .i64 a1.States), .d (.lst 1 (List.map (eI .i64) a1.Marked)), .d (.lst 3 (List.map e_api_Edge a1.Edges))]) trivial rfl (boxOwn rfl) rfl rfl ?_))))
   obtain ⟨⟨r18, r19⟩, h17, h⟩ := bnd h
   refine Rn.call (args := [.agg [.d (.lst 1 (List.map (eI .i64) a1.Alphabet)), .d (.int .i64 a1.States), .d (.lst 1 (List.map (eI .i64) a1.Marked)), .d (.lst 3 (List.map e_api_Edge a1.Edges))]]) trivial rfl (H_automaton_Canonical _ _ h17) pc9 (Rn.mov (v := .tup [.agg [.d (.lst 1 (List.map (eI .i64) r18.Alphabet)), .d (.int .i64 r18.States), .d (.lst 1 (List.map (eI .i64) r18.Marked)), .d (.lst 3 (List.map e_api_Edge r18.Edges))], .d (.int .i64 r19)]) trivial rfl (Rn.ext (v := .agg [.d (.lst 1 (List.map (eI .i64) r18.Alphabet)), .d (.int .i64 r18.States), .d (.lst 1 (List.map (eI .i64) r18.Marked)), .d (.lst 3 (List.map e_api_Edge r18.Edges))]) (vs := [.agg [.d (.lst 1 (List.map (eI .i64) r18.Alphabet)), .d (.int .i64 r18.States), .d (.lst 1 (List.map (eI .i64) r18.Marked)), .d (.lst 3 (List.map e_api_Edge r18.Edges))], .d (.int .i64 r19)]) trivial rfl rfl rfl (Rn.ext (v := .d (.int .i64 r19)) (vs := [.agg [.d (.lst 1 (List.map (eI .i64) r18.Alphabet)), .d (.int .i64 r18.States), .d (.lst 1 (List.map (eI .i64) r18.Marked)), .d (.lst 3 (List.map e_api_Edge r18.Edges))], .d (.int .i64 r19)]) trivial rfl rfl rfl (Rn.alloc trivial rfl (Rn.store (v := .agg [.d (.lst 1 (List.map (eI .i64) r18.Alphabet)), .d (.int .i64 r18.States), .d (.lst 1 (List.map (eI .i64) r18.Marked)), .d (.lst 3 (List.map e_api_Edge r18.Edges))]) (cs' := [.d (.lst 1 (List.map (eI .i64) r18.Alphabet)), .d (.int .i64 r18.States), .d (.lst 1 (List.map (eI .i64) r18.Marked)), .d (.lst 3 (List.map e_api_Edge r18.Edges))]) trivial rfl rfl rfl rfl rfl rfl (md rfl (nt ((Tr.seq ?_)))))))))
   refine Tr.cutB (fun (x22 : Bool) => ⟨look [(1, .d (.lst 1 (List.map (eI .i64) word2))), (2, .ptr (Γ.n0 + 2) 0), (5, .ptr (Γ.n0 + 5) 0), (63, .d (.bool x22))], memOf Γ.n0 (bxs [(2, [.d (.lst 1 (List.map (eI .i64) a1.Alphabet)), .d (.int .i64 a1.States), .d (.lst 1 (List.map (eI .i64) a1.Marked)), .d (.lst 3 (List.map e_api_Edge a1.Edges))]), (5, [.d (.lst 1 (List.map (eI .i64) r18.Alphabet)), .d (.int .i64 r18.States), .d (.lst 1 (List.map (eI .i64) r18.Marked)), .d (.lst 3 (List.map e_api_Edge r18.Edges))])]) M, Γ.n0 + 142⟩) h (fun z h => ?_) (fun z h => ?_)
   ·refine Tr.rgn (md rfl (Rn.bin trivial rfl rfl rfl (md rfl ?_)))
    refine bsplit (r19 != 0) (fun hb20 => ?_) (fun hb20 => ?_)
    ·replace h := bT hb20 h
     refine Rn.sk (nw rfl hb20) (Rn.sk (nw rfl hb20) (Rn.sk (nw rfl hb20) (Rn.sk (nw rfl hb20) (Rn.sk (nw rfl hb20) (Rn.pickT (v := .d (.bool true)) trivial rfl hb20 rfl (md rfl (Rn.sk (nw (b := true) rfl rfl) (Rn.sk (nw (b := true) rfl rfl) (Rn.sk (nw (b := true) rfl rfl) (Rn.sk (nw (b := true) rfl rfl) (Rn.sk (nw (b := true) rfl rfl) (Rn.sk (nw (b := true) rfl rfl) (Rn.sk (nw (b := true) rfl rfl) (Rn.pickT (v := .d (.bool true)) trivial rfl rfl rfl (Rn.nil ?_)))))))))))))))
     replace h := si h; subst h
     show WeakSt Γ _ ⟨look _, memOf _ (bxs _) _, _⟩; exact weak_cut [] ⟨(.same rfl), ⟨(kPtr rfl), ⟨(kPtr rfl), ⟨(.same rfl), trivial⟩⟩⟩⟩ ⟨⟨_, rfl, rfl, (.same rfl)⟩, ⟨⟨_, rfl, rfl, (.same rfl)⟩, trivial⟩⟩ rfl
    ·replace h := bF hb20 h
     refine Rn.fldP (o' := 1) (gw rfl hb20) rfl rfl (Rn.load (v := .d (.int .i64 r18.States)) (gw rfl hb20) rfl (boxOwn rfl) rfl rfl (Rn.fldP (o' := 1) (gw rfl hb20) rfl rfl (Rn.load (v := .d (.int .i64 a1.States)) (gw rfl hb20) rfl (boxOwn rfl) rfl rfl (Rn.bin (gw rfl hb20) rfl rfl rfl (Rn.pickF (v := .d (.bool (decide (r18.States > a1.States)))) trivial rfl hb20 rfl (md rfl ?_))))))
     refine bsplit (decide (r18.States > a1.States)) (fun hb21 => ?_) (fun hb21 => ?_)
     ·replace h := ifT hb21 h
      refine Rn.sk (nw rfl hb21) (Rn.sk (nw rfl hb21) (Rn.sk (nw rfl hb21) (Rn.sk (nw rfl hb21) (Rn.sk (nw rfl hb21) (Rn.sk (nw rfl hb21) (Rn.sk (nw rfl hb21) (Rn.pickT (v := .d (.bool true)) trivial rfl hb21 rfl (Rn.nil ?_))))))))
      replace h := si h; subst h
      show WeakSt Γ _ ⟨look _, memOf _ (bxs _) _, _⟩; exact weak_cut [] ⟨(.same rfl), ⟨(kPtr rfl), ⟨(kPtr rfl), ⟨(.same rfl), trivial⟩⟩⟩⟩ ⟨⟨_, rfl, rfl, (.same rfl)⟩, ⟨⟨_, rfl, rfl, (.same rfl)⟩, trivial⟩⟩ rfl
     ·replace h := ifF hb21 h
      refine Rn.fldP (o' := 3) (gw rfl hb21) rfl rfl (Rn.load (v := .d (.lst 3 (List.map e_api_Edge r18.Edges))) (gw rfl hb21) rfl (boxOwn rfl) rfl rfl (Rn.lenD (gw rfl hb21) rfl (Rn.fldP (o' := 3) (gw rfl hb21) rfl rfl (Rn.load (v := .d (.lst 3 (List.map e_api_Edge a1.Edges))) (gw rfl hb21) rfl (boxOwn rfl) rfl rfl (Rn.lenD (gw rfl hb21) rfl (Rn.bin (gw rfl hb21) rfl rfl rfl (Rn.pickF (v := .d (.bool (decide ((r18.Edges.length : Int) > (a1.Edges.length : Int))))) trivial rfl hb21 rfl (Rn.nil ?_))))))))
      replace h := si h; subst h
      show WeakSt Γ _ ⟨look _, memOf _ (bxs _) _, _⟩; exact weak_cut [] ⟨(.same rfl), ⟨(kPtr rfl), ⟨(kPtr rfl), ⟨(.same rfl), trivial⟩⟩⟩⟩ ⟨⟨_, rfl, rfl, (.same rfl)⟩, ⟨⟨_, rfl, rfl, (.same rfl)⟩, trivial⟩⟩ rfl
   ·obtain ⟨x22, rfl⟩ : ∃ x, x = z := ⟨_, rfl⟩
    refine Tr.cond rfl (fun hb23 => ?_) (fun hb23 => ?_)
    ·replace h := bT hb23 h
     refine sr ((md rfl (nt ((Tr.ret ?_)))))
     replace h := si h; subst h
     exact ⟨.inr rfl, (.d (.bool false)), rfl, fun _ _ _ _ h => h, trivial, fun k hk => memOf_base hk⟩
    ·replace h := bF hb23 h
     refine Tr.skip (toN (sr ((Rn.load (v := .agg [.d (.lst 1 (List.map (eI .i64) a1.Alphabet)), .d (.int .i64 a1.States), .d (.lst 1 (List.map (eI .i64) a1.Marked)), .d (.lst 3 (List.map e_api_Edge a1.Edges))]) trivial rfl (boxOwn rfl) rfl rfl (md rfl ?_)))))
     obtain ⟨⟨r25, r26⟩, h24, h⟩ := bnd h
     refine Rn.call (args := [.agg [.d (.lst 1 (List.map (eI .i64) a1.Alphabet)), .d (.int .i64 a1.States), .d (.lst 1 (List.map (eI .i64) a1.Marked)), .d (.lst 3 (List.map e_api_Edge a1.Edges))], .d (.lst 1 (List.map (eI .i64) word2))]) trivial rfl (H_automaton_Generates _ _ _ h24) pc9 (Rn.mov (v := .tup [.d (.bool r25), .d (.int .i64 r26)]) trivial rfl (Rn.ext (v := .d (.bool r25)) (vs := [.d (.bool r25), .d (.int .i64 r26)]) trivial rfl rfl rfl (Rn.ext (v := .d (.int .i64 r26)) (vs := [.d (.bool r25), .d (.int .i64 r26)]) trivial rfl rfl rfl (md rfl (md rfl (nt ((sr ((Rn.load (v := .agg [.d (.lst 1 (List.map (eI .i64) r18.Alphabet)), .d (.int .i64 r18.States), .d (.lst 1 (List.map (eI .i64) r18.Marked)), .d (.lst 3 (List.map e_api_Edge r18.Edges))]) trivial rfl (boxOwn rfl) rfl rfl (md rfl ?_)))))))))))
     obtain ⟨⟨r28, r29⟩, h27, h⟩ := bnd h
     refine Rn.call (args := [.agg [.d (.lst 1 (List.map (eI .i64) r18.Alphabet)), .d (.int .i64 r18.States), .d (.lst 1 (List.map (eI .i64) r18.Marked)), .d (.lst 3 (List.map e_api_Edge r18.Edges))], .d (.lst 1 (List.map (eI .i64) word2))]) trivial rfl (H_automaton_Generates _ _ _ h27) pc9 (Rn.mov (v := .tup [.d (.bool r28), .d (.int .i64 r29)]) trivial rfl (Rn.ext (v := .d (.bool r28)) (vs := [.d (.bool r28), .d (.int .i64 r29)]) trivial rfl rfl rfl (Rn.ext (v := .d (.int .i64 r29)) (vs := [.d (.bool r28), .d (.int .i64 r29)]) trivial rfl rfl rfl (md rfl (md rfl (nt ((sr ((Rn.load (v := .agg [.d (.lst 1 (List.map (eI .i64) a1.Alphabet)), .d (.int .i64 a1.States), .d (.lst 1 (List.map (eI .i64) a1.Marked)), .d (.lst 3 (List.map e_api_Edge a1.Edges))]) trivial rfl (boxOwn rfl) rfl rfl (md rfl ?_)))))))))))
     obtain ⟨⟨r31, r32⟩, h30, h⟩ := bnd h
     refine Rn.call (args := [.agg [.d (.lst 1 (List.map (eI .i64) a1.Alphabet)), .d (.int .i64 a1.States), .d (.lst 1 (List.map (eI .i64) a1.Marked)), .d (.lst 3 (List.map e_api_Edge a1.Edges))], .d (.lst 1 (List.map (eI .i64) word2))]) trivial rfl (H_automaton_Accepts _ _ _ h30) pc9 (Rn.mov (v := .tup [.d (.bool r31), .d (.int .i64 r32)]) trivial rfl (Rn.ext (v := .d (.bool r31)) (vs := [.d (.bool r31), .d (.int .i64 r32)]) trivial rfl rfl rfl (Rn.ext (v := .d (.int .i64 r32)) (vs := [.d (.bool r31), .d (.int .i64 r32)]) trivial rfl rfl rfl (md rfl (md rfl (nt ((sr ((Rn.load (v := .agg [.d (.lst 1 (List.map (eI .i64) r18.Alphabet)), .d (.int .i64 r18.States), .d (.lst 1 (List.map (eI .i64) r18.Marked)), .d (.lst 3 (List.map e_api_Edge r18.Edges))]) trivial rfl (boxOwn rfl) rfl rfl (md rfl ?_)))))))))))
     obtain ⟨⟨r34, r35⟩, h33, h⟩ := bnd h
     refine Rn.call (args := [.agg [.d (.lst 1 (List.map (eI .i64) r18.Alphabet)), .d (.int .i64 r18.States), .d (.lst 1 (List.map (eI .i64) r18.Marked)), .d (.lst 3 (List.map e_api_Edge r18.Edges))], .d (.lst 1 (List.map (eI .i64) word2))]) trivial rfl (H_automaton_Accepts _ _ _ h33) pc9 (Rn.mov (v := .tup [.d (.bool r34), .d (.int .i64 r35)]) trivial rfl (Rn.ext (v := .d (.bool r34)) (vs := [.d (.bool r34), .d (.int .i64 r35)]) trivial rfl rfl rfl (Rn.ext (v := .d (.int .i64 r35)) (vs := [.d (.bool r34), .d (.int .i64 r35)]) trivial rfl rfl rfl (md rfl (md rfl (nt ((Tr.seq ?_))))))))
     refine Tr.cutB (fun (x43 : Bool) => ⟨look [(1, .d (.lst 1 (List.map (eI .i64) word2))), (2, .ptr (Γ.n0 + 2) 0), (7, .d (.bool r25)), (118, .d (.bool x43))], memOf Γ.n0 (bxs [(2, [.d (.lst 1 (List.map (eI .i64) a1.Alphabet)), .d (.int .i64 a1.States), .d (.lst 1 (List.map (eI .i64) a1.Marked)), .d (.lst 3 (List.map e_api_Edge a1.Edges))]), (5, [.d (.lst 1 (List.map (eI .i64) r18.Alphabet)), .d (.int .i64 r18.States), .d (.lst 1 (List.map (eI .i64) r18.Marked)), .d (.lst 3 (List.map e_api_Edge r18.Edges))])]) M, Γ.n0 + 142⟩) h (fun z h => ?_) (fun z h => ?_)
     ·refine Tr.rgn (md rfl (Rn.bin trivial rfl rfl rfl (md rfl ?_)))
      refine bsplit (r26 != 0) (fun hb36 => ?_) (fun hb36 => ?_)
      ·replace h := bT hb36 h
       refine Rn.sk (nw rfl hb36) (Rn.sk (nw rfl hb36) (Rn.pickT (v := .d (.bool true)) trivial rfl hb36 rfl (md rfl (Rn.sk (nw (b := true) rfl rfl) (Rn.sk (nw (b := true) rfl rfl) (Rn.pickT (v := .d (.bool true)) trivial rfl rfl rfl (md rfl (Rn.sk (nw (b := true) rfl rfl) (Rn.sk (nw (b := true) rfl rfl) (Rn.pickT (v := .d (.bool true)) trivial rfl rfl rfl (md rfl (Rn.sk (nw (b := true) rfl rfl) (Rn.sk (nw (b := true) rfl rfl) (Rn.sk (nw (b := true) rfl rfl) (Rn.pickT (v := .d (.bool true)) trivial rfl rfl rfl (md rfl (Rn.sk (nw (b := true) rfl rfl) (Rn.sk (nw (b := true) rfl rfl) (Rn.sk (nw (b := true) rfl rfl) (Rn.pickT (v := .d (.bool true)) trivial rfl rfl rfl (md rfl (Rn.sk (nw (b := true) rfl rfl) (Rn.sk (nw (b := true) rfl rfl) (Rn.sk (nu rfl) (Rn.sk (nu rfl) (Rn.sk (nw (b := true) rfl rfl) (Rn.pickT (v := .d (.bool true)) trivial rfl rfl rfl (Rn.nil ?_))))))))))))))))))))))))))))
       replace h := si h; subst h
       show WeakSt Γ _ ⟨look _, memOf _ (bxs _) _, _⟩; exact weak_cut [] ⟨(.same rfl), ⟨(kPtr rfl), ⟨(.same rfl), ⟨(.same rfl), trivial⟩⟩⟩⟩ ⟨⟨_, rfl, rfl, (.same rfl)⟩, ⟨⟨_, rfl, rfl, (.same rfl)⟩, trivial⟩⟩ rfl
      ·replace h := bF hb36 h
       refine Rn.movD (gw rfl hb36) rfl (Rn.bin (gw rfl hb36) rfl rfl rfl (Rn.pickF (v := .d (.bool (r29 != 0))) trivial rfl hb36 rfl (md rfl ?_)))
       refine bsplit (r29 != 0) (fun hb37 => ?_) (fun hb37 => ?_)
       ·replace h := bT hb37 h
        refine Rn.sk (nw rfl hb37) (Rn.sk (nw rfl hb37) (Rn.pickT (v := .d (.bool true)) trivial rfl hb37 rfl (md rfl (Rn.sk (nw (b := true) rfl rfl) (Rn.sk (nw (b := true) rfl rfl) (Rn.pickT (v := .d (.bool true)) trivial rfl rfl rfl (md rfl (Rn.sk (nw (b := true) rfl rfl) (Rn.sk (nw (b := true) rfl rfl) (Rn.sk (nw (b := true) rfl rfl) (Rn.pickT (v := .d (.bool true)) trivial rfl rfl rfl (md rfl (Rn.sk (nw (b := true) rfl rfl) (Rn.sk (nw (b := true) rfl rfl) (Rn.sk (nw (b := true) rfl rfl) (Rn.pickT (v := .d (.bool true)) trivial rfl rfl rfl (md rfl (Rn.sk (nw (b := true) rfl rfl) (Rn.sk (nw (b := true) rfl rfl) (Rn.sk (nu rfl) (Rn.sk (nu rfl) (Rn.sk (nw (b := true) rfl rfl) (Rn.pickT (v := .d (.bool true)) trivial rfl rfl rfl (Rn.nil ?_))))))))))))))))))))))))
        replace h := si h; subst h
        show WeakSt Γ _ ⟨look _, memOf _ (bxs _) _, _⟩; exact weak_cut [] ⟨(.same rfl), ⟨(kPtr rfl), ⟨(.same rfl), ⟨(.same rfl), trivial⟩⟩⟩⟩ ⟨⟨_, rfl, rfl, (.same rfl)⟩, ⟨⟨_, rfl, rfl, (.same rfl)⟩, trivial⟩⟩ rfl
       ·replace h := bF hb37 h
        refine Rn.movD (gw rfl hb37) rfl (Rn.bin (gw rfl hb37) rfl rfl rfl (Rn.pickF (v := .d (.bool (r32 != 0))) trivial rfl hb37 rfl (md rfl ?_)))
        refine bsplit (r32 != 0) (fun hb38 => ?_) (fun hb38 => ?_)
        ·replace h := bT hb38 h
         refine Rn.sk (nw rfl hb38) (Rn.sk (nw rfl hb38) (Rn.pickT (v := .d (.bool true)) trivial rfl hb38 rfl (md rfl (Rn.sk (nw (b := true) rfl rfl) (Rn.sk (nw (b := true) rfl rfl) (Rn.sk (nw (b := true) rfl rfl) (Rn.pickT (v := .d (.bool true)) trivial rfl rfl rfl (md rfl (Rn.sk (nw (b := true) rfl rfl) (Rn.sk (nw (b := true) rfl rfl) (Rn.sk (nw (b := true) rfl rfl) (Rn.pickT (v := .d (.bool true)) trivial rfl rfl rfl (md rfl (Rn.sk (nw (b := true) rfl rfl) (Rn.sk (nw (b := true) rfl rfl) (Rn.sk (nu rfl) (Rn.sk (nu rfl) (Rn.sk (nw (b := true) rfl rfl) (Rn.pickT (v := .d (.bool true)) trivial rfl rfl rfl (Rn.nil ?_))))))))))))))))))))
         replace h := si h; subst h
         show WeakSt Γ _ ⟨look _, memOf _ (bxs _) _, _⟩; exact weak_cut [] ⟨(.same rfl), ⟨(kPtr rfl), ⟨(.same rfl), ⟨(.same rfl), trivial⟩⟩⟩⟩ ⟨⟨_, rfl, rfl, (.same rfl)⟩, ⟨⟨_, rfl, rfl, (.same rfl)⟩, trivial⟩⟩ rfl
        ·replace h := bF hb38 h
         refine Rn.movD (gw rfl hb38) rfl (Rn.bin (gw rfl hb38) rfl rfl rfl (Rn.pickF (v := .d (.bool (r35 != 0))) trivial rfl hb38 rfl (md rfl ?_)))
         refine bsplit (r35 != 0) (fun hb39 => ?_) (fun hb39 => ?_)
         ·replace h := bT hb39 h
          refine Rn.sk (nw rfl hb39) (Rn.sk (nw rfl hb39) (Rn.sk (nw rfl hb39) (Rn.pickT (v := .d (.bool true)) trivial rfl hb39 rfl (md rfl (Rn.sk (nw (b := true) rfl rfl) (Rn.sk (nw (b := true) rfl rfl) (Rn.sk (nw (b := true) rfl rfl) (Rn.pickT (v := .d (.bool true)) trivial rfl rfl rfl (md rfl (Rn.sk (nw (b := true) rfl rfl) (Rn.sk (nw (b := true) rfl rfl) (Rn.sk (nu rfl) (Rn.sk (nu rfl) (Rn.sk (nw (b := true) rfl rfl) (Rn.pickT (v := .d (.bool true)) trivial rfl rfl rfl (Rn.nil ?_))))))))))))))))
          replace h := si h; subst h
          show WeakSt Γ _ ⟨look _, memOf _ (bxs _) _, _⟩; exact weak_cut [] ⟨(.same rfl), ⟨(kPtr rfl), ⟨(.same rfl), ⟨(.same rfl), trivial⟩⟩⟩⟩ ⟨⟨_, rfl, rfl, (.same rfl)⟩, ⟨⟨_, rfl, rfl, (.same rfl)⟩, trivial⟩⟩ rfl
         ·replace h := bF hb39 h
          refine Rn.movD (gw rfl hb39) rfl (Rn.movD (gw rfl hb39) rfl (Rn.bin (gw rfl hb39) rfl rfl rfl (Rn.pickF (v := .d (.bool (!(r25 == r28)))) trivial rfl hb39 rfl (md rfl ?_))))
          refine bsplit (r25 == r28) (fun hb40 => ?_) (fun hb40 => ?_)
          ·replace h := bT hb40 h
           refine Rn.movD (gw rfl (nT hb40)) rfl (Rn.movD (gw rfl (nT hb40)) rfl (Rn.bin (gw rfl (nT hb40)) rfl rfl rfl (Rn.pickF (v := .d (.bool (!(r31 == r34)))) trivial rfl (nT hb40) rfl (md rfl ?_))))
           refine bsplit (r31 == r34) (fun hb41 => ?_) (fun hb41 => ?_)
           ·replace h := bT hb41 h
            refine Rn.movD (gw rfl (nT hb41)) rfl (Rn.movD (gw rfl (nT hb41)) rfl ?_)
            refine bsplit r31 (fun hb42 => ?_) (fun hb42 => ?_)
            ·replace h := bT hb42 h
             refine Rn.movD (gw rfl hb42) rfl (Rn.un (gw rfl hb42) rfl rfl (Rn.pickT (v := .d (.bool (!r25))) (gw rfl (nT hb41)) rfl hb42 rfl (Rn.pickF (v := .d (.bool (!r25))) trivial rfl (nT hb41) rfl (Rn.nil ?_))))
             replace h := si h; subst h
             show WeakSt Γ _ ⟨look _, memOf _ (bxs _) _, _⟩; exact weak_cut [] ⟨(.same rfl), ⟨(kPtr rfl), ⟨(.same rfl), ⟨(.same rfl), trivial⟩⟩⟩⟩ ⟨⟨_, rfl, rfl, (.same rfl)⟩, ⟨⟨_, rfl, rfl, (.same rfl)⟩, trivial⟩⟩ rfl
            ·replace h := bF hb42 h
             refine Rn.sk (nw rfl hb42) (Rn.sk (nw rfl hb42) (Rn.pickF (v := .d (.bool false)) (gw rfl (nT hb41)) rfl hb42 rfl (Rn.pickF (v := .d (.bool false)) trivial rfl (nT hb41) rfl (Rn.nil ?_))))
             replace h := si h; subst h
             show WeakSt Γ _ ⟨look _, memOf _ (bxs _) _, _⟩; exact weak_cut [] ⟨(.same rfl), ⟨(kPtr rfl), ⟨(.same rfl), ⟨(.same rfl), trivial⟩⟩⟩⟩ ⟨⟨_, rfl, rfl, (.same rfl)⟩, ⟨⟨_, rfl, rfl, (.same rfl)⟩, trivial⟩⟩ rfl
           ·replace h := bF hb41 h
            refine Rn.sk (nw rfl (nF hb41)) (Rn.sk (nw rfl (nF hb41)) (Rn.sk (nu rfl) (Rn.sk (nu rfl) (Rn.sk (nw rfl (nF hb41)) (Rn.pickT (v := .d (.bool true)) trivial rfl (nF hb41) rfl (Rn.nil ?_))))))
            replace h := si h; subst h
            show WeakSt Γ _ ⟨look _, memOf _ (bxs _) _, _⟩; exact weak_cut [] ⟨(.same rfl), ⟨(kPtr rfl), ⟨(.same rfl), ⟨(.same rfl), trivial⟩⟩⟩⟩ ⟨⟨_, rfl, rfl, (.same rfl)⟩, ⟨⟨_, rfl, rfl, (.same rfl)⟩, trivial⟩⟩ rfl
          ·replace h := bF hb40 h
           refine Rn.sk (nw rfl (nF hb40)) (Rn.sk (nw rfl (nF hb40)) (Rn.sk (nw rfl (nF hb40)) (Rn.pickT (v := .d (.bool true)) trivial rfl (nF hb40) rfl (md rfl (Rn.sk (nw (b := true) rfl rfl) (Rn.sk (nw (b := true) rfl rfl) (Rn.sk (nu rfl) (Rn.sk (nu rfl) (Rn.sk (nw (b := true) rfl rfl) (Rn.pickT (v := .d (.bool true)) trivial rfl rfl rfl (Rn.nil ?_)))))))))))
           replace h := si h; subst h
           show WeakSt Γ _ ⟨look _, memOf _ (bxs _) _, _⟩; exact weak_cut [] ⟨(.same rfl), ⟨(kPtr rfl), ⟨(.same rfl), ⟨(.same rfl), trivial⟩⟩⟩⟩ ⟨⟨_, rfl, rfl, (.same rfl)⟩, ⟨⟨_, rfl, rfl, (.same rfl)⟩, trivial⟩⟩ rfl
     ·obtain ⟨x43, rfl⟩ : ∃ x, x = z := ⟨_, rfl⟩
      refine Tr.cond rfl (fun hb44 => ?_) (fun hb44 => ?_)
      ·replace h := bT hb44 h
       refine sr ((md rfl (nt ((Tr.ret ?_)))))
       replace h := si h; subst h
       exact ⟨.inr rfl, (.d (.bool false)), rfl, fun _ _ _ _ h => h, trivial, fun k hk => memOf_base hk⟩
      ·replace h := bF hb44 h
       refine Tr.skip (toN (Tr.seq (sr ((md rfl (nt ((Tr.block ?_))))))))
       refine Tr.loop (mk := fun (k45 : Int) => ⟨look [(1, .d (.lst 1 (List.map (eI .i64) word2))), (2, .ptr (Γ.n0 + 2) 0), (7, .d (.bool r25)), (15, .d (.int .i64 k45))], memOf Γ.n0 (bxs [(2, [.d (.lst 1 (List.map (eI .i64) a1.Alphabet)), .d (.int .i64 a1.States), .d (.lst 1 (List.map (eI .i64) a1.Marked)), .d (.lst 3 (List.map e_api_Edge a1.Edges))]), (5, [.d (.lst 1 (List.map (eI .i64) r18.Alphabet)), .d (.int .i64 r18.States), .d (.lst 1 (List.map (eI .i64) r18.Marked)), .d (.lst 3 (List.map e_api_Edge r18.Edges))])]) M, Γ.n0 + 142⟩) h (by show WeakSt Γ (clean _ _ _) ⟨look _, memOf _ (bxs _) _, _⟩; exact weak_clean ⟨(.same rfl), ⟨(kPtr rfl), ⟨(.same rfl), ⟨(.same rfl), trivial⟩⟩⟩⟩ ⟨⟨_, rfl, rfl, (.same rfl)⟩, ⟨⟨_, rfl, rfl, (.same rfl)⟩, trivial⟩⟩ rfl) (fun k46 z h => ?_)
       ·obtain ⟨k45, rfl⟩ : ∃ x, x = z := ⟨_, rfl⟩
        replace h : _ = some _ := h
        refine Tr.seq (sr ((md rfl (md rfl (Rn.lenD trivial rfl (Rn.bin trivial rfl rfl rfl (Rn.nil (toN ?_))))))))
        refine Tr.cond rfl (fun hb47 => ?_) (fun hb47 => ?_)
        ·replace h := ifT hb47 h
         refine Tr.skip (toN (Tr.seq (Tr.block (Tr.seq ?_))))
         refine Tr.rgnD (by decide) ?_
         refine Rn.load (v := .agg [.d (.lst 1 (List.map (eI .i64) a1.Alphabet)), .d (.int .i64 a1.States), .d (.lst 1 (List.map (eI .i64) a1.Marked)), .d (.lst 3 (List.map e_api_Edge a1.Edges))]) trivial rfl (boxOwn rfl) rfl rfl (md rfl (md rfl ?_))
         obtain ⟨x48, h49, h⟩ := bnd h
         refine Rn.slcH (e := (eI .i64)) trivial rfl rfl h49 ?_
         obtain ⟨⟨r51, r52⟩, h50, h⟩ := bnd h
         refine Rn.call (args := [.agg [.d (.lst 1 (List.map (eI .i64) a1.Alphabet)), .d (.int .i64 a1.States), .d (.lst 1 (List.map (eI .i64) a1.Marked)), .d (.lst 3 (List.map e_api_Edge a1.Edges))], .d (.lst 1 (List.map (eI .i64) x48))]) trivial rfl (H_automaton_Generates _ _ _ h50) pc0 (Rn.mov (v := .tup [.d (.bool r51), .d (.int .i64 r52)]) trivial rfl (Rn.ext (v := .d (.bool r51)) (vs := [.d (.bool r51), .d (.int .i64 r52)]) trivial rfl rfl rfl (Rn.ext (v := .d (.int .i64 r52)) (vs := [.d (.bool r51), .d (.int .i64 r52)]) trivial rfl rfl rfl (md rfl (md rfl ?_)))))
         refine Rn.nil ⟨rfl, ?_⟩
         refine toN ?_
         refine Tr.cutB (fun (x55 : Bool) => ⟨look [(1, .d (.lst 1 (List.map (eI .i64) word2))), (2, .ptr (Γ.n0 + 2) 0), (7, .d (.bool r25)), (15, .d (.int .i64 k45)), (141, .d (.bool x55))], memOf Γ.n0 (bxs [(2, [.d (.lst 1 (List.map (eI .i64) a1.Alphabet)), .d (.int .i64 a1.States), .d (.lst 1 (List.map (eI .i64) a1.Marked)), .d (.lst 3 (List.map e_api_Edge a1.Edges))]), (5, [.d (.lst 1 (List.map (eI .i64) r18.Alphabet)), .d (.int .i64 r18.States), .d (.lst 1 (List.map (eI .i64) r18.Marked)), .d (.lst 3 (List.map e_api_Edge r18.Edges))])]) M, Γ.n0 + 142⟩) h (fun z h => ?_) (fun z h => ?_)
         ·refine Tr.rgn (md rfl (Rn.bin trivial rfl rfl rfl (md rfl ?_)))
          refine bsplit (r52 != 0) (fun hb53 => ?_) (fun hb53 => ?_)
          ·replace h := bT hb53 h
           refine Rn.sk (nw rfl hb53) (Rn.sk (nw rfl hb53) (Rn.sk (nu rfl) (Rn.sk (nu rfl) (Rn.sk (nw rfl hb53) (Rn.pickT (v := .d (.bool true)) trivial rfl hb53 rfl (Rn.nil ?_))))))
           replace h := si h; subst h
           show WeakSt Γ _ ⟨look _, memOf _ (bxs _) _, _⟩; exact weak_cut [] ⟨(.same rfl), ⟨(kPtr rfl), ⟨(.same rfl), ⟨(.same rfl), ⟨(.same rfl), trivial⟩⟩⟩⟩⟩ ⟨⟨_, rfl, rfl, (.same rfl)⟩, ⟨⟨_, rfl, rfl, (.same rfl)⟩, trivial⟩⟩ rfl
          ·replace h := bF hb53 h
           refine Rn.movD (gw rfl hb53) rfl (Rn.movD (gw rfl hb53) rfl ?_)
           refine bsplit r25 (fun hb54 => ?_) (fun hb54 => ?_)
           ·replace h := bT hb54 h
            refine Rn.movD (gw rfl hb54) rfl (Rn.un (gw rfl hb54) rfl rfl (Rn.pickT (v := .d (.bool (!r51))) (gw rfl hb53) rfl hb54 rfl (Rn.pickF (v := .d (.bool (!r51))) trivial rfl hb53 rfl (Rn.nil ?_))))
            replace h := si h; subst h
            show WeakSt Γ _ ⟨look _, memOf _ (bxs _) _, _⟩; exact weak_cut [] ⟨(.same rfl), ⟨(kPtr rfl), ⟨(.same rfl), ⟨(.same rfl), ⟨(.same rfl), trivial⟩⟩⟩⟩⟩ ⟨⟨_, rfl, rfl, (.same rfl)⟩, ⟨⟨_, rfl, rfl, (.same rfl)⟩, trivial⟩⟩ rfl
           ·replace h := bF hb54 h
            refine Rn.sk (nw rfl hb54) (Rn.sk (nw rfl hb54) (Rn.pickF (v := .d (.bool false)) (gw rfl hb53) rfl hb54 rfl (Rn.pickF (v := .d (.bool false)) trivial rfl hb53 rfl (Rn.nil ?_))))
            replace h := si h; subst h
            show WeakSt Γ _ ⟨look _, memOf _ (bxs _) _, _⟩; exact weak_cut [] ⟨(.same rfl), ⟨(kPtr rfl), ⟨(.same rfl), ⟨(.same rfl), ⟨(.same rfl), trivial⟩⟩⟩⟩⟩ ⟨⟨_, rfl, rfl, (.same rfl)⟩, ⟨⟨_, rfl, rfl, (.same rfl)⟩, trivial⟩⟩ rfl
         ·obtain ⟨x55, rfl⟩ : ∃ x, x = z := ⟨_, rfl⟩
          refine Tr.cond rfl (fun hb56 => ?_) (fun hb56 => ?_)
          ·replace h := bT hb56 h
           refine sr ((md rfl (nt ((Tr.ret ?_)))))
           replace h := si h; subst h
           exact ⟨.inr rfl, (.d (.bool false)), rfl, fun _ _ _ _ h => h, trivial, fun k hk => memOf_base hk⟩
          ·replace h := bF hb56 h
           refine Tr.skip (toN (Tr.rgn (md rfl (Rn.bin trivial rfl rfl rfl (md rfl (Rn.nil ?_))))))
           exact ⟨_, h, (by show WeakSt Γ (clean _ _ _) ⟨look _, memOf _ (bxs _) _, _⟩; exact weak_clean ⟨(.same rfl), ⟨(kPtr rfl), ⟨(.same rfl), ⟨(.same rfl), trivial⟩⟩⟩⟩ ⟨⟨_, rfl, rfl, (.same rfl)⟩, ⟨⟨_, rfl, rfl, (.same rfl)⟩, trivial⟩⟩ rfl)⟩
        ·replace h := ifF hb47 h
         refine Tr.exit (toN (sr ((md rfl (nt ((Tr.ret ?_)))))))
         replace h := si h; subst h
         exact ⟨.inr rfl, (.d (.bool true)), rfl, fun _ _ _ _ h => h, trivial, fun k hk => memOf_base hk⟩
end Go.Abs
end
section
namespace Go.Proofs
open Go.Abs
set_option maxRecDepth 100000
theorem C_overseerlaw03_AutomatonLanguages : compFn Try.prog 9 = some F_overseerlaw03_AutomatonLanguages := by kernel_rfl
theorem C_overseerlaw03_known : compFn Try.prog 13 = some F_overseerlaw03_known := by kernel_rfl
theorem C_automaton_Words : compFn Try.prog 16 = some F_automaton_Words := by kernel_rfl
theorem C_automaton_Relabel : compFn Try.prog 20 = some F_automaton_Relabel := by kernel_rfl
theorem C_overseerref03_Same : compFn Try.prog 23 = some F_overseerref03_Same := by kernel_rfl
theorem C_overseerlaw03_few : compFn Try.prog 25 = some F_overseerlaw03_few := by kernel_rfl
theorem C_overseerref03_Check : compFn Try.prog 27 = some F_overseerref03_Check := by kernel_rfl
theorem C_automaton_Canonical : compFn Try.prog 29 = some F_automaton_Canonical := by kernel_rfl
theorem C_automaton_Generates : compFn Try.prog 31 = some F_automaton_Generates := by kernel_rfl
theorem C_automaton_Accepts : compFn Try.prog 32 = some F_automaton_Accepts := by kernel_rfl
theorem C_automaton_Run : compFn Try.prog 34 = some F_automaton_Run := by kernel_rfl
theorem C_overseerref03_SameInts : compFn Try.prog 38 = some F_overseerref03_SameInts := by kernel_rfl
theorem C_automaton_Check : compFn Try.prog 45 = some F_automaton_Check := by kernel_rfl
theorem C_overseerlaw03_example : compFn Try.prog 46 = some F_overseerlaw03_example := by kernel_rfl
theorem C_automaton_out : compFn Try.prog 48 = some F_automaton_out := by kernel_rfl
theorem C_slices_Clone_int : compFn Try.prog 49 = some F_slices_Clone_int := by kernel_rfl
theorem C_slices_Contains_int : compFn Try.prog 50 = some F_slices_Contains_int := by kernel_rfl
theorem C_overseerref03_has : compFn Try.prog 51 = some F_overseerref03_has := by kernel_rfl
theorem C_slices_Index_int : compFn Try.prog 54 = some F_slices_Index_int := by kernel_rfl
theorem C_automaton_canonical : compFn Try.prog 56 = some F_automaton_canonical := by kernel_rfl
theorem C_overseerref03_List : compFn Try.prog 60 = some F_overseerref03_List := by kernel_rfl
theorem C_automaton_reached : compFn Try.prog 62 = some F_automaton_reached := by kernel_rfl
theorem C_automaton_checkState : compFn Try.prog 63 = some F_automaton_checkState := by kernel_rfl
theorem C_slices_ContainsFunc_int : compFn Try.prog 64 = some F_slices_ContainsFunc_int := by kernel_rfl
theorem C_automaton_Run_1 : compFn Try.prog 65 = some F_automaton_Run_1 := by kernel_rfl
theorem C_automaton_follow : compFn Try.prog 66 = some F_automaton_follow := by kernel_rfl
theorem C_automaton_next : compFn Try.prog 67 = some F_automaton_next := by kernel_rfl
theorem C_automaton_checkSet : compFn Try.prog 68 = some F_automaton_checkSet := by kernel_rfl
theorem C_automaton_checkEdges : compFn Try.prog 69 = some F_automaton_checkEdges := by kernel_rfl
theorem C_slices_BinarySearchFunc_int : compFn Try.prog 70 = some F_slices_BinarySearchFunc_int := by kernel_rfl
theorem C_automaton_out_1 : compFn Try.prog 71 = some F_automaton_out_1 := by kernel_rfl
theorem C_automaton_out_2 : compFn Try.prog 72 = some F_automaton_out_2 := by kernel_rfl
theorem C_slices_BinarySearch_int : compFn Try.prog 78 = some F_slices_BinarySearch_int := by kernel_rfl
theorem C_slices_IndexFunc_int : compFn Try.prog 79 = some F_slices_IndexFunc_int := by kernel_rfl
theorem C_slices_IndexFunc_Edge : compFn Try.prog 80 = some F_slices_IndexFunc_Edge := by kernel_rfl
theorem C_automaton_next_1 : compFn Try.prog 81 = some F_automaton_next_1 := by kernel_rfl
theorem C_cmp_Less_int : compFn Try.prog 86 = some F_cmp_Less_int := by kernel_rfl
theorem C_slices_isNaN_int : compFn Try.prog 87 = some F_slices_isNaN_int := by kernel_rfl
theorem C_cmp_isNaN_int : compFn Try.prog 106 = some F_cmp_isNaN_int := by kernel_rfl
end Go.Proofs
end
section
namespace Go.Abs
open Go Go.Sort Go.Shelf Go.RowKit Go.Lib Go.Proofs
set_option linter.unusedVariables false
set_option linter.unusedSectionVars false
section plain
variable {β : Type}
def insB (lt : β → β → Bool) (x : β) : List β → List β
  | [] => [x]
  | y :: ys => if lt y x then y :: insB lt x ys else x :: y :: ys
def isortB (lt : β → β → Bool) : List β → List β
  | [] => []
  | x :: xs => insB lt x (isortB lt xs)
def distB (lt : β → β → Bool) : List β → Bool
  | [] => true
  | x :: xs => xs.all (fun y => lt x y || lt y x) && distB lt xs
def sortO (ok : β → Bool) (lt : β → β → Bool) (l : List β) : Option (List β) := if l.all ok && distB lt l then some (isortB lt l) else none
theorem insB_perm (lt : β → β → Bool) (x : β) : ∀ l, (insB lt x l).Perm (x :: l)
  | [] => .refl _
  | y :: ys => by
    unfold insB; split
    · exact ((insB_perm lt x ys).cons y).trans (.swap x y ys)
    · exact .refl _
theorem isortB_perm (lt : β → β → Bool) : ∀ l, (isortB lt l).Perm l
  | [] => .refl _
  | x :: xs => (insB_perm lt x _).trans ((isortB_perm lt xs).cons x)
theorem isortB_length (lt : β → β → Bool) (l : List β) : (isortB lt l).length = l.length := (isortB_perm lt l).length_eq
theorem insB_sorted {lt : β → β → Bool} (h : SWO lt) (x : β) : ∀ l, l.Pairwise (fun a b => lt b a = false) → (insB lt x l).Pairwise fun a b => lt b a = false
  | [], _ => by simp [insB]
  | y :: ys, hl => by
    obtain ⟨h1, h2⟩ := List.pairwise_cons.1 hl
    unfold insB; split
    · rename_i hc
      refine List.pairwise_cons.2 ⟨fun z hz => ?_, insB_sorted h x ys h2⟩
      rcases List.mem_cons.1 ((insB_perm lt x ys).mem_iff.1 hz) with rfl | hz
      · cases hb : lt z y with
        | false => rfl
        | true => have := h.trans _ _ _ hc hb; rw [h.irrefl] at this; cases this
      · exact h1 z hz
    · rename_i hc
      have hc : lt y x = false := by cases h : lt y x <;> simp_all
      refine List.pairwise_cons.2 ⟨fun z hz => ?_, hl⟩
      rcases List.mem_cons.1 hz with rfl | hz
      · exact hc
      · exact h.ntrans _ _ _ (h1 z hz) hc
theorem isortB_sorted {lt : β → β → Bool} (h : SWO lt) : ∀ l, (isortB lt l).Pairwise fun a b => lt b a = false
  | [] => .nil
  | x :: xs => insB_sorted h x _ (isortB_sorted h xs)
theorem distB_anti {lt : β → β → Bool} : ∀ {l : List β}, distB lt l = true → ∀ a b, a ∈ l → b ∈ l → lt a b = false → lt b a = false → a = b
  | [], _, a, _, ha, _, _, _ => by cases ha
  | x :: xs, h, a, b, ha, hb, h1, h2 => by
    simp only [distB, Bool.and_eq_true, List.all_eq_true] at h
    obtain ⟨k1, k2⟩ := h
    rcases List.mem_cons.1 ha with e1 | ha' <;> rcases List.mem_cons.1 hb with e2 | hb'
    · rw [e1, e2]
    · subst e1; have := k1 b hb'; simp [h1, h2] at this
    · subst e2; have := k1 a ha'; simp [h1, h2] at this
    · exact distB_anti k2 a b ha' hb' h1 h2
theorem isortB_unique {lt : β → β → Bool} (h : SWO lt) {l m : List β} (hd : distB lt l = true) (hp : m.Perm l) (hs : m.Pairwise fun a b => lt b a = false) : m = isortB lt l := by
  refine List.Perm.eq_of_pairwise (le := fun a b => lt b a = false) (fun a b ha hb h1 h2 => ?_) hs (isortB_sorted h l) (hp.trans (isortB_perm lt l).symm)
  exact distB_anti hd a b (hp.mem_iff.1 ha) ((isortB_perm lt l).mem_iff.1 hb) h2 h1
theorem insB_map {α : Type} (f : α → β) (lt : β → β → Bool) (x : α) : ∀ l : List α, insB lt (f x) (l.map f) = (insB (fun a b => lt (f a) (f b)) x l).map f
  | [] => rfl
  | y :: ys => by
    simp only [List.map_cons, insB]; split
    · simp only [List.map_cons, insB_map f lt x ys]
    · rfl
theorem isortB_map {α : Type} (f : α → β) (lt : β → β → Bool) : ∀ l : List α, isortB lt (l.map f) = (isortB (fun a b => lt (f a) (f b)) l).map f
  | [] => rfl
  | x :: xs => by simp only [List.map_cons, isortB, isortB_map f lt xs, insB_map]
theorem distB_map {α : Type} (f : α → β) (lt : β → β → Bool) : ∀ l : List α, distB lt (l.map f) = distB (fun a b => lt (f a) (f b)) l
  | [] => rfl
  | x :: xs => by simp only [List.map_cons, distB, distB_map f lt xs, List.all_map]; rfl
end plain
theorem flatK_get {α : Type} [Inhabited α] {enc : α → List Value} {k : Nat} (hk : ∀ x, (enc x).length = k) (h0 : 0 < k) : ∀ (l : List α) (t : Nat), t < l.length * k → (l.map enc).flatten[t]? = some (enc l[t / k]!)[t % k]!
  | [], t, h => by simp at h
  | x :: xs, t, h => by
    rw [List.map_cons, List.flatten_cons]
    by_cases hl : t < k
    · rw [List.getElem?_append_left (by rw [hk]; exact hl), Nat.div_eq_of_lt hl, Nat.mod_eq_of_lt hl]
      have : t < (enc x).length := by rw [hk]; exact hl
      simp [this]
    · have hge : k ≤ t := by omega
      have h2 : t - k < xs.length * k := by simp only [List.length_cons, Nat.add_mul, Nat.one_mul] at h; omega
      rw [List.getElem?_append_right (by rw [hk]; exact hge), hk, flatK_get hk h0 xs (t - k) h2]
      have e1 : t / k = (t - k) / k + 1 := by rw [← Nat.add_div_right _ h0, Nat.sub_add_cancel hge]
      have e2 : t % k = (t - k) % k := by rw [Nat.mod_eq_sub_mod hge]
      rw [e1, e2]; simp
theorem flatK_row {α : Type} [Inhabited α] {enc : α → List Value} {k : Nat} (hk : ∀ x, (enc x).length = k) (h0 : 0 < k) (l : List α) : flatK enc k l.toArray = (l.map enc).flatten.toArray := by
  have hs : (l.map enc).flatten.length = l.length * k := by
    induction l with
    | nil => simp
    | cons x xs ih => rw [List.map_cons, List.flatten_cons, List.length_append, ih, hk]; simp [Nat.add_mul]; omega
  refine ext_get! (by simp [hs]) fun t ht => ?_
  have ht' : t < l.length * k := by simpa using ht
  rw [get_flatK _ _ _ _ (by simpa using ht')]
  have := flatK_get hk h0 l t ht'
  obtain ⟨h1, h2⟩ := List.getElem?_eq_some_iff.1 this
  rw [getElem!_pos _ t (by simpa using h1)]
  simp only [List.getElem_toArray, h2]
  simp
theorem rowV_flat {α : Type} (e : α → List D) (xs : List α) : rowV e xs = (xs.map fun x => (e x).map D.val).flatten := by
  unfold rowV; rw [List.map_flatten, List.map_map]; rfl
theorem rowFn_sortFunc {P : Program} {ρ : Ren} {α : Type} [Inhabited α] (L : SlLaysF0.n6 P ρ) {k : Nat} (aE : ∀ w, (isAgg (ρ.t 24)).run P w = .ok true w) (zE : ∀ w, (Go.sizeOf (ρ.t 24)).run P w = .ok k w) (e : α → List D) (hk : ∀ x, (e x).length = k) (h0 : 0 < k) (hsc : ∀ x, (e x).all D.scalar = true)
    (cf : α → α → Int) (hO : SWO (ltOf cf)) (g : Nat) (cb : Array Value) (eg : ∀ args w, (callFunc g args).run P w = .ok (.enter g args) w)
    (hcmp : ∀ (x y : α) (W : World), Calls P g (#[.agg ((e x).map D.val).toArray, .agg ((e y).map D.val).toArray] ++ cb) W fun r w' => r = .returned (.int .i64 (cf x y)) ∧ ∃ q os', w' = grow (W.drewN q) os') :
    RowFn P (ρ.f 6) e #[.func (.func g) #[] cb] (fun xs => (pdq (ltOf cf) xs.toArray 0 xs.length (Lib.bitLen xs.length) true true).toList) := by
  intro blk cap xs w hc hblk hsz
  have henc : ∀ x, ((fun x => (e x).map D.val) x).length = k := fun x => by simp [hk]
  have h1 : ∀ x : α, ∀ v ∈ (e x).map D.val, v.oneCell' = true := by
    intro x v hv
    obtain ⟨d, hd, rfl⟩ := List.mem_map.1 hv
    exact val_one (List.all_eq_true.1 (hsc x) d hd)
  have hH : HoldsK (fun x => (e x).map D.val) k w blk 0 xs.toArray := by
    unfold HoldsK
    rw [flatK_row henc h0, ← rowV_flat]
    intro j hj
    have hj' : j < (rowV e xs).length := by simpa using hj
    obtain ⟨k1, k2⟩ := hc j hj'
    rw [Nat.zero_add]
    refine ⟨k1.trans ?_, k2⟩
    rw [List.getElem?_eq_getElem hj', getElem!_pos _ j hj]; rfl
  have hcl : CmpLays P g cb (fun x => (e x).map D.val) k cf blk 0 xs.toArray.size w := fun _ _ _ _ x y => hcmp x y _
  have := AnyQ.slices_SortFunc_eq L k aE zE (fun x => (e x).map D.val) henc h1 cf hO g cb blk 0 cap xs.toArray w eg hcl hH hblk (by simpa using hsz)
  refine this.mono ?_
  rintro r w' ⟨rfl, n, os, rfl⟩
  refine ⟨rfl, n, os, ?_⟩
  unfold sortWorldK putRowK
  have hrow : flatK (fun x => (e x).map D.val) k (pdq (ltOf cf) xs.toArray 0 xs.toArray.size (Lib.bitLen xs.toArray.size) true true) = (rowV e (pdq (ltOf cf) xs.toArray 0 xs.length (Lib.bitLen xs.length) true true).toList).toArray := by
    rw [rowV_flat, ← flatK_row henc h0]; simp
  rw [hrow]
theorem RowFn.from_caller {P : Program} {f g : FuncId} {α : Type} {e : α → List D} {ex ex' : Array Value} {srt : List α → List α} (h : RowFn P g e ex' srt)
    (hcall : ∀ (p : Addr) (n cap : Nat) (w : World) (n' : Nat) (os : Array Obj) (F : Array Value), Calls P g (#[.slice (some p) n cap] ++ ex') w (fun e' w' => e' = .returned (.tuple #[]) ∧ ∃ n os, w' = grow (putRow id (Sort.ahead w n) p.block 0 F) os) →
      Calls P f (#[.slice (some p) n cap] ++ ex) w (fun e' w' => e' = .returned (.tuple #[]) ∧ ∃ n os, w' = grow (putRow id (Sort.ahead w n) p.block 0 F) os)) : RowFn P f e ex srt :=
  fun blk cap xs w hc hblk hsz => hcall ⟨blk, 0, none⟩ xs.length cap w 0 #[] _ (h blk cap xs w hc hblk hsz)
theorem acalls_none {P : Program} {f : FuncId} {ex : Array Value} {exV : List V} {sz nb : Nat} {M : Mem} (hb : HasBody P f = true) (hex : ∀ g w us, RFs g w exV us → us = ex.toList)
    (h : ∀ (p : Option Addr) (cap : Nat) (w : World), Calls P f (#[.slice p 0 cap] ++ ex) w fun e' w' => e' = .returned (.tuple #[]) ∧ w' = w) :
    ACalls P f (.d (.lst sz []) :: exV) M nb (.tup []) M nb := by
  refine ⟨hb, Nat.le_refl _, fun w g us hm hMon hfresh hus hfl hons => ?_⟩
  obtain ⟨u0, us', rfl, hu0, hus'⟩ := hus
  have h1 := hex _ _ _ hus'
  subst h1
  have h2 : ∃ p cap, u0 = .slice p 0 cap := by
    have := RF_d.1 hu0
    obtain ⟨a, cap, rfl, _, _⟩ := this
    exact ⟨a, cap, rfl⟩
  obtain ⟨p, cap, rfl⟩ := h2
  have e1 : (Value.slice p 0 cap :: ex.toList).toArray = #[.slice p 0 cap] ++ ex := by apply Array.ext'; simp
  rw [e1]
  refine (h p cap w).mono ?_
  rintro e' w' ⟨rfl, rfl⟩
  exact ⟨_, g, rfl, hm, ⟨[], rfl, rfl⟩, trivial, hMon, Fr.refl _ _ _⟩
section
variable {α : Type} [Inhabited α]
theorem pdq_list {lt : α → α → Bool} (hO : SWO lt) (xs : List α) (k : Nat) : (pdq lt xs.toArray 0 xs.length k true true).toList.Perm xs ∧ (pdq lt xs.toArray 0 xs.length k true true).toList.Pairwise fun a b => lt b a = false := by
  obtain ⟨⟨h1, _, h2⟩, h3⟩ := pdq_sorts lt hO xs.toArray 0 xs.length k true true (Nat.zero_le _) (by simp) (Or.inl rfl)
  generalize pdq lt xs.toArray 0 xs.length k true true = d at *
  have hs : d.size = xs.length := by simpa using h1
  refine ⟨?_, ?_⟩
  · have e1 : d.extract 0 xs.length = d := by rw [← hs]; exact Array.extract_size
    have e2 : xs.toArray.extract 0 xs.length = xs.toArray := by have : xs.length = xs.toArray.size := by simp
                                                                rw [this]; exact Array.extract_size
    rw [e1, e2] at h2
    simpa using h2
  · rw [List.pairwise_iff_getElem]
    intro i j hi hj hij
    have hi' : i < d.size := by simpa using hi
    have hj' : j < d.size := by simpa using hj
    have := h3 i j (Nat.zero_le _) hij (by omega)
    rw [getElem!_pos d i hi', getElem!_pos d j hj'] at this
    simpa using this
theorem pdq_isort {lt : α → α → Bool} (hO : SWO lt) (xs : List α) (k : Nat) (hd : distB lt xs = true) : (pdq lt xs.toArray 0 xs.length k true true).toList = isortB lt xs :=
  isortB_unique hO hd (pdq_list hO xs k).1 (pdq_list hO xs k).2
end
theorem rowK_sort {β : Type} {P : Program} {c : Nat} {e : β → List D} {sz N : Nat} {ok : β → Bool} {lt : β → β → Bool} [Inhabited {x : β // ok x = true}] {lt' : {x : β // ok x = true} → {x : β // ok x = true} → Bool}
    (hN : N < 4611686018427387904) (hk : ∀ x, (e x).length = sz) (hsc : ∀ x, (e x).all D.scalar = true) (hO : SWO lt') (hlt : ∀ x y, lt' x y = lt x.1 y.1) (hb : HasBody P c = true) {ex : Array Value} {exV : List V} (hex : ∀ g w us, RFs g w exV us → us = ex.toList)
    (hrow : RowFn P c (fun x : {x : β // ok x = true} => e x.1) ex (fun xs => (pdq lt' xs.toArray 0 xs.length (Lib.bitLen xs.length) true true).toList))
    (hnone : ∀ (p : Option Addr) (cap : Nat) (w : World), Calls P c (#[.slice p 0 cap] ++ ex) w fun e' w' => e' = .returned (.tuple #[]) ∧ w' = w) :
    RowK P c e sz exV (fun l => if l.length ≤ N then sortO ok lt l else none) := by
  intro xs ys h
  dsimp only at h
  split at h <;> try (cases h; done)
  rename_i hlN
  unfold sortO at h
  split at h <;> cases h
  rename_i hok
  simp only [Bool.and_eq_true, List.all_eq_true] at hok
  obtain ⟨ho, hd⟩ := hok
  obtain ⟨zs, rfl⟩ : ∃ zs : List {x : β // ok x = true}, xs = zs.map Subtype.val := ⟨xs.pmap Subtype.mk ho, by rw [List.map_pmap]; simp⟩
  have hd' : distB lt' zs = true := by
    rw [distB_map] at hd
    rw [show lt' = fun a b => lt a.1 b.1 from funext fun a => funext fun b => hlt a b]; exact hd
  have e1 : isortB lt (zs.map Subtype.val) = (isortB lt' zs).map Subtype.val := by
    rw [isortB_map, show lt' = fun a b => lt a.1 b.1 from funext fun a => funext fun b => hlt a b]
  refine ⟨isortB_length _ _, fun h0 => ?_, fun hl cap k0 M nb hM => ?_⟩
  · simp only [List.map_eq_nil_iff] at h0
    subst h0
    exact ⟨rfl, fun M nb => acalls_none hb hex hnone⟩
  · have hM' : M k0 = some (.cells (thCells (zs.map fun x => e x.1) ((cap - zs.length) * sz))) := by
      rw [hM, List.map_map, List.length_map]; rfl
    have := acalls_row (fun x => hk x.1) (fun x => hsc x.1) (fun xs => (pdq_list hO xs _).1.length_eq) hex hb hrow zs cap k0 M nb hM' (by rw [List.length_map] at hlN; omega)
    rw [pdq_isort hO zs _ hd'] at this
    rw [e1, List.map_map, List.length_map]
    exact this
end Go.Abs
end
section
namespace Go.Abs
open Go Go.RowKit
set_option linter.unusedVariables false
def F_values (g : Nat) : CFn := ⟨1, 4, [.t 2], .seq (.region [⟨some 1, .box 1, [.t 0], false, none⟩, ⟨some 2, .mov, [.c .und], false, none⟩] 9 []) (.seq (.region [⟨some 3, .func g, [.t 1], false, none⟩, ⟨some 2, .mov, [.t 3], false, none⟩] 9 []) .ret)⟩
theorem valsK_of {P : Program} {c g : Nat} (hcf : compFn P c = some (F_values g)) : ValsK P c g 1 4 := by
  intro x M nb
  by_cases hM : ∀ k, nb ≤ k → M k = none
  case neg => exact acalls_vac (compFn_body hcf) (by omega) hM
  by_cases hon : MOn (There M) M
  case neg => exact ⟨compFn_body hcf, by omega, fun w g us hm h => absurd h hon⟩
  refine fn_tr hcf hM rfl (by omega) fun Γ hP hn ht => ?_
  have hlt : ∀ k, There M k → k < nb := fun k hk => by
    rcases Nat.lt_or_ge k nb with h | h
    · exact h
    · simp [There, hM k h] at hk
  subst hn
  rw [← memOf_nil hM]
  refine Tr.init [(0, .d x)] rfl ?_
  unfold F_values
  refine Tr.seq ?_
  refine Tr.rgn ?_
  refine Rn.box (v := .d x) (cs := [.d x]) trivial rfl rfl rfl rfl rfl ?_
  refine Rn.mov (v := .und) trivial rfl ?_
  refine Rn.nil ?_
  refine toN ?_
  refine Tr.seq ?_
  refine Tr.rgn ?_
  refine Rn.k (v := .clo g [.ptr (Γ.n0 + 1) 0]) trivial rfl rfl rfl ?_
  refine Rn.mov (v := .clo g [.ptr (Γ.n0 + 1) 0]) trivial rfl ?_
  refine Rn.nil ?_
  refine toN ?_
  refine Tr.ret ?_
  rw [memOf_nil hM]
  have hth : There (M.put (Γ.n0 + 1) (.cells [.d x])) (Γ.n0 + 1) := by simp [There, Mem.put]
  refine ⟨.inr rfl, .clo g [.ptr (Γ.n0 + 1) 0], rfl, fun _ _ _ _ h => h, fun k b hk => ?_, ⟨hth, trivial⟩, fun k cs hk => ?_, fun k hk => ?_⟩
  · show memOf Γ.n0 [(1, .cells [.d x])] M k = some b
    have := memOf_put (n0 := Γ.n0) (L := []) (M0 := M) (t := 1) (b := .cells [.d x])
    rw [← this, memOf_nil hM]; exact hk
  · by_cases h : k = Γ.n0 + 1
    · subst h; rw [put_same] at hk; cases hk; exact ⟨trivial, trivial⟩
    · rw [put_other _ _ h] at hk
      exact ons_mono (fun j hj => There.put hj) _ (hon k cs hk)
  · by_cases h : k = Γ.n0 + 1
    · omega
    · have : There M k := by simpa [There, Mem.put, h] using hk
      have := hlt k this
      omega
theorem RDL_ints {imm : Nat → Nat → Prop} {w : World} {b : Nat} : ∀ (xs : List Int) (o : Nat), (∀ j x, xs[j]? = some x → imm b (o + j) ∧ w.cell? ⟨b, o + j, none⟩ = some (.int .i64 x)) → RDL imm w 1 b (List.map (eI .i64) xs) o
  | [], _, _ => by simp [RDL]
  | x :: xs, o, h => by
    simp only [List.map_cons, RDL]
    obtain ⟨h1, h2⟩ := h 0 x rfl
    refine ⟨rfl, ⟨h1, ⟨_, h2, rfl⟩, trivial⟩, RDL_ints xs (o + 1) fun j y hj => ?_⟩
    have := h (j + 1) y (by simpa using hj)
    rwa [show o + (j + 1) = o + 1 + j from by omega] at this
theorem ints_RDL {imm : Nat → Nat → Prop} {w : World} {b : Nat} : ∀ (xs : List Int) (o : Nat), RDL imm w 1 b (List.map (eI .i64) xs) o → ∀ j x, xs[j]? = some x → w.cell? ⟨b, o + j, none⟩ = some (.int .i64 x)
  | [], _, _, j, x, hj => by simp at hj
  | y :: ys, o, h, j, x, hj => by
    simp only [List.map_cons, RDL] at h
    obtain ⟨_, ⟨_, ⟨u, h2, h3⟩, _⟩, h4⟩ := h
    cases j with
    | zero =>
      simp at hj; subst hj
      have : u = .int .i64 y := h3
      rw [← this]; exact h2
    | succ j =>
      have := ints_RDL ys (o + 1) h4 j x (by simpa using hj)
      rwa [show o + 1 + j = o + (j + 1) from by omega] at this
def Ints (n₀ : Nat) (W : World) (sv : Value) (zs : List Int) : Prop :=
  (∃ a cap, sv = .slice a 0 cap ∧ zs = []) ∨ ∃ b off cap, sv = .slice (some ⟨b, off, none⟩) zs.length cap ∧ b < n₀ ∧ ∀ j, j < zs.length → W.cell? ⟨b, off + j, none⟩ = some (.int .i64 (zs[j]?.getD 0))
theorem Ints.below {n₀ : Nat} {A B : World} (h : Below n₀ A B) {sv : Value} {zs : List Int} : Ints n₀ A sv zs → Ints n₀ B sv zs
  | .inl e => .inl e
  | .inr ⟨b, off, cap, e, hb, hc⟩ => .inr ⟨b, off, cap, e, hb, fun j hj => (h.cell (p := ⟨b, off + j, none⟩) hb).trans (hc j hj)⟩
def ltInt' (a b : Int) : Bool := decide (a < b)
def intsO (l : List Int) : Option (List Int) := if l.length ≤ lim then some (isortB ltInt' l) else none
theorem merge_isort (l : List Int) : (l.mergeSort fun x y => decide (x ≤ y)) = isortB ltInt' l := by
  have hO : Go.Sort.SWO ltInt' := ⟨fun x => by simp [ltInt'], fun x y z h1 h2 => by simp [ltInt'] at *; omega, fun x y z h1 h2 => by simp [ltInt'] at *; omega⟩
  refine List.Perm.eq_of_pairwise (le := fun a b => ltInt' b a = false) (fun a b _ _ h1 h2 => by simp [ltInt'] at *; omega) ?_ (isortB_sorted hO l) ((List.mergeSort_perm _ _).trans (isortB_perm _ l).symm)
  have := List.pairwise_mergeSort (le := fun x y : Int => decide (x ≤ y)) (fun a b c h1 h2 => by simp at *; omega) (fun a b => by simp; omega) l
  exact this.imp fun h => by simp [ltInt'] at *; omega
theorem overK_of {P : Program} {c g : Nat} {t : TypeId} (hb : HasBody P c = true)
    (hcall : ∀ (Bs : Nat) (sv : Value) (zs : List Int) (w : World), zs.length * 8 ≤ 140737488351232 → Bs < w.heap.size → w.cell? ⟨Bs, 0, none⟩ = some sv → Ints w.heap.size w sv zs →
      Calls P c #[.func (.func g) #[] #[.pointer (some ⟨Bs, 0, none⟩)]] w fun e W' => ∃ v, e = .returned v ∧ W'.ownsRow w.heap.size t 1 v zs.length ((zs.mergeSort fun x y => decide (x ≤ y)).map (Value.int .i64)) ∧ Below w.heap.size w W') :
    OverK P c g (eI .i64) 1 intsO := by
  intro xs ys hf M nb k hM
  unfold intsO at hf
  split at hf <;> cases hf
  rename_i hlen
  refine ⟨hb, Nat.le_refl _, fun w g0 us hm hMon hfresh hus hfl hons => ?_⟩
  obtain ⟨u0, us', rfl, hu0, rfl⟩ := hus
  obtain ⟨hk0, hown, vals, et, hh, hrv, hone⟩ := hm.box k _ hM
  obtain ⟨vs, rfl, hvs⟩ : ∃ vs : List Value, u0 = .func (.func g) #[] vs.toArray ∧ RVs g0 w [.ptr k 0] .ext 0 vs := by
    have := hu0 .ext; simpa only [RV] using this
  obtain ⟨p, _, rfl, hp, rfl⟩ := hvs
  simp only [RV] at hp
  subst hp
  obtain ⟨sv, _, rfl, hsv, rfl⟩ := hrv
  simp only [RV] at hsv
  obtain ⟨a, cap, rfl, hcap, hcells⟩ := hsv
  have hBs : g0.box k < w.heap.size := (Array.getElem?_eq_some_iff.1 hh).1
  have hI : Ints w.heap.size w (.slice a (List.map (eI .i64) xs).length cap) xs := by
    rcases hcells with h | ⟨b, o, rfl, h⟩
    · have : xs = [] := by simpa using h
      subst this; exact .inl ⟨a, cap, rfl, rfl⟩
    · by_cases h0 : xs = []
      · subst h0; exact .inl ⟨_, cap, rfl, rfl⟩
      · have hc := ints_RDL xs o h
        refine .inr ⟨b, o, cap, by rw [List.length_map], ?_, fun j hj => ?_⟩
        · have h1 : 0 < xs.length := List.length_pos_iff.2 h0
          have := hc 0 xs[0] (List.getElem?_eq_getElem h1)
          simp only [World.cell?] at this
          cases hbk : w.heap[b]? with
          | none => simp [hbk] at this
          | some ob => exact (Array.getElem?_eq_some_iff.1 hbk).1
        · have := hc j xs[j] (List.getElem?_eq_getElem hj)
          rw [this, List.getElem?_eq_getElem hj]; rfl
  have hlen8 : xs.length * 8 ≤ 140737488351232 := by unfold lim at hlen; omega
  refine (hcall (g0.box k) _ xs w hlen8 hBs (by simp [World.cell?, hh]) hI).mono ?_
  rintro e W' ⟨v, rfl, hrow, hbel⟩
  rw [merge_isort] at hrow
  generalize isortB ltInt' xs = ys at hrow ⊢
  obtain ⟨gb, hgb, hv⟩ : ∃ gb, w.heap.size ≤ gb ∧ (ys = [] ∧ v = .slice none 0 0 ∨ ∃ cap, v = .slice (some ⟨gb, 0, none⟩) ys.length cap ∧ ys.length ≤ cap ∧ ∀ j x, ys[j]? = some x → gb < W'.heap.size ∧ W'.cell? ⟨gb, j, none⟩ = some (.int .i64 x)) := by
    obtain ⟨h1, h2⟩ := hrow
    have h1 : ys.length = xs.length := by simpa using h1
    rcases h2 with ⟨rfl, h0⟩ | ⟨gb, cap, cur, rfl, hbase, hgb, r1, r2, r3, r4⟩
    · exact ⟨w.heap.size, Nat.le_refl _, .inl ⟨List.eq_nil_of_length_eq_zero (by omega), rfl⟩⟩
    · refine ⟨gb, hbase, .inr ⟨cap, by rw [h1], by omega, fun j x hj => ⟨(Array.getElem?_eq_some_iff.1 hgb).1, ?_⟩⟩⟩
      have hj2 := (List.getElem?_eq_some_iff.1 hj).1
      have : (cur.toList.take (xs.length * 1))[j]? = some (.int .i64 x) := by rw [r4, List.getElem?_map, hj]; rfl
      rw [List.getElem?_take_of_lt (by omega)] at this
      simp only [World.cell?, hgb]
      simpa using this
  let g' : G := ⟨g0.box, fun b o => g0.imm b o ∨ (b = gb ∧ o < ys.length), fun b => if b = gb then .ext else g0.own b⟩
  have hne : ∀ b, b < w.heap.size → b ≠ gb := fun b h => by omega
  have himm : Imm g0.imm g'.imm w W' := by
    refine ⟨fun _ _ h => .inl h, fun b o h => ?_⟩
    have := (hm.imm b o h).1
    simp only [World.cell?, hbel.block b this]
  have hkept : Kept g0 w g' W' (There M) (fun _ => True) := ⟨himm, fun _ _ => rfl, fun b _ hl => ⟨by simp [g', hne b hl], hbel.block b hl, fun o => by simp [g', hne b hl]⟩⟩
  refine ⟨v, g', rfl, hm.kept hkept hMon (fun _ _ _ => trivial) trivial (fun _ _ => trivial) fun b o h => ?_, ?_, trivial, hMon, ?_⟩
  · rcases h with h | ⟨rfl, h⟩
    · obtain ⟨h1, h2⟩ := hm.imm b o h
      refine ⟨Nat.lt_of_lt_of_le h1 hbel.size, fun k => ?_⟩
      simp only [g', hne b h1, if_false]; exact h2 k
    · refine ⟨?_, fun k => by simp [g']⟩
      rcases hv with ⟨rfl, _⟩ | ⟨cap, _, _, hc⟩
      · simp at h
      · exact (hc o _ (List.getElem?_eq_getElem h)).1
  · simp only [RV]
    rcases hv with ⟨rfl, rfl⟩ | ⟨cap, rfl, hcp, hc⟩
    · simp only [RD]; exact ⟨none, 0, rfl, Nat.le_refl _, .inl rfl⟩
    · simp only [RD, List.length_map]
      refine ⟨_, cap, rfl, hcp, .inr ⟨gb, 0, rfl, RDL_ints ys 0 fun j x hj => ?_⟩⟩
      rw [Nat.zero_add]
      have h2 := (hc j x hj).2
      exact ⟨⟨.inr ⟨rfl, (List.getElem?_eq_some_iff.1 hj).1⟩, by simp [g'], by rw [h2]; rfl⟩, h2⟩
  · exact ⟨hbel.os, hbel.tape, hbel.output, hbel.size, himm, fun _ _ => rfl, fun b hb _ => ⟨by simp [g', hne b hb], hbel.block b hb, fun o => by simp [g', hne b hb]⟩⟩
end Go.Abs
end
section
namespace Go.Abs
def okE (x : api_Edge) : Bool := decide (0 ≤ x.From ∧ x.From < 4611686018427387904 ∧ 0 ≤ x.Event ∧ x.Event < 4611686018427387904)
def ltE (x y : api_Edge) : Bool := decide (x.From < y.From ∨ (x.From = y.From ∧ x.Event < y.Event))
def edgesO (l : List api_Edge) : Option (List api_Edge) := if l.length ≤ 65536 then sortO okE ltE l else none
end Go.Abs
end
section
namespace Go.Abs
open Go Go.Abs
set_option linter.unusedVariables false
set_option maxRecDepth 10000
set_option maxHeartbeats 4000000
def fuel0 : Nat := 1099511627776
def g_overseerlaw03_example := f_overseerlaw03_example
def g_automaton_checkSet := f_automaton_checkSet fuel0
def g_slices_Index_int := f_slices_Index_int fuel0
def g_slices_Contains_int := f_slices_Contains_int g_slices_Index_int
def g_automaton_checkEdges := f_automaton_checkEdges g_slices_Contains_int fuel0
def g_automaton_Check := f_automaton_Check g_automaton_checkSet g_automaton_checkEdges
def g_slices_Clone_int := f_slices_Clone_int
def g_cmp_isNaN_int := f_cmp_isNaN_int
def g_cmp_Less_int := f_cmp_Less_int g_cmp_isNaN_int
def g_slices_isNaN_int := f_slices_isNaN_int
def g_slices_BinarySearch_int := f_slices_BinarySearch_int g_cmp_Less_int g_slices_isNaN_int fuel0
def g_slices_BinarySearchFunc_int := f_slices_BinarySearchFunc_int fuel0
def g_automaton_out_1 := f_automaton_out_1
def g_automaton_out_2 := f_automaton_out_2
def g_automaton_out := f_automaton_out g_slices_BinarySearchFunc_int g_automaton_out_1 g_automaton_out_2
def g_automaton_canonical := f_automaton_canonical g_automaton_out g_slices_Clone_int g_slices_BinarySearch_int fuel0
def g_automaton_Canonical := f_automaton_Canonical g_automaton_Check g_automaton_canonical
def g_automaton_checkState := f_automaton_checkState g_automaton_Check
def g_automaton_Run_1 := f_automaton_Run_1 g_slices_Contains_int
def g_slices_IndexFunc_int := f_slices_IndexFunc_int fuel0
def g_slices_ContainsFunc_int := f_slices_ContainsFunc_int g_slices_IndexFunc_int
def g_automaton_next_1 := f_automaton_next_1
def g_slices_IndexFunc_Edge := f_slices_IndexFunc_Edge fuel0
def g_automaton_next := f_automaton_next g_automaton_out g_slices_IndexFunc_Edge g_automaton_next_1
def g_automaton_follow := f_automaton_follow g_automaton_next fuel0
def g_automaton_Run := f_automaton_Run g_automaton_checkState g_slices_ContainsFunc_int g_automaton_Run_1 g_automaton_follow
def g_automaton_Words := f_automaton_Words g_automaton_Check g_automaton_out g_slices_Clone_int g_slices_Contains_int fuel0
def g_automaton_Relabel := f_automaton_Relabel g_automaton_Check g_slices_Contains_int intsO g_slices_Index_int edgesO g_automaton_canonical fuel0
def g_overseerref03_SameInts := f_overseerref03_SameInts fuel0
def g_overseerref03_Same := f_overseerref03_Same g_overseerref03_SameInts fuel0
def g_overseerlaw03_known := f_overseerlaw03_known g_automaton_Words g_automaton_Relabel g_overseerref03_Same g_automaton_Canonical g_automaton_Run g_overseerref03_SameInts g_overseerlaw03_example
def g_overseerlaw03_few := f_overseerlaw03_few
def g_overseerref03_List := f_overseerref03_List fuel0
def g_overseerref03_has := f_overseerref03_has fuel0
def g_overseerref03_Check := f_overseerref03_Check g_overseerref03_has g_overseerref03_List fuel0
def g_automaton_reached := f_automaton_reached g_automaton_follow
def g_automaton_Generates := f_automaton_Generates g_automaton_Check g_automaton_reached
def g_automaton_Accepts := f_automaton_Accepts g_automaton_Check g_slices_Contains_int g_automaton_reached
def g_overseerlaw03_AutomatonLanguages := f_overseerlaw03_AutomatonLanguages g_overseerlaw03_known g_overseerlaw03_few g_overseerref03_Check g_automaton_Canonical g_automaton_Generates g_automaton_Accepts fuel0
end Go.Abs
end
section
namespace Go.Proofs
open Go.Shelf
def Try.sortE_ren : Go.Shelf.Ren := ⟨fun | 6 => 76 | 15 => 84 | 14 => 85 | 28 => 96 | 29 => 97 | 20 => 98 | 21 => 99 | 22 => 100 | 23 => 101 | 24 => 102 | 25 => 103 | 26 => 104 | 27 => 105 | 46 => 112 | 47 => 108 | 48 => 109 | 49 => 113 | 50 => 114 | 57 => 116 | n => n, fun | 22 => 29 | 24 => 43 | 25 => 97 | 3 => 3 | 39 => 102 | 0 => 0 | 53 => 116 | 55 => 118 | 4 => 4 | 46 => 110 | 45 => 109 | 50 => 88 | 5 => 5 | 9 => 9 | 66 => 124 | 70 => 128 | 76 => 132 | 77 => 59 | n => n, fun | n => n⟩
theorem Try.sortE : Go.Proofs.SlLaysF0.n6 Try.prog Try.sortE_ren := {
  mixed := by kernel_rfl
  f6 := ⟨Try.f76.name, by decide, Try.func76.trans (congrArg some (by kernel_rfl))⟩
  f14 := ⟨Try.f85.name, by decide, Try.func85.trans (congrArg some (by kernel_rfl))⟩
  f15 := Try.func84.trans (congrArg some (by kernel_rfl))
  f20 := ⟨Try.f98.name, by decide, Try.func98.trans (congrArg some (by kernel_rfl))⟩
  f21 := ⟨Try.f99.name, by decide, Try.func99.trans (congrArg some (by kernel_rfl))⟩
  f22 := ⟨Try.f100.name, by decide, Try.func100.trans (congrArg some (by kernel_rfl))⟩
  f23 := ⟨Try.f101.name, by decide, Try.func101.trans (congrArg some (by kernel_rfl))⟩
  f24 := ⟨Try.f102.name, by decide, Try.func102.trans (congrArg some (by kernel_rfl))⟩
  f25 := ⟨Try.f103.name, by decide, Try.func103.trans (congrArg some (by kernel_rfl))⟩
  f26 := ⟨Try.f104.name, by decide, Try.func104.trans (congrArg some (by kernel_rfl))⟩
  f27 := ⟨Try.f105.name, by decide, Try.func105.trans (congrArg some (by kernel_rfl))⟩
  f28 := Try.func96.trans (congrArg some (by kernel_rfl))
  f29 := Try.func97.trans (congrArg some (by kernel_rfl))
  f46 := ⟨Try.f112.name, by decide, Try.func112.trans (congrArg some (by kernel_rfl))⟩
  f47 := Try.func108.trans (congrArg some (by kernel_rfl))
  f48 := Try.func109.trans (congrArg some (by kernel_rfl))
  f49 := ⟨Try.f113.name, by decide, Try.func113.trans (congrArg some (by kernel_rfl))⟩
  f50 := ⟨Try.f114.name, by decide, Try.func114.trans (congrArg some (by kernel_rfl))⟩
  f57 := ⟨Try.f116.name, by decide, Try.func116.trans (congrArg some (by kernel_rfl))⟩
  t0 := Try.underlying0
  a0 := Try.isAgg0
  z0 := Try.sizeOf0
  v0 := Try.zeroValue0
  t3 := Try.underlying3
  a3 := Try.isAgg3
  z3 := Try.sizeOf3
  v3 := Try.zeroValue3
  t4 := Try.underlying4
  a4 := Try.isAgg4
  z4 := Try.sizeOf4
  v4 := Try.zeroValue4
  t5 := Try.underlying5
  a5 := Try.isAgg5
  z5 := Try.sizeOf5
  v5 := Try.zeroValue5
  t9 := Try.underlying9
  a9 := Try.isAgg9
  z9 := Try.sizeOf9
  v9 := Try.zeroValue9
  t22 := Try.underlying29
  a22 := Try.isAgg29
  z22 := Try.sizeOf29
  v22 := Try.zeroValue29
  t25 := Try.underlying97
  a25 := Try.isAgg97
  z25 := Try.sizeOf97
  v25 := Try.zeroValue97
  t39 := Try.underlying102
  a39 := Try.isAgg102
  z39 := Try.sizeOf102
  v39 := Try.zeroValue102
  t45 := Try.underlying109
  a45 := Try.isAgg109
  z45 := Try.sizeOf109
  v45 := Try.zeroValue109
  t46 := Try.underlying110
  a46 := Try.isAgg110
  z46 := Try.sizeOf110
  v46 := Try.zeroValue110
  t50 := Try.underlying88
  a50 := Try.isAgg88
  z50 := Try.sizeOf88
  v50 := Try.zeroValue88
  t53 := Try.underlying116
  a53 := Try.isAgg116
  z53 := Try.sizeOf116
  v53 := Try.zeroValue116
  t55 := Try.underlying118
  a55 := Try.isAgg118
  z55 := Try.sizeOf118
  v55 := Try.zeroValue118
  t66 := Try.underlying124
  a66 := Try.isAgg124
  z66 := Try.sizeOf124
  v66 := Try.zeroValue124
  t70 := Try.underlying128
  a70 := Try.isAgg128
  z70 := Try.sizeOf128
  v70 := Try.zeroValue128
  t76 := Try.underlying132
  a76 := Try.isAgg132
  z76 := Try.sizeOf132
  v76 := Try.zeroValue132
  t77 := Try.underlying59
  a77 := Try.isAgg59
  z77 := Try.sizeOf59
  v77 := Try.zeroValue59 }
def Try.sortI_ren : Go.Shelf.Ren := ⟨fun | 5 => 74 | 8 => 84 | 7 => 83 | 19 => 96 | 20 => 97 | 10 => 88 | 11 => 89 | 12 => 90 | 13 => 91 | 14 => 92 | 15 => 93 | 16 => 86 | 17 => 94 | 18 => 95 | 30 => 107 | 31 => 108 | 32 => 109 | 33 => 110 | 34 => 111 | 35 => 106 | 40 => 115 | n => n, fun | 23 => 28 | 25 => 3 | 3 => 3 | 32 => 102 | 22 => 28 | 0 => 0 | 44 => 116 | 46 => 118 | 4 => 4 | 36 => 110 | 35 => 109 | 41 => 88 | 5 => 5 | 9 => 9 | 53 => 124 | 57 => 128 | 63 => 132 | 64 => 59 | n => n, fun | n => n⟩
theorem Try.sortI : Go.Proofs.SlLaysM.n5 Try.prog Try.sortI_ren := {
  mixed := by kernel_rfl
  f5 := ⟨Try.f74.name, by decide, Try.func74.trans (congrArg some (by kernel_rfl))⟩
  f7 := ⟨Try.f83.name, by decide, Try.func83.trans (congrArg some (by kernel_rfl))⟩
  f8 := Try.func84.trans (congrArg some (by kernel_rfl))
  f10 := ⟨Try.f88.name, by decide, Try.func88.trans (congrArg some (by kernel_rfl))⟩
  f11 := ⟨Try.f89.name, by decide, Try.func89.trans (congrArg some (by kernel_rfl))⟩
  f12 := ⟨Try.f90.name, by decide, Try.func90.trans (congrArg some (by kernel_rfl))⟩
  f13 := ⟨Try.f91.name, by decide, Try.func91.trans (congrArg some (by kernel_rfl))⟩
  f14 := ⟨Try.f92.name, by decide, Try.func92.trans (congrArg some (by kernel_rfl))⟩
  f15 := ⟨Try.f93.name, by decide, Try.func93.trans (congrArg some (by kernel_rfl))⟩
  f16 := ⟨Try.f86.name, by decide, Try.func86.trans (congrArg some (by kernel_rfl))⟩
  f17 := ⟨Try.f94.name, by decide, Try.func94.trans (congrArg some (by kernel_rfl))⟩
  f18 := ⟨Try.f95.name, by decide, Try.func95.trans (congrArg some (by kernel_rfl))⟩
  f19 := Try.func96.trans (congrArg some (by kernel_rfl))
  f20 := Try.func97.trans (congrArg some (by kernel_rfl))
  f30 := ⟨Try.f107.name, by decide, Try.func107.trans (congrArg some (by kernel_rfl))⟩
  f31 := Try.func108.trans (congrArg some (by kernel_rfl))
  f32 := Try.func109.trans (congrArg some (by kernel_rfl))
  f33 := ⟨Try.f110.name, by decide, Try.func110.trans (congrArg some (by kernel_rfl))⟩
  f34 := ⟨Try.f111.name, by decide, Try.func111.trans (congrArg some (by kernel_rfl))⟩
  f35 := ⟨Try.f106.name, by decide, Try.func106.trans (congrArg some (by kernel_rfl))⟩
  f40 := ⟨Try.f115.name, by decide, Try.func115.trans (congrArg some (by kernel_rfl))⟩
  t0 := Try.underlying0
  a0 := Try.isAgg0
  z0 := Try.sizeOf0
  v0 := Try.zeroValue0
  t3 := Try.underlying3
  a3 := Try.isAgg3
  z3 := Try.sizeOf3
  v3 := Try.zeroValue3
  t4 := Try.underlying4
  a4 := Try.isAgg4
  z4 := Try.sizeOf4
  v4 := Try.zeroValue4
  t5 := Try.underlying5
  a5 := Try.isAgg5
  z5 := Try.sizeOf5
  v5 := Try.zeroValue5
  t9 := Try.underlying9
  a9 := Try.isAgg9
  z9 := Try.sizeOf9
  v9 := Try.zeroValue9
  t22 := Try.underlying28
  a22 := Try.isAgg28
  z22 := Try.sizeOf28
  v22 := Try.zeroValue28
  t23 := Try.underlying28
  a23 := Try.isAgg28
  z23 := Try.sizeOf28
  v23 := Try.zeroValue28
  t25 := Try.underlying3
  a25 := Try.isAgg3
  z25 := Try.sizeOf3
  v25 := Try.zeroValue3
  t32 := Try.underlying102
  a32 := Try.isAgg102
  z32 := Try.sizeOf102
  v32 := Try.zeroValue102
  t35 := Try.underlying109
  a35 := Try.isAgg109
  z35 := Try.sizeOf109
  v35 := Try.zeroValue109
  t36 := Try.underlying110
  a36 := Try.isAgg110
  z36 := Try.sizeOf110
  v36 := Try.zeroValue110
  t41 := Try.underlying88
  a41 := Try.isAgg88
  z41 := Try.sizeOf88
  v41 := Try.zeroValue88
  t44 := Try.underlying116
  a44 := Try.isAgg116
  z44 := Try.sizeOf116
  v44 := Try.zeroValue116
  t46 := Try.underlying118
  a46 := Try.isAgg118
  z46 := Try.sizeOf118
  v46 := Try.zeroValue118
  t53 := Try.underlying124
  a53 := Try.isAgg124
  z53 := Try.sizeOf124
  v53 := Try.zeroValue124
  t57 := Try.underlying128
  a57 := Try.isAgg128
  z57 := Try.sizeOf128
  v57 := Try.zeroValue128
  t63 := Try.underlying132
  a63 := Try.isAgg132
  z63 := Try.sizeOf132
  v63 := Try.zeroValue132
  t64 := Try.underlying59
  a64 := Try.isAgg59
  z64 := Try.sizeOf59
  v64 := Try.zeroValue59 }
end Go.Proofs
end
section
namespace Go.Proofs
open Go.Shelf Go.RowKit Go.Lib Go.Sort Go.Abs
abbrev EdgeOk := {x : api_Edge // okE x = true}
instance : Inhabited EdgeOk := ⟨⟨⟨0, 0, 0⟩, rfl⟩⟩
def cfE (x y : EdgeOk) : Int := if x.1.From = y.1.From then x.1.Event - y.1.Event else x.1.From - y.1.From
theorem ltOf_cfE (x y : EdgeOk) : ltOf cfE x y = ltE x.1 y.1 := by
  unfold ltOf cfE ltE
  apply decide_eq_decide.2
  split <;> omega
theorem swoE : SWO (ltOf cfE) := {
  irrefl x := by rw [ltOf_cfE]; simp [ltE]
  trans x y z h1 h2 := by rw [ltOf_cfE] at *; simp only [ltE, decide_eq_true_eq] at *; omega
  ntrans x y z h1 h2 := by rw [ltOf_cfE] at *; simp only [ltE, decide_eq_false_iff_not] at *; omega }
set_option maxHeartbeats 1000000 in
theorem Try.edges77 (x y : EdgeOk) (W : World) : Calls Try.prog 77 #[.agg ((e_api_Edge x.1).map D.val).toArray, .agg ((e_api_Edge y.1).map D.val).toArray] W fun e w' => e = .returned (.int .i64 (cfE x y)) ∧ ∃ q os', w' = grow (W.drewN q) os' := by
  obtain ⟨⟨a, b, c⟩, hx0⟩ := x
  obtain ⟨⟨a', b', c'⟩, hy0⟩ := y
  have hx := hx0
  have hy := hy0
  simp only [okE, decide_eq_true_eq] at hx hy
  have w1 : IntKind.i64.wrap (a - a') = a - a' := by simp [IntKind.wrap, IntKind.bits, IntKind.signed]; omega
  have w2 : IntKind.i64.wrap (b - b') = b - b' := by simp [IntKind.wrap, IntKind.bits, IntKind.signed]; omega
  have hr : cfE ⟨⟨a, b, c⟩, hx0⟩ ⟨⟨a', b', c'⟩, hy0⟩ = if a = a' then b - b' else a - a' := rfl
  generalize cfE ⟨⟨a, b, c⟩, hx0⟩ ⟨⟨a', b', c'⟩, hy0⟩ = r at hr ⊢
  simp only [e_api_Edge, List.map_cons, List.map_nil, D.val]
  go_enter Try.func77, Try.ntmps77
  go_wp2
  · rename_i h
    have h : a ≠ a' := by simpa using h
    go_ret
    exact ⟨by rw [hr, if_neg h]; rfl, 0, _, by rw [alloc_eq_grow, alloc_eq_grow, grow_grow]; rfl⟩
  · rename_i h
    have h : a = a' := by simpa using h
    go_ret
    exact ⟨by rw [hr, if_pos h]; rfl, 0, _, by rw [alloc_eq_grow, alloc_eq_grow, grow_grow]; rfl⟩
set_option maxHeartbeats 1000000 in
theorem Try.row76 : RowFn Try.prog 76 (fun x : EdgeOk => e_api_Edge x.1) #[.func (.func 77) #[] #[]] (fun xs => (pdq (ltOf cfE) xs.toArray 0 xs.length (Lib.bitLen xs.length) true true).toList) :=
  rowFn_sortFunc Try.sortE Try.isAgg43 Try.sizeOf43 (fun x : EdgeOk => e_api_Edge x.1) (fun _ => rfl) (by decide) (fun _ => rfl) cfE swoE 77 #[] (enters_of Try.func77 (by kernel_rfl) rfl) (fun x y W => Try.edges77 x y W)
set_option maxHeartbeats 1000000 in
theorem Try.row55 : RowFn Try.prog 55 (fun x : EdgeOk => e_api_Edge x.1) #[] (fun xs => (pdq (ltOf cfE) xs.toArray 0 xs.length (Lib.bitLen xs.length) true true).toList) := by
  refine RowFn.from_caller Try.row76 fun p n cap w _ _ F hcon => ?_
  go_enter Try.func55, Try.ntmps55
  go_wp2_with (go_at_call 76; refine hcon.mono ?_; rintro e w' ⟨rfl, n, os, rfl⟩)
  go_end0
  exact ⟨rfl, n, os, rfl⟩
set_option maxHeartbeats 1000000 in
theorem Try.none55 (p : Option Addr) (cap : Nat) (w : World) : Calls Try.prog 55 (#[.slice p 0 cap] ++ #[]) w fun e' w' => e' = .returned (.tuple #[]) ∧ w' = w := by
  have hcon := fun w => AnyF.slices_SortFunc_none Try.sortE p cap (.func (.func 77) #[] #[]) w
  change ∀ w, Calls Try.prog 76 _ _ _ at hcon
  go_enter Try.func55, Try.ntmps55
  go_wp2_with (go_at_call 76; refine (hcon _).mono ?_; rintro e w' ⟨rfl, rfl⟩)
  go_end0
  exact ⟨rfl, rfl⟩
theorem Try.rowK55 : Go.Abs.RowK Try.prog 55 e_api_Edge 3 [] edgesO :=
  rowK_sort (e := e_api_Edge) (sz := 3) (N := 65536) (by decide) (fun _ => rfl) (fun _ => rfl) swoE ltOf_cfE (by kernel_rfl) (ex := #[]) (exV := []) (fun _ _ us h => h) Try.row55 Try.none55
end Go.Proofs
end
section
namespace Go.Proofs
open Go.RowKit Go.Maps Go.Sort Go.Shelf
attribute [local go_sem] Oper.semAt_some
def Try.upto {α : Type} (f : Nat → α) (k : Nat) : List α := (List.range k).map f
theorem Try.upto_succ {α : Type} (f : Nat → α) (k : Nat) : Try.upto f (k + 1) = Try.upto f k ++ [f k] := by simp [Try.upto, List.range_succ]
theorem Try.upto_length {α : Type} (f : Nat → α) (k : Nat) : (Try.upto f k).length = k := by simp [Try.upto]
theorem Try.upto_all (zs : List Int) : Try.upto (fun j => zs[j]?.getD 0) zs.length = zs := by
  apply List.ext_getElem
  · simp [Try.upto]
  · intro i h1 h2
    simp [Try.upto, h2]
theorem Try.upto_take (zs : List Int) {k : Nat} (hk : k ≤ zs.length) : Try.upto (fun j => zs[j]?.getD 0) k = zs.take k := by
  apply List.ext_getElem
  · simp [Try.upto, hk]
  · intro i h1 h2
    have : i < zs.length := by simp [Try.upto] at h1; omega
    simp [Try.upto, this]
set_option maxRecDepth 100000 in
set_option maxHeartbeats 2000000 in
theorem Try.values1_in (F : Fence) (n : Nat) (h7 : F.fn 75) (hro : F.round = none) (hn : 1 ≤ n) (l Bs n₀ b off len cap : Nat) (zs : List Int) (hreach : len * 8 ≤ 140737488351232) (hb : b < n₀) (J Jx : List Int → World → Prop)
    (hY : ∀ pre x W, J pre W → pre.length < len → YieldAt F (n - 1) Try.prog l #[.int .i64 x] W fun e W' =>
      (e = .returned (.bool true) ∧ J (pre ++ [x]) W' ∧ Below n₀ W W') ∨ (e = .returned (.bool false) ∧ Jx (pre ++ [x]) W'))
    (W : World) (hBs : W.cell? ⟨Bs, 0, none⟩ = some (.slice (some ⟨b, off, none⟩) len cap)) (hc : ∀ j, j < len → W.cell? ⟨b, off + j, none⟩ = some (.int .i64 (zs[j]?.getD 0))) (h0 : J [] W) :
    CallsIn F n Try.prog 75 #[.func (.yield l) #[] #[], .pointer (some ⟨Bs, 0, none⟩)] W fun e W' => (∃ v, e = .returned v) ∧
      ((∃ ys, ys = Try.upto (fun j => zs[j]?.getD 0) len ∧ J ys W') ∨ (∃ pre, (∃ k, k ≤ len ∧ pre = Try.upto (fun j => zs[j]?.getD 0) k) ∧ Jx pre W')) := by
  refine callsIn_of_wp Try.func75 rfl h7 ?_ hro
  simp only [Try.ntmps75, List.size_toArray, List.length_cons, List.length_nil, Nat.reduceAdd, Nat.reduceSub, Array.replicate_succ, Array.replicate_zero, List.push_toArray, List.append_toArray, List.nil_append, List.cons_append]
  gi_wp2
  gi_loopw [7] (fun i wr => ∃ k : Nat, k ≤ len ∧ i = .int .i64 k ∧ J (Try.upto (fun j => zs[j]?.getD 0) k) wr ∧ Below n₀ W wr)
    (fun i _ => len - (intOf i).toNat)
  case atStart => exact ⟨0, Nat.zero_le _, rfl, h0, Below.refl _ _⟩
  case round =>
    obtain ⟨k, hk, rfl, hJs, hnx⟩ := hrel
    have hcx : k < len → wr.cell? ⟨b, off + k, none⟩ = some (.int .i64 (zs[k]?.getD 0)) := fun h => (hnx.cell (p := ⟨b, off + k, none⟩) hb).trans (hc k h)
    by_cases hlt : k < len
    · obtain ⟨fn, tmps, assign, body, hy, hR⟩ := hY _ (zs[k]?.getD 0) wr hJs (by rw [Try.upto_length]; exact hlt)
      have hcx' := hcx hlt
      gi_wp2
      refine hR.mono ?_
      rintro e W3 (⟨rfl, hJ3, hk3⟩ | ⟨rfl, hJx3⟩)
      · gi_wp2
        go_roundw
        case rel => exact ⟨k + 1, by omega, by simp, by rw [Try.upto_succ]; exact hJ3, hnx.trans hk3⟩
        case measure => simp [intOf]; omega
      · gi_wp2
        refine bodyPost_ret (results_none rfl _ _ _) rfl ?_
        exact ⟨⟨_, rfl⟩, .inr ⟨_, ⟨k + 1, by omega, (Try.upto_succ _ _).symm⟩, hJx3⟩⟩
    · obtain rfl : k = len := by omega
      gi_wp2
      go_end0
      exact ⟨⟨_, rfl⟩, .inl ⟨_, rfl, hJs⟩⟩
set_option maxRecDepth 100000 in
set_option maxHeartbeats 1000000 in
theorem Try.values1_nil_in (F : Fence) (n : Nat) (h7 : F.fn 75) (hro : F.round = none) (l Bs : Nat) (a : Option Addr) (cap : Nat) (J : List Int → World → Prop) (W : World) (hBs : W.cell? ⟨Bs, 0, none⟩ = some (.slice a 0 cap)) (h0 : J [] W) :
    CallsIn F n Try.prog 75 #[.func (.yield l) #[] #[], .pointer (some ⟨Bs, 0, none⟩)] W fun e W' => (∃ v, e = .returned v) ∧ J [] W' := by
  refine callsIn_of_wp Try.func75 rfl h7 ?_ hro
  simp only [Try.ntmps75, List.size_toArray, List.length_cons, List.length_nil, Nat.reduceAdd, Nat.reduceSub, Array.replicate_succ, Array.replicate_zero, List.push_toArray, List.append_toArray, List.nil_append, List.cons_append]
  gi_wp2
  gi_loopw [7] (fun i wr => i = .int .i64 0 ∧ J [] wr) (fun _ _ => 0)
  case atStart => exact ⟨rfl, h0⟩
  case round =>
    obtain ⟨rfl, hJs⟩ := hrel
    gi_wp2
    go_end0
    exact ⟨⟨_, rfl⟩, hJs⟩
theorem Try.values_stops (F : Fence) (n : Nat) (h7 : F.fn 75) (hro : F.round = none) (hn : 1 ≤ n) (Bs n₀ : Nat) (sv : Value) (zs : List Int) (hreach : zs.length * 8 ≤ 140737488351232) (w : World) (hBs : Bs < w.heap.size) (hn₀ : n₀ ≤ w.heap.size)
    (hc : w.cell? ⟨Bs, 0, none⟩ = some sv) (hI : Go.Abs.Ints n₀ w sv zs) :
    SeqStopsK F n Try.prog 75 #[.pointer (some ⟨Bs, 0, none⟩)] (fun x : Int => #[Value.int .i64 x]) (Below n₀) (fun ys => ys = zs) (fun pre => pre <+: zs) zs.length w := fun l J Jx W hW _ _ hY h0 => by
  have hc' := (hW.cell (p := ⟨Bs, 0, none⟩) hBs).trans hc
  rcases hI.below (hW.mono hn₀) with ⟨a, cap, rfl, rfl⟩ | ⟨b, off, cap, rfl, hb, hcs⟩
  · exact (Try.values1_nil_in F n h7 hro l Bs a cap J W hc' h0).mono fun e W' ⟨he, hj⟩ => ⟨he, .inl ⟨_, rfl, hj⟩⟩
  · refine (Try.values1_in F n h7 hro hn l Bs n₀ b off zs.length cap zs hreach hb J Jx hY W hc' hcs h0).mono ?_
    rintro e W' ⟨he, ⟨ys, rfl, hj⟩ | ⟨pre, ⟨k, hk, rfl⟩, hj⟩⟩
    · exact ⟨he, .inl ⟨_, Try.upto_all zs, hj⟩⟩
    · exact ⟨he, .inr ⟨_, by rw [Try.upto_take zs hk]; exact List.take_prefix _ _, hj⟩⟩
theorem Try.info3 : (Try.prog.info? 3).map (fun i => (i.zero, i.size, i.bytes)) = some (some (.int .i64 0), 1, 8) := by kernel_rfl
set_option maxRecDepth 100000 in
set_option maxHeartbeats 2000000 in
theorem Try.appendSeq_in (F : Fence) (n : Nat) (h82 : F.fn 82) (h75 : F.fn 75) (hro : F.round = none) (hn : 3 ≤ n) (Bs : Nat) (sv : Value) (zs : List Int) (hlen : zs.length * 8 ≤ 140737488351232) (w : World) (hBs : Bs < w.heap.size) (hc0 : w.cell? ⟨Bs, 0, none⟩ = some sv) (hI : Go.Abs.Ints w.heap.size w sv zs) :
    CallsIn F n Try.prog 82 #[.slice none 0 0, .func (.func 75) #[] #[.pointer (some ⟨Bs, 0, none⟩)]] w fun e W' => ∃ v, e = .returned v ∧ W'.ownsRow w.heap.size 3 1 v zs.length (zs.map (Value.int .i64)) ∧ (v = .slice none 0 0 ↔ zs = []) ∧ Below w.heap.size w W' := by
  have h1 : 1 ≤ n := by omega
  obtain ⟨i0, hi, hz0, hz1, hz2⟩ := info_parts Try.info3
  refine callsIn_of_wp_marks Try.func82 rfl h82 ?_ hro
  simp only [Try.ntmps82, List.size_toArray, List.length_cons, List.length_nil, Nat.reduceAdd, Nat.reduceSub, Array.replicate_succ, Array.replicate_zero, List.push_toArray, List.append_toArray, List.nil_append, List.cons_append]
  gi_wp2
  have bO := Boxed.new w 28 (.slice none 0 0)
  have hB0 : Below w.heap.size w (w.alloc (.cells #[.slice none 0 0] 28)) := (Below.refl _ w).alloc (Nat.le_refl _) _
  refine wpIn_rangeFunc_ownG hro h1 (gf := 75) (lb := #[.pointer (some ⟨Bs, 0, none⟩)]) rfl h75 (enters_of Try.func75 (by kernel_rfl) rfl)
    (Try.values_stops F (n - 1) h75 hro (by omega) Bs w.heap.size sv zs hlen _ (by simp; omega) (by simp) ((hB0.cell (p := ⟨Bs, 0, none⟩) hBs).trans hc0) (hI.below hB0)) belowK_t (belowK_b (by simp)) (Below.refl _ _) (fun _ => rfl)
    (fun pre W => (∃ v, Boxed W w.heap.size 28 v ∧ W.ownsRow w.heap.size 3 1 v pre.length (pre.map (Value.int .i64)) ∧ (v = .slice none 0 0 ↔ pre = [])) ∧ Below w.heap.size w W)
    (fun _ _ _ => False)
    (OwnFrom.and (Own.from (holdsRow_own w.heap.size w.heap.size 28 3 1 (fun pre => pre.length) (fun pre => pre.map (Value.int .i64)) (fun pre v => v = .slice none 0 0 ↔ pre = [])) _) (ownFrom_below (Nat.le_refl _) (by simp)))
    (fun _ _ _ _ _ hs _ _ => hs)
    ⟨⟨_, bO, World.ownsRow_nil _ _ _ _, by simp⟩, hB0⟩
    (fun x => { tmps := #[.slice none 0 0, .func (.func 75) #[] #[.pointer (some ⟨Bs, 0, none⟩)], .pointer (some ⟨w.heap.size, 0, none⟩), undef, .slice none 0 0, .int .i64 x, .func (.func 75) #[] #[.pointer (some ⟨Bs, 0, none⟩)], .int .i64 x, undef, undef, undef, undef, undef], defers := [] }) ?assign ?body ?done ?stop
  case assign =>
    intro l x W K hK
    gi_wp2
    exact hK
  case body =>
    rintro l pre x W ⟨⟨v, hv, hrow, hnil⟩, hB⟩ hlt
    have hc := hv.cell
    gi_wp2_with (gi_at_builtin; refine wpListIn_append_own _ rfl _ _ 28 rfl w.heap.size 3 i0 (.int .i64 0) 1 8 Try.underlying28 hi hz0 hz1 hz2 rfl (by decide) _ _ _ rfl (hrow.alloc _) ⟨W.heap.size, 0, none⟩ 1 1 [.int .i64 x] rfl rfl (cell_one_new _ _ _) (by simp [Value.oneCell']) (by have : maxLen = 9223372036854775807 := rfl; omega) (by omega) (by have := hB.size; simp; omega) ?_; intro v' w1 hown' hgrow _; obtain ⟨g', cap', rfl⟩ := ownsRow_succ hown'; obtain ⟨hv1, hv2, hr2, hk2, hb2⟩ := hv.appended (by decide) hrow hB.size (Nat.le_refl _) hown' hgrow; have hc1 := hv1.cell; have hf1 := hv1.frozen)
    exact ⟨hk2.from _, hb2, ⟨_, hv2, by simpa using hr2, by simp⟩, hB.trans hb2⟩
  case done =>
    rintro D ys W hD rfl ⟨⟨v, hv, hrow, hnil⟩, hB⟩ hK
    have hc := hv.cell
    gi_wp2
    refine ⟨by simp, .inl ⟨_, _, rfl, run_takeDeferred hK, ?_⟩⟩
    exact ⟨_, results_tmp rfl _ _ _, v, rfl, ownsRow_putObj hrow _ hK rfl, hnil, hB.trans (belowK_b (w := w) (Nat.le_refl _) W D _ _ (by simp at hD; omega) hK rfl rfl)⟩
  case stop =>
    rintro D c pre W _ _ h _
    exact h.elim
set_option maxHeartbeats 1000000 in
theorem Try.collect_in (F : Fence) (n : Nat) (h73 : F.fn 73) (h82 : F.fn 82) (h75 : F.fn 75) (hro : F.round = none) (hn : 4 ≤ n) (Bs : Nat) (sv : Value) (zs : List Int) (hlen : zs.length * 8 ≤ 140737488351232) (w : World) (hBs : Bs < w.heap.size) (hc0 : w.cell? ⟨Bs, 0, none⟩ = some sv) (hI : Go.Abs.Ints w.heap.size w sv zs) :
    CallsIn F n Try.prog 73 #[.func (.func 75) #[] #[.pointer (some ⟨Bs, 0, none⟩)]] w fun e W' => ∃ v, e = .returned v ∧ W'.ownsRow w.heap.size 3 1 v zs.length (zs.map (Value.int .i64)) ∧ (v = .slice none 0 0 ↔ zs = []) ∧ Below w.heap.size w W' := by
  have h1 : 1 ≤ n := by omega
  refine callsIn_of_wp Try.func73 rfl h73 ?_ hro
  simp only [Try.ntmps73, List.size_toArray, List.length_cons, List.length_nil, Nat.reduceAdd, Nat.reduceSub, Array.replicate_succ, Array.replicate_zero, List.push_toArray, List.append_toArray, List.nil_append, List.cons_append]
  gi_wp2_with (gi_at_call 82; refine (Try.appendSeq_in F (n - 1) h82 h75 hro (by omega) Bs sv zs hlen _ hBs hc0 hI).mono ?_; rintro e w' ⟨v, rfl, hrow, hnil, hb⟩)
  go_ret
  exact ⟨v, rfl, hrow, hnil, hb⟩
set_option maxRecDepth 100000 in
set_option maxHeartbeats 2000000 in
theorem Try.sorted_in (F : Fence) (n : Nat) (h52 : F.fn 52) (h73 : F.fn 73) (h82 : F.fn 82) (h75 : F.fn 75) (h74 : F.fn 74) (hro : F.round = none) (hn : 5 ≤ n)
    (hs1 : ∀ (blk off cap : Nat) (ss : List Int) (W : World), Holds encZ W blk off ss.toArray → blk < W.heap.size → ss.length < 4611686018427387904 →
      CallsIn F (n - 1) Try.prog 74 #[.slice (some ⟨blk, off, none⟩) ss.length cap] W fun e w' => e = .returned (.tuple #[]) ∧ ∃ k os, w' = grow (putRow encZ (Sort.ahead W k) blk off (ss.mergeSort fun x y => decide (x ≤ y)).toArray) os)
    (hs2 : ∀ (p : Option Addr) (cap : Nat) (W : World), CallsIn F (n - 1) Try.prog 74 #[.slice p 0 cap] W fun e w' => e = .returned (.tuple #[]) ∧ w' = W)
    (Bs : Nat) (sv : Value) (zs : List Int) (hlen : zs.length * 8 ≤ 140737488351232) (w : World) (hBs : Bs < w.heap.size) (hc0 : w.cell? ⟨Bs, 0, none⟩ = some sv) (hI : Go.Abs.Ints w.heap.size w sv zs) :
    CallsIn F n Try.prog 52 #[.func (.func 75) #[] #[.pointer (some ⟨Bs, 0, none⟩)]] w fun e W' => ∃ v, e = .returned v ∧ W'.ownsRow w.heap.size 3 1 v zs.length ((zs.mergeSort fun x y => decide (x ≤ y)).map encZ) ∧ Below w.heap.size w W' := by
  have h1 : 1 ≤ n := by omega
  refine callsIn_of_wp Try.func52 rfl h52 ?_ hro
  simp only [Try.ntmps52, List.size_toArray, List.length_cons, List.length_nil, Nat.reduceAdd, Nat.reduceSub, Array.replicate_succ, Array.replicate_zero, List.push_toArray, List.append_toArray, List.nil_append, List.cons_append]
  gi_wp2_with (gi_at_call 73; refine (Try.collect_in F (n - 1) h73 h82 h75 hro (by omega) Bs sv zs hlen _ hBs hc0 hI).mono ?_; rintro e W ⟨v, rfl, hrow, hnil, hb⟩)
  rcases hrow.2 with ⟨rfl, hz⟩ | ⟨gb, cap, cur, rfl, hbase, hgb, r1, r2, r3, r4⟩
  · have hss : zs = [] := List.eq_nil_of_length_eq_zero hz
    subst hss
    gi_wp2_with (gi_at_call 74; refine (hs2 none 0 W).mono ?_; rintro e w' ⟨rfl, rfl⟩)
    go_ret
    exact ⟨_, rfl, by simpa using hrow, hb⟩
  · have hH : Holds encZ W gb 0 zs.toArray := holds_of_block_i hgb (by simpa using r4)
    have hgl : gb < W.heap.size := (Array.getElem?_eq_some_iff.1 hgb).1
    have cS := hs1 gb 0 cap zs W hH hgl (by omega)
    gi_wp2_with (gi_at_call 74; refine cS.mono ?_; rintro e w' ⟨rfl, nn, os, rfl⟩)
    go_ret
    exact ⟨_, rfl, ownsRow_sorted_i (by simp) hbase hgb r1 r2 r3, hb.grown (grownBy_sorted_i _) hb.size (fun j hj => by cases hj; exact hbase)⟩
theorem Try.sorted52 (Bs : Nat) (sv : Value) (zs : List Int) (hlen : zs.length * 8 ≤ 140737488351232) (w : World) (hBs : Bs < w.heap.size) (hc0 : w.cell? ⟨Bs, 0, none⟩ = some sv) (hI : Go.Abs.Ints w.heap.size w sv zs) :
    Calls Try.prog 52 #[.func (.func 75) #[] #[.pointer (some ⟨Bs, 0, none⟩)]] w fun e W' => ∃ v, e = .returned v ∧ W'.ownsRow w.heap.size 3 1 v zs.length ((zs.mergeSort fun x y => decide (x ≤ y)).map encZ) ∧ Below w.heap.size w W' :=
  (callsIn_wide (n := 5)).1 (Try.sorted_in Fence.wide 5 trivial trivial trivial trivial trivial rfl (by omega) (fun blk off cap ss W hH hblk hsz => callsIn_wide.2 (AnyM.slices_Sort_int Try.sortI blk off cap ss W hH hblk hsz)) (fun p cap W => callsIn_wide.2 (AnyM.slices_Sort_int_none Try.sortI p cap W)) Bs sv zs hlen w hBs hc0 hI)
end Go.Proofs
end
section
namespace Go.Proofs
open Go.Abs
theorem Try.valuesK : ValsK Try.prog 53 75 1 4 := valsK_of (by kernel_rfl)
theorem Try.overK : OverK Try.prog 52 75 (eI .i64) 1 intsO :=
  overK_of (by kernel_rfl) fun Bs sv zs w h1 h2 h3 h4 => Try.sorted52 Bs sv zs h1 w h2 h3 h4
end Go.Proofs
end
section
namespace Go.Proofs
open Go Go.Abs
set_option linter.unusedVariables false
set_option maxRecDepth 10000
set_option maxHeartbeats 4000000
theorem ok_overseerlaw03_example : K_overseerlaw03_example Try.prog 46 g_overseerlaw03_example := overseerlaw03_example_walk C_overseerlaw03_example
theorem ok_automaton_checkSet : K_automaton_checkSet Try.prog 68 g_automaton_checkSet := automaton_checkSet_walk C_automaton_checkSet fuel0
theorem ok_slices_Index_int : K_slices_Index_int Try.prog 54 g_slices_Index_int := slices_Index_int_walk C_slices_Index_int fuel0
theorem ok_slices_Contains_int : K_slices_Contains_int Try.prog 50 g_slices_Contains_int := slices_Contains_int_walk ok_slices_Index_int C_slices_Contains_int
theorem ok_automaton_checkEdges : K_automaton_checkEdges Try.prog 69 g_automaton_checkEdges := automaton_checkEdges_walk ok_slices_Contains_int C_automaton_checkEdges fuel0
theorem ok_automaton_Check : K_automaton_Check Try.prog 45 g_automaton_Check := automaton_Check_walk ok_automaton_checkSet ok_automaton_checkEdges C_automaton_Check
theorem ok_slices_Clone_int : K_slices_Clone_int Try.prog 49 g_slices_Clone_int := slices_Clone_int_walk C_slices_Clone_int
theorem ok_cmp_isNaN_int : K_cmp_isNaN_int Try.prog 106 g_cmp_isNaN_int := cmp_isNaN_int_walk C_cmp_isNaN_int
theorem ok_cmp_Less_int : K_cmp_Less_int Try.prog 86 g_cmp_Less_int := cmp_Less_int_walk ok_cmp_isNaN_int C_cmp_Less_int
theorem ok_slices_isNaN_int : K_slices_isNaN_int Try.prog 87 g_slices_isNaN_int := slices_isNaN_int_walk C_slices_isNaN_int
theorem ok_slices_BinarySearch_int : K_slices_BinarySearch_int Try.prog 78 g_slices_BinarySearch_int := slices_BinarySearch_int_walk ok_cmp_Less_int ok_slices_isNaN_int C_slices_BinarySearch_int fuel0
theorem ok_slices_BinarySearchFunc_int : K_slices_BinarySearchFunc_int Try.prog 70 g_slices_BinarySearchFunc_int := slices_BinarySearchFunc_int_walk C_slices_BinarySearchFunc_int fuel0
theorem ok_automaton_out_1 : K_automaton_out_1 Try.prog 71 g_automaton_out_1 := automaton_out_1_walk C_automaton_out_1
theorem ok_automaton_out_2 : K_automaton_out_2 Try.prog 72 g_automaton_out_2 := automaton_out_2_walk C_automaton_out_2
theorem ok_automaton_out : K_automaton_out Try.prog 48 g_automaton_out := automaton_out_walk ok_slices_BinarySearchFunc_int ok_automaton_out_1 ok_automaton_out_2 C_automaton_out
theorem ok_automaton_canonical : K_automaton_canonical Try.prog 56 g_automaton_canonical := automaton_canonical_walk ok_automaton_out ok_slices_Clone_int ok_slices_BinarySearch_int C_automaton_canonical fuel0
theorem ok_automaton_Canonical : K_automaton_Canonical Try.prog 29 g_automaton_Canonical := automaton_Canonical_walk ok_automaton_Check ok_automaton_canonical C_automaton_Canonical
theorem ok_automaton_checkState : K_automaton_checkState Try.prog 63 g_automaton_checkState := automaton_checkState_walk ok_automaton_Check C_automaton_checkState
theorem ok_automaton_Run_1 : K_automaton_Run_1 Try.prog 65 g_automaton_Run_1 := automaton_Run_1_walk ok_slices_Contains_int C_automaton_Run_1
theorem ok_slices_IndexFunc_int : K_slices_IndexFunc_int Try.prog 79 g_slices_IndexFunc_int := slices_IndexFunc_int_walk C_slices_IndexFunc_int fuel0
theorem ok_slices_ContainsFunc_int : K_slices_ContainsFunc_int Try.prog 64 g_slices_ContainsFunc_int := slices_ContainsFunc_int_walk ok_slices_IndexFunc_int C_slices_ContainsFunc_int
theorem ok_automaton_next_1 : K_automaton_next_1 Try.prog 81 g_automaton_next_1 := automaton_next_1_walk C_automaton_next_1
theorem ok_slices_IndexFunc_Edge : K_slices_IndexFunc_Edge Try.prog 80 g_slices_IndexFunc_Edge := slices_IndexFunc_Edge_walk C_slices_IndexFunc_Edge fuel0
theorem ok_automaton_next : K_automaton_next Try.prog 67 g_automaton_next := automaton_next_walk ok_automaton_out ok_slices_IndexFunc_Edge ok_automaton_next_1 C_automaton_next
theorem ok_automaton_follow : K_automaton_follow Try.prog 66 g_automaton_follow := automaton_follow_walk ok_automaton_next C_automaton_follow fuel0
theorem ok_automaton_Run : K_automaton_Run Try.prog 34 g_automaton_Run := automaton_Run_walk ok_automaton_checkState ok_slices_ContainsFunc_int ok_automaton_Run_1 ok_automaton_follow C_automaton_Run
theorem ok_automaton_Words : K_automaton_Words Try.prog 16 g_automaton_Words := automaton_Words_walk ok_automaton_Check ok_automaton_out ok_slices_Clone_int ok_slices_Contains_int C_automaton_Words fuel0
theorem ok_automaton_Relabel : K_automaton_Relabel Try.prog 20 g_automaton_Relabel := automaton_Relabel_walk ok_automaton_Check ok_slices_Contains_int Try.overK Try.valuesK ok_slices_Index_int Try.rowK55 ok_automaton_canonical C_automaton_Relabel fuel0
theorem ok_overseerref03_SameInts : K_overseerref03_SameInts Try.prog 38 g_overseerref03_SameInts := overseerref03_SameInts_walk C_overseerref03_SameInts fuel0
theorem ok_overseerref03_Same : K_overseerref03_Same Try.prog 23 g_overseerref03_Same := overseerref03_Same_walk ok_overseerref03_SameInts C_overseerref03_Same fuel0
theorem ok_overseerlaw03_known : K_overseerlaw03_known Try.prog 13 g_overseerlaw03_known := overseerlaw03_known_walk ok_automaton_Words ok_automaton_Relabel ok_overseerref03_Same ok_automaton_Canonical ok_automaton_Run ok_overseerref03_SameInts ok_overseerlaw03_example C_overseerlaw03_known
theorem ok_overseerlaw03_few : K_overseerlaw03_few Try.prog 25 g_overseerlaw03_few := overseerlaw03_few_walk C_overseerlaw03_few
theorem ok_overseerref03_List : K_overseerref03_List Try.prog 60 g_overseerref03_List := overseerref03_List_walk C_overseerref03_List fuel0
theorem ok_overseerref03_has : K_overseerref03_has Try.prog 51 g_overseerref03_has := overseerref03_has_walk C_overseerref03_has fuel0
theorem ok_overseerref03_Check : K_overseerref03_Check Try.prog 27 g_overseerref03_Check := overseerref03_Check_walk ok_overseerref03_has ok_overseerref03_List C_overseerref03_Check fuel0
theorem ok_automaton_reached : K_automaton_reached Try.prog 62 g_automaton_reached := automaton_reached_walk ok_automaton_follow C_automaton_reached
theorem ok_automaton_Generates : K_automaton_Generates Try.prog 31 g_automaton_Generates := automaton_Generates_walk ok_automaton_Check ok_automaton_reached C_automaton_Generates
theorem ok_automaton_Accepts : K_automaton_Accepts Try.prog 32 g_automaton_Accepts := automaton_Accepts_walk ok_automaton_Check ok_slices_Contains_int ok_automaton_reached C_automaton_Accepts
theorem ok_overseerlaw03_AutomatonLanguages : K_overseerlaw03_AutomatonLanguages Try.prog 9 g_overseerlaw03_AutomatonLanguages := overseerlaw03_AutomatonLanguages_walk ok_overseerlaw03_known ok_overseerlaw03_few ok_overseerref03_Check ok_automaton_Canonical ok_automaton_Generates ok_automaton_Accepts C_overseerlaw03_AutomatonLanguages fuel0
end Go.Proofs
end
section
namespace Go.Abs
open Go Go.ChangeShapes Go.WideShapes Go.ChangeAt Go.RowKit
set_option linter.unusedVariables false
set_option linter.unusedSimpArgs false
def live (w : World) : Nat → Nat → Prop := fun b o => (w.cell? ⟨b, o, none⟩).isSome = true
def RDs (w : World) : List D → List Value → Prop
  | [], vs => vs = []
  | x :: xs, vs => ∃ u us, vs = u :: us ∧ RD (live w) w x u ∧ RDs w xs us
theorem RDs_append {w : World} : ∀ {xs ys : List D} {us vs : List Value}, RDs w xs us → RDs w ys vs → RDs w (xs ++ ys) (us ++ vs)
  | [], ys, us, vs, h, k => by simp only [RDs] at h; subst h; simpa using k
  | x :: xs, ys, us, vs, ⟨u, us', e, r, h⟩, k => by subst e; exact ⟨u, us' ++ vs, by simp, r, RDs_append h k⟩
def RDat (w : World) (cs : List Value) (off : Nat) (xs : List D) : Prop := RDs w xs ((cs.drop off).take xs.length)
theorem RDat.app {w : World} {cs : List Value} {off : Nat} {xs ys : List D} (h : RDat w cs off xs) {n : Nat} (hn : n = off + xs.length) (k : RDat w cs n ys) : RDat w cs off (xs ++ ys) := by
  subst hn
  have := RDs_append h k
  unfold RDat
  rw [List.length_append, List.take_add, List.drop_drop]
  exact this
theorem RDat.nil {w : World} {cs : List Value} {off : Nat} : RDat w cs off [] := by simp [RDat, RDs]
theorem RDat.all {w : World} {cs : List Value} {xs : List D} (h : RDat w cs 0 xs) (hl : cs.length = xs.length) : RDs w xs cs := by
  unfold RDat at h
  rw [List.drop_zero, ← hl, List.take_length] at h
  exact h
theorem RDs_RDc {w : World} {b : Nat} : ∀ {xs : List D} {vs : List Value} {o : Nat}, RDs w xs vs → (∀ i v, vs[i]? = some v → w.cell? ⟨b, o + i, none⟩ = some v) → RDc (live w) w b xs o
  | [], vs, o, _, _ => by simp [RDc]
  | x :: xs, vs, o, ⟨u, us, e, r, h⟩, hc => by
    subst e
    have h0 := hc 0 u rfl
    rw [Nat.add_zero] at h0
    refine ⟨by simp [live, h0], ⟨u, h0, r⟩, RDs_RDc h fun i v hv => ?_⟩
    have := hc (i + 1) v (by simpa using hv)
    rw [show o + 1 + i = o + (i + 1) from by omega]; exact this
def Reads {α : Type} (P : Program) (t : TypeId) (e : α → List D) (wf : α → Prop) : Prop :=
  ∀ {H : Type} {enc : TypeId × Value → H} {w : World} {base : Nat} {spare : Nat → Bool} {held : Bool} {fuel : Nat} {cs : List Value} {x : DataW H × List MemPlace},
    DataW.trod enc P w base spare held fuel t cs = some x → ∃ a, wf a ∧ RDs w (e a) cs
def wfI (k : IntKind) (n : Int) : Prop := (Lit.int k n).wf = true
def wfL {α : Type} (wf : α → Prop) (l : List α) : Prop := l.length ≤ maxLen ∧ ∀ a ∈ l, wf a
variable {P : Program} {t : TypeId}
theorem reads_int {k : IntKind} (ht : P.underlying t = some (.int k)) : Reads P t (fun n : Int => [.int k n]) (wfI k) := by
  intro H enc w base spare held fuel cs x h
  obtain ⟨n, rfl, _, hw⟩ := DataW.trod_int ht h
  exact ⟨n, hw, _, _, rfl, by simp [RD], rfl⟩
theorem cells?_get {w : World} {base : Nat} {a : Addr} {n : Nat} {cs : List Value} (h : w.cells? base a n = some cs) : cs.length = n ∧ ∀ i v, cs[i]? = some v → w.cell? (a.add i) = some v := by
  obtain ⟨h1, h2, h3⟩ := World.cells?_some h
  refine ⟨h2, fun i v hv => ?_⟩
  have hi := (List.getElem?_eq_some_iff.1 hv).1
  have := h3 i (by omega)
  rw [this]; simpa using hv
theorem reads_slice {α : Type} {el : TypeId} {e : α → List D} {wf : α → Prop} {sz : Nat} (ht : P.underlying t = some (.slice el)) (he : Reads P el e wf) (hsz : P.cellsOf el = sz) (hpos : 0 < sz) (hlen : ∀ a, (e a).length = sz) :
    Reads P t (fun l : List α => [.lst sz (l.map e)]) (wfL wf) := by
  intro H enc w base spare held fuel cs x h
  rcases DataW.trod_slice ht h with ⟨rfl, _⟩ | ⟨a, len, cap, elems, rest, n, _, rfl, _, hb, hl, hm, helen, hel, _, _⟩
  · exact ⟨[], ⟨by simp, by simp⟩, _, _, rfl, by simp only [RD, List.map_nil, List.length_nil]; exact ⟨none, 0, rfl, Nat.le_refl _, .inl trivial⟩, rfl⟩
  · have key : ∀ m, m ≤ len → ∃ l : List α, l.length = m ∧ (∀ x ∈ l, wf x) ∧ ∀ i y, l[i]? = some y → ∃ vs, w.cells? base (a.add (i * sz)) sz = some vs ∧ RDs w (e y) vs := by
      intro m
      induction m with
      | zero => exact fun _ => ⟨[], rfl, by simp, by simp⟩
      | succ m ih =>
        intro hm'
        obtain ⟨l, h1, h2, h3⟩ := ih (by omega)
        have h4 := hel m (by omega)
        have h5 : elems[m]? = some elems[m] := List.getElem?_eq_getElem (by omega)
        rw [h5, hsz, Option.bind_eq_some_iff] at h4
        obtain ⟨vs, h6, h7⟩ := h4
        obtain ⟨y, h8, h9⟩ := he h7
        refine ⟨l ++ [y], by simp [h1], ?_, fun i z hz => ?_⟩
        · intro x hx
          rcases List.mem_append.1 hx with hx | hx
          · exact h2 x hx
          · simp at hx; subst hx; exact h8
        · by_cases hi : i < m
          · rw [List.getElem?_append_left (by omega)] at hz; exact h3 i z hz
          · have : i = m := by
              have := (List.getElem?_eq_some_iff.1 hz).1
              simp at this; omega
            subst this
            rw [List.getElem?_append_right (by omega), h1] at hz
            simp at hz; subst hz
            exact ⟨vs, h6, h9⟩
    obtain ⟨l, h1, h2, h3⟩ := key len (Nat.le_refl _)
    have hmax : l.length ≤ maxLen := by omega
    refine ⟨l, ⟨hmax, h2⟩, _, _, rfl, ?_, rfl⟩
    simp only [RD, List.length_map, h1]
    refine ⟨some a, cap, rfl, hl, ?_⟩
    cases l with
    | nil => exact .inl rfl
    | cons y l =>
      right
      have hspot : a.spot = none := by
        obtain ⟨vs, h4, h5⟩ := h3 0 y rfl
        obtain ⟨h6, h7⟩ := cells?_get h4
        have hv : vs[0]? = some vs[0] := List.getElem?_eq_getElem (by omega)
        have := h7 0 _ hv
        cases hs : a.spot with
        | none => rfl
        | some s =>
          unfold World.cell? at this
          split at this
          · simp [Addr.add, hs] at this
          · cases this
      obtain ⟨b, o, sp⟩ := a
      simp only at hspot
      subst hspot
      refine ⟨b, o, rfl, ?_⟩
      have row : ∀ (l : List α) (j : Nat), (∀ i y, l[i]? = some y → ∃ vs, w.cells? base ((⟨b, o, none⟩ : Addr).add ((j + i) * sz)) sz = some vs ∧ RDs w (e y) vs) → RDL (live w) w sz b (l.map e) (o + j * sz) := by
        intro l
        induction l with
        | nil => intro j _; simp [RDL]
        | cons y l ih =>
          intro j h
          obtain ⟨vs, h4, h5⟩ := h 0 y rfl
          obtain ⟨h6, h7⟩ := cells?_get h4
          refine ⟨hlen y, RDs_RDc h5 fun i v hv => ?_, ?_⟩
          · have := h7 i v hv
            rw [addr_add, addr_add] at this
            simpa [Nat.add_assoc] using this
          · have := ih (j + 1) fun i y hy => by
              have := h (i + 1) y (by simpa using hy)
              rw [show j + 1 + i = j + (i + 1) from by omega]; exact this
            rw [show o + j * sz + sz = o + (j + 1) * sz from by rw [Nat.add_mul]; omega]
            exact this
      have := row (y :: l) 0 fun i y hy => by simpa using h3 i y hy
      simpa using this
theorem reads_at {α : Type} {el : TypeId} {e : α → List D} {wf : α → Prop} {sz : Nat} (he : Reads P el e wf) (hsz : P.cellsOf el = sz) (hlen : ∀ a, (e a).length = sz)
    {H : Type} {enc : TypeId × Value → H} {w : World} {base : Nat} {spare : Nat → Bool} {held : Bool} {fuel off : Nat} {cs : List Value} {x : DataW H × List MemPlace}
    (h : DataW.trod enc P w base spare held fuel el ((cs.drop off).take (P.cellsOf el)) = some x) : ∃ a, wf a ∧ RDat w cs off (e a) := by
  obtain ⟨a, h1, h2⟩ := he h
  refine ⟨a, h1, ?_⟩
  unfold RDat
  rw [hlen, ← hsz]; exact h2
theorem struct_at {H : Type} {enc : TypeId × Value → H} {w : World} {base : Nat} {spare : Nat → Bool} {held : Bool} {fuel : Nat} {cs : List Value} {x : DataW H × List MemPlace} {fs : Array Field}
    (ht : P.underlying t = some (.struct fs)) (h : DataW.trod enc P w base spare held fuel t cs = some x) :
    cs.length = P.cellsOf t ∧ ∃ n, ∀ (i : Nat) (f : Field), fs[i]? = some f → ∃ y, DataW.trod enc P w base spare held n f.type ((cs.drop f.offset).take (P.cellsOf f.type)) = some y := by
  obtain ⟨xs, n, _, _, h1, h2, h3⟩ := DataW.trod_struct ht h
  refine ⟨h1, n, fun i f hf => ?_⟩
  have hi : i < fs.size := (Array.getElem?_eq_some_iff.1 hf).1
  exact ⟨xs[i]'(by omega), by rw [h3 i f hf]; exact List.getElem?_eq_getElem (by omega)⟩
def ArgReads {α : Type} (P : Program) (t : TypeId) (v : α → V) (wf : α → Prop) : Prop :=
  ∀ {H : Type} {enc : TypeId × Value → H} {w : World} {base b0 : Nat} {spare : Nat → Bool} {held : Bool} {u : Value} {d : DataW H} {ps : List MemPlace},
    Value.okWide P w .any b0 t u → DataW.Trod enc P w base spare held t u d ps → ∃ a, wf a ∧ RF ⟨fun _ => 0, live w, fun _ => .ext⟩ w (v a) u
theorem arg_one {α : Type} {e : α → D} {wf : α → Prop} (he : Reads P t (fun a => [e a]) wf) (hone : ∀ w b0 u, Value.okWide P w .any b0 t u → u.cells = #[u]) : ArgReads P t (fun a => .d (e a)) wf := by
  intro H enc w base b0 spare held u d ps hok hd
  obtain ⟨fuel, hf⟩ := hd
  rw [hone _ _ _ hok] at hf
  obtain ⟨a, h1, u', us, h2, h3, h4⟩ := he hf
  simp only [RDs] at h4; subst h4
  simp at h2; subst h2
  exact ⟨a, h1, fun ℓ => by simpa [RV] using h3⟩
theorem one_slice {el : TypeId} (ht : P.underlying t = some (.slice el)) : ∀ w b0 u, Value.okWide P w .any b0 t u → u.cells = #[u] := by
  intro w b0 u h
  simp only [Value.okWide, ht] at h
  cases u <;> first | rfl | (simp [Cell.okWide, Cell.ok, ht] at h)
theorem RD_one {imm : Nat → Nat → Prop} {w : World} {x : D} {u : Value} (h : RD imm w x u) : u.oneCell' = true := by
  cases x with
  | int k n => simp only [RD] at h; subst h; rfl
  | bool b => simp only [RD] at h; subst h; rfl
  | str s => simp only [RD] at h; subst h; rfl
  | lst sz l => simp only [RD] at h; obtain ⟨a, cap, rfl, _⟩ := h; cases a <;> rfl
theorem RDs_RVs {w : World} {g : G} (hg : g.imm = live w) : ∀ {xs : List D} {us : List Value} {ℓ : Owner} {i : Nat}, RDs w xs us → RVs g w (xs.map V.d) ℓ i us ∧ ∀ u ∈ us, u.oneCell' = true
  | [], us, ℓ, i, h => by simp only [RDs] at h; subst h; simp [RVs]
  | x :: xs, us, ℓ, i, ⟨u, us', e, r, h⟩ => by
    subst e
    obtain ⟨h1, h2⟩ := RDs_RVs hg (ℓ := ℓ) (i := i + 1) h
    refine ⟨⟨u, us', rfl, by simpa [RV, hg] using r, h1⟩, fun v hv => ?_⟩
    rcases List.mem_cons.1 hv with rfl | hv
    · exact RD_one r
    · exact h2 v hv
theorem arg_agg {α : Type} {e : α → List D} {wf : α → Prop} (he : Reads P t e wf) (hagg : (∃ fs, P.underlying t = some (.struct fs)) ∨ ∃ n el, P.underlying t = some (.array n el)) : ArgReads P t (fun a => .agg ((e a).map V.d)) wf := by
  intro H enc w base b0 spare held u d ps hok hd
  obtain ⟨cs, rfl⟩ : ∃ cs, u = .agg cs := by
    rcases hagg with ⟨fs, ht⟩ | ⟨n, el, ht⟩
    · simp only [Value.okWide, ht] at hok; obtain ⟨cs, rfl, _⟩ := hok; exact ⟨cs, rfl⟩
    · simp only [Value.okWide, ht] at hok; obtain ⟨cs, rfl, _⟩ := hok; exact ⟨cs, rfl⟩
  obtain ⟨fuel, hf⟩ := hd
  obtain ⟨a, h1, h2⟩ := he hf
  refine ⟨a, h1, fun ℓ => ?_⟩
  simp only [RV]
  obtain ⟨h3, h4⟩ := RDs_RVs (g := ⟨fun _ => 0, live w, fun _ => .ext⟩) rfl (ℓ := ℓ) (i := 0) h2
  exact ⟨cs.toList, by simp, h3, h4⟩
def LawOK (P : Program) (f : FuncId) (ts : List TypeId) : Prop :=
  ∀ {H : Type} {enc : TypeId × Value → H} {w : World} {b0 : Nat} {us : List Value} {ds : List (DataW H)} {ps : List MemPlace},
    (∀ (j : Nat) t u, ts[j]? = some t → us[j]? = some u → Value.okWide P w .any b0 t u) → DataW.TrodAll enc P w 0 (fun _ => true) true ts us ds ps →
    ∃ vs, RFs ⟨fun _ => 0, live w, fun _ => .ext⟩ w vs us ∧ (∀ x ∈ vs, Flat x) ∧ V.lt.go 0 vs = true ∧ ∀ M nb, ACalls P f vs M nb (.d (.bool true)) M nb
theorem trodAll_stays (hl : laidOutB P = true) {W W' : World} {sp : Nat → Bool} {H : Type} {enc : TypeId × Value → H} : ∀ {ts : List TypeId} {us : List Value} {ds : List (DataW H)} {ps : List MemPlace},
    (∀ t ∈ ts, P.readableRec t = true ∧ t < P.types.size) → DataW.TrodAll enc P W 0 (fun _ => true) true ts us ds ps → (∀ p ∈ ps, W.sameAt W' p) → (∀ p ∈ ps, sp p.block = true) → DataW.TrodAll enc P W' 0 sp true ts us ds ps
  | [], [], [], ps, _, h, _, _ => h
  | t :: ts, u :: us, d :: ds, ps, hr, ⟨p, q, h1, h2, e⟩, hs, hp => by
    subst e
    obtain ⟨r1, r2⟩ := hr t (by simp)
    exact ⟨p, q, WideElems.Trod_stays hl r1 r2 h1 (fun x hx => hs x (by simp [hx])) (fun x hx => hp x (by simp [hx])), trodAll_stays hl (fun t ht => hr t (by simp [ht])) h2 (fun x hx => hs x (by simp [hx])) (fun x hx => hp x (by simp [hx])), rfl⟩
  | [], [], _ :: _, _, _, h, _, _ => h.elim
  | [], _ :: _, _, _, _, h, _, _ => h.elim
  | _ :: _, [], _, _, _, h, _, _ => h.elim
  | _ :: _, _ :: _, [], _, _, h, _, _ => h.elim
theorem trodAll_len {W : World} {sp : Nat → Bool} {held : Bool} {base : Nat} {H : Type} {enc : TypeId × Value → H} : ∀ {ts : List TypeId} {us : List Value} {ds : List (DataW H)} {ps : List MemPlace},
    DataW.TrodAll enc P W base sp held ts us ds ps → ds.length = ts.length ∧ us.length = ts.length
  | [], [], [], ps, h => ⟨rfl, rfl⟩
  | t :: ts, u :: us, d :: ds, ps, ⟨p, q, h1, h2, e⟩ => by have := trodAll_len h2; simp [this.1, this.2]
  | [], [], _ :: _, _, h => h.elim
  | [], _ :: _, _, _, h => h.elim
  | _ :: _, [], _, _, h => h.elim
  | _ :: _, _ :: _, [], _, h => h.elim
theorem law_returns {C : Checked} {f : FuncId} {fn : Func} {s : ChangeSpec} {conds : List PathCond} {bt : TypeId} {os : Os} {H : Type} {enc : TypeId × Value → H}
    (own : ownKnob C.prog.godebug = none) (started : os.Started) (noInit : C.prog.inits.idxOf? f = none) (hfn : C.prog.funcs[f]? = some fn)
    (witness : ∃ (w : World) (tape : Tape) (i : Input), w.os = os ∧ (w.forCall tape i).Shaped C.prog ∧ i.vars = [] ∧ Input.okWide C.prog (w.forCall tape i) .any w.heap.size f i ∧
      s.pre6 enc C.prog fn conds false (w.forCall tape i).memory i.args ∧ ({} : Assume).holds C.prog (lone (Frame.enter C.prog f i.args .normal) [] (w.forCall tape i)))
    (hvars : s.vars = []) (hres : fn.resultTypes = #[bt]) (hbt : C.prog.underlying bt = some .bool)
    (hl : laidOutB C.prog = true) (hread : ∀ t ∈ fn.params.toList, C.prog.readableRec t = true ∧ t < C.prog.types.size)
    (hspec : ∀ ds : List (DataW H), ds.length = fn.params.size → s.fn H ds = { results := [.lit (.bool true)], args := ds })
    (law : LawOK C.prog f fn.params.toList) :
    ReturnsInHanded {} C os f .any (s.pre6 enc C.prog fn conds false) (s.post enc C.prog fn false true false false) := by
  refine returnsInHanded_of_change own started noInit hfn witness ?_
  intro W base args ds gs before hval hW hcnd _
  have hW' := hW
  obtain ⟨p, q, hA, hV, hps, hfz, hnd⟩ := hW
  rw [hvars] at hV
  obtain ⟨rfl, rfl⟩ : gs = [] ∧ q = [] := by
    cases gs with
    | nil => exact ⟨rfl, hV⟩
    | cons _ _ => exact hV.elim
  obtain ⟨vs, h1, h2, h3, h4⟩ := law (fun j t u ht hu => hval j t u (by simpa using ht) (by simpa using hu)) hA
  obtain ⟨hb, _, h5⟩ := h4 (fun _ => none) 0
  have hlv : ∀ b o, live W b o → b < W.heap.size := by
    intro b o h
    simp only [live] at h
    obtain ⟨v, hv⟩ := Option.isSome_iff_exists.1 h
    unfold World.cell? at hv
    split at hv
    · rename_i hh; exact (Array.getElem?_eq_some_iff.1 hh).1
    · cases hv
  have hmr : MR ⟨fun _ => 0, live W, fun _ => .ext⟩ W (fun _ => none) 0 := ⟨fun k b h => (by cases h), fun b o h => ⟨hlv b o h, fun k h => by cases h⟩⟩
  have h6 := h5 W ⟨fun _ => 0, live W, fun _ => .ext⟩ args.toList hmr (fun k cs h => by cases h) (fun b => ⟨fun t p h => (by cases h), fun p h => (by cases h)⟩) h1 h2 (ons_mono (fun k hk => absurd hk (Nat.not_lt_zero k)) _ (ons_lt vs h3))
  refine Calls.mono h6 fun e W' ⟨v, g', he, _, hr, _, _, hf⟩ => ?_
  subst he
  have hv : v = .bool true := by simpa [RV, RD] using hr
  subst hv
  have hbelow : Below W.heap.size W W' := ⟨hf.os, hf.tape, hf.output, hf.size, fun k hk => (hf.old k hk trivial).2.1⟩
  have hrl : (Value.bool true).resultList fn.resultTypes.size = [.bool true] := by rw [hres]; rfl
  have hsp : s.fn H (ds ++ []) = { results := [.lit (.bool true)], args := ds } := by
    rw [List.append_nil]
    exact hspec ds (by have := (trodAll_len hA).1; simpa using this)
  have hlt : ∀ p ∈ before, p.block < W.heap.size := fun x hx => hW'.lt x hx
  have hst : ∀ sp : Nat → Bool, (∀ p ∈ before, sp p.block = true) → DataW.TrodAll enc C.prog W' 0 sp true fn.params.toList args.toList ds before := by
    intro sp hsp'
    have e : p = before := by rw [hps, List.append_nil]
    subst e
    exact trodAll_stays hl hread hA (fun x hx => hbelow.same (hlt x hx)) hsp'
  refine ⟨_, rfl, ds, [], before, [], before, [], hW', ?_, ?_, ?_, World.keptBut_mono (fun p hp => ⟨hp, .inr (.inl hp)⟩) (hbelow.frame (· ∈ before)), fun h => by cases h⟩
  · rw [hsp, hrl, hres]
    exact ⟨[], [], ⟨1, by simp [DataW.trod, Value.cells, hbt]⟩, rfl, rfl⟩
  · rw [hsp]
    exact hst _ fun p hp => by simpa using hlt p hp
  · rw [hsp, hvars]; rfl
section
variable {α β γ δ : Type} {f : FuncId} {ta tb tc td : TypeId} {va : α → V} {vb : β → V} {vc : γ → V} {vd : δ → V} {wa : α → Prop} {wb : β → Prop} {wc : γ → Prop} {wd : δ → Prop}
theorem trodAll_two {H : Type} {enc : TypeId × Value → H} {w : World} {base : Nat} {sp : Nat → Bool} {held : Bool} {t : TypeId} {ts : List TypeId} {us : List Value} {ds : List (DataW H)} {ps : List MemPlace} (h : DataW.TrodAll enc P w base sp held (t :: ts) us ds ps) :
    ∃ u us' d ds' p q, us = u :: us' ∧ ds = d :: ds' ∧ DataW.Trod enc P w base sp held t u d p ∧ DataW.TrodAll enc P w base sp held ts us' ds' q := by
  match us, ds, h with
  | u :: us', d :: ds', ⟨p, q, h1, h2, _⟩ => exact ⟨u, us', d, ds', p, q, rfl, rfl, h1, h2⟩
  | [], [], h => exact h.elim
  | [], _ :: _, h => exact h.elim
  | _ :: _, [], h => exact h.elim
theorem trodAll_end {H : Type} {enc : TypeId × Value → H} {w : World} {base : Nat} {sp : Nat → Bool} {held : Bool} {us : List Value} {ds : List (DataW H)} {ps : List MemPlace} (h : DataW.TrodAll enc P w base sp held [] us ds ps) : us = [] := by
  match us, ds, h with
  | [], [], _ => rfl
  | [], _ :: _, h => exact h.elim
  | _ :: _, [], h => exact h.elim
  | _ :: _, _ :: _, h => exact h.elim
theorem lawOK2 (ra : ArgReads P ta va wa) (fa : ∀ a, (va a).dem = va a) (la : ∀ a, (va a).lt 0 = true) (rb : ArgReads P tb vb wb) (fb : ∀ a, (vb a).dem = vb a) (lb : ∀ a, (vb a).lt 0 = true)
    (law : ∀ a b, wa a → wb b → ∀ M nb, ACalls P f [va a, vb b] M nb (.d (.bool true)) M nb) : LawOK P f [ta, tb] := by
  intro H enc w b0 us ds ps hok hT
  obtain ⟨u, us', d, ds', p, q, rfl, rfl, h1, hT⟩ := trodAll_two hT
  obtain ⟨u2, us', d2, ds', p2, q2, rfl, rfl, h2, hT⟩ := trodAll_two hT
  obtain rfl := trodAll_end hT
  obtain ⟨a, ha, hra⟩ := ra (hok 0 _ _ rfl rfl) h1
  obtain ⟨b, hb, hrb⟩ := rb (hok 1 _ _ rfl rfl) h2
  refine ⟨[va a, vb b], ⟨u, _, rfl, hra, u2, _, rfl, hrb, rfl⟩, ?_, by simp [V.lt.go, la, lb], law a b ha hb⟩
  intro x hx
  simp only [List.mem_cons, List.not_mem_nil, or_false] at hx
  rcases hx with rfl | rfl
  · exact fa a
  · exact fb b
end
end Go.Abs
end
section
namespace Go.Proofs
open Go Go.Abs
set_option linter.unusedVariables false
set_option maxRecDepth 100000
def W_3 (x : Int) : Prop := wfI .i64 x
theorem R_3 : Reads Try.prog 3 (eI .i64) W_3 := reads_int Try.underlying3
def W_28 (x : List Int) : Prop := wfL W_3 x
theorem R_28 : Reads Try.prog 28 (eL 1 (eI .i64)) W_28 := reads_slice Try.underlying28 R_3 (by kernel_rfl) (by decide) (fun _ => rfl)
def W_43 (x : api_Edge) : Prop := W_3 x.From ∧ W_3 x.Event ∧ W_3 x.To
theorem R_43 : Reads Try.prog 43 e_api_Edge W_43 := by
  intro H enc w base spare held fuel cs x h
  obtain ⟨hl, n, hf⟩ := struct_at Try.underlying43 h
  obtain ⟨y0, h0⟩ := hf 0 _ rfl
  obtain ⟨a0, w0, r0⟩ := reads_at (off := 0) (sz := 1) R_3 (by kernel_rfl) (fun _ => rfl) h0
  obtain ⟨y1, h1⟩ := hf 1 _ rfl
  obtain ⟨a1, w1, r1⟩ := reads_at (off := 1) (sz := 1) R_3 (by kernel_rfl) (fun _ => rfl) h1
  obtain ⟨y2, h2⟩ := hf 2 _ rfl
  obtain ⟨a2, w2, r2⟩ := reads_at (off := 2) (sz := 1) R_3 (by kernel_rfl) (fun _ => rfl) h2
  exact ⟨⟨a0, a1, a2⟩, ⟨w0, w1, w2⟩, RDat.all (xs := e_api_Edge ⟨a0, a1, a2⟩) (RDat.app r0 rfl (RDat.app r1 rfl r2)) (hl.trans (by kernel_rfl))⟩
def W_29 (x : List api_Edge) : Prop := wfL W_43 x
theorem R_29 : Reads Try.prog 29 (eL 3 e_api_Edge) W_29 := reads_slice Try.underlying29 R_43 (by kernel_rfl) (by decide) (fun _ => rfl)
def W_31 (x : api_Automaton) : Prop := W_28 x.Alphabet ∧ W_3 x.States ∧ W_28 x.Marked ∧ W_29 x.Edges
theorem R_31 : Reads Try.prog 31 e_api_Automaton W_31 := by
  intro H enc w base spare held fuel cs x h
  obtain ⟨hl, n, hf⟩ := struct_at Try.underlying31 h
  obtain ⟨y0, h0⟩ := hf 0 _ rfl
  obtain ⟨a0, w0, r0⟩ := reads_at (off := 0) (sz := 1) R_28 (by kernel_rfl) (fun _ => rfl) h0
  obtain ⟨y1, h1⟩ := hf 1 _ rfl
  obtain ⟨a1, w1, r1⟩ := reads_at (off := 1) (sz := 1) R_3 (by kernel_rfl) (fun _ => rfl) h1
  obtain ⟨y2, h2⟩ := hf 2 _ rfl
  obtain ⟨a2, w2, r2⟩ := reads_at (off := 2) (sz := 1) R_28 (by kernel_rfl) (fun _ => rfl) h2
  obtain ⟨y3, h3⟩ := hf 3 _ rfl
  obtain ⟨a3, w3, r3⟩ := reads_at (off := 3) (sz := 1) R_29 (by kernel_rfl) (fun _ => rfl) h3
  exact ⟨⟨a0, a1, a2, a3⟩, ⟨w0, w1, w2, w3⟩, RDat.all (xs := e_api_Automaton ⟨a0, a1, a2, a3⟩) (RDat.app r0 rfl (RDat.app r1 rfl (RDat.app r2 rfl r3))) (hl.trans (by kernel_rfl))⟩
theorem A_31 : ArgReads Try.prog 31 (fun (a : api_Automaton) => .agg [.d (.lst 1 (List.map (eI .i64) a.Alphabet)), .d (.int .i64 a.States), .d (.lst 1 (List.map (eI .i64) a.Marked)), .d (.lst 3 (List.map e_api_Edge a.Edges))]) W_31 := arg_agg R_31 (.inl ⟨_, Try.underlying31⟩)
theorem A_28 : ArgReads Try.prog 28 (fun (a : List Int) => .d (.lst 1 (List.map (eI .i64) a))) W_28 := arg_one R_28 (one_slice Try.underlying28)
end Go.Proofs
end
section
namespace Go.Abs
open Go
theorem iterF_rule {X R : Type} {F : (X → Option R) → X → Option R} (I : X → Prop) (m : X → Nat) (Q : X → Option R → Prop)
    (step : ∀ (k : X → Option R) (x : X), I x → (∀ y, I y → m y < m x → Q y (k y)) → Q x (F k x)) : ∀ (fuel : Nat) (x : X), I x → m x < fuel → Q x (iterF F fuel x)
  | 0, x, _, h => absurd h (Nat.not_lt_zero _)
  | fuel + 1, x, hi, h => step _ x hi fun y hy hm => iterF_rule I m Q step fuel y hy (by omega)
theorem wrap_id {x : Int} (h1 : -9223372036854775808 ≤ x) (h2 : x ≤ 9223372036854775807) : IntKind.wrap .i64 x = x := by
  simp [IntKind.wrap, IntKind.bits, IntKind.signed]; omega
theorem wrap_succ {n : Nat} (h : n < 9223372036854775807) : IntKind.wrap .i64 ((n : Int) + 1) = ((n + 1 : Nat) : Int) := by
  rw [wrap_id (by omega) (by omega)]; omega
theorem getO_nat {α : Type} {l : List α} {n : Nat} (h : n < l.length) : getO l (n : Int) = some l[n] := by
  simp [getO, h]
theorem getO_some {α : Type} {l : List α} {i : Int} {x : α} : getO l i = some x ↔ 0 ≤ i ∧ l[i.toNat]? = some x := by
  unfold getO; split
  · rename_i h; simp [h]
  · rename_i h; simp only [reduceCtorEq, false_iff, not_and]; exact fun h' => absurd h' h
theorem appO_some {α : Type} {l m : List α} (h : l.length + m.length ≤ lim) : appO l m = some (l ++ m) := by
  unfold appO; rw [if_pos h]
theorem iterF_idx {R : Type} {F : (Int → Option R) → Int → Option R} {len fuel : Nat} (G : Nat → Option R) (hf : len < fuel)
    (step : ∀ (k : Int → Option R) (n : Nat), n < len → k ((n + 1 : Nat) : Int) = G (n + 1) → F k (n : Int) = G n) (last : ∀ k : Int → Option R, F k (len : Int) = G len) : iterF F fuel 0 = G 0 := by
  have := iterF_rule (F := F) (fun x => ∃ n : Nat, x = (n : Int) ∧ n ≤ len) (fun x => len - x.toNat) (fun x r => ∀ n : Nat, x = (n : Int) → r = G n) (fun k x hx ih => by
    obtain ⟨n, rfl, hn⟩ := hx
    intro m hm
    obtain rfl : n = m := by omega
    by_cases h : n < len
    · exact step k n h (ih _ ⟨n + 1, rfl, by omega⟩ (by omega) (n + 1) rfl)
    · obtain rfl : n = len := by omega
      exact last k) fuel 0 ⟨0, rfl, by omega⟩ (by simpa using hf)
  exact this 0 rfl
theorem wrap_pred {n : Nat} (h0 : 0 < n) (h : n < 9223372036854775807) : IntKind.wrap .i64 ((n : Int) - 1) = ((n - 1 : Nat) : Int) := by
  rw [wrap_id (by omega) (by omega)]; omega
theorem iterF_at {X S R : Type} {F : (X → Option R) → X → Option R} {len : Nat} (mk : Nat → S → X) (G : Nat → S → Option R)
    (step : ∀ (k : X → Option R) (n : Nat) (s : S), n < len → (∀ s', k (mk (n + 1) s') = G (n + 1) s') → F k (mk n s) = G n s) (last : ∀ (k : X → Option R) (s : S), F k (mk len s) = G len s) :
    ∀ (fuel n : Nat) (s : S), n ≤ len → len - n < fuel → iterF F fuel (mk n s) = G n s
  | 0, n, s, _, h => by omega
  | fuel + 1, n, s, hn, h => by
    show F (iterF F fuel) (mk n s) = _
    by_cases hlt : n < len
    · exact step _ n s hlt fun s' => iterF_at mk G step last fuel (n + 1) s' (by omega) (by omega)
    · obtain rfl : n = len := by omega
      exact last _ s
theorem mid_ok {i j : Nat} (hi : i < 1000000000000) (hj : j < 1000000000000) : IntKind.wrap .i64 (Int.fdiv (IntKind.wrap .u64 (IntKind.wrap .i64 ((i : Int) + j))) (2 ^ (min (Int.toNat 1) (IntKind.bits .u64)))) = (((i + j) / 2 : Nat) : Int) := by
  have h1 : IntKind.wrap .i64 ((i : Int) + j) = ((i + j : Nat) : Int) := by rw [wrap_id (by omega) (by omega)]; omega
  have h2 : IntKind.wrap .u64 ((i + j : Nat) : Int) = ((i + j : Nat) : Int) := by
    simp [IntKind.wrap, IntKind.bits, IntKind.signed]; omega
  have h3 : (2 : Int) ^ (min (Int.toNat 1) (IntKind.bits .u64)) = 2 := by decide
  rw [h1, h2, h3, Int.fdiv_eq_ediv_of_nonneg _ (by omega), show ((i + j : Nat) : Int) / 2 = (((i + j) / 2 : Nat) : Int) from by omega, wrap_id (by omega) (by omega)]
theorem slcO_nat {α : Type} {l : List α} {i j : Nat} (h : i ≤ j) (hj : j ≤ l.length) : slcO l (i : Int) (j : Int) = some ((l.take j).drop i) := by
  simp [slcO, h, hj]
theorem sorted_ext : ∀ {l m : List Int}, l.Pairwise (· < ·) → m.Pairwise (· < ·) → (∀ x, x ∈ l ↔ x ∈ m) → l = m
  | l, m, h1, h2, h => by
    have n1 : l.Nodup := h1.imp fun h => by omega
    have n2 : m.Nodup := h2.imp fun h => by omega
    have hp : l.Perm m := (List.perm_ext_iff_of_nodup n1 n2).2 h
    exact List.Perm.eq_of_pairwise (le := (· < ·)) (fun a b _ _ h1 h2 => by omega) h1 h2 hp
section
variable {α : Type} {p : α → Bool}
theorem count_mono : ∀ {l : List α}, l.Pairwise (fun a b => p b = true → p a = true) → ∀ (n : Nat) (h : n < l.length), p l[n] = true ↔ n < (l.filter p).length
  | [], _, n, h => by simp at h
  | x :: xs, hs, n, h => by
    obtain ⟨h1, h2⟩ := List.pairwise_cons.1 hs
    cases n with
    | zero =>
      cases hx : p x with
      | true => simp [hx]
      | false =>
        have : xs.filter p = [] := List.filter_eq_nil_iff.2 fun y hy hp => by have := h1 y hy hp; rw [hx] at this; cases this
        simp [hx, this]
    | succ n =>
      have ih := count_mono h2 n (by simpa using h)
      cases hx : p x with
      | true => simp [hx, ih]
      | false =>
        have : xs.filter p = [] := List.filter_eq_nil_iff.2 fun y hy hp => by have := h1 y hy hp; rw [hx] at this; cases this
        rw [this] at ih
        simp [hx, this] at ih ⊢
        exact ih
end
theorem iterF_inv {X S R : Type} {F : (X → Option R) → X → Option R} {len : Nat} (mk : Nat → S → X) (I : Nat → S → Prop) (G : Nat → S → Option R)
    (step : ∀ (k : X → Option R) (n : Nat) (s : S), n < len → I n s → (∀ s', I (n + 1) s' → k (mk (n + 1) s') = G (n + 1) s') → F k (mk n s) = G n s) (last : ∀ (k : X → Option R) (s : S), I len s → F k (mk len s) = G len s) :
    ∀ (fuel n : Nat) (s : S), n ≤ len → len - n < fuel → I n s → iterF F fuel (mk n s) = G n s
  | 0, n, s, _, h, _ => by omega
  | fuel + 1, n, s, hn, h, hi => by
    show F (iterF F fuel) (mk n s) = _
    by_cases hlt : n < len
    · exact step _ n s hlt hi fun s' hi' => iterF_inv mk I G step last fuel (n + 1) s' (by omega) (by omega) hi'
    · obtain rfl : n = len := by omega
      exact last _ s hi
theorem sorted_len : ∀ {l : List Int} {a b : Int}, l.Pairwise (· < ·) → (∀ x ∈ l, a ≤ x ∧ x < b) → l.length ≤ (b - a).toNat
  | [], _, _, _, _ => by simp
  | x :: xs, a, b, h, hr => by
    obtain ⟨h1, h2⟩ := List.pairwise_cons.1 h
    have := sorted_len (a := x + 1) (b := b) h2 fun y hy => ⟨by have := h1 y hy; omega, (hr y (by simp [hy])).2⟩
    have := hr x (by simp)
    simp only [List.length_cons]
    omega
end Go.Abs
end
section
namespace Go.Abs
abbrev big : Nat := 1000000000000
def small (a : api_Automaton) : Prop := a.Alphabet.length < big ∧ a.Marked.length < big ∧ a.Edges.length < big
end Go.Abs
end
section
namespace Go.Abs
open Go
set_option linter.unusedSimpArgs false
def listErr (n : Int) : Option Int → List Int → Int
  | _, [] => 0
  | p, x :: xs => if x < 0 ∨ x ≥ n then 2 else if ∃ y, p = some y ∧ x ≤ y then 5 else listErr n (some x) xs
def edgesErr (al : List Int) (st : Int) : Option api_Edge → List api_Edge → Int
  | _, [] => 0
  | p, x :: xs => if x.From < 0 ∨ x.From ≥ st ∨ x.To < 0 ∨ x.To ≥ st then 2 else if x.Event ∉ al then 9 else if ∃ y, p = some y ∧ (x.From < y.From ∨ x.From = y.From ∧ x.Event ≤ y.Event) then 5 else edgesErr al st (some x) xs
def checkErr (a : api_Automaton) : Int :=
  if listErr 32 none a.Alphabet ≠ 0 then listErr 32 none a.Alphabet else if a.States < 0 then 2 else if a.States > 4096 then 3 else
  if listErr a.States none a.Marked ≠ 0 then listErr a.States none a.Marked else edgesErr a.Alphabet a.States none a.Edges
def ahead {α : Type} (l : List α) (n : Nat) : Option α := if n = 0 then none else l[n - 1]?
theorem ahead_zero {α : Type} (l : List α) : ahead l 0 = none := rfl
theorem ahead_succ {α : Type} (l : List α) {n : Nat} (h : n < l.length) : ahead l (n + 1) = some l[n] := by simp [ahead, h]
theorem ahead_pos {α : Type} (l : List α) {n : Nat} (h0 : 0 < n) (h : n ≤ l.length) : ahead l n = some (l[n - 1]'(by omega)) := by
  simp [ahead, show n ≠ 0 from by omega, show n - 1 < l.length from by omega]
theorem listErr_step {n : Int} {l : List Int} {k : Nat} (h : k < l.length) : listErr n (ahead l k) (l.drop k) = if l[k] < 0 ∨ l[k] ≥ n then 2 else if ∃ y, ahead l k = some y ∧ l[k] ≤ y then 5 else listErr n (ahead l (k + 1)) (l.drop (k + 1)) := by
  rw [List.drop_eq_getElem_cons h, listErr, ahead_succ l h]
theorem edgesErr_step {al : List Int} {n : Int} {l : List api_Edge} {k : Nat} (h : k < l.length) : edgesErr al n (ahead l k) (l.drop k) = if l[k].From < 0 ∨ l[k].From ≥ n ∨ l[k].To < 0 ∨ l[k].To ≥ n then 2 else if l[k].Event ∉ al then 9 else if ∃ y, ahead l k = some y ∧ (l[k].From < y.From ∨ l[k].From = y.From ∧ l[k].Event ≤ y.Event) then 5 else edgesErr al n (ahead l (k + 1)) (l.drop (k + 1)) := by
  rw [List.drop_eq_getElem_cons h, edgesErr, ahead_succ l h]
theorem checkSet_ok {l : List Int} {n : Int} (hl : l.length < big) : g_automaton_checkSet l n = some (listErr n none l) := by
  unfold g_automaton_checkSet f_automaton_checkSet
  refine (iterF_idx (len := l.length) (fun k => some (listErr n (ahead l k) (l.drop k))) (by unfold fuel0; unfold big at hl; omega) ?_ ?_).trans (by simp [ahead_zero])
  · intro k i hi ih
    have hb : i < 1000000000000 := by unfold big at hl; omega
    rw [listErr_step hi]
    try dsimp only
    rw [if_pos (by omega), getO_nat hi, wrap_succ (by omega), ih]
    simp only [Option.bind_some]
    by_cases h1 : l[i] < 0
    · simp [h1]
    · by_cases h2 : l[i] ≥ n
      · simp [h1, h2]
      · by_cases h0 : 0 < i
        · rw [wrap_pred h0 (by omega), getO_nat (by omega : i - 1 < l.length), ahead_pos l h0 (by omega)]
          by_cases h3 : l[i] ≤ l[i - 1] <;> simp [h1, h2, h3, h0]
        · obtain rfl : i = 0 := by omega
          simp [h1, h2, ahead_zero]
  · intro k; simp [listErr]
theorem refList_ok {l : List Int} {n : Int} (hl : l.length < big) : g_overseerref03_List l n = some (listErr n none l) := by
  unfold g_overseerref03_List f_overseerref03_List
  refine (iterF_idx (len := l.length) (fun k => some (listErr n (ahead l k) (l.drop k))) (by unfold fuel0; unfold big at hl; omega) ?_ ?_).trans (by simp [ahead_zero])
  · intro k i hi ih
    have hb : i < 1000000000000 := by unfold big at hl; omega
    rw [listErr_step hi]
    try dsimp only
    rw [if_pos (by omega), getO_nat hi, wrap_succ (by omega), ih]
    simp only [Option.bind_some]
    by_cases h1 : l[i] < 0
    · simp [h1]
    · by_cases h2 : l[i] ≥ n
      · simp [h1, h2]
      · by_cases h0 : 0 < i
        · rw [wrap_pred h0 (by omega), getO_nat (by omega : i - 1 < l.length), ahead_pos l h0 (by omega)]
          by_cases h3 : l[i] ≤ l[i - 1] <;> simp [h1, h2, h3, h0]
        · obtain rfl : i = 0 := by omega
          simp [h1, h2, ahead_zero]
  · intro k; simp [listErr]
theorem index_ok {l : List Int} {v : Int} (hl : l.length < big) : g_slices_Index_int l v = some (if v ∈ l then (l.idxOf v : Int) else -1) := by
  unfold g_slices_Index_int f_slices_Index_int
  refine (iterF_idx (len := l.length) (fun k => some (if v ∈ l.drop k then ((k + (l.drop k).idxOf v : Nat) : Int) else -1)) (by unfold fuel0; unfold big at hl; omega) ?_ ?_).trans (by simp)
  · intro k i hi ih
    have hb : i < 1000000000000 := by unfold big at hl; omega
    try dsimp only
    rw [if_pos (by omega), getO_nat hi, wrap_succ (by omega), ih, List.drop_eq_getElem_cons hi]
    simp only [Option.bind_some, List.mem_cons, List.idxOf_cons]
    by_cases h : v = l[i]
    · simp [← h]
    · have : ¬ l[i] = v := fun e => h e.symm
      have hbq : (l[i] == v) = false := by simp [this]
      by_cases h2 : v ∈ l.drop (i + 1) <;> simp [h, h2, hbq]
      omega
  · intro k; simp
theorem contains_ok {l : List Int} {v : Int} (hl : l.length < big) : g_slices_Contains_int l v = some (decide (v ∈ l)) := by
  unfold g_slices_Contains_int f_slices_Contains_int
  rw [index_ok hl]
  simp only [Option.bind_some, Option.some.injEq]
  by_cases h : v ∈ l <;> simp [h]
theorem has_ok {l : List Int} {v : Int} (hl : l.length < big) : g_overseerref03_has l v = some (decide (v ∈ l)) := by
  unfold g_overseerref03_has f_overseerref03_has
  refine (iterF_idx (len := l.length) (fun k => some (decide (v ∈ l.drop k))) (by unfold fuel0; unfold big at hl; omega) ?_ ?_).trans (by simp)
  · intro k i hi ih
    have hb : i < 1000000000000 := by unfold big at hl; omega
    try dsimp only
    rw [if_pos (by omega), getO_nat hi, wrap_succ (by omega), ih, List.drop_eq_getElem_cons hi]
    simp only [Option.bind_some, List.mem_cons]
    by_cases h : l[i] = v
    · simp [h]
    · have : ¬ v = l[i] := fun e => h e.symm
      simp [h, this]
  · intro k; simp
theorem checkEdges_ok {a : api_Automaton} (h : small a) : g_automaton_checkEdges a = some (edgesErr a.Alphabet a.States none a.Edges) := by
  obtain ⟨hal, _, hl⟩ := h
  unfold g_automaton_checkEdges f_automaton_checkEdges
  refine (iterF_idx (len := a.Edges.length) (fun k => some (edgesErr a.Alphabet a.States (ahead a.Edges k) (a.Edges.drop k))) (by unfold fuel0; unfold big at hl; omega) ?_ ?_).trans (by simp [ahead_zero])
  · intro k i hi ih
    have hb : i < 1000000000000 := by unfold big at hl; omega
    rw [edgesErr_step hi]
    unfold letJ
    try dsimp only
    rw [if_pos (by omega), getO_nat hi, wrap_succ (by omega), ih]
    simp only [Option.bind_some, contains_ok hal]
    generalize a.Edges[i] = x
    by_cases h1 : x.From < 0
    · simp [h1]
    by_cases h2 : x.From ≥ a.States
    · simp [h1, h2]
    by_cases h3 : x.To < 0
    · simp [h1, h2, h3]
    by_cases h4 : x.To ≥ a.States
    · simp [h1, h2, h3, h4]
    by_cases h5 : x.Event ∈ a.Alphabet
    · by_cases h0 : 0 < i
      · rw [wrap_pred h0 (by omega), getO_nat (by omega : i - 1 < a.Edges.length), ahead_pos a.Edges h0 (by omega)]
        generalize a.Edges[i - 1] = y
        have hi0 : i ≠ 0 := by omega
        by_cases h6 : x.From < y.From
        · simp [h1, h2, h3, h4, h5, h6, hi0]
        by_cases h7 : y.From = x.From
        · by_cases h8 : x.Event ≤ y.Event <;> simp [h1, h2, h3, h4, h5, h6, h7, h8, hi0]
        · have h7' : ¬ x.From = y.From := fun e => h7 e.symm
          simp [h1, h2, h3, h4, h5, h6, h7, hi0, h7']
      · obtain rfl : i = 0 := by omega
        simp [h1, h2, h3, h4, h5, ahead_zero]
    · simp [h1, h2, h3, h4, h5]
  · intro k; unfold letJ; simp [edgesErr]
theorem check_ok {a : api_Automaton} (h : small a) : g_automaton_Check a = some (checkErr a) := by
  unfold g_automaton_Check f_automaton_Check checkErr
  rw [checkSet_ok h.1, checkSet_ok h.2.1, checkEdges_ok h]
  simp only [Option.bind_some]
  by_cases h1 : listErr 32 none a.Alphabet = 0
  · by_cases h2 : a.States < 0
    · simp [h1, h2]
    by_cases h3 : a.States > 4096
    · simp [h1, h2, h3]
    by_cases h4 : listErr a.States none a.Marked = 0 <;> simp [h1, h2, h3, h4]
  · simp [h1]
theorem refCheck_ok {a : api_Automaton} (h : small a) : g_overseerref03_Check a = some (checkErr a) := by
  obtain ⟨hal, hm, hl⟩ := h
  have hE : ∀ A : Option Int, A = some (edgesErr a.Alphabet a.States none a.Edges) → (if (listErr 32 none a.Alphabet != 0) = true then some (listErr 32 none a.Alphabet) else if a.States < 0 then some 2 else if a.States > 4096 then some 3 else if (listErr a.States none a.Marked != 0) = true then some (listErr a.States none a.Marked) else A) = some (checkErr a) := by
    intro A hA
    subst hA
    unfold checkErr
    by_cases h1 : listErr 32 none a.Alphabet = 0
    · by_cases h2 : a.States < 0
      · simp [h1, h2]
      by_cases h3 : a.States > 4096
      · simp [h1, h2, h3]
      by_cases h4 : listErr a.States none a.Marked = 0 <;> simp [h1, h2, h3, h4]
    · simp [h1]
  unfold g_overseerref03_Check f_overseerref03_Check
  rw [refList_ok hal, refList_ok hm]
  simp only [Option.bind_some]
  refine hE _ ?_
  · exact (iterF_idx (len := a.Edges.length) (fun k => some (edgesErr a.Alphabet a.States (ahead a.Edges k) (a.Edges.drop k))) (by unfold fuel0; unfold big at hl; omega) (by
      intro k i hi ih
      have hb : i < 1000000000000 := by unfold big at hl; omega
      rw [edgesErr_step hi]
      try dsimp only
      rw [if_pos (by omega), getO_nat hi, wrap_succ (by omega), ih]
      simp only [Option.bind_some, has_ok hal]
      generalize a.Edges[i] = x
      by_cases h1 : x.From < 0
      · simp [h1]
      by_cases h2 : x.From ≥ a.States
      · simp [h1, h2]
      by_cases h3 : x.To < 0
      · simp [h1, h2, h3]
      by_cases h4 : x.To ≥ a.States
      · simp [h1, h2, h3, h4]
      by_cases h5 : x.Event ∈ a.Alphabet
      · by_cases h0 : 0 < i
        · rw [wrap_pred h0 (by omega), getO_nat (by omega : i - 1 < a.Edges.length), ahead_pos a.Edges h0 (by omega)]
          generalize a.Edges[i - 1] = y
          have hi0 : i ≠ 0 := by omega
          by_cases h6 : x.From < y.From
          · simp [h1, h2, h3, h4, h5, h6, h0]
          by_cases h7 : y.From = x.From
          · by_cases h8 : x.Event ≤ y.Event <;> simp [h1, h2, h3, h4, h5, h6, h7, h8, h0]
          · have h7' : ¬ x.From = y.From := fun e => h7 e.symm
            simp [h1, h2, h3, h4, h5, h6, h7, h0, h7']
        · obtain rfl : i = 0 := by omega
          simp [h1, h2, h3, h4, h5, ahead_zero]
      · simp [h1, h2, h3, h4, h5]) (by intro k; simp [edgesErr])).trans (by simp [ahead_zero])
end Go.Abs
end
section
namespace Go.Abs
open Go
set_option linter.unusedSimpArgs false
set_option linter.unusedVariables false
def keyLt (x y : api_Edge) : Prop := x.From < y.From ∨ x.From = y.From ∧ x.Event < y.Event
instance (x y : api_Edge) : Decidable (keyLt x y) := by unfold keyLt; infer_instance
structure Right (a : api_Automaton) : Prop where
  al0 : ∀ x ∈ a.Alphabet, 0 ≤ x ∧ x < 32
  al : a.Alphabet.Pairwise (· < ·)
  st : 0 ≤ a.States ∧ a.States ≤ 4096
  ma0 : ∀ x ∈ a.Marked, 0 ≤ x ∧ x < a.States
  ma : a.Marked.Pairwise (· < ·)
  ed0 : ∀ x ∈ a.Edges, 0 ≤ x.From ∧ x.From < a.States ∧ 0 ≤ x.To ∧ x.To < a.States ∧ x.Event ∈ a.Alphabet
  ed : a.Edges.Pairwise keyLt
theorem listErr_zero {n : Int} : ∀ {l : List Int} {p : Option Int}, listErr n p l = 0 ↔ (∀ x ∈ l, 0 ≤ x ∧ x < n) ∧ l.Pairwise (· < ·) ∧ ∀ y, p = some y → ∀ x ∈ l, y < x
  | [], p => by simp [listErr]
  | x :: xs, p => by
    rw [listErr]
    split
    · rename_i h
      refine ⟨fun h => by omega, fun hh => ?_⟩
      have := hh.1 x (by simp); omega
    · rename_i h
      split
      · rename_i h2
        obtain ⟨y, hy, hxy⟩ := h2
        refine ⟨fun h => by omega, fun hh => ?_⟩
        have := hh.2.2 y hy x (by simp); omega
      · rename_i h2
        rw [listErr_zero]
        constructor
        · rintro ⟨k1, k2, k3⟩
          refine ⟨fun z hz => ?_, List.pairwise_cons.2 ⟨fun z hz => k3 x rfl z hz, k2⟩, fun y hy z hz => ?_⟩
          · rcases List.mem_cons.1 hz with rfl | hz
            · omega
            · exact k1 z hz
          · have hyx : y < x := by
              rcases Int.lt_or_le y x with h | h
              · exact h
              · exact absurd ⟨y, hy, h⟩ h2
            rcases List.mem_cons.1 hz with rfl | hz
            · exact hyx
            · have := k3 x rfl z hz; omega
        · rintro ⟨k1, k2, k3⟩
          obtain ⟨k4, k5⟩ := List.pairwise_cons.1 k2
          exact ⟨fun z hz => k1 z (by simp [hz]), k5, fun y hy z hz => by cases hy; exact k4 z hz⟩
theorem edgesErr_zero {al : List Int} {n : Int} : ∀ {l : List api_Edge} {p : Option api_Edge}, edgesErr al n p l = 0 ↔ (∀ x ∈ l, 0 ≤ x.From ∧ x.From < n ∧ 0 ≤ x.To ∧ x.To < n ∧ x.Event ∈ al) ∧ l.Pairwise keyLt ∧ ∀ y, p = some y → ∀ x ∈ l, keyLt y x
  | [], p => by simp [edgesErr]
  | x :: xs, p => by
    have tr : ∀ a b c : api_Edge, keyLt a b → keyLt b c → keyLt a c := fun a b c h k => by unfold keyLt at *; omega
    rw [edgesErr]
    split
    · rename_i h
      refine ⟨fun h => by omega, fun hh => ?_⟩
      have := hh.1 x (by simp); omega
    · rename_i h
      split
      · rename_i h2
        refine ⟨fun h => by omega, fun hh => ?_⟩
        exact absurd (hh.1 x (by simp)).2.2.2.2 h2
      · rename_i hal
        split
        · rename_i h2
          obtain ⟨y, hy, hxy⟩ := h2
          refine ⟨fun h => by omega, fun hh => ?_⟩
          have := hh.2.2 y hy x (by simp)
          unfold keyLt at this; omega
        · rename_i h2
          rw [edgesErr_zero]
          constructor
          · rintro ⟨k1, k2, k3⟩
            refine ⟨fun z hz => ?_, List.pairwise_cons.2 ⟨fun z hz => k3 x rfl z hz, k2⟩, fun y hy z hz => ?_⟩
            · rcases List.mem_cons.1 hz with rfl | hz
              · exact ⟨by omega, by omega, by omega, by omega, Decidable.not_not.1 hal⟩
              · exact k1 z hz
            · have hyx : keyLt y x := by
                apply Decidable.byContradiction
                intro h
                exact h2 ⟨y, hy, by unfold keyLt at h; omega⟩
              rcases List.mem_cons.1 hz with rfl | hz
              · exact hyx
              · exact tr _ _ _ hyx (k3 x rfl z hz)
          · rintro ⟨k1, k2, k3⟩
            obtain ⟨k4, k5⟩ := List.pairwise_cons.1 k2
            exact ⟨fun z hz => k1 z (by simp [hz]), k5, fun y hy z hz => by cases hy; exact k4 z hz⟩
theorem right_iff {a : api_Automaton} : checkErr a = 0 ↔ Right a := by
  unfold checkErr
  constructor
  · intro h
    split at h
    · rename_i h1; exact absurd h h1
    rename_i h1
    split at h
    · omega
    split at h
    · omega
    split at h
    · rename_i h4; exact absurd h h4
    rename_i h4
    have q1 := listErr_zero.1 (Decidable.not_not.1 h1)
    have q2 := listErr_zero.1 (Decidable.not_not.1 h4)
    have q3 := edgesErr_zero.1 h
    exact ⟨q1.1, q1.2.1, ⟨by omega, by omega⟩, q2.1, q2.2.1, q3.1, q3.2.1⟩
  · intro h
    have q1 : listErr 32 none a.Alphabet = 0 := listErr_zero.2 ⟨h.al0, h.al, fun y hy => by cases hy⟩
    have q2 : listErr a.States none a.Marked = 0 := listErr_zero.2 ⟨h.ma0, h.ma, fun y hy => by cases hy⟩
    have q3 : edgesErr a.Alphabet a.States none a.Edges = 0 := edgesErr_zero.2 ⟨h.ed0, h.ed, fun y hy => by cases hy⟩
    have := h.st
    rw [if_neg (by simp [q1]), if_neg (by omega), if_neg (by omega), if_neg (by simp [q2]), q3]
def outP (a : api_Automaton) (s : Int) : List api_Edge := a.Edges.filter fun x => x.From == s
def stepP (a : api_Automaton) (s e : Int) : Int := match a.Edges.find? fun x => x.From == s && x.Event == e with
  | some x => x.To
  | none => -1
theorem From_mono {l : List api_Edge} (h : l.Pairwise keyLt) (s : Int) : l.Pairwise fun a b => decide (b.From < s) = true → decide (a.From < s) = true :=
  h.imp fun h => by unfold keyLt at h; simp; omega
theorem bsf_ok {l : List api_Edge} {s : Int} {cmp : api_Edge → Int → Option Int} (hcmp : ∀ x ∈ l, cmp x s = some (x.From - s)) (hs : l.Pairwise keyLt) (hl : l.length < big) :
    ∃ b, g_slices_BinarySearchFunc_int l s cmp = some (((l.filter fun x => decide (x.From < s)).length : Int), b) := by
  have hc := fun n h => count_mono (p := fun x : api_Edge => decide (x.From < s)) (From_mono hs s) n h
  have hcl : (l.filter fun x => decide (x.From < s)).length ≤ l.length := List.length_filter_le _ _
  generalize (l.filter fun x => decide (x.From < s)).length = c at hc hcl
  have hb : l.length < 1000000000000 := hl
  unfold g_slices_BinarySearchFunc_int f_slices_BinarySearchFunc_int
  have hloop := iterF_rule (F := fun (k13 : Int × Int → Option Int) ((i11, j12) : Int × Int) => (if (i11 < j12) then ((getO l (IntKind.wrap .i64 (Int.fdiv (IntKind.wrap .u64 (IntKind.wrap .i64 (i11 + j12))) (2 ^ (min (Int.toNat 1) (IntKind.bits .u64)))))).bind fun x15 => ((cmp x15 s).bind fun x18 => (if (x18 < 0) then k13 ((IntKind.wrap .i64 ((IntKind.wrap .i64 (Int.fdiv (IntKind.wrap .u64 (IntKind.wrap .i64 (i11 + j12))) (2 ^ (min (Int.toNat 1) (IntKind.bits .u64))))) + 1)), j12) else k13 (i11, (IntKind.wrap .i64 (Int.fdiv (IntKind.wrap .u64 (IntKind.wrap .i64 (i11 + j12))) (2 ^ (min (Int.toNat 1) (IntKind.bits .u64))))))))) else some i11))
    (fun x => ∃ i j : Nat, x = ((i : Int), (j : Int)) ∧ i ≤ c ∧ c ≤ j ∧ j ≤ l.length) (fun x => (x.2 - x.1).toNat) (fun _ r => r = some (c : Int)) (by
      rintro k _ ⟨i, j, rfl, h1, h2, h3⟩ ih
      dsimp only
      by_cases hij : i < j
      · rw [if_pos (by omega), mid_ok (by omega) (by omega)]
        have hm : (i + j) / 2 < l.length := by omega
        rw [getO_nat hm]
        simp only [Option.bind_some]
        rw [hcmp _ (List.getElem_mem hm)]
        simp only [Option.bind_some]
        have hcm := hc ((i + j) / 2) hm
        by_cases hlt : l[(i + j) / 2].From < s
        · rw [if_pos (by omega), wrap_succ (by omega)]
          have : (i + j) / 2 < c := hcm.1 (by simpa using hlt)
          exact ih _ ⟨_, _, rfl, by omega, h2, h3⟩ (by simp only; omega)
        · rw [if_neg (by omega)]
          have : ¬ (i + j) / 2 < c := fun h => hlt (by simpa using hcm.2 h)
          exact ih _ ⟨_, _, rfl, h1, by omega, by omega⟩ (by simp only; omega)
      · rw [if_neg (by omega)]
        have : i = c := by omega
        rw [this]) fuel0 (0, (l.length : Int)) ⟨0, l.length, rfl, by omega, hcl, Nat.le_refl _⟩ (by unfold fuel0; simp only; omega)
  rw [hloop]
  simp only [Option.bind_some]
  by_cases hlt : c < l.length
  · rw [if_pos (by omega), getO_nat hlt]
    simp only [Option.bind_some]
    rw [hcmp _ (List.getElem_mem hlt)]
    exact ⟨_, rfl⟩
  · rw [if_neg (by omega)]
    exact ⟨_, rfl⟩
theorem out_parts : ∀ {l : List api_Edge} (s : Int), l.Pairwise keyLt → (l.take (l.filter fun x => decide (x.From < s + 1)).length).drop (l.filter fun x => decide (x.From < s)).length = l.filter fun x => x.From == s
  | [], s, _ => by simp
  | x :: xs, s, h => by
    obtain ⟨h1, h2⟩ := List.pairwise_cons.1 h
    have ih := out_parts s h2
    have hge : ∀ y ∈ xs, x.From ≤ y.From := fun y hy => by have := h1 y hy; unfold keyLt at this; omega
    by_cases hx : x.From < s
    · have e1 : decide (x.From < s) = true := by simpa using hx
      have e2 : decide (x.From < s + 1) = true := by simp; omega
      have e3 : (x.From == s) = false := by simp; omega
      simp only [List.filter_cons, e1, e2, e3, if_true, List.length_cons, List.take_succ_cons, List.drop_succ_cons, Bool.false_eq_true, if_false]
      exact ih
    · have hz : xs.filter (fun x => decide (x.From < s)) = [] := List.filter_eq_nil_iff.2 fun y hy => by have := hge y hy; simp; omega
      have e1 : decide (x.From < s) = false := by simpa using hx
      by_cases hq : x.From = s
      · have e2 : decide (x.From < s + 1) = true := by simp; omega
        have e3 : (x.From == s) = true := by simp [hq]
        simp only [List.filter_cons, e1, e2, e3, if_true, List.length_cons, List.take_succ_cons, Bool.false_eq_true, if_false, hz, List.length_nil, List.drop_zero]
        rw [hz, List.length_nil, List.drop_zero] at ih
        rw [ih]
      · have e2 : decide (x.From < s + 1) = false := by simp; omega
        have e3 : (x.From == s) = false := by simp [hq]
        have hz1 : xs.filter (fun x => decide (x.From < s + 1)) = [] := List.filter_eq_nil_iff.2 fun y hy => by have := hge y hy; simp; omega
        have hz2 : xs.filter (fun x => x.From == s) = [] := List.filter_eq_nil_iff.2 fun y hy => by have := hge y hy; simp; omega
        simp only [List.filter_cons, e1, e2, e3, Bool.false_eq_true, if_false, hz, hz1, hz2, List.length_nil, List.take_zero, List.drop_zero]
section
variable {a : api_Automaton} (h : Right a) (hs : small a)
include h hs
theorem out_ok {s : Int} (h0 : -1000000000000 < s) (h1 : s < 1000000000000) : g_automaton_out a s = some (outP a s) := by
  unfold g_automaton_out f_automaton_out
  have hst := h.st
  have hw : ∀ t : Int, -1000000000002 < t → t < 1000000000002 → ∀ x ∈ a.Edges, IntKind.wrap .i64 (x.From - t) = x.From - t := fun t k1 k2 x hx => by
    have := h.ed0 x hx; exact wrap_id (by omega) (by omega)
  have e1 : IntKind.wrap .i64 (s + 1) = s + 1 := wrap_id (by omega) (by omega)
  obtain ⟨b1, k1⟩ := bsf_ok (s := s) (cmp := g_automaton_out_1) (fun x hx => by unfold g_automaton_out_1 f_automaton_out_1; rw [hw s (by omega) (by omega) x hx]) h.ed hs.2.2
  obtain ⟨b2, k2⟩ := bsf_ok (s := s + 1) (cmp := g_automaton_out_2) (fun x hx => by unfold g_automaton_out_2 f_automaton_out_2; rw [hw (s + 1) (by omega) (by omega) x hx]) h.ed hs.2.2
  rw [k1, e1]
  simp only [Option.bind_some]
  rw [k2]
  simp only [Option.bind_some]
  have hle : (a.Edges.filter fun x => decide (x.From < s)).length ≤ (a.Edges.filter fun x => decide (x.From < s + 1)).length :=
    by rw [← List.countP_eq_length_filter, ← List.countP_eq_length_filter]; exact List.countP_mono_left fun x _ hx => by simp at hx ⊢; omega
  rw [slcO_nat hle (List.length_filter_le _ _), out_parts s h.ed]
  rfl
theorem next_ok {s e : Int} (h0 : -1000000000000 < s) (h1 : s < 1000000000000) : g_automaton_next a s e = some (stepP a s e) := by
  unfold g_automaton_next f_automaton_next
  rw [out_ok h hs h0 h1]
  simp only [Option.bind_some]
  have hl : (outP a s).length < big := Nat.lt_of_le_of_lt (List.length_filter_le _ _) hs.2.2
  have hf : stepP a s e = match (outP a s).find? (fun x => x.Event == e) with | some x => x.To | none => -1 := by
    unfold stepP outP; rw [List.find?_filter]
    have : (fun x : api_Edge => decide ((x.From == s) = true ∧ (x.Event == e) = true)) = fun x => x.From == s && x.Event == e := by
      funext x; rw [Bool.eq_iff_iff]; simp
    rw [this]
  rw [hf]
  generalize outP a s = l at hl
  have hi : g_slices_IndexFunc_Edge l (fun a6 => g_automaton_next_1 a6 e) = some (if ∃ x ∈ l, x.Event = e then (l.findIdx (fun x => x.Event == e) : Int) else -1) := by
    have hb : l.length < 1000000000000 := hl
    unfold g_slices_IndexFunc_Edge f_slices_IndexFunc_Edge
    refine (iterF_idx (len := l.length) (fun k => some (if ∃ x ∈ l.drop k, x.Event = e then ((k + (l.drop k).findIdx (fun x => x.Event == e) : Nat) : Int) else -1)) (by unfold fuel0; omega) ?_ ?_).trans (by simp)
    · intro k i hi ih
      rw [if_pos (by omega), getO_nat hi, wrap_succ (by omega), ih, List.drop_eq_getElem_cons hi]
      simp only [Option.bind_some, g_automaton_next_1, f_automaton_next_1, List.findIdx_cons]
      by_cases hx : l[i].Event = e
      · have hxb : (l[i].Event == e) = true := by simp [hx]
        have hz : ∃ x ∈ l[i] :: l.drop (i + 1), x.Event = e := ⟨l[i], List.mem_cons_self, hx⟩
        simp only [hxb, if_true, if_pos hz, cond_true]; rfl
      · have hxb : (l[i].Event == e) = false := by simp [hx]
        by_cases hy : ∃ x ∈ l.drop (i + 1), x.Event = e
        · have hz : ∃ x ∈ l[i] :: l.drop (i + 1), x.Event = e := by obtain ⟨x, k1, k2⟩ := hy; exact ⟨x, List.mem_cons_of_mem _ k1, k2⟩
          simp only [hxb, Bool.false_eq_true, if_false, if_pos hy, if_pos hz, cond_false]
          have : ∀ n : Nat, i + 1 + n = i + (n + 1) := fun n => by omega
          rw [this]
        · have hz : ¬ ∃ x ∈ l[i] :: l.drop (i + 1), x.Event = e := by
            rintro ⟨x, k1, k2⟩
            rcases List.mem_cons.1 k1 with rfl | k1
            · exact hx k2
            · exact hy ⟨x, k1, k2⟩
          simp only [hxb, Bool.false_eq_true, if_false, if_neg hy, if_neg hz, cond_false]
    · intro k; simp
  rw [hi]
  simp only [Option.bind_some]
  by_cases hx : ∃ x ∈ l, x.Event = e
  · rw [if_pos hx, if_neg (by omega)]
    have hlt : l.findIdx (fun x => x.Event == e) < l.length := by
      rw [List.findIdx_lt_length]; obtain ⟨x, k1, k2⟩ := hx; exact ⟨x, k1, by simp [k2]⟩
    rw [getO_nat hlt]
    simp only [Option.bind_some]
    rw [show l.find? (fun x => x.Event == e) = some l[l.findIdx (fun x => x.Event == e)] from by
      rw [List.find?_eq_some_iff_getElem]
      refine ⟨List.findIdx_getElem (w := hlt), _, hlt, rfl, fun j hj => ?_⟩
      have := List.not_of_lt_findIdx hj
      simpa using this]
  · rw [if_neg hx, if_pos (by omega)]
    rw [show l.find? (fun x => x.Event == e) = none from List.find?_eq_none.2 fun x hx' hy => hx ⟨x, hx', by simpa using hy⟩]
end
theorem stepP_range {a : api_Automaton} (h : Right a) (s e : Int) : stepP a s e = -1 ∨ 0 ≤ stepP a s e ∧ stepP a s e < a.States ∧ 0 ≤ s ∧ s < a.States ∧ e ∈ a.Alphabet := by
  unfold stepP
  split
  · rename_i x hx
    have hm := List.mem_of_find?_eq_some hx
    have hp := List.find?_some hx
    obtain ⟨k1, k2, k3, k4, k5⟩ := h.ed0 x hm
    simp at hp
    exact .inr ⟨k3, k4, by omega, by omega, hp.2 ▸ k5⟩
  · exact .inl rfl
theorem stepP_nonneg {a : api_Automaton} (h : Right a) {s e : Int} : 0 ≤ stepP a s e ↔ ∃ x ∈ outP a s, x.Event = e := by
  unfold stepP outP
  split
  · rename_i x hx
    have hm := List.mem_of_find?_eq_some hx
    have hp := List.find?_some hx
    simp at hp
    refine ⟨fun _ => ⟨x, by simp [hm, hp.1], hp.2⟩, fun _ => (h.ed0 x hm).2.2.1⟩
  · rename_i hx
    have := List.find?_eq_none.1 hx
    refine ⟨fun h => by omega, ?_⟩
    rintro ⟨x, h1, h2⟩
    simp at h1
    exact absurd (by simp [h1.2, h2]) (this x h1.1)
theorem outP_events {a : api_Automaton} (h : Right a) (s : Int) : (outP a s).map (·.Event) = a.Alphabet.filter fun e => decide (0 ≤ stepP a s e) := by
  refine sorted_ext ?_ (h.al.filter _) fun e => ?_
  · rw [List.pairwise_map]
    have h1 : (outP a s).Pairwise keyLt := h.ed.filter _
    have h2 : ∀ x ∈ outP a s, x.From = s := fun x hx => by unfold outP at hx; simp at hx; exact hx.2
    exact List.Pairwise.imp_of_mem (fun {x y} hx hy hk => by have := h2 x hx; have := h2 y hy; unfold keyLt at hk; omega) h1
  · simp only [List.mem_map, List.mem_filter, decide_eq_true_eq, stepP_nonneg h]
    constructor
    · rintro ⟨x, hx, rfl⟩
      refine ⟨?_, x, hx, rfl⟩
      unfold outP at hx; simp at hx; exact (h.ed0 x hx.1).2.2.2.2
    · rintro ⟨_, x, hx, rfl⟩; exact ⟨x, hx, rfl⟩
end Go.Abs
end
section
namespace Go.Abs
open Go
set_option linter.unusedSimpArgs false
set_option linter.unusedVariables false
theorem Right.small {a : api_Automaton} (h : Right a) : small a ∧ a.Alphabet.length ≤ 32 ∧ a.Marked.length ≤ 4096 ∧ a.Edges.length ≤ 131072 := by
  have h1 := sorted_len h.al h.al0
  have h2 := sorted_len h.ma h.ma0
  have h3 : (a.Edges.map fun x => x.From * 32 + x.Event).Pairwise (· < ·) := by
    rw [List.pairwise_map]
    refine List.Pairwise.imp_of_mem (fun {x y} hx hy hk => ?_) h.ed
    have := h.al0 _ (h.ed0 x hx).2.2.2.2
    have := h.al0 _ (h.ed0 y hy).2.2.2.2
    unfold keyLt at hk; omega
  have h4 := sorted_len (a := 0) (b := 131072) h3 (by
    intro z hz
    obtain ⟨x, hx, rfl⟩ := List.mem_map.1 hz
    have := h.al0 _ (h.ed0 x hx).2.2.2.2
    have := h.ed0 x hx
    have := h.st
    omega)
  rw [List.length_map] at h4
  have := h.st
  refine ⟨⟨?_, ?_, ?_⟩, ?_, ?_, ?_⟩ <;> (try unfold big) <;> omega
theorem check_right {a : api_Automaton} (h : Right a) : g_automaton_Check a = some 0 := by rw [check_ok h.small.1, right_iff.2 h]
end Go.Abs
end
