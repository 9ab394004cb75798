/-
  Part 5 of the proof: see the last text.
-/
import Derived.Test.YtnmmhhnhjdglhaaP4
import Derived.Test.YtnmmhhnhjdglhaaProg
import Derived.KernelRfl
import Derived.Shelf.SlSortCmp.NoneTotal
import Derived.Ground.SlgmProg
import Derived.Shelf.SortM.Plain
import Derived.Shelf.SortM.SortNone
import Derived.OpenShut
import Derived.ProofKit
import Derived.Carry
import GoSem.Claim
import GoSem.ClaimJoined
import Derived.JoinedTies
set_option linter.unusedVariables false
set_option linter.unusedSimpArgs false
set_option linter.unusedSectionVars false
section
namespace Go.Abs
open Go
set_option linter.unusedVariables false
set_option maxRecDepth 10000
set_option maxHeartbeats 4000000
theorem automaton_follow_walk {P : Program} {c : Nat} {f_automaton_next : api_Automaton → Int → Int → Option Int}
    (H_automaton_next : K_automaton_next P 129 f_automaton_next) (hcf : compFn P c = some F_automaton_follow) (fuel : Nat) : K_automaton_follow P c (f_automaton_follow f_automaton_next fuel) := by
 intro a1 state2 word3 r h
 refine fn_trP hcf rfl fun Γ M hP hnt hM => ?_
 subst hP
 refine Tr.init [(0, .agg [.d (.lst 1 (List.map (eI .i64) a1.Alphabet)), .d (.int .i64 a1.States), .d (.lst 1 (List.map (eI .i64) a1.Marked)), .d (.lst 3 (List.map e_api_Edge a1.Edges))]), (1, .d (.int .i64 state2)), (2, .d (.lst 1 (List.map (eI .i64) word3)))] rfl ?_
 unfold f_automaton_follow at h
 unfold F_automaton_follow
 refine sr ((Rn.box (v := .agg [.d (.lst 1 (List.map (eI .i64) a1.Alphabet)), .d (.int .i64 a1.States), .d (.lst 1 (List.map (eI .i64) a1.Marked)), .d (.lst 3 (List.map e_api_Edge a1.Edges))]) (cs := [.d (.lst 1 (List.map (eI .i64) a1.Alphabet)), .d (.int .i64 a1.States), .d (.lst 1 (List.map (eI .i64) a1.Marked)), .d (.lst 3 (List.map e_api_Edge a1.Edges))]) trivial rfl rfl rfl rfl rfl (md rfl (md rfl (nt ((Tr.seq (sr ((md rfl (Rn.lenD trivial rfl (md rfl (nt ((Tr.block ?_)))))))))))))))
 refine Tr.loop (mk := fun ((state4, x5) : Int × Int) => ⟨look [(1, .d (.int .i64 state4)), (2, .d (.lst 1 (List.map (eI .i64) word3))), (3, .ptr (Γ.n0 + 3) 0), (11, .d (.lst 1 (List.map (eI .i64) word3))), (12, .d (.int .i64 (word3.length : Int))), (13, .d (.int .i64 x5))], memOf Γ.n0 (bxs [(3, .cells ([.d (.lst 1 (List.map (eI .i64) a1.Alphabet)), .d (.int .i64 a1.States), .d (.lst 1 (List.map (eI .i64) a1.Marked)), .d (.lst 3 (List.map e_api_Edge a1.Edges))]))]) M, Γ.n0 + 31⟩) h (by show WeakSt Γ (clean _ _ _) ⟨look _, memOf _ (bxs _) _, _⟩; exact weak_clean ⟨(.same rfl), ⟨(.same rfl), ⟨(kPtr rfl), ⟨(.same rfl), ⟨(.same rfl), ⟨(.same rfl), trivial⟩⟩⟩⟩⟩⟩ ⟨⟨_, rfl, rfl, (.same rfl)⟩, trivial⟩ rfl) (fun k6 z h => ?_)
 ·obtain ⟨state4, x5⟩ := z
  replace h : _ = some _ := h
  refine sr ((Rn.bin trivial rfl rfl rfl (nt ((Tr.seq ?_)))))
  refine Tr.cond rfl (fun hb7 => ?_) (fun hb7 => ?_)
  ·replace h := ifT hb7 h
   refine Tr.skip (toN (Tr.seq (Tr.block (sr ((md rfl ?_))))))
   obtain ⟨x8, h9, h⟩ := bnd h
   refine Rn.idxD (e := (eI .i64)) trivial rfl rfl h9 (Rn.loadC (x := .int .i64 x8) trivial rfl (md rfl (md rfl (nt ((sr ((Rn.load (v := .agg [.d (.lst 1 (List.map (eI .i64) a1.Alphabet)), .d (.int .i64 a1.States), .d (.lst 1 (List.map (eI .i64) a1.Marked)), .d (.lst 3 (List.map e_api_Edge a1.Edges))]) trivial rfl (boxOwn rfl) rfl rfl (md rfl (md rfl ?_))))))))))
   obtain ⟨x11, h10, h⟩ := bnd h
   refine Rn.call (args := [.agg [.d (.lst 1 (List.map (eI .i64) a1.Alphabet)), .d (.int .i64 a1.States), .d (.lst 1 (List.map (eI .i64) a1.Marked)), .d (.lst 3 (List.map e_api_Edge a1.Edges))], .d (.int .i64 state4), .d (.int .i64 x8)]) trivial rfl (H_automaton_next _ _ _ _ h10) pc9 (md rfl (nt ((Tr.seq (sr ((md rfl (Rn.bin trivial rfl rfl rfl (Rn.nil (toN ?_))))))))))
   refine Tr.cond rfl (fun hb12 => ?_) (fun hb12 => ?_)
   ·replace h := ifT hb12 h
    refine sr ((md rfl (md rfl (md rfl (md rfl (nt ((Tr.ret ?_))))))))
    replace h := si h; subst h
    exact ⟨.inr rfl, .tup [.d (.int .i64 state4), .d (.int .i64 x5)], res2 rfl rfl, (WkV.tup (.cons (.same rfl) (.cons (.same rfl) .nil))).rd, ⟨trivial, trivial, trivial⟩, fun k hk => memOf_base hk⟩
   ·replace h := ifF hb12 h
    refine Tr.skip (toN (Tr.rgn (md rfl (md rfl (nt ((Tr.rgn (Rn.bin trivial rfl rfl rfl (md rfl (Rn.nil ?_))))))))))
    exact ⟨_, h, (by show WeakSt Γ (clean _ _ _) ⟨look _, memOf _ (bxs _) _, _⟩; exact weak_clean ⟨(.same rfl), ⟨(.same rfl), ⟨(kPtr rfl), ⟨(.same rfl), ⟨(.same rfl), ⟨(.same rfl), trivial⟩⟩⟩⟩⟩⟩ ⟨⟨_, rfl, rfl, (.same rfl)⟩, trivial⟩ rfl)⟩
  ·replace h := ifF hb7 h
   refine Tr.exit (toN (sr ((md rfl (md rfl (Rn.lenD trivial rfl (md rfl (md rfl (nt ((Tr.ret ?_)))))))))))
   replace h := si h; subst h
   exact ⟨.inr rfl, .tup [.d (.int .i64 state4), .d (.int .i64 (word3.length : Int))], res2 rfl rfl, (WkV.tup (.cons (.same rfl) (.cons (.same rfl) .nil))).rd, ⟨trivial, trivial, trivial⟩, fun k hk => memOf_base hk⟩
theorem automaton_reached_walk {P : Program} {c : Nat} {f_automaton_follow : api_Automaton → Int → (List Int) → Option (Int × Int)}
    (H_automaton_follow : K_automaton_follow P 115 f_automaton_follow) (hcf : compFn P c = some F_automaton_reached) : K_automaton_reached P c (f_automaton_reached f_automaton_follow) := by
 intro a1 word2 r h
 refine fn_trP hcf rfl fun Γ M hP hnt hM => ?_
 subst hP
 refine Tr.init [(0, .agg [.d (.lst 1 (List.map (eI .i64) a1.Alphabet)), .d (.int .i64 a1.States), .d (.lst 1 (List.map (eI .i64) a1.Marked)), .d (.lst 3 (List.map e_api_Edge a1.Edges))]), (1, .d (.lst 1 (List.map (eI .i64) word2)))] rfl ?_
 unfold f_automaton_reached at h
 unfold F_automaton_reached
 refine sr ((Rn.box (v := .agg [.d (.lst 1 (List.map (eI .i64) a1.Alphabet)), .d (.int .i64 a1.States), .d (.lst 1 (List.map (eI .i64) a1.Marked)), .d (.lst 3 (List.map e_api_Edge a1.Edges))]) (cs := [.d (.lst 1 (List.map (eI .i64) a1.Alphabet)), .d (.int .i64 a1.States), .d (.lst 1 (List.map (eI .i64) a1.Marked)), .d (.lst 3 (List.map e_api_Edge a1.Edges))]) trivial rfl rfl rfl rfl rfl (md rfl (md rfl (nt ((Tr.seq (sr ((Rn.fldP (o' := 1) trivial rfl rfl (Rn.load (v := .d (.int .i64 a1.States)) trivial rfl (boxOwn rfl) rfl rfl (Rn.bin trivial rfl rfl rfl (Rn.nil (toN ?_))))))))))))))
 refine Tr.cond rfl (fun hb3 => ?_) (fun hb3 => ?_)
 ·replace h := bT hb3 h
  refine sr ((md rfl (md rfl (nt ((Tr.ret ?_))))))
  replace h := si h; subst h
  exact ⟨.inr rfl, .tup [.d (.int .i64 0), .d (.bool false)], res2 rfl rfl, (WkV.tup (.cons (.same rfl) (.cons (.same rfl) .nil))).rd, ⟨trivial, trivial, trivial⟩, fun k hk => memOf_base hk⟩
 ·replace h := bF hb3 h
  refine Tr.skip (toN (sr ((Rn.load (v := .agg [.d (.lst 1 (List.map (eI .i64) a1.Alphabet)), .d (.int .i64 a1.States), .d (.lst 1 (List.map (eI .i64) a1.Marked)), .d (.lst 3 (List.map e_api_Edge a1.Edges))]) trivial rfl (boxOwn rfl) rfl rfl (md rfl ?_)))))
  obtain ⟨⟨r5, r6⟩, h4, h⟩ := bnd h
  refine Rn.call (args := [.agg [.d (.lst 1 (List.map (eI .i64) a1.Alphabet)), .d (.int .i64 a1.States), .d (.lst 1 (List.map (eI .i64) a1.Marked)), .d (.lst 3 (List.map e_api_Edge a1.Edges))], .d (.int .i64 0), .d (.lst 1 (List.map (eI .i64) word2))]) trivial rfl (H_automaton_follow _ _ _ _ h4) pc9 (Rn.mov (v := .tup [.d (.int .i64 r5), .d (.int .i64 r6)]) trivial rfl (Rn.ext (v := .d (.int .i64 r5)) (vs := [.d (.int .i64 r5), .d (.int .i64 r6)]) trivial rfl rfl rfl (Rn.ext (v := .d (.int .i64 r6)) (vs := [.d (.int .i64 r5), .d (.int .i64 r6)]) trivial rfl rfl rfl (md rfl (md rfl (nt ((sr ((md rfl (md rfl (md rfl (Rn.lenD trivial rfl (Rn.bin trivial rfl rfl rfl (md rfl (md rfl (nt ((Tr.ret ?_)))))))))))))))))))
  replace h := si h; subst h
  exact ⟨.inr rfl, .tup [.d (.int .i64 r5), .d (.bool (r6 == (word2.length : Int)))], res2 rfl rfl, (WkV.tup (.cons (.same rfl) (.cons (.same rfl) .nil))).rd, ⟨trivial, trivial, trivial⟩, fun k hk => memOf_base hk⟩
theorem automaton_Generates_walk {P : Program} {c : Nat} {f_automaton_Check : api_Automaton → Option Int} {f_automaton_reached : api_Automaton → (List Int) → Option (Int × Bool)}
    (H_automaton_Check : K_automaton_Check P 68 f_automaton_Check)
    (H_automaton_reached : K_automaton_reached P 88 f_automaton_reached) (hcf : compFn P c = some F_automaton_Generates) : K_automaton_Generates P c (f_automaton_Generates f_automaton_Check f_automaton_reached) := by
 intro a1 word2 r h
 refine fn_trP hcf rfl fun Γ M hP hnt hM => ?_
 subst hP
 refine Tr.init [(0, .agg [.d (.lst 1 (List.map (eI .i64) a1.Alphabet)), .d (.int .i64 a1.States), .d (.lst 1 (List.map (eI .i64) a1.Marked)), .d (.lst 3 (List.map e_api_Edge a1.Edges))]), (1, .d (.lst 1 (List.map (eI .i64) word2)))] rfl ?_
 unfold f_automaton_Generates at h
 unfold F_automaton_Generates
 refine sr ((Rn.box (v := .agg [.d (.lst 1 (List.map (eI .i64) a1.Alphabet)), .d (.int .i64 a1.States), .d (.lst 1 (List.map (eI .i64) a1.Marked)), .d (.lst 3 (List.map e_api_Edge a1.Edges))]) (cs := [.d (.lst 1 (List.map (eI .i64) a1.Alphabet)), .d (.int .i64 a1.States), .d (.lst 1 (List.map (eI .i64) a1.Marked)), .d (.lst 3 (List.map e_api_Edge a1.Edges))]) trivial rfl rfl rfl rfl rfl (md rfl (md rfl (nt ((Tr.seq (sr ((Rn.load (v := .agg [.d (.lst 1 (List.map (eI .i64) a1.Alphabet)), .d (.int .i64 a1.States), .d (.lst 1 (List.map (eI .i64) a1.Marked)), .d (.lst 3 (List.map e_api_Edge a1.Edges))]) trivial rfl (boxOwn rfl) rfl rfl ?_))))))))))
 obtain ⟨x4, h3, h⟩ := bnd h
 refine Rn.call (args := [.agg [.d (.lst 1 (List.map (eI .i64) a1.Alphabet)), .d (.int .i64 a1.States), .d (.lst 1 (List.map (eI .i64) a1.Marked)), .d (.lst 3 (List.map e_api_Edge a1.Edges))]]) trivial rfl (H_automaton_Check _ _ h3) pc9 (md rfl (nt ((sr ((md rfl (Rn.bin trivial rfl rfl rfl (Rn.nil (toN ?_)))))))))
 refine Tr.cond rfl (fun hb5 => ?_) (fun hb5 => ?_)
 ·replace h := bT hb5 h
  refine sr ((md rfl (md rfl (md rfl (nt ((Tr.ret ?_)))))))
  replace h := si h; subst h
  exact ⟨.inr rfl, .tup [.d (.bool false), .d (.int .i64 x4)], res2 rfl rfl, (WkV.tup (.cons (.same rfl) (.cons (.same rfl) .nil))).rd, ⟨trivial, trivial, trivial⟩, fun k hk => memOf_base hk⟩
 ·replace h := bF hb5 h
  refine Tr.skip (toN (sr ((Rn.load (v := .agg [.d (.lst 1 (List.map (eI .i64) a1.Alphabet)), .d (.int .i64 a1.States), .d (.lst 1 (List.map (eI .i64) a1.Marked)), .d (.lst 3 (List.map e_api_Edge a1.Edges))]) trivial rfl (boxOwn rfl) rfl rfl (md rfl ?_)))))
  obtain ⟨⟨r7, r8⟩, h6, h⟩ := bnd h
  refine Rn.call (args := [.agg [.d (.lst 1 (List.map (eI .i64) a1.Alphabet)), .d (.int .i64 a1.States), .d (.lst 1 (List.map (eI .i64) a1.Marked)), .d (.lst 3 (List.map e_api_Edge a1.Edges))], .d (.lst 1 (List.map (eI .i64) word2))]) trivial rfl (H_automaton_reached _ _ _ h6) pc9 (Rn.mov (v := .tup [.d (.int .i64 r7), .d (.bool r8)]) trivial rfl (Rn.ext (v := .d (.int .i64 r7)) (vs := [.d (.int .i64 r7), .d (.bool r8)]) trivial rfl rfl rfl (Rn.ext (v := .d (.bool r8)) (vs := [.d (.int .i64 r7), .d (.bool r8)]) trivial rfl rfl rfl (md rfl (md rfl (nt ((sr ((md rfl (md rfl (md rfl (nt ((Tr.ret ?_)))))))))))))))
  replace h := si h; subst h
  exact ⟨.inr rfl, .tup [.d (.bool r8), .d (.int .i64 0)], res2 rfl rfl, (WkV.tup (.cons (.same rfl) (.cons (.same rfl) .nil))).rd, ⟨trivial, trivial, trivial⟩, fun k hk => memOf_base hk⟩
theorem requirement_Allows_walk {P : Program} {c : Nat} {f_alphabet_Contains : (List Int) → Int → Option Bool} {f_automaton_Check : api_Automaton → Option Int} {f_automaton_Generates : api_Automaton → (List Int) → Option (Bool × Int)}
    (H_alphabet_Contains : K_alphabet_Contains P 62 f_alphabet_Contains)
    (H_automaton_Check : K_automaton_Check P 68 f_automaton_Check)
    (H_automaton_Generates : K_automaton_Generates P 69 f_automaton_Generates) (hcf : compFn P c = some F_requirement_Allows) (fuel : Nat) : K_requirement_Allows P c (f_requirement_Allows f_alphabet_Contains f_automaton_Check f_automaton_Generates fuel) := by
 intro a1 word2 r h
 refine fn_trP hcf rfl fun Γ M hP hnt hM => ?_
 subst hP
 refine Tr.init [(0, .agg [.d (.lst 1 (List.map (eI .i64) a1.Alphabet)), .d (.int .i64 a1.States), .d (.lst 1 (List.map (eI .i64) a1.Marked)), .d (.lst 3 (List.map e_api_Edge a1.Edges))]), (1, .d (.lst 1 (List.map (eI .i64) word2)))] rfl ?_
 unfold f_requirement_Allows at h
 unfold F_requirement_Allows
 refine sr ((Rn.box (v := .agg [.d (.lst 1 (List.map (eI .i64) a1.Alphabet)), .d (.int .i64 a1.States), .d (.lst 1 (List.map (eI .i64) a1.Marked)), .d (.lst 3 (List.map e_api_Edge a1.Edges))]) (cs := [.d (.lst 1 (List.map (eI .i64) a1.Alphabet)), .d (.int .i64 a1.States), .d (.lst 1 (List.map (eI .i64) a1.Marked)), .d (.lst 3 (List.map e_api_Edge a1.Edges))]) trivial rfl rfl rfl rfl rfl (md rfl (md rfl (nt ((Tr.seq (sr ((Rn.load (v := .agg [.d (.lst 1 (List.map (eI .i64) a1.Alphabet)), .d (.int .i64 a1.States), .d (.lst 1 (List.map (eI .i64) a1.Marked)), .d (.lst 3 (List.map e_api_Edge a1.Edges))]) trivial rfl (boxOwn rfl) rfl rfl ?_))))))))))
 obtain ⟨x4, h3, h⟩ := bnd h
 refine Rn.call (args := [.agg [.d (.lst 1 (List.map (eI .i64) a1.Alphabet)), .d (.int .i64 a1.States), .d (.lst 1 (List.map (eI .i64) a1.Marked)), .d (.lst 3 (List.map e_api_Edge a1.Edges))]]) trivial rfl (H_automaton_Check _ _ h3) pc9 (md rfl (nt ((sr ((md rfl (Rn.bin trivial rfl rfl rfl (Rn.nil (toN ?_)))))))))
 refine Tr.cond rfl (fun hb5 => ?_) (fun hb5 => ?_)
 ·replace h := bT hb5 h
  refine sr ((md rfl (md rfl (md rfl (nt ((Tr.ret ?_)))))))
  replace h := si h; subst h
  exact ⟨.inr rfl, .tup [.d (.bool false), .d (.int .i64 x4)], res2 rfl rfl, (WkV.tup (.cons (.same rfl) (.cons (.same rfl) .nil))).rd, ⟨trivial, trivial, trivial⟩, fun k hk => memOf_base hk⟩
 ·replace h := bF hb5 h
  refine Tr.skip (toN (Tr.seq (sr ((md rfl (Rn.lenD trivial rfl (Rn.bin trivial rfl rfl rfl (Rn.nil (toN ?_)))))))))
  refine Tr.cond rfl (fun hb6 => ?_) (fun hb6 => ?_)
  ·replace h := ifT hb6 h
   refine sr ((md rfl (md rfl (nt ((Tr.ret ?_))))))
   replace h := si h; subst h
   exact ⟨.inr rfl, .tup [.d (.bool false), .d (.int .i64 15)], res2 rfl rfl, (WkV.tup (.cons (.same rfl) (.cons (.same rfl) .nil))).rd, ⟨trivial, trivial, trivial⟩, fun k hk => memOf_base hk⟩
  ·replace h := ifF hb6 h
   refine Tr.skip (toN (sr ((Rn.movTC (v := .nils 1) trivial (nt ((Tr.seq (sr ((md rfl (Rn.lenD trivial rfl (md rfl (nt ((Tr.block ?_)))))))))))))))
   refine Tr.loop (mk := fun ((own7, x8) : (List Int) × Int) => ⟨look [(2, .ptr (Γ.n0 + 2) 0), (7, .own 1 (List.map (eI .i64) own7)), (18, .d (.lst 1 (List.map (eI .i64) word2))), (19, .d (.int .i64 (word2.length : Int))), (20, .d (.int .i64 x8))], memOf Γ.n0 (bxs [(2, .cells ([.d (.lst 1 (List.map (eI .i64) a1.Alphabet)), .d (.int .i64 a1.States), .d (.lst 1 (List.map (eI .i64) a1.Marked)), .d (.lst 3 (List.map e_api_Edge a1.Edges))]))]) M, Γ.n0 + 44⟩) h (by show WeakSt Γ (clean _ _ _) ⟨look _, memOf _ (bxs _) _, _⟩; exact weak_clean ⟨(kPtr rfl), ⟨(WkV.nilsO _), ⟨(.same rfl), ⟨(.same rfl), ⟨(.same rfl), trivial⟩⟩⟩⟩⟩ ⟨⟨_, rfl, rfl, (.same rfl)⟩, trivial⟩ rfl) (fun k9 z h => ?_)
   ·obtain ⟨own7, x8⟩ := z
    replace h : _ = some _ := h
    refine sr ((Rn.bin trivial rfl rfl rfl (nt ((Tr.seq ?_)))))
    refine Tr.cond rfl (fun hb10 => ?_) (fun hb10 => ?_)
    ·replace h := ifT hb10 h
     refine Tr.skip (toN ?_)
     refine Tr.cutJ (fun (own21 : List Int) => ⟨look [(2, .ptr (Γ.n0 + 2) 0), (7, .own 1 (List.map (eI .i64) own21)), (18, .d (.lst 1 (List.map (eI .i64) word2))), (19, .d (.int .i64 (word2.length : Int))), (20, .d (.int .i64 x8))], memOf Γ.n0 (bxs [(2, .cells ([.d (.lst 1 (List.map (eI .i64) a1.Alphabet)), .d (.int .i64 a1.States), .d (.lst 1 (List.map (eI .i64) a1.Marked)), .d (.lst 3 (List.map e_api_Edge a1.Edges))]))]) M, Γ.n0 + 44⟩) h (fun J22 h => ?_) (fun z h => ?_)
     ·refine Tr.block (Tr.seq (Tr.rgn ?_))
      obtain ⟨x11, h12, h⟩ := bnd h
      refine Rn.idxD (e := (eI .i64)) trivial rfl rfl h12 (Rn.loadC (x := .int .i64 x11) trivial rfl (md rfl (nt ((Tr.seq ?_)))))
      refine Tr.cutB (fun (x14 : Bool) => ⟨look [(2, .ptr (Γ.n0 + 2) 0), (7, .own 1 (List.map (eI .i64) own7)), (9, .d (.int .i64 x11)), (18, .d (.lst 1 (List.map (eI .i64) word2))), (19, .d (.int .i64 (word2.length : Int))), (20, .d (.int .i64 x8)), (29, .d (.bool x14))], memOf Γ.n0 (bxs [(2, .cells ([.d (.lst 1 (List.map (eI .i64) a1.Alphabet)), .d (.int .i64 a1.States), .d (.lst 1 (List.map (eI .i64) a1.Marked)), .d (.lst 3 (List.map e_api_Edge a1.Edges))]))]) M, Γ.n0 + 44⟩) h (fun z h => ?_) (fun z h => ?_)
      ·refine Tr.rgn (md rfl (Rn.bin trivial rfl rfl rfl (md rfl ?_)))
       refine bsplit (decide (x11 < 0)) (fun hb13 => ?_) (fun hb13 => ?_)
       ·replace h := ifT hb13 h
        refine Rn.sk (nw rfl hb13) (Rn.sk (nw rfl hb13) (Rn.pickT (v := .d (.bool true)) trivial rfl hb13 rfl (Rn.nil ?_)))
        replace h := si h; subst h
        show WeakSt Γ _ ⟨look _, memOf _ (bxs _) _, _⟩; exact weak_cut [] ⟨(kPtr rfl), ⟨(.same rfl), ⟨(.same rfl), ⟨(.same rfl), ⟨(.same rfl), ⟨(.same rfl), ⟨(.same rfl), trivial⟩⟩⟩⟩⟩⟩⟩ ⟨⟨_, rfl, rfl, (.same rfl)⟩, trivial⟩ rfl
       ·replace h := ifF hb13 h
        refine Rn.movD (gw rfl hb13) rfl (Rn.bin (gw rfl hb13) rfl rfl rfl (Rn.pickF (v := .d (.bool (decide (x11 ≥ 32)))) trivial rfl hb13 rfl (Rn.nil ?_)))
        replace h := si h; subst h
        show WeakSt Γ _ ⟨look _, memOf _ (bxs _) _, _⟩; exact weak_cut [] ⟨(kPtr rfl), ⟨(.same rfl), ⟨(.same rfl), ⟨(.same rfl), ⟨(.same rfl), ⟨(.same rfl), ⟨(.same rfl), trivial⟩⟩⟩⟩⟩⟩⟩ ⟨⟨_, rfl, rfl, (.same rfl)⟩, trivial⟩ rfl
      ·obtain ⟨x14, rfl⟩ : ∃ x, x = z := ⟨_, rfl⟩
       refine Tr.cond rfl (fun hb15 => ?_) (fun hb15 => ?_)
       ·replace h := bT hb15 h
        refine sr ((md rfl (md rfl (nt ((Tr.ret ?_))))))
        replace h := si h; subst h
        exact ⟨.inr rfl, .tup [.d (.bool false), .d (.int .i64 2)], res2 rfl rfl, (WkV.tup (.cons (.same rfl) (.cons (.same rfl) .nil))).rd, ⟨trivial, trivial, trivial⟩, fun k hk => memOf_base hk⟩
       ·replace h := bF hb15 h
        refine Tr.skip (toN (sr ((Rn.fldP (o' := 0) trivial rfl rfl (Rn.load (v := .d (.lst 1 (List.map (eI .i64) a1.Alphabet))) trivial rfl (boxOwn rfl) rfl rfl (md rfl ?_))))))
        obtain ⟨x17, h16, h⟩ := bnd h
        refine Rn.call (args := [.d (.lst 1 (List.map (eI .i64) a1.Alphabet)), .d (.int .i64 x11)]) trivial rfl (H_alphabet_Contains _ _ _ h16) pc9 (Rn.nil (toN ?_))
        refine Tr.cond rfl (fun hb18 => ?_) (fun hb18 => ?_)
        ·replace h := bT hb18 h
         refine Tr.rgn (Rn.movTO trivial rfl (md rfl (Rn.bslice (xs := [.d (.int .i64 x11)]) (cs := [.d (.int .i64 x11)]) trivial rfl rfl rfl rfl ?_)))
         obtain ⟨x19, h20, h⟩ := bnd h
         refine Rn.app (e := (eI .i64)) trivial rfl rfl rfl (elems_box rfl rfl rfl) h20 rfl (Rn.movTO trivial rfl (Rn.nil ?_))
         exact ⟨_, h, (by show WeakSt Γ _ ⟨look _, memOf _ (bxs _) _, _⟩; exact weak_cut [36] ⟨(kPtr rfl), ⟨(.same rfl), ⟨(.same rfl), ⟨(.same rfl), ⟨(.same rfl), trivial⟩⟩⟩⟩⟩ ⟨⟨_, rfl, rfl, (.same rfl)⟩, trivial⟩ rfl)⟩
        ·replace h := bF hb18 h
         refine Tr.skip ?_
         exact ⟨_, h, (by show WeakSt Γ _ ⟨look _, memOf _ (bxs _) _, _⟩; exact weak_cut [] ⟨(kPtr rfl), ⟨(.same rfl), ⟨(.same rfl), ⟨(.same rfl), ⟨(.same rfl), trivial⟩⟩⟩⟩⟩ ⟨⟨_, rfl, rfl, (.same rfl)⟩, trivial⟩ rfl)⟩
     ·obtain ⟨own21, rfl⟩ : ∃ x, x = z := ⟨_, rfl⟩
      refine Tr.rgn (Rn.bin trivial rfl rfl rfl (md rfl (Rn.nil ?_)))
      exact ⟨_, h, (by show WeakSt Γ (clean _ _ _) ⟨look _, memOf _ (bxs _) _, _⟩; exact weak_clean ⟨(kPtr rfl), ⟨(.same rfl), ⟨(.same rfl), ⟨(.same rfl), ⟨(.same rfl), trivial⟩⟩⟩⟩⟩ ⟨⟨_, rfl, rfl, (.same rfl)⟩, trivial⟩ rfl)⟩
    ·replace h := ifF hb10 h
     refine Tr.exit (toN (sr ((Rn.load (v := .agg [.d (.lst 1 (List.map (eI .i64) a1.Alphabet)), .d (.int .i64 a1.States), .d (.lst 1 (List.map (eI .i64) a1.Marked)), .d (.lst 3 (List.map e_api_Edge a1.Edges))]) trivial rfl (boxOwn rfl) rfl rfl (Rn.mov (v := .d (.lst 1 (List.map (eI .i64) own7))) trivial rfl ?_)))))
     obtain ⟨⟨r24, r25⟩, h23, h⟩ := bnd h
     refine Rn.call (args := [.agg [.d (.lst 1 (List.map (eI .i64) a1.Alphabet)), .d (.int .i64 a1.States), .d (.lst 1 (List.map (eI .i64) a1.Marked)), .d (.lst 3 (List.map e_api_Edge a1.Edges))], .d (.lst 1 (List.map (eI .i64) own7))]) trivial rfl (H_automaton_Generates _ _ _ h23) pc9 (Rn.ext (v := .d (.bool r24)) (vs := [.d (.bool r24), .d (.int .i64 r25)]) trivial rfl rfl rfl (Rn.ext (v := .d (.int .i64 r25)) (vs := [.d (.bool r24), .d (.int .i64 r25)]) trivial rfl rfl rfl (md rfl (md rfl (nt ((Tr.ret ?_)))))))
     replace h := si h; subst h
     exact ⟨.inr rfl, .tup [.d (.bool r24), .d (.int .i64 r25)], res2 rfl rfl, (WkV.tup (.cons (.same rfl) (.cons (.same rfl) .nil))).rd, ⟨trivial, trivial, trivial⟩, fun k hk => memOf_base hk⟩
theorem overseerlaw21_RequirementWords_walk {P : Program} {c : Nat} {f_overseerlaw21_known : Option Bool} {f_requirement_Buffer : (List Int) → (List Int) → Int → Option (api_Automaton × Int)} {f_requirement_Alternate : (List Int) → Option (api_Automaton × Int)} {f_requirement_Allows : api_Automaton → (List Int) → Option (Bool × Int)}
    (H_overseerlaw21_known : K_overseerlaw21_known P 10 f_overseerlaw21_known)
    (H_requirement_Buffer : K_requirement_Buffer P 19 f_requirement_Buffer)
    (H_requirement_Alternate : K_requirement_Alternate P 31 f_requirement_Alternate)
    (H_requirement_Allows : K_requirement_Allows P 32 f_requirement_Allows) (hcf : compFn P c = some F_overseerlaw21_RequirementWords) (fuel : Nat) : K_overseerlaw21_RequirementWords P c (f_overseerlaw21_RequirementWords f_overseerlaw21_known f_requirement_Buffer f_requirement_Alternate f_requirement_Allows fuel) := by
 intro capacity1 word2 r h
 refine fn_trP hcf rfl fun Γ M hP hnt hM => ?_
 subst hP
 refine Tr.init [(0, .d (.int .u8 capacity1)), (1, .d (.lst 1 (List.map (eI .u8) word2)))] rfl ?_
 unfold f_overseerlaw21_RequirementWords at h
 unfold F_overseerlaw21_RequirementWords
 refine sr ((md rfl (nt ((Tr.seq ?_)))))
 refine Tr.cutB (fun (x6 : Bool) => ⟨look [(0, .d (.int .u8 capacity1)), (1, .d (.lst 1 (List.map (eI .u8) word2))), (29, .d (.bool x6))], memOf Γ.n0 (bxs []) M, Γ.n0 + 133⟩) h (fun z h => ?_) (fun z h => ?_)
 ·refine Tr.rgn ?_
  obtain ⟨x4, h3, h⟩ := bnd h
  refine Rn.call (args := []) trivial rfl (H_overseerlaw21_known _ h3) pc9 (Rn.un trivial rfl rfl (md rfl ?_))
  refine bsplit x4 (fun hb5 => ?_) (fun hb5 => ?_)
  ·replace h := bT hb5 h
   refine Rn.movD (gw rfl (nT hb5)) rfl (Rn.lenD (gw rfl (nT hb5)) rfl (Rn.bin (gw rfl (nT hb5)) rfl rfl rfl (Rn.pickF (v := .d (.bool (decide ((word2.length : Int) > 12)))) trivial rfl (nT hb5) rfl (Rn.nil ?_))))
   replace h := si h; subst h
   show WeakSt Γ _ ⟨look _, memOf _ (bxs _) _, _⟩; exact weak_cut [] ⟨(.same rfl), ⟨(.same rfl), ⟨(.same rfl), trivial⟩⟩⟩ trivial rfl
  ·replace h := bF hb5 h
   refine Rn.sk (nw rfl (nF hb5)) (Rn.sk (nw rfl (nF hb5)) (Rn.sk (nw rfl (nF hb5)) (Rn.pickT (v := .d (.bool true)) trivial rfl (nF hb5) rfl (Rn.nil ?_))))
   replace h := si h; subst h
   show WeakSt Γ _ ⟨look _, memOf _ (bxs _) _, _⟩; exact weak_cut [] ⟨(.same rfl), ⟨(.same rfl), ⟨(.same rfl), trivial⟩⟩⟩ trivial rfl
 ·obtain ⟨x6, rfl⟩ : ∃ x, x = z := ⟨_, rfl⟩
  refine Tr.cond rfl (fun hb7 => ?_) (fun hb7 => ?_)
  ·replace h := bT hb7 h
   refine Tr.seq (Tr.rgn ?_)
   obtain ⟨x9, h8, h⟩ := bnd h
   refine Rn.call (args := []) trivial rfl (H_overseerlaw21_known _ h8) pc9 (md rfl (nt ((Tr.ret ?_))))
   replace h := si h; subst h
   exact ⟨.inr rfl, (.d (.bool x9)), rfl, fun _ _ _ _ h => h, trivial, fun k hk => memOf_base hk⟩
  ·replace h := bF hb7 h
   refine Tr.skip (toN (sr ((md rfl (Rn.bin trivial rfl rfl rfl (Rn.conv trivial rfl (Rn.bin trivial rfl rfl rfl (md rfl (nt ((sr ((Rn.bslice (xs := [.d (.int .i64 0)]) (cs := [.d (.int .i64 0)]) trivial rfl rfl rfl rfl (Rn.bslice (xs := [.d (.int .i64 1)]) (cs := [.d (.int .i64 1)]) trivial rfl rfl rfl rfl (md rfl ?_)))))))))))))))
   refine Rn.weak (by show WeakSt Γ _ ⟨look [(0, .d (.int .u8 capacity1)), (1, .d (.lst 1 (List.map (eI .u8) word2))), (5, .d (.int .i64 (IntKind.wrap .i64 (1 + (IntKind.wrap .i64 (Int.tmod capacity1 4)))))), (29, .d (.bool x6)), (31, .d (.int .u8 capacity1)), (32, .d (.int .u8 (Int.tmod capacity1 4))), (33, .d (.int .i64 (IntKind.wrap .i64 (Int.tmod capacity1 4)))), (34, .d (.int .i64 (IntKind.wrap .i64 (1 + (IntKind.wrap .i64 (Int.tmod capacity1 4)))))), (36, .d (.lst 1 (List.map (eI .i64) [0]))), (37, .sl 1 (Γ.n0 + 37) 0 1 1), (38, .d (.int .i64 (IntKind.wrap .i64 (1 + (IntKind.wrap .i64 (Int.tmod capacity1 4))))))], memOf Γ.n0 (bxs [(37, .cells ([.d (.int .i64 1)]))]) M, Γ.n0 + 133⟩; exact weak_freeze 36 [.int .i64 0] rfl rfl ⟨(.same rfl), ⟨(.same rfl), ⟨(.same rfl), ⟨(.same rfl), ⟨(.same rfl), ⟨(.same rfl), ⟨(.same rfl), ⟨(.same rfl), ⟨(fSl rfl rfl), ⟨(fSlO rfl), ⟨(.same rfl), trivial⟩⟩⟩⟩⟩⟩⟩⟩⟩⟩⟩ ⟨⟨_, rfl, rfl, (.same rfl)⟩, trivial⟩ rfl) ?_
   refine Rn.weak (by show WeakSt Γ _ ⟨look [(0, .d (.int .u8 capacity1)), (1, .d (.lst 1 (List.map (eI .u8) word2))), (5, .d (.int .i64 (IntKind.wrap .i64 (1 + (IntKind.wrap .i64 (Int.tmod capacity1 4)))))), (29, .d (.bool x6)), (31, .d (.int .u8 capacity1)), (32, .d (.int .u8 (Int.tmod capacity1 4))), (33, .d (.int .i64 (IntKind.wrap .i64 (Int.tmod capacity1 4)))), (34, .d (.int .i64 (IntKind.wrap .i64 (1 + (IntKind.wrap .i64 (Int.tmod capacity1 4)))))), (36, .d (.lst 1 (List.map (eI .i64) [0]))), (37, .d (.lst 1 (List.map (eI .i64) [1]))), (38, .d (.int .i64 (IntKind.wrap .i64 (1 + (IntKind.wrap .i64 (Int.tmod capacity1 4))))))], memOf Γ.n0 (bxs []) M, Γ.n0 + 133⟩; exact weak_freeze 37 [.int .i64 1] rfl rfl ⟨(.same rfl), ⟨(.same rfl), ⟨(.same rfl), ⟨(.same rfl), ⟨(.same rfl), ⟨(.same rfl), ⟨(.same rfl), ⟨(.same rfl), ⟨(.same rfl), ⟨(fSl rfl rfl), ⟨(.same rfl), trivial⟩⟩⟩⟩⟩⟩⟩⟩⟩⟩⟩ trivial rfl) ?_
   obtain ⟨⟨r11, r12⟩, h10, h⟩ := bnd h
   refine Rn.call (args := [.d (.lst 1 (List.map (eI .i64) [0])), .d (.lst 1 (List.map (eI .i64) [1])), .d (.int .i64 (IntKind.wrap .i64 (1 + (IntKind.wrap .i64 (Int.tmod capacity1 4)))))]) trivial rfl (H_requirement_Buffer _ _ _ _ h10) pc9 (Rn.mov (v := .tup [.agg [.d (.lst 1 (List.map (eI .i64) r11.Alphabet)), .d (.int .i64 r11.States), .d (.lst 1 (List.map (eI .i64) r11.Marked)), .d (.lst 3 (List.map e_api_Edge r11.Edges))], .d (.int .i64 r12)]) trivial rfl (Rn.ext (v := .agg [.d (.lst 1 (List.map (eI .i64) r11.Alphabet)), .d (.int .i64 r11.States), .d (.lst 1 (List.map (eI .i64) r11.Marked)), .d (.lst 3 (List.map e_api_Edge r11.Edges))]) (vs := [.agg [.d (.lst 1 (List.map (eI .i64) r11.Alphabet)), .d (.int .i64 r11.States), .d (.lst 1 (List.map (eI .i64) r11.Marked)), .d (.lst 3 (List.map e_api_Edge r11.Edges))], .d (.int .i64 r12)]) trivial rfl rfl rfl (Rn.ext (v := .d (.int .i64 r12)) (vs := [.agg [.d (.lst 1 (List.map (eI .i64) r11.Alphabet)), .d (.int .i64 r11.States), .d (.lst 1 (List.map (eI .i64) r11.Marked)), .d (.lst 3 (List.map e_api_Edge r11.Edges))], .d (.int .i64 r12)]) trivial rfl rfl rfl (Rn.alloc trivial rfl (Rn.store (v := .agg [.d (.lst 1 (List.map (eI .i64) r11.Alphabet)), .d (.int .i64 r11.States), .d (.lst 1 (List.map (eI .i64) r11.Marked)), .d (.lst 3 (List.map e_api_Edge r11.Edges))]) (cs' := [.d (.lst 1 (List.map (eI .i64) r11.Alphabet)), .d (.int .i64 r11.States), .d (.lst 1 (List.map (eI .i64) r11.Marked)), .d (.lst 3 (List.map e_api_Edge r11.Edges))]) trivial rfl rfl rfl rfl rfl rfl (md rfl (nt ((sr ((Rn.bslice (xs := [.d (.int .i64 0)]) (cs := [.d (.int .i64 0)]) trivial rfl rfl rfl rfl (Rn.bslice (xs := [.d (.int .i64 1)]) (cs := [.d (.int .i64 1)]) trivial rfl rfl rfl rfl ?_))))))))))))
   refine Rn.weak (by show WeakSt Γ _ ⟨look [(0, .d (.int .u8 capacity1)), (1, .d (.lst 1 (List.map (eI .u8) word2))), (5, .d (.int .i64 (IntKind.wrap .i64 (1 + (IntKind.wrap .i64 (Int.tmod capacity1 4)))))), (6, .ptr (Γ.n0 + 6) 0), (7, .d (.int .i64 r12)), (29, .d (.bool x6)), (31, .d (.int .u8 capacity1)), (32, .d (.int .u8 (Int.tmod capacity1 4))), (33, .d (.int .i64 (IntKind.wrap .i64 (Int.tmod capacity1 4)))), (34, .d (.int .i64 (IntKind.wrap .i64 (1 + (IntKind.wrap .i64 (Int.tmod capacity1 4)))))), (35, .tup [.agg [.d (.lst 1 (List.map (eI .i64) r11.Alphabet)), .d (.int .i64 r11.States), .d (.lst 1 (List.map (eI .i64) r11.Marked)), .d (.lst 3 (List.map e_api_Edge r11.Edges))], .d (.int .i64 r12)]), (36, .d (.lst 1 (List.map (eI .i64) [0]))), (37, .d (.lst 1 (List.map (eI .i64) [1]))), (38, .d (.int .i64 (IntKind.wrap .i64 (1 + (IntKind.wrap .i64 (Int.tmod capacity1 4)))))), (39, .tup [.agg [.d (.lst 1 (List.map (eI .i64) r11.Alphabet)), .d (.int .i64 r11.States), .d (.lst 1 (List.map (eI .i64) r11.Marked)), .d (.lst 3 (List.map e_api_Edge r11.Edges))], .d (.int .i64 r12)]), (40, .agg [.d (.lst 1 (List.map (eI .i64) r11.Alphabet)), .d (.int .i64 r11.States), .d (.lst 1 (List.map (eI .i64) r11.Marked)), .d (.lst 3 (List.map e_api_Edge r11.Edges))]), (41, .d (.int .i64 r12)), (43, .d (.lst 1 (List.map (eI .i64) [0]))), (44, .sl 1 (Γ.n0 + 44) 0 1 1)], memOf Γ.n0 (bxs [(6, .cells ([.d (.lst 1 (List.map (eI .i64) r11.Alphabet)), .d (.int .i64 r11.States), .d (.lst 1 (List.map (eI .i64) r11.Marked)), .d (.lst 3 (List.map e_api_Edge r11.Edges))])), (44, .cells ([.d (.int .i64 1)]))]) M, Γ.n0 + 133⟩; exact weak_freeze 43 [.int .i64 0] rfl rfl ⟨(.same rfl), ⟨(.same rfl), ⟨(.same rfl), ⟨(fPtr rfl), ⟨(.same rfl), ⟨(.same rfl), ⟨(.same rfl), ⟨(.same rfl), ⟨(.same rfl), ⟨(.same rfl), ⟨(.same rfl), ⟨(.same rfl), ⟨(.same rfl), ⟨(.same rfl), ⟨(.same rfl), ⟨(.same rfl), ⟨(.same rfl), ⟨(fSl rfl rfl), ⟨(fSlO rfl), trivial⟩⟩⟩⟩⟩⟩⟩⟩⟩⟩⟩⟩⟩⟩⟩⟩⟩⟩⟩ ⟨⟨_, rfl, rfl, (.same rfl)⟩, ⟨⟨_, rfl, rfl, (.same rfl)⟩, trivial⟩⟩ rfl) ?_
   refine Rn.weak (by show WeakSt Γ _ ⟨look [(0, .d (.int .u8 capacity1)), (1, .d (.lst 1 (List.map (eI .u8) word2))), (5, .d (.int .i64 (IntKind.wrap .i64 (1 + (IntKind.wrap .i64 (Int.tmod capacity1 4)))))), (6, .ptr (Γ.n0 + 6) 0), (7, .d (.int .i64 r12)), (29, .d (.bool x6)), (31, .d (.int .u8 capacity1)), (32, .d (.int .u8 (Int.tmod capacity1 4))), (33, .d (.int .i64 (IntKind.wrap .i64 (Int.tmod capacity1 4)))), (34, .d (.int .i64 (IntKind.wrap .i64 (1 + (IntKind.wrap .i64 (Int.tmod capacity1 4)))))), (35, .tup [.agg [.d (.lst 1 (List.map (eI .i64) r11.Alphabet)), .d (.int .i64 r11.States), .d (.lst 1 (List.map (eI .i64) r11.Marked)), .d (.lst 3 (List.map e_api_Edge r11.Edges))], .d (.int .i64 r12)]), (36, .d (.lst 1 (List.map (eI .i64) [0]))), (37, .d (.lst 1 (List.map (eI .i64) [1]))), (38, .d (.int .i64 (IntKind.wrap .i64 (1 + (IntKind.wrap .i64 (Int.tmod capacity1 4)))))), (39, .tup [.agg [.d (.lst 1 (List.map (eI .i64) r11.Alphabet)), .d (.int .i64 r11.States), .d (.lst 1 (List.map (eI .i64) r11.Marked)), .d (.lst 3 (List.map e_api_Edge r11.Edges))], .d (.int .i64 r12)]), (40, .agg [.d (.lst 1 (List.map (eI .i64) r11.Alphabet)), .d (.int .i64 r11.States), .d (.lst 1 (List.map (eI .i64) r11.Marked)), .d (.lst 3 (List.map e_api_Edge r11.Edges))]), (41, .d (.int .i64 r12)), (43, .d (.lst 1 (List.map (eI .i64) [0]))), (44, .d (.lst 1 (List.map (eI .i64) [1])))], memOf Γ.n0 (bxs [(6, .cells ([.d (.lst 1 (List.map (eI .i64) r11.Alphabet)), .d (.int .i64 r11.States), .d (.lst 1 (List.map (eI .i64) r11.Marked)), .d (.lst 3 (List.map e_api_Edge r11.Edges))]))]) M, Γ.n0 + 133⟩; exact weak_freeze 44 [.int .i64 1] rfl rfl ⟨(.same rfl), ⟨(.same rfl), ⟨(.same rfl), ⟨(fPtr rfl), ⟨(.same rfl), ⟨(.same rfl), ⟨(.same rfl), ⟨(.same rfl), ⟨(.same rfl), ⟨(.same rfl), ⟨(.same rfl), ⟨(.same rfl), ⟨(.same rfl), ⟨(.same rfl), ⟨(.same rfl), ⟨(.same rfl), ⟨(.same rfl), ⟨(.same rfl), ⟨(fSl rfl rfl), trivial⟩⟩⟩⟩⟩⟩⟩⟩⟩⟩⟩⟩⟩⟩⟩⟩⟩⟩⟩ ⟨⟨_, rfl, rfl, (.same rfl)⟩, trivial⟩ rfl) ?_
   obtain ⟨⟨r14, r15⟩, h13, h⟩ := bnd h
   refine Rn.call (args := [.d (.lst 1 (List.map (eI .i64) [0])), .d (.lst 1 (List.map (eI .i64) [1])), .d (.int .i64 1)]) trivial rfl (H_requirement_Buffer _ _ _ _ h13) pc9 (Rn.mov (v := .tup [.agg [.d (.lst 1 (List.map (eI .i64) r14.Alphabet)), .d (.int .i64 r14.States), .d (.lst 1 (List.map (eI .i64) r14.Marked)), .d (.lst 3 (List.map e_api_Edge r14.Edges))], .d (.int .i64 r15)]) trivial rfl (Rn.ext (v := .agg [.d (.lst 1 (List.map (eI .i64) r14.Alphabet)), .d (.int .i64 r14.States), .d (.lst 1 (List.map (eI .i64) r14.Marked)), .d (.lst 3 (List.map e_api_Edge r14.Edges))]) (vs := [.agg [.d (.lst 1 (List.map (eI .i64) r14.Alphabet)), .d (.int .i64 r14.States), .d (.lst 1 (List.map (eI .i64) r14.Marked)), .d (.lst 3 (List.map e_api_Edge r14.Edges))], .d (.int .i64 r15)]) trivial rfl rfl rfl (Rn.ext (v := .d (.int .i64 r15)) (vs := [.agg [.d (.lst 1 (List.map (eI .i64) r14.Alphabet)), .d (.int .i64 r14.States), .d (.lst 1 (List.map (eI .i64) r14.Marked)), .d (.lst 3 (List.map e_api_Edge r14.Edges))], .d (.int .i64 r15)]) trivial rfl rfl rfl (Rn.alloc trivial rfl (Rn.store (v := .agg [.d (.lst 1 (List.map (eI .i64) r14.Alphabet)), .d (.int .i64 r14.States), .d (.lst 1 (List.map (eI .i64) r14.Marked)), .d (.lst 3 (List.map e_api_Edge r14.Edges))]) (cs' := [.d (.lst 1 (List.map (eI .i64) r14.Alphabet)), .d (.int .i64 r14.States), .d (.lst 1 (List.map (eI .i64) r14.Marked)), .d (.lst 3 (List.map e_api_Edge r14.Edges))]) trivial rfl rfl rfl rfl rfl rfl (md rfl (nt ((sr ((Rn.bslice (xs := [.d (.int .i64 0), .d (.int .i64 1)]) (cs := [.d (.int .i64 0), .d (.int .i64 1)]) trivial rfl rfl rfl rfl ?_)))))))))))
   refine Rn.weak (by show WeakSt Γ _ ⟨look [(0, .d (.int .u8 capacity1)), (1, .d (.lst 1 (List.map (eI .u8) word2))), (5, .d (.int .i64 (IntKind.wrap .i64 (1 + (IntKind.wrap .i64 (Int.tmod capacity1 4)))))), (6, .ptr (Γ.n0 + 6) 0), (7, .d (.int .i64 r12)), (8, .ptr (Γ.n0 + 8) 0), (9, .d (.int .i64 r15)), (29, .d (.bool x6)), (31, .d (.int .u8 capacity1)), (32, .d (.int .u8 (Int.tmod capacity1 4))), (33, .d (.int .i64 (IntKind.wrap .i64 (Int.tmod capacity1 4)))), (34, .d (.int .i64 (IntKind.wrap .i64 (1 + (IntKind.wrap .i64 (Int.tmod capacity1 4)))))), (35, .tup [.agg [.d (.lst 1 (List.map (eI .i64) r11.Alphabet)), .d (.int .i64 r11.States), .d (.lst 1 (List.map (eI .i64) r11.Marked)), .d (.lst 3 (List.map e_api_Edge r11.Edges))], .d (.int .i64 r12)]), (36, .d (.lst 1 (List.map (eI .i64) [0]))), (37, .d (.lst 1 (List.map (eI .i64) [1]))), (38, .d (.int .i64 (IntKind.wrap .i64 (1 + (IntKind.wrap .i64 (Int.tmod capacity1 4)))))), (39, .tup [.agg [.d (.lst 1 (List.map (eI .i64) r11.Alphabet)), .d (.int .i64 r11.States), .d (.lst 1 (List.map (eI .i64) r11.Marked)), .d (.lst 3 (List.map e_api_Edge r11.Edges))], .d (.int .i64 r12)]), (40, .agg [.d (.lst 1 (List.map (eI .i64) r11.Alphabet)), .d (.int .i64 r11.States), .d (.lst 1 (List.map (eI .i64) r11.Marked)), .d (.lst 3 (List.map e_api_Edge r11.Edges))]), (41, .d (.int .i64 r12)), (42, .tup [.agg [.d (.lst 1 (List.map (eI .i64) r14.Alphabet)), .d (.int .i64 r14.States), .d (.lst 1 (List.map (eI .i64) r14.Marked)), .d (.lst 3 (List.map e_api_Edge r14.Edges))], .d (.int .i64 r15)]), (43, .d (.lst 1 (List.map (eI .i64) [0]))), (44, .d (.lst 1 (List.map (eI .i64) [1]))), (45, .tup [.agg [.d (.lst 1 (List.map (eI .i64) r14.Alphabet)), .d (.int .i64 r14.States), .d (.lst 1 (List.map (eI .i64) r14.Marked)), .d (.lst 3 (List.map e_api_Edge r14.Edges))], .d (.int .i64 r15)]), (46, .agg [.d (.lst 1 (List.map (eI .i64) r14.Alphabet)), .d (.int .i64 r14.States), .d (.lst 1 (List.map (eI .i64) r14.Marked)), .d (.lst 3 (List.map e_api_Edge r14.Edges))]), (47, .d (.int .i64 r15)), (49, .d (.lst 1 (List.map (eI .i64) [0, 1])))], memOf Γ.n0 (bxs [(6, .cells ([.d (.lst 1 (List.map (eI .i64) r11.Alphabet)), .d (.int .i64 r11.States), .d (.lst 1 (List.map (eI .i64) r11.Marked)), .d (.lst 3 (List.map e_api_Edge r11.Edges))])), (8, .cells ([.d (.lst 1 (List.map (eI .i64) r14.Alphabet)), .d (.int .i64 r14.States), .d (.lst 1 (List.map (eI .i64) r14.Marked)), .d (.lst 3 (List.map e_api_Edge r14.Edges))]))]) M, Γ.n0 + 133⟩; exact weak_freeze 49 [.int .i64 0, .int .i64 1] rfl rfl ⟨(.same rfl), ⟨(.same rfl), ⟨(.same rfl), ⟨(fPtr rfl), ⟨(.same rfl), ⟨(fPtr rfl), ⟨(.same rfl), ⟨(.same rfl), ⟨(.same rfl), ⟨(.same rfl), ⟨(.same rfl), ⟨(.same rfl), ⟨(.same rfl), ⟨(.same rfl), ⟨(.same rfl), ⟨(.same rfl), ⟨(.same rfl), ⟨(.same rfl), ⟨(.same rfl), ⟨(.same rfl), ⟨(.same rfl), ⟨(.same rfl), ⟨(.same rfl), ⟨(.same rfl), ⟨(.same rfl), ⟨(fSl rfl rfl), trivial⟩⟩⟩⟩⟩⟩⟩⟩⟩⟩⟩⟩⟩⟩⟩⟩⟩⟩⟩⟩⟩⟩⟩⟩⟩⟩ ⟨⟨_, rfl, rfl, (.same rfl)⟩, ⟨⟨_, rfl, rfl, (.same rfl)⟩, trivial⟩⟩ rfl) ?_
   obtain ⟨⟨r17, r18⟩, h16, h⟩ := bnd h
   refine Rn.call (args := [.d (.lst 1 (List.map (eI .i64) [0, 1]))]) trivial rfl (H_requirement_Alternate _ _ h16) pc9 (Rn.mov (v := .tup [.agg [.d (.lst 1 (List.map (eI .i64) r17.Alphabet)), .d (.int .i64 r17.States), .d (.lst 1 (List.map (eI .i64) r17.Marked)), .d (.lst 3 (List.map e_api_Edge r17.Edges))], .d (.int .i64 r18)]) trivial rfl (Rn.ext (v := .agg [.d (.lst 1 (List.map (eI .i64) r17.Alphabet)), .d (.int .i64 r17.States), .d (.lst 1 (List.map (eI .i64) r17.Marked)), .d (.lst 3 (List.map e_api_Edge r17.Edges))]) (vs := [.agg [.d (.lst 1 (List.map (eI .i64) r17.Alphabet)), .d (.int .i64 r17.States), .d (.lst 1 (List.map (eI .i64) r17.Marked)), .d (.lst 3 (List.map e_api_Edge r17.Edges))], .d (.int .i64 r18)]) trivial rfl rfl rfl (Rn.ext (v := .d (.int .i64 r18)) (vs := [.agg [.d (.lst 1 (List.map (eI .i64) r17.Alphabet)), .d (.int .i64 r17.States), .d (.lst 1 (List.map (eI .i64) r17.Marked)), .d (.lst 3 (List.map e_api_Edge r17.Edges))], .d (.int .i64 r18)]) trivial rfl rfl rfl (Rn.alloc trivial rfl (Rn.store (v := .agg [.d (.lst 1 (List.map (eI .i64) r17.Alphabet)), .d (.int .i64 r17.States), .d (.lst 1 (List.map (eI .i64) r17.Marked)), .d (.lst 3 (List.map e_api_Edge r17.Edges))]) (cs' := [.d (.lst 1 (List.map (eI .i64) r17.Alphabet)), .d (.int .i64 r17.States), .d (.lst 1 (List.map (eI .i64) r17.Marked)), .d (.lst 3 (List.map e_api_Edge r17.Edges))]) trivial rfl rfl rfl rfl rfl rfl (md rfl (nt ((sr ((md rfl (md rfl (nt ((sr ((Rn.movTC (v := .nils 1) trivial (Rn.nil (toN ?_)))))))))))))))))))
   refine Tr.cutB (fun ((want36, w37) : Bool × (List Int)) => ⟨look [(6, .ptr (Γ.n0 + 6) 0), (7, .d (.int .i64 r12)), (8, .ptr (Γ.n0 + 8) 0), (9, .d (.int .i64 r15)), (10, .ptr (Γ.n0 + 10) 0), (11, .d (.int .i64 r18)), (13, .d (.bool want36)), (14, .own 1 (List.map (eI .i64) w37))], memOf Γ.n0 (bxs [(6, .cells ([.d (.lst 1 (List.map (eI .i64) r11.Alphabet)), .d (.int .i64 r11.States), .d (.lst 1 (List.map (eI .i64) r11.Marked)), .d (.lst 3 (List.map e_api_Edge r11.Edges))])), (8, .cells ([.d (.lst 1 (List.map (eI .i64) r14.Alphabet)), .d (.int .i64 r14.States), .d (.lst 1 (List.map (eI .i64) r14.Marked)), .d (.lst 3 (List.map e_api_Edge r14.Edges))])), (10, .cells ([.d (.lst 1 (List.map (eI .i64) r17.Alphabet)), .d (.int .i64 r17.States), .d (.lst 1 (List.map (eI .i64) r17.Marked)), .d (.lst 3 (List.map e_api_Edge r17.Edges))]))]) M, Γ.n0 + 133⟩) h (fun z h => ?_) (fun z h => ?_)
   ·refine sr ((md rfl (Rn.lenD trivial rfl (md rfl (nt ((Tr.block ?_)))))))
    refine Tr.loop (mk := fun ((c19, n20, want21, w22, x23) : Int × Int × Bool × (List Int) × Int) => ⟨look [(5, .d (.int .i64 c19)), (6, .ptr (Γ.n0 + 6) 0), (7, .d (.int .i64 r12)), (8, .ptr (Γ.n0 + 8) 0), (9, .d (.int .i64 r15)), (10, .ptr (Γ.n0 + 10) 0), (11, .d (.int .i64 r18)), (12, .d (.int .i64 n20)), (13, .d (.bool want21)), (14, .own 1 (List.map (eI .i64) w22)), (53, .d (.lst 1 (List.map (eI .u8) word2))), (54, .d (.int .i64 (word2.length : Int))), (55, .d (.int .i64 x23))], memOf Γ.n0 (bxs [(6, .cells ([.d (.lst 1 (List.map (eI .i64) r11.Alphabet)), .d (.int .i64 r11.States), .d (.lst 1 (List.map (eI .i64) r11.Marked)), .d (.lst 3 (List.map e_api_Edge r11.Edges))])), (8, .cells ([.d (.lst 1 (List.map (eI .i64) r14.Alphabet)), .d (.int .i64 r14.States), .d (.lst 1 (List.map (eI .i64) r14.Marked)), .d (.lst 3 (List.map e_api_Edge r14.Edges))])), (10, .cells ([.d (.lst 1 (List.map (eI .i64) r17.Alphabet)), .d (.int .i64 r17.States), .d (.lst 1 (List.map (eI .i64) r17.Marked)), .d (.lst 3 (List.map e_api_Edge r17.Edges))]))]) M, Γ.n0 + 133⟩) h (by show WeakSt Γ (clean _ _ _) ⟨look _, memOf _ (bxs _) _, _⟩; exact weak_clean ⟨(.same rfl), ⟨(kPtr rfl), ⟨(.same rfl), ⟨(kPtr rfl), ⟨(.same rfl), ⟨(kPtr rfl), ⟨(.same rfl), ⟨(.same rfl), ⟨(.same rfl), ⟨(WkV.nilsO _), ⟨(.same rfl), ⟨(.same rfl), ⟨(.same rfl), trivial⟩⟩⟩⟩⟩⟩⟩⟩⟩⟩⟩⟩⟩ ⟨⟨_, rfl, rfl, (.same rfl)⟩, ⟨⟨_, rfl, rfl, (.same rfl)⟩, ⟨⟨_, rfl, rfl, (.same rfl)⟩, trivial⟩⟩⟩ rfl) (fun k24 z h => ?_)
    ·obtain ⟨c19, n20, want21, w22, x23⟩ := z
     replace h : _ = some _ := h
     refine sr ((Rn.bin trivial rfl rfl rfl (nt ((Tr.seq ?_)))))
     refine Tr.cond rfl (fun hb25 => ?_) (fun hb25 => ?_)
     ·replace h := ifT hb25 h
      refine Tr.skip (toN ?_)
      refine Tr.cutB (fun ((n32, want33, w34, c35) : Int × Bool × (List Int) × Int) => ⟨look [(5, .d (.int .i64 c19)), (6, .ptr (Γ.n0 + 6) 0), (7, .d (.int .i64 r12)), (8, .ptr (Γ.n0 + 8) 0), (9, .d (.int .i64 r15)), (10, .ptr (Γ.n0 + 10) 0), (11, .d (.int .i64 r18)), (12, .d (.int .i64 n32)), (13, .d (.bool want33)), (14, .own 1 (List.map (eI .i64) w34)), (53, .d (.lst 1 (List.map (eI .u8) word2))), (54, .d (.int .i64 (word2.length : Int))), (55, .d (.int .i64 x23))], memOf Γ.n0 (bxs [(6, .cells ([.d (.lst 1 (List.map (eI .i64) r11.Alphabet)), .d (.int .i64 r11.States), .d (.lst 1 (List.map (eI .i64) r11.Marked)), .d (.lst 3 (List.map e_api_Edge r11.Edges))])), (8, .cells ([.d (.lst 1 (List.map (eI .i64) r14.Alphabet)), .d (.int .i64 r14.States), .d (.lst 1 (List.map (eI .i64) r14.Marked)), .d (.lst 3 (List.map e_api_Edge r14.Edges))])), (10, .cells ([.d (.lst 1 (List.map (eI .i64) r17.Alphabet)), .d (.int .i64 r17.States), .d (.lst 1 (List.map (eI .i64) r17.Marked)), .d (.lst 3 (List.map e_api_Edge r17.Edges))])), (63, .cells ([.d (.int .i64 c35)]))]) M, Γ.n0 + 133⟩) h (fun z h => ?_) (fun z h => ?_)
      ·refine Tr.block (Tr.seq (Tr.rgn ?_))
       obtain ⟨x26, h27, h⟩ := bnd h
       refine Rn.idxD (e := (eI .u8)) trivial rfl rfl h27 (Rn.loadC (x := .int .u8 x26) trivial rfl (md rfl (nt ((sr ((Rn.movTO trivial rfl (md rfl (Rn.bin trivial rfl rfl rfl (Rn.conv trivial rfl (Rn.bslice (xs := [.d (.int .i64 (IntKind.wrap .i64 (Int.tmod x26 2)))]) (cs := [.d (.int .i64 (IntKind.wrap .i64 (Int.tmod x26 2)))]) trivial rfl rfl rfl rfl ?_)))))))))))
       obtain ⟨x28, h29, h⟩ := bnd h
       refine Rn.app (e := (eI .i64)) trivial rfl rfl rfl (elems_box rfl rfl rfl) h29 rfl (Rn.movTO trivial rfl (nt ((sr ((md rfl (md rfl (Rn.bin trivial rfl rfl rfl (Rn.conv trivial rfl (Rn.bin trivial rfl rfl rfl (Rn.bin trivial rfl rfl rfl (Rn.bin trivial rfl rfl rfl (md rfl (nt ((Tr.rgn (md rfl (md rfl ?_))))))))))))))))))
       refine bsplit want21 (fun hb30 => ?_) (fun hb30 => ?_)
       ·replace h := bT hb30 h
        refine Rn.movD (gw rfl hb30) rfl (Rn.bin (gw rfl hb30) rfl rfl rfl (Rn.pickT (v := .d (.bool (decide ((IntKind.wrap .i64 (n20 + (IntKind.wrap .i64 (1 - (IntKind.wrap .i64 (2 * (IntKind.wrap .i64 (Int.tmod x26 2)))))))) ≥ 0)))) trivial rfl hb30 rfl (md rfl ?_)))
        refine bsplit (decide ((IntKind.wrap .i64 (n20 + (IntKind.wrap .i64 (1 - (IntKind.wrap .i64 (2 * (IntKind.wrap .i64 (Int.tmod x26 2)))))))) ≥ 0)) (fun hb31 => ?_) (fun hb31 => ?_)
        ·replace h := ifT hb31 h
         refine Rn.movD (gw rfl hb31) rfl (Rn.movD (gw rfl hb31) rfl (Rn.bin (gw rfl hb31) rfl rfl rfl (Rn.pickT (v := .d (.bool (decide ((IntKind.wrap .i64 (n20 + (IntKind.wrap .i64 (1 - (IntKind.wrap .i64 (2 * (IntKind.wrap .i64 (Int.tmod x26 2)))))))) ≤ c19)))) trivial rfl hb31 rfl (md rfl (Rn.nil ?_)))))
         replace h := si h; subst h
         show WeakSt Γ _ ⟨look _, memOf _ (bxs _) _, _⟩; exact weak_cut [] ⟨(.same rfl), ⟨(kPtr rfl), ⟨(.same rfl), ⟨(kPtr rfl), ⟨(.same rfl), ⟨(kPtr rfl), ⟨(.same rfl), ⟨(.same rfl), ⟨(.same rfl), ⟨(.same rfl), ⟨(.same rfl), ⟨(.same rfl), ⟨(.same rfl), trivial⟩⟩⟩⟩⟩⟩⟩⟩⟩⟩⟩⟩⟩ ⟨⟨_, rfl, rfl, (.same rfl)⟩, ⟨⟨_, rfl, rfl, (.same rfl)⟩, ⟨⟨_, rfl, rfl, (.same rfl)⟩, ⟨⟨_, rfl, rfl, (.same rfl)⟩, trivial⟩⟩⟩⟩ rfl
        ·replace h := ifF hb31 h
         refine Rn.sk (nw rfl hb31) (Rn.sk (nw rfl hb31) (Rn.sk (nw rfl hb31) (Rn.pickF (v := .d (.bool false)) trivial rfl hb31 rfl (md rfl (Rn.nil ?_)))))
         replace h := si h; subst h
         show WeakSt Γ _ ⟨look _, memOf _ (bxs _) _, _⟩; exact weak_cut [] ⟨(.same rfl), ⟨(kPtr rfl), ⟨(.same rfl), ⟨(kPtr rfl), ⟨(.same rfl), ⟨(kPtr rfl), ⟨(.same rfl), ⟨(.same rfl), ⟨(.same rfl), ⟨(.same rfl), ⟨(.same rfl), ⟨(.same rfl), ⟨(.same rfl), trivial⟩⟩⟩⟩⟩⟩⟩⟩⟩⟩⟩⟩⟩ ⟨⟨_, rfl, rfl, (.same rfl)⟩, ⟨⟨_, rfl, rfl, (.same rfl)⟩, ⟨⟨_, rfl, rfl, (.same rfl)⟩, ⟨⟨_, rfl, rfl, (.same rfl)⟩, trivial⟩⟩⟩⟩ rfl
       ·replace h := bF hb30 h
        refine Rn.sk (nw rfl hb30) (Rn.sk (nw rfl hb30) (Rn.pickF (v := .d (.bool false)) trivial rfl hb30 rfl (md rfl (Rn.sk (nw (b := false) rfl rfl) (Rn.sk (nw (b := false) rfl rfl) (Rn.sk (nw (b := false) rfl rfl) (Rn.pickF (v := .d (.bool false)) trivial rfl rfl rfl (md rfl (Rn.nil ?_)))))))))
        replace h := si h; subst h
        show WeakSt Γ _ ⟨look _, memOf _ (bxs _) _, _⟩; exact weak_cut [] ⟨(.same rfl), ⟨(kPtr rfl), ⟨(.same rfl), ⟨(kPtr rfl), ⟨(.same rfl), ⟨(kPtr rfl), ⟨(.same rfl), ⟨(.same rfl), ⟨(.same rfl), ⟨(.same rfl), ⟨(.same rfl), ⟨(.same rfl), ⟨(.same rfl), trivial⟩⟩⟩⟩⟩⟩⟩⟩⟩⟩⟩⟩⟩ ⟨⟨_, rfl, rfl, (.same rfl)⟩, ⟨⟨_, rfl, rfl, (.same rfl)⟩, ⟨⟨_, rfl, rfl, (.same rfl)⟩, ⟨⟨_, rfl, rfl, (.same rfl)⟩, trivial⟩⟩⟩⟩ rfl
      ·obtain ⟨n32, want33, w34, c35⟩ := z
       refine Tr.rgn (Rn.bin trivial rfl rfl rfl (md rfl (Rn.nil ?_)))
       exact ⟨_, h, (by show WeakSt Γ (clean _ _ _) ⟨look _, memOf _ (bxs _) _, _⟩; exact weak_clean ⟨(.same rfl), ⟨(kPtr rfl), ⟨(.same rfl), ⟨(kPtr rfl), ⟨(.same rfl), ⟨(kPtr rfl), ⟨(.same rfl), ⟨(.same rfl), ⟨(.same rfl), ⟨(.same rfl), ⟨(.same rfl), ⟨(.same rfl), ⟨(.same rfl), trivial⟩⟩⟩⟩⟩⟩⟩⟩⟩⟩⟩⟩⟩ ⟨⟨_, rfl, rfl, (.same rfl)⟩, ⟨⟨_, rfl, rfl, (.same rfl)⟩, ⟨⟨_, rfl, rfl, (.same rfl)⟩, trivial⟩⟩⟩ rfl)⟩
     ·replace h := ifF hb25 h
      refine Tr.exit ?_
      replace h := si h; subst h
      show WeakSt Γ _ ⟨look _, memOf _ (bxs _) _, _⟩; exact weak_cut [] ⟨(kPtr rfl), ⟨(.same rfl), ⟨(kPtr rfl), ⟨(.same rfl), ⟨(kPtr rfl), ⟨(.same rfl), ⟨(.same rfl), ⟨(.same rfl), trivial⟩⟩⟩⟩⟩⟩⟩⟩ ⟨⟨_, rfl, rfl, (.same rfl)⟩, ⟨⟨_, rfl, rfl, (.same rfl)⟩, ⟨⟨_, rfl, rfl, (.same rfl)⟩, trivial⟩⟩⟩ rfl
   ·obtain ⟨want36, w37⟩ := z
    refine sr ((Rn.load (v := .agg [.d (.lst 1 (List.map (eI .i64) r11.Alphabet)), .d (.int .i64 r11.States), .d (.lst 1 (List.map (eI .i64) r11.Marked)), .d (.lst 3 (List.map e_api_Edge r11.Edges))]) trivial rfl (boxOwn rfl) rfl rfl (Rn.mov (v := .d (.lst 1 (List.map (eI .i64) w37))) trivial rfl ?_)))
    obtain ⟨⟨r39, r40⟩, h38, h⟩ := bnd h
    refine Rn.call (args := [.agg [.d (.lst 1 (List.map (eI .i64) r11.Alphabet)), .d (.int .i64 r11.States), .d (.lst 1 (List.map (eI .i64) r11.Marked)), .d (.lst 3 (List.map e_api_Edge r11.Edges))], .d (.lst 1 (List.map (eI .i64) w37))]) trivial rfl (H_requirement_Allows _ _ _ h38) pc9 (Rn.mov (v := .tup [.d (.bool r39), .d (.int .i64 r40)]) trivial rfl (Rn.ext (v := .d (.bool r39)) (vs := [.d (.bool r39), .d (.int .i64 r40)]) trivial rfl rfl rfl (Rn.ext (v := .d (.int .i64 r40)) (vs := [.d (.bool r39), .d (.int .i64 r40)]) trivial rfl rfl rfl (md rfl (md rfl (nt ((sr ((Rn.load (v := .agg [.d (.lst 1 (List.map (eI .i64) r14.Alphabet)), .d (.int .i64 r14.States), .d (.lst 1 (List.map (eI .i64) r14.Marked)), .d (.lst 3 (List.map e_api_Edge r14.Edges))]) trivial rfl (boxOwn rfl) rfl rfl (Rn.mov (v := .d (.lst 1 (List.map (eI .i64) w37))) trivial rfl ?_)))))))))))
    obtain ⟨⟨r42, r43⟩, h41, h⟩ := bnd h
    refine Rn.call (args := [.agg [.d (.lst 1 (List.map (eI .i64) r14.Alphabet)), .d (.int .i64 r14.States), .d (.lst 1 (List.map (eI .i64) r14.Marked)), .d (.lst 3 (List.map e_api_Edge r14.Edges))], .d (.lst 1 (List.map (eI .i64) w37))]) trivial rfl (H_requirement_Allows _ _ _ h41) pc9 (Rn.mov (v := .tup [.d (.bool r42), .d (.int .i64 r43)]) trivial rfl (Rn.ext (v := .d (.bool r42)) (vs := [.d (.bool r42), .d (.int .i64 r43)]) trivial rfl rfl rfl (Rn.ext (v := .d (.int .i64 r43)) (vs := [.d (.bool r42), .d (.int .i64 r43)]) trivial rfl rfl rfl (md rfl (md rfl (nt ((sr ((Rn.load (v := .agg [.d (.lst 1 (List.map (eI .i64) r17.Alphabet)), .d (.int .i64 r17.States), .d (.lst 1 (List.map (eI .i64) r17.Marked)), .d (.lst 3 (List.map e_api_Edge r17.Edges))]) trivial rfl (boxOwn rfl) rfl rfl (Rn.mov (v := .d (.lst 1 (List.map (eI .i64) w37))) trivial rfl ?_)))))))))))
    obtain ⟨⟨r45, r46⟩, h44, h⟩ := bnd h
    refine Rn.call (args := [.agg [.d (.lst 1 (List.map (eI .i64) r17.Alphabet)), .d (.int .i64 r17.States), .d (.lst 1 (List.map (eI .i64) r17.Marked)), .d (.lst 3 (List.map e_api_Edge r17.Edges))], .d (.lst 1 (List.map (eI .i64) w37))]) trivial rfl (H_requirement_Allows _ _ _ h44) pc9 (Rn.mov (v := .tup [.d (.bool r45), .d (.int .i64 r46)]) trivial rfl (Rn.ext (v := .d (.bool r45)) (vs := [.d (.bool r45), .d (.int .i64 r46)]) trivial rfl rfl rfl (Rn.ext (v := .d (.int .i64 r46)) (vs := [.d (.bool r45), .d (.int .i64 r46)]) trivial rfl rfl rfl (md rfl (md rfl (Rn.nil (toN ?_)))))))
    refine Tr.cutB (fun (x54 : Bool) => ⟨look [(4, .d (.bool x54))], memOf Γ.n0 (bxs [(6, .cells ([.d (.lst 1 (List.map (eI .i64) r11.Alphabet)), .d (.int .i64 r11.States), .d (.lst 1 (List.map (eI .i64) r11.Marked)), .d (.lst 3 (List.map e_api_Edge r11.Edges))])), (8, .cells ([.d (.lst 1 (List.map (eI .i64) r14.Alphabet)), .d (.int .i64 r14.States), .d (.lst 1 (List.map (eI .i64) r14.Marked)), .d (.lst 3 (List.map e_api_Edge r14.Edges))])), (10, .cells ([.d (.lst 1 (List.map (eI .i64) r17.Alphabet)), .d (.int .i64 r17.States), .d (.lst 1 (List.map (eI .i64) r17.Marked)), .d (.lst 3 (List.map e_api_Edge r17.Edges))]))]) M, Γ.n0 + 133⟩) h (fun z h => ?_) (fun z h => ?_)
    ·refine Tr.rgn (md rfl (Rn.bin trivial rfl rfl rfl (md rfl ?_)))
     refine bsplit (r12 == 0) (fun hb47 => ?_) (fun hb47 => ?_)
     ·replace h := bT hb47 h
      refine Rn.movD (gw rfl hb47) rfl (Rn.bin (gw rfl hb47) rfl rfl rfl (Rn.pickT (v := .d (.bool (r15 == 0))) trivial rfl hb47 rfl (md rfl ?_)))
      refine bsplit (r15 == 0) (fun hb48 => ?_) (fun hb48 => ?_)
      ·replace h := bT hb48 h
       refine Rn.movD (gw rfl hb48) rfl (Rn.bin (gw rfl hb48) rfl rfl rfl (Rn.pickT (v := .d (.bool (r18 == 0))) trivial rfl hb48 rfl (md rfl ?_)))
       refine bsplit (r18 == 0) (fun hb49 => ?_) (fun hb49 => ?_)
       ·replace h := bT hb49 h
        refine Rn.movD (gw rfl hb49) rfl (Rn.bin (gw rfl hb49) rfl rfl rfl (Rn.pickT (v := .d (.bool (r40 == 0))) trivial rfl hb49 rfl (md rfl ?_)))
        refine bsplit (r40 == 0) (fun hb50 => ?_) (fun hb50 => ?_)
        ·replace h := bT hb50 h
         refine Rn.movD (gw rfl hb50) rfl (Rn.bin (gw rfl hb50) rfl rfl rfl (Rn.pickT (v := .d (.bool (r43 == 0))) trivial rfl hb50 rfl (md rfl ?_)))
         refine bsplit (r43 == 0) (fun hb51 => ?_) (fun hb51 => ?_)
         ·replace h := bT hb51 h
          refine Rn.movD (gw rfl hb51) rfl (Rn.bin (gw rfl hb51) rfl rfl rfl (Rn.pickT (v := .d (.bool (r46 == 0))) trivial rfl hb51 rfl (md rfl ?_)))
          refine bsplit (r46 == 0) (fun hb52 => ?_) (fun hb52 => ?_)
          ·replace h := bT hb52 h
           refine Rn.movD (gw rfl hb52) rfl (Rn.movD (gw rfl hb52) rfl (Rn.bin (gw rfl hb52) rfl rfl rfl (Rn.pickT (v := .d (.bool (r39 == want36))) trivial rfl hb52 rfl (md rfl ?_))))
           refine bsplit (r39 == want36) (fun hb53 => ?_) (fun hb53 => ?_)
           ·replace h := bT hb53 h
            refine Rn.movD (gw rfl hb53) rfl (Rn.movD (gw rfl hb53) rfl (Rn.bin (gw rfl hb53) rfl rfl rfl (Rn.pickT (v := .d (.bool (r42 == r45))) trivial rfl hb53 rfl (md rfl (Rn.nil ?_)))))
            replace h := si h; subst h
            show WeakSt Γ _ ⟨look _, memOf _ (bxs _) _, _⟩; exact weak_cut [] ⟨(.same rfl), trivial⟩ ⟨⟨_, rfl, rfl, (.same rfl)⟩, ⟨⟨_, rfl, rfl, (.same rfl)⟩, ⟨⟨_, rfl, rfl, (.same rfl)⟩, trivial⟩⟩⟩ rfl
           ·replace h := bF hb53 h
            refine Rn.sk (nw rfl hb53) (Rn.sk (nw rfl hb53) (Rn.sk (nw rfl hb53) (Rn.pickF (v := .d (.bool false)) trivial rfl hb53 rfl (md rfl (Rn.nil ?_)))))
            replace h := si h; subst h
            show WeakSt Γ _ ⟨look _, memOf _ (bxs _) _, _⟩; exact weak_cut [] ⟨(.same rfl), trivial⟩ ⟨⟨_, rfl, rfl, (.same rfl)⟩, ⟨⟨_, rfl, rfl, (.same rfl)⟩, ⟨⟨_, rfl, rfl, (.same rfl)⟩, trivial⟩⟩⟩ rfl
          ·replace h := bF hb52 h
           refine Rn.sk (nw rfl hb52) (Rn.sk (nw rfl hb52) (Rn.sk (nw rfl hb52) (Rn.pickF (v := .d (.bool false)) trivial rfl hb52 rfl (md rfl (Rn.sk (nw (b := false) rfl rfl) (Rn.sk (nw (b := false) rfl rfl) (Rn.sk (nw (b := false) rfl rfl) (Rn.pickF (v := .d (.bool false)) trivial rfl rfl rfl (md rfl (Rn.nil ?_))))))))))
           replace h := si h; subst h
           show WeakSt Γ _ ⟨look _, memOf _ (bxs _) _, _⟩; exact weak_cut [] ⟨(.same rfl), trivial⟩ ⟨⟨_, rfl, rfl, (.same rfl)⟩, ⟨⟨_, rfl, rfl, (.same rfl)⟩, ⟨⟨_, rfl, rfl, (.same rfl)⟩, trivial⟩⟩⟩ rfl
         ·replace h := bF hb51 h
          refine Rn.sk (nw rfl hb51) (Rn.sk (nw rfl hb51) (Rn.pickF (v := .d (.bool false)) trivial rfl hb51 rfl (md rfl (Rn.sk (nw (b := false) rfl rfl) (Rn.sk (nw (b := false) rfl rfl) (Rn.sk (nw (b := false) rfl rfl) (Rn.pickF (v := .d (.bool false)) trivial rfl rfl rfl (md rfl (Rn.sk (nw (b := false) rfl rfl) (Rn.sk (nw (b := false) rfl rfl) (Rn.sk (nw (b := false) rfl rfl) (Rn.pickF (v := .d (.bool false)) trivial rfl rfl rfl (md rfl (Rn.nil ?_))))))))))))))
          replace h := si h; subst h
          show WeakSt Γ _ ⟨look _, memOf _ (bxs _) _, _⟩; exact weak_cut [] ⟨(.same rfl), trivial⟩ ⟨⟨_, rfl, rfl, (.same rfl)⟩, ⟨⟨_, rfl, rfl, (.same rfl)⟩, ⟨⟨_, rfl, rfl, (.same rfl)⟩, trivial⟩⟩⟩ rfl
        ·replace h := bF hb50 h
         refine Rn.sk (nw rfl hb50) (Rn.sk (nw rfl hb50) (Rn.pickF (v := .d (.bool false)) trivial rfl hb50 rfl (md rfl (Rn.sk (nw (b := false) rfl rfl) (Rn.sk (nw (b := false) rfl rfl) (Rn.pickF (v := .d (.bool false)) trivial rfl rfl rfl (md rfl (Rn.sk (nw (b := false) rfl rfl) (Rn.sk (nw (b := false) rfl rfl) (Rn.sk (nw (b := false) rfl rfl) (Rn.pickF (v := .d (.bool false)) trivial rfl rfl rfl (md rfl (Rn.sk (nw (b := false) rfl rfl) (Rn.sk (nw (b := false) rfl rfl) (Rn.sk (nw (b := false) rfl rfl) (Rn.pickF (v := .d (.bool false)) trivial rfl rfl rfl (md rfl (Rn.nil ?_))))))))))))))))))
         replace h := si h; subst h
         show WeakSt Γ _ ⟨look _, memOf _ (bxs _) _, _⟩; exact weak_cut [] ⟨(.same rfl), trivial⟩ ⟨⟨_, rfl, rfl, (.same rfl)⟩, ⟨⟨_, rfl, rfl, (.same rfl)⟩, ⟨⟨_, rfl, rfl, (.same rfl)⟩, trivial⟩⟩⟩ rfl
       ·replace h := bF hb49 h
        refine Rn.sk (nw rfl hb49) (Rn.sk (nw rfl hb49) (Rn.pickF (v := .d (.bool false)) trivial rfl hb49 rfl (md rfl (Rn.sk (nw (b := false) rfl rfl) (Rn.sk (nw (b := false) rfl rfl) (Rn.pickF (v := .d (.bool false)) trivial rfl rfl rfl (md rfl (Rn.sk (nw (b := false) rfl rfl) (Rn.sk (nw (b := false) rfl rfl) (Rn.pickF (v := .d (.bool false)) trivial rfl rfl rfl (md rfl (Rn.sk (nw (b := false) rfl rfl) (Rn.sk (nw (b := false) rfl rfl) (Rn.sk (nw (b := false) rfl rfl) (Rn.pickF (v := .d (.bool false)) trivial rfl rfl rfl (md rfl (Rn.sk (nw (b := false) rfl rfl) (Rn.sk (nw (b := false) rfl rfl) (Rn.sk (nw (b := false) rfl rfl) (Rn.pickF (v := .d (.bool false)) trivial rfl rfl rfl (md rfl (Rn.nil ?_))))))))))))))))))))))
        replace h := si h; subst h
        show WeakSt Γ _ ⟨look _, memOf _ (bxs _) _, _⟩; exact weak_cut [] ⟨(.same rfl), trivial⟩ ⟨⟨_, rfl, rfl, (.same rfl)⟩, ⟨⟨_, rfl, rfl, (.same rfl)⟩, ⟨⟨_, rfl, rfl, (.same rfl)⟩, trivial⟩⟩⟩ rfl
      ·replace h := bF hb48 h
       refine Rn.sk (nw rfl hb48) (Rn.sk (nw rfl hb48) (Rn.pickF (v := .d (.bool false)) trivial rfl hb48 rfl (md rfl (Rn.sk (nw (b := false) rfl rfl) (Rn.sk (nw (b := false) rfl rfl) (Rn.pickF (v := .d (.bool false)) trivial rfl rfl rfl (md rfl (Rn.sk (nw (b := false) rfl rfl) (Rn.sk (nw (b := false) rfl rfl) (Rn.pickF (v := .d (.bool false)) trivial rfl rfl rfl (md rfl (Rn.sk (nw (b := false) rfl rfl) (Rn.sk (nw (b := false) rfl rfl) (Rn.pickF (v := .d (.bool false)) trivial rfl rfl rfl (md rfl (Rn.sk (nw (b := false) rfl rfl) (Rn.sk (nw (b := false) rfl rfl) (Rn.sk (nw (b := false) rfl rfl) (Rn.pickF (v := .d (.bool false)) trivial rfl rfl rfl (md rfl (Rn.sk (nw (b := false) rfl rfl) (Rn.sk (nw (b := false) rfl rfl) (Rn.sk (nw (b := false) rfl rfl) (Rn.pickF (v := .d (.bool false)) trivial rfl rfl rfl (md rfl (Rn.nil ?_))))))))))))))))))))))))))
       replace h := si h; subst h
       show WeakSt Γ _ ⟨look _, memOf _ (bxs _) _, _⟩; exact weak_cut [] ⟨(.same rfl), trivial⟩ ⟨⟨_, rfl, rfl, (.same rfl)⟩, ⟨⟨_, rfl, rfl, (.same rfl)⟩, ⟨⟨_, rfl, rfl, (.same rfl)⟩, trivial⟩⟩⟩ rfl
     ·replace h := bF hb47 h
      refine Rn.sk (nw rfl hb47) (Rn.sk (nw rfl hb47) (Rn.pickF (v := .d (.bool false)) trivial rfl hb47 rfl (md rfl (Rn.sk (nw (b := false) rfl rfl) (Rn.sk (nw (b := false) rfl rfl) (Rn.pickF (v := .d (.bool false)) trivial rfl rfl rfl (md rfl (Rn.sk (nw (b := false) rfl rfl) (Rn.sk (nw (b := false) rfl rfl) (Rn.pickF (v := .d (.bool false)) trivial rfl rfl rfl (md rfl (Rn.sk (nw (b := false) rfl rfl) (Rn.sk (nw (b := false) rfl rfl) (Rn.pickF (v := .d (.bool false)) trivial rfl rfl rfl (md rfl (Rn.sk (nw (b := false) rfl rfl) (Rn.sk (nw (b := false) rfl rfl) (Rn.pickF (v := .d (.bool false)) trivial rfl rfl rfl (md rfl (Rn.sk (nw (b := false) rfl rfl) (Rn.sk (nw (b := false) rfl rfl) (Rn.sk (nw (b := false) rfl rfl) (Rn.pickF (v := .d (.bool false)) trivial rfl rfl rfl (md rfl (Rn.sk (nw (b := false) rfl rfl) (Rn.sk (nw (b := false) rfl rfl) (Rn.sk (nw (b := false) rfl rfl) (Rn.pickF (v := .d (.bool false)) trivial rfl rfl rfl (md rfl (Rn.nil ?_))))))))))))))))))))))))))))))
      replace h := si h; subst h
      show WeakSt Γ _ ⟨look _, memOf _ (bxs _) _, _⟩; exact weak_cut [] ⟨(.same rfl), trivial⟩ ⟨⟨_, rfl, rfl, (.same rfl)⟩, ⟨⟨_, rfl, rfl, (.same rfl)⟩, ⟨⟨_, rfl, rfl, (.same rfl)⟩, trivial⟩⟩⟩ rfl
    ·obtain ⟨x54, rfl⟩ : ∃ x, x = z := ⟨_, rfl⟩
     refine Tr.ret ?_
     replace h := si h; subst h
     exact ⟨.inr rfl, (.d (.bool x54)), rfl, fun _ _ _ _ h => h, trivial, fun k hk => memOf_base hk⟩
end Go.Abs
end
section
namespace Go.Proofs
open Go.Abs
set_option maxRecDepth 100000
theorem C_overseerlaw21_RequirementWords : compFn Try.prog 7 = some F_overseerlaw21_RequirementWords := by kernel_rfl
theorem C_overseerlaw21_known : compFn Try.prog 10 = some F_overseerlaw21_known := by kernel_rfl
theorem C_requirement_AtMost : compFn Try.prog 11 = some F_requirement_AtMost := by kernel_rfl
theorem C_slices_Contains_int : compFn Try.prog 13 = some F_slices_Contains_int := by kernel_rfl
theorem C_requirement_Buffer : compFn Try.prog 19 = some F_requirement_Buffer := by kernel_rfl
theorem C_alphabet_CheckSet : compFn Try.prog 20 = some F_alphabet_CheckSet := by kernel_rfl
theorem C_slices_Clone_int : compFn Try.prog 23 = some F_slices_Clone_int := by kernel_rfl
theorem C_requirement_Alternate : compFn Try.prog 31 = some F_requirement_Alternate := by kernel_rfl
theorem C_requirement_Allows : compFn Try.prog 32 = some F_requirement_Allows := by kernel_rfl
theorem C_requirement_Refused : compFn Try.prog 36 = some F_requirement_Refused := by kernel_rfl
theorem C_slices_Equal_int : compFn Try.prog 40 = some F_slices_Equal_int := by kernel_rfl
theorem C_slices_IndexFunc_Edge : compFn Try.prog 44 = some F_slices_IndexFunc_Edge := by kernel_rfl
theorem C_slices_Equal_Edge : compFn Try.prog 46 = some F_slices_Equal_Edge := by kernel_rfl
theorem C_requirement_distinct : compFn Try.prog 47 = some F_requirement_distinct := by kernel_rfl
theorem C_requirement_explore : compFn Try.prog 48 = some F_requirement_explore := by kernel_rfl
theorem C_requirement_sorted : compFn Try.prog 49 = some F_requirement_sorted := by kernel_rfl
theorem C_requirement_all : compFn Try.prog 50 = some F_requirement_all := by kernel_rfl
theorem C_requirement_AtMost_1 : compFn Try.prog 51 = some F_requirement_AtMost_1 := by kernel_rfl
theorem C_slices_Index_int : compFn Try.prog 52 = some F_slices_Index_int := by kernel_rfl
theorem C_bits_OnesCount : compFn Try.prog 53 = some F_bits_OnesCount := by kernel_rfl
theorem C_requirement_sets : compFn Try.prog 58 = some F_requirement_sets := by kernel_rfl
theorem C_alphabet_Union : compFn Try.prog 59 = some F_alphabet_Union := by kernel_rfl
theorem C_requirement_first : compFn Try.prog 60 = some F_requirement_first := by kernel_rfl
theorem C_requirement_Buffer_1 : compFn Try.prog 61 = some F_requirement_Buffer_1 := by kernel_rfl
theorem C_alphabet_Contains : compFn Try.prog 62 = some F_alphabet_Contains := by kernel_rfl
theorem C_requirement_Alternate_1 : compFn Try.prog 67 = some F_requirement_Alternate_1 := by kernel_rfl
theorem C_automaton_Check : compFn Try.prog 68 = some F_automaton_Check := by kernel_rfl
theorem C_automaton_Generates : compFn Try.prog 69 = some F_automaton_Generates := by kernel_rfl
theorem C_automaton_Enabled : compFn Try.prog 72 = some F_automaton_Enabled := by kernel_rfl
theorem C_alphabet_Minus : compFn Try.prog 73 = some F_alphabet_Minus := by kernel_rfl
theorem C_bits_OnesCount64 : compFn Try.prog 78 = some F_bits_OnesCount64 := by kernel_rfl
theorem C_alphabet_Intersect : compFn Try.prog 82 = some F_alphabet_Intersect := by kernel_rfl
theorem C_alphabet_merge : compFn Try.prog 83 = some F_alphabet_merge := by kernel_rfl
theorem C_alphabet_Union_1 : compFn Try.prog 84 = some F_alphabet_Union_1 := by kernel_rfl
theorem C_slices_BinarySearch_int : compFn Try.prog 85 = some F_slices_BinarySearch_int := by kernel_rfl
theorem C_automaton_checkSet : compFn Try.prog 86 = some F_automaton_checkSet := by kernel_rfl
theorem C_automaton_checkEdges : compFn Try.prog 87 = some F_automaton_checkEdges := by kernel_rfl
theorem C_automaton_reached : compFn Try.prog 88 = some F_automaton_reached := by kernel_rfl
theorem C_automaton_checkState : compFn Try.prog 93 = some F_automaton_checkState := by kernel_rfl
theorem C_automaton_out : compFn Try.prog 94 = some F_automaton_out := by kernel_rfl
theorem C_alphabet_Minus_1 : compFn Try.prog 95 = some F_alphabet_Minus_1 := by kernel_rfl
theorem C_cmp_Less_int : compFn Try.prog 108 = some F_cmp_Less_int := by kernel_rfl
theorem C_alphabet_Intersect_1 : compFn Try.prog 113 = some F_alphabet_Intersect_1 := by kernel_rfl
theorem C_slices_isNaN_int : compFn Try.prog 114 = some F_slices_isNaN_int := by kernel_rfl
theorem C_automaton_follow : compFn Try.prog 115 = some F_automaton_follow := by kernel_rfl
theorem C_slices_BinarySearchFunc_int : compFn Try.prog 116 = some F_slices_BinarySearchFunc_int := by kernel_rfl
theorem C_automaton_out_1 : compFn Try.prog 117 = some F_automaton_out_1 := by kernel_rfl
theorem C_automaton_out_2 : compFn Try.prog 118 = some F_automaton_out_2 := by kernel_rfl
theorem C_cmp_isNaN_int : compFn Try.prog 128 = some F_cmp_isNaN_int := by kernel_rfl
theorem C_automaton_next : compFn Try.prog 129 = some F_automaton_next := by kernel_rfl
theorem C_automaton_next_1 : compFn Try.prog 139 = some F_automaton_next_1 := by kernel_rfl
end Go.Proofs
end
section
namespace Go.Abs
open Go Go.Sort Go.Shelf Go.RowKit Go.Lib Go.Proofs
set_option linter.unusedVariables false
set_option linter.unusedSectionVars false
section plain
variable {β : Type}
def insB (lt : β → β → Bool) (x : β) : List β → List β
  | [] => [x]
  | y :: ys => if lt y x then y :: insB lt x ys else x :: y :: ys
def isortB (lt : β → β → Bool) : List β → List β
  | [] => []
  | x :: xs => insB lt x (isortB lt xs)
theorem insB_perm (lt : β → β → Bool) (x : β) : ∀ l, (insB lt x l).Perm (x :: l)
  | [] => .refl _
  | y :: ys => by
    unfold insB; split
    · exact ((insB_perm lt x ys).cons y).trans (.swap x y ys)
    · exact .refl _
theorem isortB_perm (lt : β → β → Bool) : ∀ l, (isortB lt l).Perm l
  | [] => .refl _
  | x :: xs => (insB_perm lt x _).trans ((isortB_perm lt xs).cons x)
theorem isortB_length (lt : β → β → Bool) (l : List β) : (isortB lt l).length = l.length := (isortB_perm lt l).length_eq
theorem insB_sorted {lt : β → β → Bool} (h : SWO lt) (x : β) : ∀ l, l.Pairwise (fun a b => lt b a = false) → (insB lt x l).Pairwise fun a b => lt b a = false
  | [], _ => by simp [insB]
  | y :: ys, hl => by
    obtain ⟨h1, h2⟩ := List.pairwise_cons.1 hl
    unfold insB; split
    · rename_i hc
      refine List.pairwise_cons.2 ⟨fun z hz => ?_, insB_sorted h x ys h2⟩
      rcases List.mem_cons.1 ((insB_perm lt x ys).mem_iff.1 hz) with rfl | hz
      · cases hb : lt z y with
        | false => rfl
        | true => have := h.trans _ _ _ hc hb; rw [h.irrefl] at this; cases this
      · exact h1 z hz
    · rename_i hc
      have hc : lt y x = false := by cases h : lt y x <;> simp_all
      refine List.pairwise_cons.2 ⟨fun z hz => ?_, hl⟩
      rcases List.mem_cons.1 hz with rfl | hz
      · exact hc
      · exact h.ntrans _ _ _ (h1 z hz) hc
theorem isortB_sorted {lt : β → β → Bool} (h : SWO lt) : ∀ l, (isortB lt l).Pairwise fun a b => lt b a = false
  | [] => .nil
  | x :: xs => insB_sorted h x _ (isortB_sorted h xs)
end plain
theorem acalls_none {P : Program} {f : FuncId} {ex : Array Value} {exV : List V} {sz nb : Nat} {M : Mem} (hb : HasBody P f = true) (hex : ∀ g w us, RFs g w exV us → us = ex.toList)
    (h : ∀ (p : Option Addr) (cap : Nat) (w : World), Calls P f (#[.slice p 0 cap] ++ ex) w fun e' w' => e' = .returned (.tuple #[]) ∧ w' = w) :
    ACalls P f (.d (.lst sz []) :: exV) M nb (.tup []) M nb := by
  refine ⟨hb, Nat.le_refl _, fun w g us hm hMon hfresh hus hfl hons => ?_⟩
  obtain ⟨u0, us', rfl, hu0, hus'⟩ := hus
  have h1 := hex _ _ _ hus'
  subst h1
  have h2 : ∃ p cap, u0 = .slice p 0 cap := by
    have := RF_d.1 hu0
    obtain ⟨a, cap, rfl, _, _⟩ := this
    exact ⟨a, cap, rfl⟩
  obtain ⟨p, cap, rfl⟩ := h2
  have e1 : (Value.slice p 0 cap :: ex.toList).toArray = #[.slice p 0 cap] ++ ex := by apply Array.ext'; simp
  rw [e1]
  refine (h p cap w).mono ?_
  rintro e' w' ⟨rfl, rfl⟩
  exact ⟨_, g, rfl, hm, ⟨[], rfl, rfl⟩, trivial, hMon, Fr.refl _ _ _⟩
section
variable {α : Type} [Inhabited α]
end
end Go.Abs
end
section
namespace Go.Abs
open Go Go.RowKit
set_option linter.unusedVariables false
def ltInt' (a b : Int) : Bool := decide (a < b)
theorem merge_isort (l : List Int) : (l.mergeSort fun x y => decide (x ≤ y)) = isortB ltInt' l := by
  have hO : Go.Sort.SWO ltInt' := ⟨fun x => by simp [ltInt'], fun x y z h1 h2 => by simp [ltInt'] at *; omega, fun x y z h1 h2 => by simp [ltInt'] at *; omega⟩
  refine List.Perm.eq_of_pairwise (le := fun a b => ltInt' b a = false) (fun a b _ _ h1 h2 => by simp [ltInt'] at *; omega) ?_ (isortB_sorted hO l) ((List.mergeSort_perm _ _).trans (isortB_perm _ l).symm)
  have := List.pairwise_mergeSort (le := fun x y : Int => decide (x ≤ y)) (fun a b c h1 h2 => by simp at *; omega) (fun a b => by simp; omega) l
  exact this.imp fun h => by simp [ltInt'] at *; omega
end Go.Abs
end
section
namespace Go.Abs
def sortI (l : List Int) : Option (List Int) := if l.length ≤ lim then some (isortB ltInt' l) else none
end Go.Abs
end
section
namespace Go.Abs
open Go Go.Abs
set_option linter.unusedVariables false
set_option maxRecDepth 10000
set_option maxHeartbeats 4000000
def fuel0 : Nat := 1099511627776
def g_slices_Index_int := f_slices_Index_int fuel0
def g_slices_Contains_int := f_slices_Contains_int g_slices_Index_int
def g_requirement_distinct := f_requirement_distinct g_slices_Contains_int fuel0
def g_slices_Clone_int := f_slices_Clone_int
def g_requirement_sorted := f_requirement_sorted g_slices_Clone_int sortI
def g_requirement_Alternate_1 := f_requirement_Alternate_1
def g_requirement_explore := f_requirement_explore fuel0
def g_requirement_first := f_requirement_first
def g_requirement_Alternate := f_requirement_Alternate g_requirement_distinct g_requirement_explore g_requirement_sorted g_requirement_first g_requirement_Alternate_1
def g_alphabet_CheckSet := f_alphabet_CheckSet fuel0
def g_alphabet_merge := f_alphabet_merge fuel0
def g_alphabet_Intersect_1 := f_alphabet_Intersect_1
def g_alphabet_Intersect := f_alphabet_Intersect g_alphabet_merge g_alphabet_Intersect_1
def g_requirement_sets := f_requirement_sets g_alphabet_CheckSet g_alphabet_Intersect fuel0
def g_alphabet_Union_1 := f_alphabet_Union_1
def g_alphabet_Union := f_alphabet_Union g_alphabet_merge g_alphabet_Union_1
def g_cmp_isNaN_int := f_cmp_isNaN_int
def g_cmp_Less_int := f_cmp_Less_int g_cmp_isNaN_int
def g_slices_isNaN_int := f_slices_isNaN_int
def g_slices_BinarySearch_int := f_slices_BinarySearch_int g_cmp_Less_int g_slices_isNaN_int fuel0
def g_alphabet_Contains := f_alphabet_Contains g_slices_BinarySearch_int
def g_requirement_Buffer_1 := f_requirement_Buffer_1 g_alphabet_Contains
def g_requirement_Buffer := f_requirement_Buffer g_requirement_explore g_requirement_sets g_alphabet_Union g_requirement_first g_requirement_Buffer_1
def g_bits_OnesCount64 := f_bits_OnesCount64
def g_bits_OnesCount := f_bits_OnesCount g_bits_OnesCount64
def g_requirement_AtMost_1 := f_requirement_AtMost_1 g_slices_Index_int g_bits_OnesCount
def g_requirement_all := f_requirement_all
def g_requirement_AtMost := f_requirement_AtMost g_requirement_distinct g_requirement_explore g_requirement_sorted g_requirement_all g_requirement_AtMost_1 fuel0
def g_automaton_checkSet := f_automaton_checkSet fuel0
def g_automaton_checkEdges := f_automaton_checkEdges g_slices_Contains_int fuel0
def g_automaton_Check := f_automaton_Check g_automaton_checkSet g_automaton_checkEdges
def g_automaton_checkState := f_automaton_checkState g_automaton_Check
def g_slices_BinarySearchFunc_int := f_slices_BinarySearchFunc_int fuel0
def g_automaton_out_1 := f_automaton_out_1
def g_automaton_out_2 := f_automaton_out_2
def g_automaton_out := f_automaton_out g_slices_BinarySearchFunc_int g_automaton_out_1 g_automaton_out_2
def g_automaton_Enabled := f_automaton_Enabled g_automaton_checkState g_automaton_out fuel0
def g_alphabet_Minus_1 := f_alphabet_Minus_1
def g_alphabet_Minus := f_alphabet_Minus g_alphabet_merge g_alphabet_Minus_1
def g_requirement_Refused := f_requirement_Refused g_automaton_Enabled g_alphabet_Minus
def g_slices_Equal_int := f_slices_Equal_int fuel0
def g_slices_Equal_Edge := f_slices_Equal_Edge fuel0
def g_overseerlaw21_known := f_overseerlaw21_known g_requirement_AtMost g_requirement_Buffer g_requirement_Alternate g_requirement_Refused g_slices_Equal_int g_slices_Equal_Edge
def g_automaton_next_1 := f_automaton_next_1
def g_slices_IndexFunc_Edge := f_slices_IndexFunc_Edge fuel0
def g_automaton_next := f_automaton_next g_slices_IndexFunc_Edge g_automaton_out g_automaton_next_1
def g_automaton_follow := f_automaton_follow g_automaton_next fuel0
def g_automaton_reached := f_automaton_reached g_automaton_follow
def g_automaton_Generates := f_automaton_Generates g_automaton_Check g_automaton_reached
def g_requirement_Allows := f_requirement_Allows g_alphabet_Contains g_automaton_Check g_automaton_Generates fuel0
def g_overseerlaw21_RequirementWords := f_overseerlaw21_RequirementWords g_overseerlaw21_known g_requirement_Buffer g_requirement_Alternate g_requirement_Allows fuel0
end Go.Abs
end
section
namespace Go.Abs
open Go Go.Sort Go.RowKit Go.Lib Go.Proofs
set_option linter.unusedVariables false
theorem rowV_ints (xs : List Int) : rowV (eI .i64) xs = xs.map (Value.int .i64) := by
  unfold rowV
  induction xs with
  | nil => rfl
  | cons x xs ih => simp only [List.map_cons, List.flatten_cons, List.map_append, ih]; rfl
theorem rowK_ints {P : Program} {c : Nat} (hb : HasBody P c = true)
    (hs : ∀ (blk off cap : Nat) (zs : List Int) (w : World), Holds (Value.int .i64) w blk off zs.toArray → blk < w.heap.size → zs.length < 4611686018427387904 →
      Calls P c #[.slice (some ⟨blk, off, none⟩) zs.length cap] w fun e w' => e = .returned (.tuple #[]) ∧ ∃ n os, w' = grow (putRow (Value.int .i64) (Sort.ahead w n) blk off (zs.mergeSort fun x y => decide (x ≤ y)).toArray) os)
    (hnone : ∀ (p : Option Addr) (cap : Nat) (w : World), Calls P c (#[.slice p 0 cap] ++ #[]) w fun e' w' => e' = .returned (.tuple #[]) ∧ w' = w) :
    RowK P c (eI .i64) 1 [] (fun l => if l.length ≤ lim then some (isortB ltInt' l) else none) := by
  have hrow : RowFn P c (eI .i64) #[] (fun xs => isortB ltInt' xs) := by
    intro blk cap xs w hcell hblk hsz
    refine Calls.mono (hs blk 0 cap xs w ?_ hblk hsz) ?_
    · intro j hj
      have hj' : j < xs.length := by simpa using hj
      have := hcell j (by rw [rowV_ints]; simpa using hj')
      rw [rowV_ints] at this
      rw [Nat.zero_add]
      refine ⟨?_, this.2⟩
      rw [this.1, getElem!_pos xs.toArray j hj]
      simp [hj']
    · rintro e w' ⟨rfl, n, os, rfl⟩
      refine ⟨rfl, n, os, ?_⟩
      rw [merge_isort, rowV_ints]
      congr 1
      unfold putRow
      congr 1
      funext c
      unfold putCells
      congr 1
      funext k x
      simp only [List.size_toArray, List.length_map]
      split
      · rename_i h
        simp only [id]
        rw [getElem!_pos _ _ (by simp; omega), getElem!_pos _ _ (by simp; omega)]
        simp
      · rfl
  intro xs ys h
  dsimp only at h
  split at h <;> cases h
  rename_i hl
  refine ⟨isortB_length _ _, fun h0 => ?_, fun hl2 cap k0 M nb hM => ?_⟩
  · subst h0
    exact ⟨rfl, fun M nb => acalls_none (ex := #[]) (exV := []) hb (fun _ _ _ h => h) hnone⟩
  · exact acalls_row (e := eI .i64) (fun _ => rfl) (fun _ => rfl) (fun xs => isortB_length _ _) (ex := #[]) (exV := []) (fun _ _ _ h => h) hb hrow xs cap k0 M nb hM (by unfold lim at hl; omega)
end Go.Abs
end
section
namespace Go.Proofs
open Go.Shelf
def Try.laysSlM5_f56_ren : Go.Shelf.Ren := ⟨fun | 5 => 56 | 8 => 81 | 7 => 80 | 19 => 111 | 20 => 112 | 10 => 102 | 11 => 103 | 12 => 104 | 13 => 105 | 14 => 106 | 15 => 107 | 16 => 108 | 17 => 109 | 18 => 110 | 30 => 123 | 31 => 124 | 32 => 125 | 33 => 126 | 34 => 127 | 35 => 128 | 40 => 138 | n => n, fun | 23 => 24 | 25 => 3 | 3 => 3 | 32 => 82 | 22 => 24 | 0 => 0 | 44 => 96 | 46 => 98 | 4 => 4 | 36 => 117 | 35 => 116 | 41 => 94 | 5 => 5 | 9 => 9 | 53 => 129 | 57 => 133 | 63 => 140 | 64 => 122 | n => n, fun | n => n⟩
theorem Try.laysSlM5_f56 : Go.Proofs.SlLaysM.n5 Try.prog Try.laysSlM5_f56_ren := {
  mixed := by kernel_rfl
  f5 := ⟨Try.f56.name, by decide, Try.func56.trans (congrArg some (by kernel_rfl))⟩
  f7 := ⟨Try.f80.name, by decide, Try.func80.trans (congrArg some (by kernel_rfl))⟩
  f8 := Try.func81.trans (congrArg some (by kernel_rfl))
  f10 := ⟨Try.f102.name, by decide, Try.func102.trans (congrArg some (by kernel_rfl))⟩
  f11 := ⟨Try.f103.name, by decide, Try.func103.trans (congrArg some (by kernel_rfl))⟩
  f12 := ⟨Try.f104.name, by decide, Try.func104.trans (congrArg some (by kernel_rfl))⟩
  f13 := ⟨Try.f105.name, by decide, Try.func105.trans (congrArg some (by kernel_rfl))⟩
  f14 := ⟨Try.f106.name, by decide, Try.func106.trans (congrArg some (by kernel_rfl))⟩
  f15 := ⟨Try.f107.name, by decide, Try.func107.trans (congrArg some (by kernel_rfl))⟩
  f16 := ⟨Try.f108.name, by decide, Try.func108.trans (congrArg some (by kernel_rfl))⟩
  f17 := ⟨Try.f109.name, by decide, Try.func109.trans (congrArg some (by kernel_rfl))⟩
  f18 := ⟨Try.f110.name, by decide, Try.func110.trans (congrArg some (by kernel_rfl))⟩
  f19 := Try.func111.trans (congrArg some (by kernel_rfl))
  f20 := Try.func112.trans (congrArg some (by kernel_rfl))
  f30 := ⟨Try.f123.name, by decide, Try.func123.trans (congrArg some (by kernel_rfl))⟩
  f31 := Try.func124.trans (congrArg some (by kernel_rfl))
  f32 := Try.func125.trans (congrArg some (by kernel_rfl))
  f33 := ⟨Try.f126.name, by decide, Try.func126.trans (congrArg some (by kernel_rfl))⟩
  f34 := ⟨Try.f127.name, by decide, Try.func127.trans (congrArg some (by kernel_rfl))⟩
  f35 := ⟨Try.f128.name, by decide, Try.func128.trans (congrArg some (by kernel_rfl))⟩
  f40 := ⟨Try.f138.name, by decide, Try.func138.trans (congrArg some (by kernel_rfl))⟩
  t0 := Try.underlying0
  a0 := Try.isAgg0
  z0 := Try.sizeOf0
  v0 := Try.zeroValue0
  t3 := Try.underlying3
  a3 := Try.isAgg3
  z3 := Try.sizeOf3
  v3 := Try.zeroValue3
  t4 := Try.underlying4
  a4 := Try.isAgg4
  z4 := Try.sizeOf4
  v4 := Try.zeroValue4
  t5 := Try.underlying5
  a5 := Try.isAgg5
  z5 := Try.sizeOf5
  v5 := Try.zeroValue5
  t9 := Try.underlying9
  a9 := Try.isAgg9
  z9 := Try.sizeOf9
  v9 := Try.zeroValue9
  t22 := Try.underlying24
  a22 := Try.isAgg24
  z22 := Try.sizeOf24
  v22 := Try.zeroValue24
  t23 := Try.underlying24
  a23 := Try.isAgg24
  z23 := Try.sizeOf24
  v23 := Try.zeroValue24
  t25 := Try.underlying3
  a25 := Try.isAgg3
  z25 := Try.sizeOf3
  v25 := Try.zeroValue3
  t32 := Try.underlying82
  a32 := Try.isAgg82
  z32 := Try.sizeOf82
  v32 := Try.zeroValue82
  t35 := Try.underlying116
  a35 := Try.isAgg116
  z35 := Try.sizeOf116
  v35 := Try.zeroValue116
  t36 := Try.underlying117
  a36 := Try.isAgg117
  z36 := Try.sizeOf117
  v36 := Try.zeroValue117
  t41 := Try.underlying94
  a41 := Try.isAgg94
  z41 := Try.sizeOf94
  v41 := Try.zeroValue94
  t44 := Try.underlying96
  a44 := Try.isAgg96
  z44 := Try.sizeOf96
  v44 := Try.zeroValue96
  t46 := Try.underlying98
  a46 := Try.isAgg98
  z46 := Try.sizeOf98
  v46 := Try.zeroValue98
  t53 := Try.underlying129
  a53 := Try.isAgg129
  z53 := Try.sizeOf129
  v53 := Try.zeroValue129
  t57 := Try.underlying133
  a57 := Try.isAgg133
  z57 := Try.sizeOf133
  v57 := Try.zeroValue133
  t63 := Try.underlying140
  a63 := Try.isAgg140
  z63 := Try.sizeOf140
  v63 := Try.zeroValue140
  t64 := Try.underlying122
  a64 := Try.isAgg122
  z64 := Try.sizeOf122
  v64 := Try.zeroValue122 }
open Go.Sort Go.RowKit in
theorem Try.slices_Sort_int (blk off cap : Nat) (zs : List Int) (w : World) (hH : Holds (Value.int .i64) w blk off zs.toArray) (hblk : blk < w.heap.size) (hsz : zs.length < 4611686018427387904) :
    Calls Try.prog 56 #[.slice (some ⟨blk, off, none⟩) zs.length cap] w fun e w' =>
      e = .returned (.tuple #[]) ∧ ∃ n os, w' = grow (putRow (Value.int .i64) (Sort.ahead w n) blk off (zs.mergeSort fun x y => decide (x ≤ y)).toArray) os := AnyM.slices_Sort_int Try.laysSlM5_f56 blk off cap zs w hH hblk hsz
open Go.RowKit Go.Sort in
theorem Try.slices_Sort_int_none (p : Option Addr) (cap : Nat) (w : World) :
    Calls Try.prog 56 #[.slice p 0 cap] w fun e w' => e = .returned (.tuple #[]) ∧ w' = w := AnyM.slices_Sort_int_none Try.laysSlM5_f56 p cap w
end Go.Proofs
end
section
namespace Go.Proofs
open Go.Abs
theorem Try.rowK56 : Go.Abs.RowK Try.prog 56 (eI .i64) 1 [] sortI :=
  rowK_ints (by kernel_rfl) Try.slices_Sort_int Try.slices_Sort_int_none
end Go.Proofs
end
section
namespace Go.Proofs
open Go Go.Abs
set_option linter.unusedVariables false
set_option maxRecDepth 10000
set_option maxHeartbeats 4000000
theorem ok_slices_Index_int : K_slices_Index_int Try.prog 52 g_slices_Index_int := slices_Index_int_walk C_slices_Index_int fuel0
theorem ok_slices_Contains_int : K_slices_Contains_int Try.prog 13 g_slices_Contains_int := slices_Contains_int_walk ok_slices_Index_int C_slices_Contains_int
theorem ok_requirement_distinct : K_requirement_distinct Try.prog 47 g_requirement_distinct := requirement_distinct_walk ok_slices_Contains_int C_requirement_distinct fuel0
theorem ok_slices_Clone_int : K_slices_Clone_int Try.prog 23 g_slices_Clone_int := slices_Clone_int_walk C_slices_Clone_int
theorem ok_requirement_sorted : K_requirement_sorted Try.prog 49 g_requirement_sorted := requirement_sorted_walk ok_slices_Clone_int Try.rowK56 C_requirement_sorted
theorem ok_requirement_Alternate_1 : K_requirement_Alternate_1 Try.prog 67 g_requirement_Alternate_1 := requirement_Alternate_1_walk C_requirement_Alternate_1
theorem ok_requirement_explore : K_requirement_explore Try.prog 48 g_requirement_explore := requirement_explore_walk C_requirement_explore fuel0
theorem ok_requirement_first : K_requirement_first Try.prog 60 g_requirement_first := requirement_first_walk C_requirement_first
theorem ok_requirement_Alternate : K_requirement_Alternate Try.prog 31 g_requirement_Alternate := requirement_Alternate_walk ok_requirement_distinct ok_requirement_explore ok_requirement_sorted ok_requirement_first ok_requirement_Alternate_1 C_requirement_Alternate
theorem ok_alphabet_CheckSet : K_alphabet_CheckSet Try.prog 20 g_alphabet_CheckSet := alphabet_CheckSet_walk C_alphabet_CheckSet fuel0
theorem ok_alphabet_merge : K_alphabet_merge Try.prog 83 g_alphabet_merge := alphabet_merge_walk C_alphabet_merge fuel0
theorem ok_alphabet_Intersect_1 : K_alphabet_Intersect_1 Try.prog 113 g_alphabet_Intersect_1 := alphabet_Intersect_1_walk C_alphabet_Intersect_1
theorem ok_alphabet_Intersect : K_alphabet_Intersect Try.prog 82 g_alphabet_Intersect := alphabet_Intersect_walk ok_alphabet_merge ok_alphabet_Intersect_1 C_alphabet_Intersect
theorem ok_requirement_sets : K_requirement_sets Try.prog 58 g_requirement_sets := requirement_sets_walk ok_alphabet_CheckSet ok_alphabet_Intersect C_requirement_sets fuel0
theorem ok_alphabet_Union_1 : K_alphabet_Union_1 Try.prog 84 g_alphabet_Union_1 := alphabet_Union_1_walk C_alphabet_Union_1
theorem ok_alphabet_Union : K_alphabet_Union Try.prog 59 g_alphabet_Union := alphabet_Union_walk ok_alphabet_merge ok_alphabet_Union_1 C_alphabet_Union
theorem ok_cmp_isNaN_int : K_cmp_isNaN_int Try.prog 128 g_cmp_isNaN_int := cmp_isNaN_int_walk C_cmp_isNaN_int
theorem ok_cmp_Less_int : K_cmp_Less_int Try.prog 108 g_cmp_Less_int := cmp_Less_int_walk ok_cmp_isNaN_int C_cmp_Less_int
theorem ok_slices_isNaN_int : K_slices_isNaN_int Try.prog 114 g_slices_isNaN_int := slices_isNaN_int_walk C_slices_isNaN_int
theorem ok_slices_BinarySearch_int : K_slices_BinarySearch_int Try.prog 85 g_slices_BinarySearch_int := slices_BinarySearch_int_walk ok_cmp_Less_int ok_slices_isNaN_int C_slices_BinarySearch_int fuel0
theorem ok_alphabet_Contains : K_alphabet_Contains Try.prog 62 g_alphabet_Contains := alphabet_Contains_walk ok_slices_BinarySearch_int C_alphabet_Contains
theorem ok_requirement_Buffer_1 : K_requirement_Buffer_1 Try.prog 61 g_requirement_Buffer_1 := requirement_Buffer_1_walk ok_alphabet_Contains C_requirement_Buffer_1
theorem ok_requirement_Buffer : K_requirement_Buffer Try.prog 19 g_requirement_Buffer := requirement_Buffer_walk ok_requirement_explore ok_requirement_sets ok_alphabet_Union ok_requirement_first ok_requirement_Buffer_1 C_requirement_Buffer
theorem ok_bits_OnesCount64 : K_bits_OnesCount64 Try.prog 78 g_bits_OnesCount64 := bits_OnesCount64_walk C_bits_OnesCount64
theorem ok_bits_OnesCount : K_bits_OnesCount Try.prog 53 g_bits_OnesCount := bits_OnesCount_walk ok_bits_OnesCount64 C_bits_OnesCount
theorem ok_requirement_AtMost_1 : K_requirement_AtMost_1 Try.prog 51 g_requirement_AtMost_1 := requirement_AtMost_1_walk ok_slices_Index_int ok_bits_OnesCount C_requirement_AtMost_1
theorem ok_requirement_all : K_requirement_all Try.prog 50 g_requirement_all := requirement_all_walk C_requirement_all
theorem ok_requirement_AtMost : K_requirement_AtMost Try.prog 11 g_requirement_AtMost := requirement_AtMost_walk ok_requirement_distinct ok_requirement_explore ok_requirement_sorted ok_requirement_all ok_requirement_AtMost_1 C_requirement_AtMost fuel0
theorem ok_automaton_checkSet : K_automaton_checkSet Try.prog 86 g_automaton_checkSet := automaton_checkSet_walk C_automaton_checkSet fuel0
theorem ok_automaton_checkEdges : K_automaton_checkEdges Try.prog 87 g_automaton_checkEdges := automaton_checkEdges_walk ok_slices_Contains_int C_automaton_checkEdges fuel0
theorem ok_automaton_Check : K_automaton_Check Try.prog 68 g_automaton_Check := automaton_Check_walk ok_automaton_checkSet ok_automaton_checkEdges C_automaton_Check
theorem ok_automaton_checkState : K_automaton_checkState Try.prog 93 g_automaton_checkState := automaton_checkState_walk ok_automaton_Check C_automaton_checkState
theorem ok_slices_BinarySearchFunc_int : K_slices_BinarySearchFunc_int Try.prog 116 g_slices_BinarySearchFunc_int := slices_BinarySearchFunc_int_walk C_slices_BinarySearchFunc_int fuel0
theorem ok_automaton_out_1 : K_automaton_out_1 Try.prog 117 g_automaton_out_1 := automaton_out_1_walk C_automaton_out_1
theorem ok_automaton_out_2 : K_automaton_out_2 Try.prog 118 g_automaton_out_2 := automaton_out_2_walk C_automaton_out_2
theorem ok_automaton_out : K_automaton_out Try.prog 94 g_automaton_out := automaton_out_walk ok_slices_BinarySearchFunc_int ok_automaton_out_1 ok_automaton_out_2 C_automaton_out
theorem ok_automaton_Enabled : K_automaton_Enabled Try.prog 72 g_automaton_Enabled := automaton_Enabled_walk ok_automaton_checkState ok_automaton_out C_automaton_Enabled fuel0
theorem ok_alphabet_Minus_1 : K_alphabet_Minus_1 Try.prog 95 g_alphabet_Minus_1 := alphabet_Minus_1_walk C_alphabet_Minus_1
theorem ok_alphabet_Minus : K_alphabet_Minus Try.prog 73 g_alphabet_Minus := alphabet_Minus_walk ok_alphabet_merge ok_alphabet_Minus_1 C_alphabet_Minus
theorem ok_requirement_Refused : K_requirement_Refused Try.prog 36 g_requirement_Refused := requirement_Refused_walk ok_automaton_Enabled ok_alphabet_Minus C_requirement_Refused
theorem ok_slices_Equal_int : K_slices_Equal_int Try.prog 40 g_slices_Equal_int := slices_Equal_int_walk C_slices_Equal_int fuel0
theorem ok_slices_Equal_Edge : K_slices_Equal_Edge Try.prog 46 g_slices_Equal_Edge := slices_Equal_Edge_walk C_slices_Equal_Edge fuel0
theorem ok_overseerlaw21_known : K_overseerlaw21_known Try.prog 10 g_overseerlaw21_known := overseerlaw21_known_walk ok_requirement_AtMost ok_requirement_Buffer ok_requirement_Alternate ok_requirement_Refused ok_slices_Equal_int ok_slices_Equal_Edge C_overseerlaw21_known
theorem ok_automaton_next_1 : K_automaton_next_1 Try.prog 139 g_automaton_next_1 := automaton_next_1_walk C_automaton_next_1
theorem ok_slices_IndexFunc_Edge : K_slices_IndexFunc_Edge Try.prog 44 g_slices_IndexFunc_Edge := slices_IndexFunc_Edge_walk C_slices_IndexFunc_Edge fuel0
theorem ok_automaton_next : K_automaton_next Try.prog 129 g_automaton_next := automaton_next_walk ok_slices_IndexFunc_Edge ok_automaton_out ok_automaton_next_1 C_automaton_next
theorem ok_automaton_follow : K_automaton_follow Try.prog 115 g_automaton_follow := automaton_follow_walk ok_automaton_next C_automaton_follow fuel0
theorem ok_automaton_reached : K_automaton_reached Try.prog 88 g_automaton_reached := automaton_reached_walk ok_automaton_follow C_automaton_reached
theorem ok_automaton_Generates : K_automaton_Generates Try.prog 69 g_automaton_Generates := automaton_Generates_walk ok_automaton_Check ok_automaton_reached C_automaton_Generates
theorem ok_requirement_Allows : K_requirement_Allows Try.prog 32 g_requirement_Allows := requirement_Allows_walk ok_alphabet_Contains ok_automaton_Check ok_automaton_Generates C_requirement_Allows fuel0
theorem ok_overseerlaw21_RequirementWords : K_overseerlaw21_RequirementWords Try.prog 7 g_overseerlaw21_RequirementWords := overseerlaw21_RequirementWords_walk ok_overseerlaw21_known ok_requirement_Buffer ok_requirement_Alternate ok_requirement_Allows C_overseerlaw21_RequirementWords fuel0
end Go.Proofs
end
section
namespace Go.Abs
open Go Go.ChangeShapes Go.WideShapes Go.ChangeAt Go.RowKit
set_option linter.unusedVariables false
set_option linter.unusedSimpArgs false
def live (w : World) : Nat → Nat → Prop := fun b o => (w.cell? ⟨b, o, none⟩).isSome = true
def RDs (w : World) : List D → List Value → Prop
  | [], vs => vs = []
  | x :: xs, vs => ∃ u us, vs = u :: us ∧ RD (live w) w x u ∧ RDs w xs us
theorem RDs_append {w : World} : ∀ {xs ys : List D} {us vs : List Value}, RDs w xs us → RDs w ys vs → RDs w (xs ++ ys) (us ++ vs)
  | [], ys, us, vs, h, k => by simp only [RDs] at h; subst h; simpa using k
  | x :: xs, ys, us, vs, ⟨u, us', e, r, h⟩, k => by subst e; exact ⟨u, us' ++ vs, by simp, r, RDs_append h k⟩
def RDat (w : World) (cs : List Value) (off : Nat) (xs : List D) : Prop := RDs w xs ((cs.drop off).take xs.length)
theorem RDat.app {w : World} {cs : List Value} {off : Nat} {xs ys : List D} (h : RDat w cs off xs) {n : Nat} (hn : n = off + xs.length) (k : RDat w cs n ys) : RDat w cs off (xs ++ ys) := by
  subst hn
  have := RDs_append h k
  unfold RDat
  rw [List.length_append, List.take_add, List.drop_drop]
  exact this
theorem RDat.nil {w : World} {cs : List Value} {off : Nat} : RDat w cs off [] := by simp [RDat, RDs]
theorem RDat.all {w : World} {cs : List Value} {xs : List D} (h : RDat w cs 0 xs) (hl : cs.length = xs.length) : RDs w xs cs := by
  unfold RDat at h
  rw [List.drop_zero, ← hl, List.take_length] at h
  exact h
theorem RDs_RDc {w : World} {b : Nat} : ∀ {xs : List D} {vs : List Value} {o : Nat}, RDs w xs vs → (∀ i v, vs[i]? = some v → w.cell? ⟨b, o + i, none⟩ = some v) → RDc (live w) w b xs o
  | [], vs, o, _, _ => by simp [RDc]
  | x :: xs, vs, o, ⟨u, us, e, r, h⟩, hc => by
    subst e
    have h0 := hc 0 u rfl
    rw [Nat.add_zero] at h0
    refine ⟨by simp [live, h0], ⟨u, h0, r⟩, RDs_RDc h fun i v hv => ?_⟩
    have := hc (i + 1) v (by simpa using hv)
    rw [show o + 1 + i = o + (i + 1) from by omega]; exact this
def Reads {α : Type} (P : Program) (t : TypeId) (e : α → List D) (wf : α → Prop) : Prop :=
  ∀ {H : Type} {enc : TypeId × Value → H} {w : World} {base : Nat} {spare : Nat → Bool} {held : Bool} {fuel : Nat} {cs : List Value} {x : DataW H × List MemPlace},
    DataW.trod enc P w base spare held fuel t cs = some x → ∃ a, wf a ∧ RDs w (e a) cs
def wfI (k : IntKind) (n : Int) : Prop := (Lit.int k n).wf = true
def wfL {α : Type} (wf : α → Prop) (l : List α) : Prop := l.length ≤ maxLen ∧ ∀ a ∈ l, wf a
variable {P : Program} {t : TypeId}
theorem reads_int {k : IntKind} (ht : P.underlying t = some (.int k)) : Reads P t (fun n : Int => [.int k n]) (wfI k) := by
  intro H enc w base spare held fuel cs x h
  obtain ⟨n, rfl, _, hw⟩ := DataW.trod_int ht h
  exact ⟨n, hw, _, _, rfl, by simp [RD], rfl⟩
theorem cells?_get {w : World} {base : Nat} {a : Addr} {n : Nat} {cs : List Value} (h : w.cells? base a n = some cs) : cs.length = n ∧ ∀ i v, cs[i]? = some v → w.cell? (a.add i) = some v := by
  obtain ⟨h1, h2, h3⟩ := World.cells?_some h
  refine ⟨h2, fun i v hv => ?_⟩
  have hi := (List.getElem?_eq_some_iff.1 hv).1
  have := h3 i (by omega)
  rw [this]; simpa using hv
theorem reads_slice {α : Type} {el : TypeId} {e : α → List D} {wf : α → Prop} {sz : Nat} (ht : P.underlying t = some (.slice el)) (he : Reads P el e wf) (hsz : P.cellsOf el = sz) (hpos : 0 < sz) (hlen : ∀ a, (e a).length = sz) :
    Reads P t (fun l : List α => [.lst sz (l.map e)]) (wfL wf) := by
  intro H enc w base spare held fuel cs x h
  rcases DataW.trod_slice ht h with ⟨rfl, _⟩ | ⟨a, len, cap, elems, rest, n, _, rfl, _, hb, hl, hm, helen, hel, _, _⟩
  · exact ⟨[], ⟨by simp, by simp⟩, _, _, rfl, by simp only [RD, List.map_nil, List.length_nil]; exact ⟨none, 0, rfl, Nat.le_refl _, .inl trivial⟩, rfl⟩
  · have key : ∀ m, m ≤ len → ∃ l : List α, l.length = m ∧ (∀ x ∈ l, wf x) ∧ ∀ i y, l[i]? = some y → ∃ vs, w.cells? base (a.add (i * sz)) sz = some vs ∧ RDs w (e y) vs := by
      intro m
      induction m with
      | zero => exact fun _ => ⟨[], rfl, by simp, by simp⟩
      | succ m ih =>
        intro hm'
        obtain ⟨l, h1, h2, h3⟩ := ih (by omega)
        have h4 := hel m (by omega)
        have h5 : elems[m]? = some elems[m] := List.getElem?_eq_getElem (by omega)
        rw [h5, hsz, Option.bind_eq_some_iff] at h4
        obtain ⟨vs, h6, h7⟩ := h4
        obtain ⟨y, h8, h9⟩ := he h7
        refine ⟨l ++ [y], by simp [h1], ?_, fun i z hz => ?_⟩
        · intro x hx
          rcases List.mem_append.1 hx with hx | hx
          · exact h2 x hx
          · simp at hx; subst hx; exact h8
        · by_cases hi : i < m
          · rw [List.getElem?_append_left (by omega)] at hz; exact h3 i z hz
          · have : i = m := by
              have := (List.getElem?_eq_some_iff.1 hz).1
              simp at this; omega
            subst this
            rw [List.getElem?_append_right (by omega), h1] at hz
            simp at hz; subst hz
            exact ⟨vs, h6, h9⟩
    obtain ⟨l, h1, h2, h3⟩ := key len (Nat.le_refl _)
    have hmax : l.length ≤ maxLen := by omega
    refine ⟨l, ⟨hmax, h2⟩, _, _, rfl, ?_, rfl⟩
    simp only [RD, List.length_map, h1]
    refine ⟨some a, cap, rfl, hl, ?_⟩
    cases l with
    | nil => exact .inl rfl
    | cons y l =>
      right
      have hspot : a.spot = none := by
        obtain ⟨vs, h4, h5⟩ := h3 0 y rfl
        obtain ⟨h6, h7⟩ := cells?_get h4
        have hv : vs[0]? = some vs[0] := List.getElem?_eq_getElem (by omega)
        have := h7 0 _ hv
        cases hs : a.spot with
        | none => rfl
        | some s =>
          unfold World.cell? at this
          split at this
          · simp [Addr.add, hs] at this
          · cases this
      obtain ⟨b, o, sp⟩ := a
      simp only at hspot
      subst hspot
      refine ⟨b, o, rfl, ?_⟩
      have row : ∀ (l : List α) (j : Nat), (∀ i y, l[i]? = some y → ∃ vs, w.cells? base ((⟨b, o, none⟩ : Addr).add ((j + i) * sz)) sz = some vs ∧ RDs w (e y) vs) → RDL (live w) w sz b (l.map e) (o + j * sz) := by
        intro l
        induction l with
        | nil => intro j _; simp [RDL]
        | cons y l ih =>
          intro j h
          obtain ⟨vs, h4, h5⟩ := h 0 y rfl
          obtain ⟨h6, h7⟩ := cells?_get h4
          refine ⟨hlen y, RDs_RDc h5 fun i v hv => ?_, ?_⟩
          · have := h7 i v hv
            rw [addr_add, addr_add] at this
            simpa [Nat.add_assoc] using this
          · have := ih (j + 1) fun i y hy => by
              have := h (i + 1) y (by simpa using hy)
              rw [show j + 1 + i = j + (i + 1) from by omega]; exact this
            rw [show o + j * sz + sz = o + (j + 1) * sz from by rw [Nat.add_mul]; omega]
            exact this
      have := row (y :: l) 0 fun i y hy => by simpa using h3 i y hy
      simpa using this
def ArgReads {α : Type} (P : Program) (t : TypeId) (v : α → V) (wf : α → Prop) : Prop :=
  ∀ {H : Type} {enc : TypeId × Value → H} {w : World} {base b0 : Nat} {spare : Nat → Bool} {held : Bool} {u : Value} {d : DataW H} {ps : List MemPlace},
    Value.okWide P w .any b0 t u → DataW.Trod enc P w base spare held t u d ps → ∃ a, wf a ∧ RF ⟨fun _ => 0, live w, fun _ => .ext⟩ w (v a) u
theorem arg_one {α : Type} {e : α → D} {wf : α → Prop} (he : Reads P t (fun a => [e a]) wf) (hone : ∀ w b0 u, Value.okWide P w .any b0 t u → u.cells = #[u]) : ArgReads P t (fun a => .d (e a)) wf := by
  intro H enc w base b0 spare held u d ps hok hd
  obtain ⟨fuel, hf⟩ := hd
  rw [hone _ _ _ hok] at hf
  obtain ⟨a, h1, u', us, h2, h3, h4⟩ := he hf
  simp only [RDs] at h4; subst h4
  simp at h2; subst h2
  exact ⟨a, h1, fun ℓ => by simpa [RV] using h3⟩
theorem one_int {k : IntKind} (ht : P.underlying t = some (.int k)) : ∀ w b0 u, Value.okWide P w .any b0 t u → u.cells = #[u] := by
  intro w b0 u h
  simp only [Value.okWide, ht] at h
  cases u <;> first | rfl | (simp [Cell.okWide, Cell.ok, ht] at h)
theorem one_slice {el : TypeId} (ht : P.underlying t = some (.slice el)) : ∀ w b0 u, Value.okWide P w .any b0 t u → u.cells = #[u] := by
  intro w b0 u h
  simp only [Value.okWide, ht] at h
  cases u <;> first | rfl | (simp [Cell.okWide, Cell.ok, ht] at h)
def LawOK (P : Program) (f : FuncId) (ts : List TypeId) : Prop :=
  ∀ {H : Type} {enc : TypeId × Value → H} {w : World} {b0 : Nat} {us : List Value} {ds : List (DataW H)} {ps : List MemPlace},
    (∀ (j : Nat) t u, ts[j]? = some t → us[j]? = some u → Value.okWide P w .any b0 t u) → DataW.TrodAll enc P w 0 (fun _ => true) true ts us ds ps →
    ∃ vs, RFs ⟨fun _ => 0, live w, fun _ => .ext⟩ w vs us ∧ (∀ x ∈ vs, Flat x) ∧ V.lt.go 0 vs = true ∧ ∀ M nb, ACalls P f vs M nb (.d (.bool true)) M nb
theorem trodAll_stays (hl : laidOutB P = true) {W W' : World} {sp : Nat → Bool} {H : Type} {enc : TypeId × Value → H} : ∀ {ts : List TypeId} {us : List Value} {ds : List (DataW H)} {ps : List MemPlace},
    (∀ t ∈ ts, P.readableRec t = true ∧ t < P.types.size) → DataW.TrodAll enc P W 0 (fun _ => true) true ts us ds ps → (∀ p ∈ ps, W.sameAt W' p) → (∀ p ∈ ps, sp p.block = true) → DataW.TrodAll enc P W' 0 sp true ts us ds ps
  | [], [], [], ps, _, h, _, _ => h
  | t :: ts, u :: us, d :: ds, ps, hr, ⟨p, q, h1, h2, e⟩, hs, hp => by
    subst e
    obtain ⟨r1, r2⟩ := hr t (by simp)
    exact ⟨p, q, WideElems.Trod_stays hl r1 r2 h1 (fun x hx => hs x (by simp [hx])) (fun x hx => hp x (by simp [hx])), trodAll_stays hl (fun t ht => hr t (by simp [ht])) h2 (fun x hx => hs x (by simp [hx])) (fun x hx => hp x (by simp [hx])), rfl⟩
  | [], [], _ :: _, _, _, h, _, _ => h.elim
  | [], _ :: _, _, _, _, h, _, _ => h.elim
  | _ :: _, [], _, _, _, h, _, _ => h.elim
  | _ :: _, _ :: _, [], _, _, h, _, _ => h.elim
theorem trodAll_len {W : World} {sp : Nat → Bool} {held : Bool} {base : Nat} {H : Type} {enc : TypeId × Value → H} : ∀ {ts : List TypeId} {us : List Value} {ds : List (DataW H)} {ps : List MemPlace},
    DataW.TrodAll enc P W base sp held ts us ds ps → ds.length = ts.length ∧ us.length = ts.length
  | [], [], [], ps, h => ⟨rfl, rfl⟩
  | t :: ts, u :: us, d :: ds, ps, ⟨p, q, h1, h2, e⟩ => by have := trodAll_len h2; simp [this.1, this.2]
  | [], [], _ :: _, _, h => h.elim
  | [], _ :: _, _, _, h => h.elim
  | _ :: _, [], _, _, h => h.elim
  | _ :: _, _ :: _, [], _, h => h.elim
theorem law_returns {C : Checked} {f : FuncId} {fn : Func} {s : ChangeSpec} {conds : List PathCond} {bt : TypeId} {os : Os} {H : Type} {enc : TypeId × Value → H}
    (own : ownKnob C.prog.godebug = none) (started : os.Started) (noInit : C.prog.inits.idxOf? f = none) (hfn : C.prog.funcs[f]? = some fn)
    (witness : ∃ (w : World) (tape : Tape) (i : Input), w.os = os ∧ (w.forCall tape i).Shaped C.prog ∧ i.vars = [] ∧ Input.okWide C.prog (w.forCall tape i) .any w.heap.size f i ∧
      s.pre6 enc C.prog fn conds false (w.forCall tape i).memory i.args ∧ ({} : Assume).holds C.prog (lone (Frame.enter C.prog f i.args .normal) [] (w.forCall tape i)))
    (hvars : s.vars = []) (hres : fn.resultTypes = #[bt]) (hbt : C.prog.underlying bt = some .bool)
    (hl : laidOutB C.prog = true) (hread : ∀ t ∈ fn.params.toList, C.prog.readableRec t = true ∧ t < C.prog.types.size)
    (hspec : ∀ ds : List (DataW H), ds.length = fn.params.size → s.fn H ds = { results := [.lit (.bool true)], args := ds })
    (law : LawOK C.prog f fn.params.toList) :
    ReturnsInHanded {} C os f .any (s.pre6 enc C.prog fn conds false) (s.post enc C.prog fn false true false false) := by
  refine returnsInHanded_of_change own started noInit hfn witness ?_
  intro W base args ds gs before hval hW hcnd _
  have hW' := hW
  obtain ⟨p, q, hA, hV, hps, hfz, hnd⟩ := hW
  rw [hvars] at hV
  obtain ⟨rfl, rfl⟩ : gs = [] ∧ q = [] := by
    cases gs with
    | nil => exact ⟨rfl, hV⟩
    | cons _ _ => exact hV.elim
  obtain ⟨vs, h1, h2, h3, h4⟩ := law (fun j t u ht hu => hval j t u (by simpa using ht) (by simpa using hu)) hA
  obtain ⟨hb, _, h5⟩ := h4 (fun _ => none) 0
  have hlv : ∀ b o, live W b o → b < W.heap.size := by
    intro b o h
    simp only [live] at h
    obtain ⟨v, hv⟩ := Option.isSome_iff_exists.1 h
    unfold World.cell? at hv
    split at hv
    · rename_i hh; exact (Array.getElem?_eq_some_iff.1 hh).1
    · cases hv
  have hmr : MR ⟨fun _ => 0, live W, fun _ => .ext⟩ W (fun _ => none) 0 := ⟨fun k b h => (by cases h), fun b o h => ⟨hlv b o h, fun k h => by cases h⟩⟩
  have h6 := h5 W ⟨fun _ => 0, live W, fun _ => .ext⟩ args.toList hmr (fun k cs h => by cases h) (fun b => ⟨fun t p h => (by cases h), fun p h => (by cases h)⟩) h1 h2 (ons_mono (fun k hk => absurd hk (Nat.not_lt_zero k)) _ (ons_lt vs h3))
  refine Calls.mono h6 fun e W' ⟨v, g', he, _, hr, _, _, hf⟩ => ?_
  subst he
  have hv : v = .bool true := by simpa [RV, RD] using hr
  subst hv
  have hbelow : Below W.heap.size W W' := ⟨hf.os, hf.tape, hf.output, hf.size, fun k hk => (hf.old k hk trivial).2.1⟩
  have hrl : (Value.bool true).resultList fn.resultTypes.size = [.bool true] := by rw [hres]; rfl
  have hsp : s.fn H (ds ++ []) = { results := [.lit (.bool true)], args := ds } := by
    rw [List.append_nil]
    exact hspec ds (by have := (trodAll_len hA).1; simpa using this)
  have hlt : ∀ p ∈ before, p.block < W.heap.size := fun x hx => hW'.lt x hx
  have hst : ∀ sp : Nat → Bool, (∀ p ∈ before, sp p.block = true) → DataW.TrodAll enc C.prog W' 0 sp true fn.params.toList args.toList ds before := by
    intro sp hsp'
    have e : p = before := by rw [hps, List.append_nil]
    subst e
    exact trodAll_stays hl hread hA (fun x hx => hbelow.same (hlt x hx)) hsp'
  refine ⟨_, rfl, ds, [], before, [], before, [], hW', ?_, ?_, ?_, World.keptBut_mono (fun p hp => ⟨hp, .inr (.inl hp)⟩) (hbelow.frame (· ∈ before)), fun h => by cases h⟩
  · rw [hsp, hrl, hres]
    exact ⟨[], [], ⟨1, by simp [DataW.trod, Value.cells, hbt]⟩, rfl, rfl⟩
  · rw [hsp]
    exact hst _ fun p hp => by simpa using hlt p hp
  · rw [hsp, hvars]; rfl
section
variable {α β γ δ : Type} {f : FuncId} {ta tb tc td : TypeId} {va : α → V} {vb : β → V} {vc : γ → V} {vd : δ → V} {wa : α → Prop} {wb : β → Prop} {wc : γ → Prop} {wd : δ → Prop}
theorem trodAll_two {H : Type} {enc : TypeId × Value → H} {w : World} {base : Nat} {sp : Nat → Bool} {held : Bool} {t : TypeId} {ts : List TypeId} {us : List Value} {ds : List (DataW H)} {ps : List MemPlace} (h : DataW.TrodAll enc P w base sp held (t :: ts) us ds ps) :
    ∃ u us' d ds' p q, us = u :: us' ∧ ds = d :: ds' ∧ DataW.Trod enc P w base sp held t u d p ∧ DataW.TrodAll enc P w base sp held ts us' ds' q := by
  match us, ds, h with
  | u :: us', d :: ds', ⟨p, q, h1, h2, _⟩ => exact ⟨u, us', d, ds', p, q, rfl, rfl, h1, h2⟩
  | [], [], h => exact h.elim
  | [], _ :: _, h => exact h.elim
  | _ :: _, [], h => exact h.elim
theorem trodAll_end {H : Type} {enc : TypeId × Value → H} {w : World} {base : Nat} {sp : Nat → Bool} {held : Bool} {us : List Value} {ds : List (DataW H)} {ps : List MemPlace} (h : DataW.TrodAll enc P w base sp held [] us ds ps) : us = [] := by
  match us, ds, h with
  | [], [], _ => rfl
  | [], _ :: _, h => exact h.elim
  | _ :: _, [], h => exact h.elim
  | _ :: _, _ :: _, h => exact h.elim
theorem lawOK2 (ra : ArgReads P ta va wa) (fa : ∀ a, (va a).dem = va a) (la : ∀ a, (va a).lt 0 = true) (rb : ArgReads P tb vb wb) (fb : ∀ a, (vb a).dem = vb a) (lb : ∀ a, (vb a).lt 0 = true)
    (law : ∀ a b, wa a → wb b → ∀ M nb, ACalls P f [va a, vb b] M nb (.d (.bool true)) M nb) : LawOK P f [ta, tb] := by
  intro H enc w b0 us ds ps hok hT
  obtain ⟨u, us', d, ds', p, q, rfl, rfl, h1, hT⟩ := trodAll_two hT
  obtain ⟨u2, us', d2, ds', p2, q2, rfl, rfl, h2, hT⟩ := trodAll_two hT
  obtain rfl := trodAll_end hT
  obtain ⟨a, ha, hra⟩ := ra (hok 0 _ _ rfl rfl) h1
  obtain ⟨b, hb, hrb⟩ := rb (hok 1 _ _ rfl rfl) h2
  refine ⟨[va a, vb b], ⟨u, _, rfl, hra, u2, _, rfl, hrb, rfl⟩, ?_, by simp [V.lt.go, la, lb], law a b ha hb⟩
  intro x hx
  simp only [List.mem_cons, List.not_mem_nil, or_false] at hx
  rcases hx with rfl | rfl
  · exact fa a
  · exact fb b
end
end Go.Abs
end
section
namespace Go.Proofs
open Go Go.Abs
set_option linter.unusedVariables false
set_option maxRecDepth 100000
def W_5 (x : Int) : Prop := wfI .u8 x
theorem R_5 : Reads Try.prog 5 (eI .u8) W_5 := reads_int Try.underlying5
theorem A_5 : ArgReads Try.prog 5 (fun (a : Int) => .d (.int .u8 a)) W_5 := arg_one R_5 (one_int Try.underlying5)
def W_50 (x : List Int) : Prop := wfL W_5 x
theorem R_50 : Reads Try.prog 50 (eL 1 (eI .u8)) W_50 := reads_slice Try.underlying50 R_5 (by kernel_rfl) (by decide) (fun _ => rfl)
theorem A_50 : ArgReads Try.prog 50 (fun (a : List Int) => .d (.lst 1 (List.map (eI .u8) a))) W_50 := arg_one R_50 (one_slice Try.underlying50)
end Go.Proofs
end
section
namespace Go.Proofs
open Go Go.Abs
theorem wf_u8 {x : Int} (h : wfI .u8 x) : 0 ≤ x ∧ x < 256 := by
  unfold wfI at h
  simp [Lit.wf, IntKind.min, IntKind.max, IntKind.bits, IntKind.signed] at h
  omega
end Go.Proofs
end
section
namespace Go.Abs
open Go
theorem iterF_rule {X R : Type} {F : (X → Option R) → X → Option R} (I : X → Prop) (m : X → Nat) (Q : X → Option R → Prop)
    (step : ∀ (k : X → Option R) (x : X), I x → (∀ y, I y → m y < m x → Q y (k y)) → Q x (F k x)) : ∀ (fuel : Nat) (x : X), I x → m x < fuel → Q x (iterF F fuel x)
  | 0, x, _, h => absurd h (Nat.not_lt_zero _)
  | fuel + 1, x, hi, h => step _ x hi fun y hy hm => iterF_rule I m Q step fuel y hy (by omega)
theorem wrap_id {x : Int} (h1 : -9223372036854775808 ≤ x) (h2 : x ≤ 9223372036854775807) : IntKind.wrap .i64 x = x := by
  simp [IntKind.wrap, IntKind.bits, IntKind.signed]; omega
theorem wrap_succ {n : Nat} (h : n < 9223372036854775807) : IntKind.wrap .i64 ((n : Int) + 1) = ((n + 1 : Nat) : Int) := by
  rw [wrap_id (by omega) (by omega)]; omega
theorem getO_nat {α : Type} {l : List α} {n : Nat} (h : n < l.length) : getO l (n : Int) = some l[n] := by
  simp [getO, h]
theorem appO_some {α : Type} {l m : List α} (h : l.length + m.length ≤ lim) : appO l m = some (l ++ m) := by
  unfold appO; rw [if_pos h]
theorem iterF_idx {R : Type} {F : (Int → Option R) → Int → Option R} {len fuel : Nat} (G : Nat → Option R) (hf : len < fuel)
    (step : ∀ (k : Int → Option R) (n : Nat), n < len → k ((n + 1 : Nat) : Int) = G (n + 1) → F k (n : Int) = G n) (last : ∀ k : Int → Option R, F k (len : Int) = G len) : iterF F fuel 0 = G 0 := by
  have := iterF_rule (F := F) (fun x => ∃ n : Nat, x = (n : Int) ∧ n ≤ len) (fun x => len - x.toNat) (fun x r => ∀ n : Nat, x = (n : Int) → r = G n) (fun k x hx ih => by
    obtain ⟨n, rfl, hn⟩ := hx
    intro m hm
    obtain rfl : n = m := by omega
    by_cases h : n < len
    · exact step k n h (ih _ ⟨n + 1, rfl, by omega⟩ (by omega) (n + 1) rfl)
    · obtain rfl : n = len := by omega
      exact last k) fuel 0 ⟨0, rfl, by omega⟩ (by simpa using hf)
  exact this 0 rfl
theorem wrap_pred {n : Nat} (h0 : 0 < n) (h : n < 9223372036854775807) : IntKind.wrap .i64 ((n : Int) - 1) = ((n - 1 : Nat) : Int) := by
  rw [wrap_id (by omega) (by omega)]; omega
theorem iterF_at {X S R : Type} {F : (X → Option R) → X → Option R} {len : Nat} (mk : Nat → S → X) (G : Nat → S → Option R)
    (step : ∀ (k : X → Option R) (n : Nat) (s : S), n < len → (∀ s', k (mk (n + 1) s') = G (n + 1) s') → F k (mk n s) = G n s) (last : ∀ (k : X → Option R) (s : S), F k (mk len s) = G len s) :
    ∀ (fuel n : Nat) (s : S), n ≤ len → len - n < fuel → iterF F fuel (mk n s) = G n s
  | 0, n, s, _, h => by omega
  | fuel + 1, n, s, hn, h => by
    show F (iterF F fuel) (mk n s) = _
    by_cases hlt : n < len
    · exact step _ n s hlt fun s' => iterF_at mk G step last fuel (n + 1) s' (by omega) (by omega)
    · obtain rfl : n = len := by omega
      exact last _ s
theorem mid_ok {i j : Nat} (hi : i < 1000000000000) (hj : j < 1000000000000) : IntKind.wrap .i64 (Int.fdiv (IntKind.wrap .u64 (IntKind.wrap .i64 ((i : Int) + j))) (2 ^ (min (Int.toNat 1) (IntKind.bits .u64)))) = (((i + j) / 2 : Nat) : Int) := by
  have h1 : IntKind.wrap .i64 ((i : Int) + j) = ((i + j : Nat) : Int) := by rw [wrap_id (by omega) (by omega)]; omega
  have h2 : IntKind.wrap .u64 ((i + j : Nat) : Int) = ((i + j : Nat) : Int) := by
    simp [IntKind.wrap, IntKind.bits, IntKind.signed]; omega
  have h3 : (2 : Int) ^ (min (Int.toNat 1) (IntKind.bits .u64)) = 2 := by decide
  rw [h1, h2, h3, Int.fdiv_eq_ediv_of_nonneg _ (by omega), show ((i + j : Nat) : Int) / 2 = (((i + j) / 2 : Nat) : Int) from by omega, wrap_id (by omega) (by omega)]
theorem slcO_nat {α : Type} {l : List α} {i j : Nat} (h : i ≤ j) (hj : j ≤ l.length) : slcO l (i : Int) (j : Int) = some ((l.take j).drop i) := by
  simp [slcO, h, hj]
section
variable {α : Type} {p : α → Bool}
theorem count_mono : ∀ {l : List α}, l.Pairwise (fun a b => p b = true → p a = true) → ∀ (n : Nat) (h : n < l.length), p l[n] = true ↔ n < (l.filter p).length
  | [], _, n, h => by simp at h
  | x :: xs, hs, n, h => by
    obtain ⟨h1, h2⟩ := List.pairwise_cons.1 hs
    cases n with
    | zero =>
      cases hx : p x with
      | true => simp [hx]
      | false =>
        have : xs.filter p = [] := List.filter_eq_nil_iff.2 fun y hy hp => by have := h1 y hy hp; rw [hx] at this; cases this
        simp [hx, this]
    | succ n =>
      have ih := count_mono h2 n (by simpa using h)
      cases hx : p x with
      | true => simp [hx, ih]
      | false =>
        have : xs.filter p = [] := List.filter_eq_nil_iff.2 fun y hy hp => by have := h1 y hy hp; rw [hx] at this; cases this
        rw [this] at ih
        simp [hx, this] at ih ⊢
        exact ih
end
theorem iterF_inv {X S R : Type} {F : (X → Option R) → X → Option R} {len : Nat} (mk : Nat → S → X) (I : Nat → S → Prop) (G : Nat → S → Option R)
    (step : ∀ (k : X → Option R) (n : Nat) (s : S), n < len → I n s → (∀ s', I (n + 1) s' → k (mk (n + 1) s') = G (n + 1) s') → F k (mk n s) = G n s) (last : ∀ (k : X → Option R) (s : S), I len s → F k (mk len s) = G len s) :
    ∀ (fuel n : Nat) (s : S), n ≤ len → len - n < fuel → I n s → iterF F fuel (mk n s) = G n s
  | 0, n, s, _, h, _ => by omega
  | fuel + 1, n, s, hn, h, hi => by
    show F (iterF F fuel) (mk n s) = _
    by_cases hlt : n < len
    · exact step _ n s hlt hi fun s' hi' => iterF_inv mk I G step last fuel (n + 1) s' (by omega) (by omega) hi'
    · obtain rfl : n = len := by omega
      exact last _ s hi
theorem sorted_len : ∀ {l : List Int} {a b : Int}, l.Pairwise (· < ·) → (∀ x ∈ l, a ≤ x ∧ x < b) → l.length ≤ (b - a).toNat
  | [], _, _, _, _ => by simp
  | x :: xs, a, b, h, hr => by
    obtain ⟨h1, h2⟩ := List.pairwise_cons.1 h
    have := sorted_len (a := x + 1) (b := b) h2 fun y hy => ⟨by have := h1 y hy; omega, (hr y (by simp [hy])).2⟩
    have := hr x (by simp)
    simp only [List.length_cons]
    omega
end Go.Abs
end
section
namespace Go.Abs
abbrev big : Nat := 1000000000000
def small (a : api_Automaton) : Prop := a.Alphabet.length < big ∧ a.Marked.length < big ∧ a.Edges.length < big
end Go.Abs
end
section
namespace Go.Abs
open Go
set_option linter.unusedSimpArgs false
def listErr (n : Int) : Option Int → List Int → Int
  | _, [] => 0
  | p, x :: xs => if x < 0 ∨ x ≥ n then 2 else if ∃ y, p = some y ∧ x ≤ y then 5 else listErr n (some x) xs
def edgesErr (al : List Int) (st : Int) : Option api_Edge → List api_Edge → Int
  | _, [] => 0
  | p, x :: xs => if x.From < 0 ∨ x.From ≥ st ∨ x.To < 0 ∨ x.To ≥ st then 2 else if x.Event ∉ al then 9 else if ∃ y, p = some y ∧ (x.From < y.From ∨ x.From = y.From ∧ x.Event ≤ y.Event) then 5 else edgesErr al st (some x) xs
def checkErr (a : api_Automaton) : Int :=
  if listErr 32 none a.Alphabet ≠ 0 then listErr 32 none a.Alphabet else if a.States < 0 then 2 else if a.States > 4096 then 3 else
  if listErr a.States none a.Marked ≠ 0 then listErr a.States none a.Marked else edgesErr a.Alphabet a.States none a.Edges
def ahead {α : Type} (l : List α) (n : Nat) : Option α := if n = 0 then none else l[n - 1]?
theorem ahead_zero {α : Type} (l : List α) : ahead l 0 = none := rfl
theorem ahead_succ {α : Type} (l : List α) {n : Nat} (h : n < l.length) : ahead l (n + 1) = some l[n] := by simp [ahead, h]
theorem ahead_pos {α : Type} (l : List α) {n : Nat} (h0 : 0 < n) (h : n ≤ l.length) : ahead l n = some (l[n - 1]'(by omega)) := by
  simp [ahead, show n ≠ 0 from by omega, show n - 1 < l.length from by omega]
theorem listErr_step {n : Int} {l : List Int} {k : Nat} (h : k < l.length) : listErr n (ahead l k) (l.drop k) = if l[k] < 0 ∨ l[k] ≥ n then 2 else if ∃ y, ahead l k = some y ∧ l[k] ≤ y then 5 else listErr n (ahead l (k + 1)) (l.drop (k + 1)) := by
  rw [List.drop_eq_getElem_cons h, listErr, ahead_succ l h]
theorem edgesErr_step {al : List Int} {n : Int} {l : List api_Edge} {k : Nat} (h : k < l.length) : edgesErr al n (ahead l k) (l.drop k) = if l[k].From < 0 ∨ l[k].From ≥ n ∨ l[k].To < 0 ∨ l[k].To ≥ n then 2 else if l[k].Event ∉ al then 9 else if ∃ y, ahead l k = some y ∧ (l[k].From < y.From ∨ l[k].From = y.From ∧ l[k].Event ≤ y.Event) then 5 else edgesErr al n (ahead l (k + 1)) (l.drop (k + 1)) := by
  rw [List.drop_eq_getElem_cons h, edgesErr, ahead_succ l h]
theorem checkSet_ok {l : List Int} {n : Int} (hl : l.length < big) : g_automaton_checkSet l n = some (listErr n none l) := by
  unfold g_automaton_checkSet f_automaton_checkSet
  refine (iterF_idx (len := l.length) (fun k => some (listErr n (ahead l k) (l.drop k))) (by unfold fuel0; unfold big at hl; omega) ?_ ?_).trans (by simp [ahead_zero])
  · intro k i hi ih
    have hb : i < 1000000000000 := by unfold big at hl; omega
    rw [listErr_step hi]
    try dsimp only
    rw [if_pos (by omega), getO_nat hi, wrap_succ (by omega), ih]
    simp only [Option.bind_some]
    by_cases h1 : l[i] < 0
    · simp [h1]
    · by_cases h2 : l[i] ≥ n
      · simp [h1, h2]
      · by_cases h0 : 0 < i
        · rw [wrap_pred h0 (by omega), getO_nat (by omega : i - 1 < l.length), ahead_pos l h0 (by omega)]
          by_cases h3 : l[i] ≤ l[i - 1] <;> simp [h1, h2, h3, h0]
        · obtain rfl : i = 0 := by omega
          simp [h1, h2, ahead_zero]
  · intro k; simp [listErr]
theorem index_ok {l : List Int} {v : Int} (hl : l.length < big) : g_slices_Index_int l v = some (if v ∈ l then (l.idxOf v : Int) else -1) := by
  unfold g_slices_Index_int f_slices_Index_int
  refine (iterF_idx (len := l.length) (fun k => some (if v ∈ l.drop k then ((k + (l.drop k).idxOf v : Nat) : Int) else -1)) (by unfold fuel0; unfold big at hl; omega) ?_ ?_).trans (by simp)
  · intro k i hi ih
    have hb : i < 1000000000000 := by unfold big at hl; omega
    try dsimp only
    rw [if_pos (by omega), getO_nat hi, wrap_succ (by omega), ih, List.drop_eq_getElem_cons hi]
    simp only [Option.bind_some, List.mem_cons, List.idxOf_cons]
    by_cases h : v = l[i]
    · simp [← h]
    · have : ¬ l[i] = v := fun e => h e.symm
      have hbq : (l[i] == v) = false := by simp [this]
      by_cases h2 : v ∈ l.drop (i + 1) <;> simp [h, h2, hbq]
      omega
  · intro k; simp
theorem contains_ok {l : List Int} {v : Int} (hl : l.length < big) : g_slices_Contains_int l v = some (decide (v ∈ l)) := by
  unfold g_slices_Contains_int f_slices_Contains_int
  rw [index_ok hl]
  simp only [Option.bind_some, Option.some.injEq]
  by_cases h : v ∈ l <;> simp [h]
theorem checkEdges_ok {a : api_Automaton} (h : small a) : g_automaton_checkEdges a = some (edgesErr a.Alphabet a.States none a.Edges) := by
  obtain ⟨hal, _, hl⟩ := h
  unfold g_automaton_checkEdges f_automaton_checkEdges
  refine (iterF_idx (len := a.Edges.length) (fun k => some (edgesErr a.Alphabet a.States (ahead a.Edges k) (a.Edges.drop k))) (by unfold fuel0; unfold big at hl; omega) ?_ ?_).trans (by simp [ahead_zero])
  · intro k i hi ih
    have hb : i < 1000000000000 := by unfold big at hl; omega
    rw [edgesErr_step hi]
    unfold letJ
    try dsimp only
    rw [if_pos (by omega), getO_nat hi, wrap_succ (by omega), ih]
    simp only [Option.bind_some, contains_ok hal]
    generalize a.Edges[i] = x
    by_cases h1 : x.From < 0
    · simp [h1]
    by_cases h2 : x.From ≥ a.States
    · simp [h1, h2]
    by_cases h3 : x.To < 0
    · simp [h1, h2, h3]
    by_cases h4 : x.To ≥ a.States
    · simp [h1, h2, h3, h4]
    by_cases h5 : x.Event ∈ a.Alphabet
    · by_cases h0 : 0 < i
      · rw [wrap_pred h0 (by omega), getO_nat (by omega : i - 1 < a.Edges.length), ahead_pos a.Edges h0 (by omega)]
        generalize a.Edges[i - 1] = y
        have hi0 : i ≠ 0 := by omega
        by_cases h6 : x.From < y.From
        · simp [h1, h2, h3, h4, h5, h6, hi0]
        by_cases h7 : y.From = x.From
        · by_cases h8 : x.Event ≤ y.Event <;> simp [h1, h2, h3, h4, h5, h6, h7, h8, hi0]
        · have h7' : ¬ x.From = y.From := fun e => h7 e.symm
          simp [h1, h2, h3, h4, h5, h6, h7, hi0, h7']
      · obtain rfl : i = 0 := by omega
        simp [h1, h2, h3, h4, h5, ahead_zero]
    · simp [h1, h2, h3, h4, h5]
  · intro k; unfold letJ; simp [edgesErr]
theorem check_ok {a : api_Automaton} (h : small a) : g_automaton_Check a = some (checkErr a) := by
  unfold g_automaton_Check f_automaton_Check checkErr
  rw [checkSet_ok h.1, checkSet_ok h.2.1, checkEdges_ok h]
  simp only [Option.bind_some]
  by_cases h1 : listErr 32 none a.Alphabet = 0
  · by_cases h2 : a.States < 0
    · simp [h1, h2]
    by_cases h3 : a.States > 4096
    · simp [h1, h2, h3]
    by_cases h4 : listErr a.States none a.Marked = 0 <;> simp [h1, h2, h3, h4]
  · simp [h1]
end Go.Abs
end
section
namespace Go.Abs
open Go
set_option linter.unusedSimpArgs false
set_option linter.unusedVariables false
def keyLt (x y : api_Edge) : Prop := x.From < y.From ∨ x.From = y.From ∧ x.Event < y.Event
instance (x y : api_Edge) : Decidable (keyLt x y) := by unfold keyLt; infer_instance
structure Right (a : api_Automaton) : Prop where
  al0 : ∀ x ∈ a.Alphabet, 0 ≤ x ∧ x < 32
  al : a.Alphabet.Pairwise (· < ·)
  st : 0 ≤ a.States ∧ a.States ≤ 4096
  ma0 : ∀ x ∈ a.Marked, 0 ≤ x ∧ x < a.States
  ma : a.Marked.Pairwise (· < ·)
  ed0 : ∀ x ∈ a.Edges, 0 ≤ x.From ∧ x.From < a.States ∧ 0 ≤ x.To ∧ x.To < a.States ∧ x.Event ∈ a.Alphabet
  ed : a.Edges.Pairwise keyLt
theorem listErr_zero {n : Int} : ∀ {l : List Int} {p : Option Int}, listErr n p l = 0 ↔ (∀ x ∈ l, 0 ≤ x ∧ x < n) ∧ l.Pairwise (· < ·) ∧ ∀ y, p = some y → ∀ x ∈ l, y < x
  | [], p => by simp [listErr]
  | x :: xs, p => by
    rw [listErr]
    split
    · rename_i h
      refine ⟨fun h => by omega, fun hh => ?_⟩
      have := hh.1 x (by simp); omega
    · rename_i h
      split
      · rename_i h2
        obtain ⟨y, hy, hxy⟩ := h2
        refine ⟨fun h => by omega, fun hh => ?_⟩
        have := hh.2.2 y hy x (by simp); omega
      · rename_i h2
        rw [listErr_zero]
        constructor
        · rintro ⟨k1, k2, k3⟩
          refine ⟨fun z hz => ?_, List.pairwise_cons.2 ⟨fun z hz => k3 x rfl z hz, k2⟩, fun y hy z hz => ?_⟩
          · rcases List.mem_cons.1 hz with rfl | hz
            · omega
            · exact k1 z hz
          · have hyx : y < x := by
              rcases Int.lt_or_le y x with h | h
              · exact h
              · exact absurd ⟨y, hy, h⟩ h2
            rcases List.mem_cons.1 hz with rfl | hz
            · exact hyx
            · have := k3 x rfl z hz; omega
        · rintro ⟨k1, k2, k3⟩
          obtain ⟨k4, k5⟩ := List.pairwise_cons.1 k2
          exact ⟨fun z hz => k1 z (by simp [hz]), k5, fun y hy z hz => by cases hy; exact k4 z hz⟩
theorem edgesErr_zero {al : List Int} {n : Int} : ∀ {l : List api_Edge} {p : Option api_Edge}, edgesErr al n p l = 0 ↔ (∀ x ∈ l, 0 ≤ x.From ∧ x.From < n ∧ 0 ≤ x.To ∧ x.To < n ∧ x.Event ∈ al) ∧ l.Pairwise keyLt ∧ ∀ y, p = some y → ∀ x ∈ l, keyLt y x
  | [], p => by simp [edgesErr]
  | x :: xs, p => by
    have tr : ∀ a b c : api_Edge, keyLt a b → keyLt b c → keyLt a c := fun a b c h k => by unfold keyLt at *; omega
    rw [edgesErr]
    split
    · rename_i h
      refine ⟨fun h => by omega, fun hh => ?_⟩
      have := hh.1 x (by simp); omega
    · rename_i h
      split
      · rename_i h2
        refine ⟨fun h => by omega, fun hh => ?_⟩
        exact absurd (hh.1 x (by simp)).2.2.2.2 h2
      · rename_i hal
        split
        · rename_i h2
          obtain ⟨y, hy, hxy⟩ := h2
          refine ⟨fun h => by omega, fun hh => ?_⟩
          have := hh.2.2 y hy x (by simp)
          unfold keyLt at this; omega
        · rename_i h2
          rw [edgesErr_zero]
          constructor
          · rintro ⟨k1, k2, k3⟩
            refine ⟨fun z hz => ?_, List.pairwise_cons.2 ⟨fun z hz => k3 x rfl z hz, k2⟩, fun y hy z hz => ?_⟩
            · rcases List.mem_cons.1 hz with rfl | hz
              · exact ⟨by omega, by omega, by omega, by omega, Decidable.not_not.1 hal⟩
              · exact k1 z hz
            · have hyx : keyLt y x := by
                apply Decidable.byContradiction
                intro h
                exact h2 ⟨y, hy, by unfold keyLt at h; omega⟩
              rcases List.mem_cons.1 hz with rfl | hz
              · exact hyx
              · exact tr _ _ _ hyx (k3 x rfl z hz)
          · rintro ⟨k1, k2, k3⟩
            obtain ⟨k4, k5⟩ := List.pairwise_cons.1 k2
            exact ⟨fun z hz => k1 z (by simp [hz]), k5, fun y hy z hz => by cases hy; exact k4 z hz⟩
theorem right_iff {a : api_Automaton} : checkErr a = 0 ↔ Right a := by
  unfold checkErr
  constructor
  · intro h
    split at h
    · rename_i h1; exact absurd h h1
    rename_i h1
    split at h
    · omega
    split at h
    · omega
    split at h
    · rename_i h4; exact absurd h h4
    rename_i h4
    have q1 := listErr_zero.1 (Decidable.not_not.1 h1)
    have q2 := listErr_zero.1 (Decidable.not_not.1 h4)
    have q3 := edgesErr_zero.1 h
    exact ⟨q1.1, q1.2.1, ⟨by omega, by omega⟩, q2.1, q2.2.1, q3.1, q3.2.1⟩
  · intro h
    have q1 : listErr 32 none a.Alphabet = 0 := listErr_zero.2 ⟨h.al0, h.al, fun y hy => by cases hy⟩
    have q2 : listErr a.States none a.Marked = 0 := listErr_zero.2 ⟨h.ma0, h.ma, fun y hy => by cases hy⟩
    have q3 : edgesErr a.Alphabet a.States none a.Edges = 0 := edgesErr_zero.2 ⟨h.ed0, h.ed, fun y hy => by cases hy⟩
    have := h.st
    rw [if_neg (by simp [q1]), if_neg (by omega), if_neg (by omega), if_neg (by simp [q2]), q3]
def outP (a : api_Automaton) (s : Int) : List api_Edge := a.Edges.filter fun x => x.From == s
def stepP (a : api_Automaton) (s e : Int) : Int := match a.Edges.find? fun x => x.From == s && x.Event == e with
  | some x => x.To
  | none => -1
theorem From_mono {l : List api_Edge} (h : l.Pairwise keyLt) (s : Int) : l.Pairwise fun a b => decide (b.From < s) = true → decide (a.From < s) = true :=
  h.imp fun h => by unfold keyLt at h; simp; omega
theorem bsf_ok {l : List api_Edge} {s : Int} {cmp : api_Edge → Int → Option Int} (hcmp : ∀ x ∈ l, cmp x s = some (x.From - s)) (hs : l.Pairwise keyLt) (hl : l.length < big) :
    ∃ b, g_slices_BinarySearchFunc_int l s cmp = some (((l.filter fun x => decide (x.From < s)).length : Int), b) := by
  have hc := fun n h => count_mono (p := fun x : api_Edge => decide (x.From < s)) (From_mono hs s) n h
  have hcl : (l.filter fun x => decide (x.From < s)).length ≤ l.length := List.length_filter_le _ _
  generalize (l.filter fun x => decide (x.From < s)).length = c at hc hcl
  have hb : l.length < 1000000000000 := hl
  unfold g_slices_BinarySearchFunc_int f_slices_BinarySearchFunc_int
  have hloop := iterF_rule (F := fun (k13 : Int × Int → Option Int) ((i11, j12) : Int × Int) => (if (i11 < j12) then ((getO l (IntKind.wrap .i64 (Int.fdiv (IntKind.wrap .u64 (IntKind.wrap .i64 (i11 + j12))) (2 ^ (min (Int.toNat 1) (IntKind.bits .u64)))))).bind fun x15 => ((cmp x15 s).bind fun x18 => (if (x18 < 0) then k13 ((IntKind.wrap .i64 ((IntKind.wrap .i64 (Int.fdiv (IntKind.wrap .u64 (IntKind.wrap .i64 (i11 + j12))) (2 ^ (min (Int.toNat 1) (IntKind.bits .u64))))) + 1)), j12) else k13 (i11, (IntKind.wrap .i64 (Int.fdiv (IntKind.wrap .u64 (IntKind.wrap .i64 (i11 + j12))) (2 ^ (min (Int.toNat 1) (IntKind.bits .u64))))))))) else some i11))
    (fun x => ∃ i j : Nat, x = ((i : Int), (j : Int)) ∧ i ≤ c ∧ c ≤ j ∧ j ≤ l.length) (fun x => (x.2 - x.1).toNat) (fun _ r => r = some (c : Int)) (by
      rintro k _ ⟨i, j, rfl, h1, h2, h3⟩ ih
      dsimp only
      by_cases hij : i < j
      · rw [if_pos (by omega), mid_ok (by omega) (by omega)]
        have hm : (i + j) / 2 < l.length := by omega
        rw [getO_nat hm]
        simp only [Option.bind_some]
        rw [hcmp _ (List.getElem_mem hm)]
        simp only [Option.bind_some]
        have hcm := hc ((i + j) / 2) hm
        by_cases hlt : l[(i + j) / 2].From < s
        · rw [if_pos (by omega), wrap_succ (by omega)]
          have : (i + j) / 2 < c := hcm.1 (by simpa using hlt)
          exact ih _ ⟨_, _, rfl, by omega, h2, h3⟩ (by simp only; omega)
        · rw [if_neg (by omega)]
          have : ¬ (i + j) / 2 < c := fun h => hlt (by simpa using hcm.2 h)
          exact ih _ ⟨_, _, rfl, h1, by omega, by omega⟩ (by simp only; omega)
      · rw [if_neg (by omega)]
        have : i = c := by omega
        rw [this]) fuel0 (0, (l.length : Int)) ⟨0, l.length, rfl, by omega, hcl, Nat.le_refl _⟩ (by unfold fuel0; simp only; omega)
  rw [hloop]
  simp only [Option.bind_some]
  by_cases hlt : c < l.length
  · rw [if_pos (by omega), getO_nat hlt]
    simp only [Option.bind_some]
    rw [hcmp _ (List.getElem_mem hlt)]
    exact ⟨_, rfl⟩
  · rw [if_neg (by omega)]
    exact ⟨_, rfl⟩
theorem out_parts : ∀ {l : List api_Edge} (s : Int), l.Pairwise keyLt → (l.take (l.filter fun x => decide (x.From < s + 1)).length).drop (l.filter fun x => decide (x.From < s)).length = l.filter fun x => x.From == s
  | [], s, _ => by simp
  | x :: xs, s, h => by
    obtain ⟨h1, h2⟩ := List.pairwise_cons.1 h
    have ih := out_parts s h2
    have hge : ∀ y ∈ xs, x.From ≤ y.From := fun y hy => by have := h1 y hy; unfold keyLt at this; omega
    by_cases hx : x.From < s
    · have e1 : decide (x.From < s) = true := by simpa using hx
      have e2 : decide (x.From < s + 1) = true := by simp; omega
      have e3 : (x.From == s) = false := by simp; omega
      simp only [List.filter_cons, e1, e2, e3, if_true, List.length_cons, List.take_succ_cons, List.drop_succ_cons, Bool.false_eq_true, if_false]
      exact ih
    · have hz : xs.filter (fun x => decide (x.From < s)) = [] := List.filter_eq_nil_iff.2 fun y hy => by have := hge y hy; simp; omega
      have e1 : decide (x.From < s) = false := by simpa using hx
      by_cases hq : x.From = s
      · have e2 : decide (x.From < s + 1) = true := by simp; omega
        have e3 : (x.From == s) = true := by simp [hq]
        simp only [List.filter_cons, e1, e2, e3, if_true, List.length_cons, List.take_succ_cons, Bool.false_eq_true, if_false, hz, List.length_nil, List.drop_zero]
        rw [hz, List.length_nil, List.drop_zero] at ih
        rw [ih]
      · have e2 : decide (x.From < s + 1) = false := by simp; omega
        have e3 : (x.From == s) = false := by simp [hq]
        have hz1 : xs.filter (fun x => decide (x.From < s + 1)) = [] := List.filter_eq_nil_iff.2 fun y hy => by have := hge y hy; simp; omega
        have hz2 : xs.filter (fun x => x.From == s) = [] := List.filter_eq_nil_iff.2 fun y hy => by have := hge y hy; simp; omega
        simp only [List.filter_cons, e1, e2, e3, Bool.false_eq_true, if_false, hz, hz1, hz2, List.length_nil, List.take_zero, List.drop_zero]
section
variable {a : api_Automaton} (h : Right a) (hs : small a)
include h hs
theorem out_ok {s : Int} (h0 : -1000000000000 < s) (h1 : s < 1000000000000) : g_automaton_out a s = some (outP a s) := by
  unfold g_automaton_out f_automaton_out
  have hst := h.st
  have hw : ∀ t : Int, -1000000000002 < t → t < 1000000000002 → ∀ x ∈ a.Edges, IntKind.wrap .i64 (x.From - t) = x.From - t := fun t k1 k2 x hx => by
    have := h.ed0 x hx; exact wrap_id (by omega) (by omega)
  have e1 : IntKind.wrap .i64 (s + 1) = s + 1 := wrap_id (by omega) (by omega)
  obtain ⟨b1, k1⟩ := bsf_ok (s := s) (cmp := g_automaton_out_1) (fun x hx => by unfold g_automaton_out_1 f_automaton_out_1; rw [hw s (by omega) (by omega) x hx]) h.ed hs.2.2
  obtain ⟨b2, k2⟩ := bsf_ok (s := s + 1) (cmp := g_automaton_out_2) (fun x hx => by unfold g_automaton_out_2 f_automaton_out_2; rw [hw (s + 1) (by omega) (by omega) x hx]) h.ed hs.2.2
  rw [k1, e1]
  simp only [Option.bind_some]
  rw [k2]
  simp only [Option.bind_some]
  have hle : (a.Edges.filter fun x => decide (x.From < s)).length ≤ (a.Edges.filter fun x => decide (x.From < s + 1)).length :=
    by rw [← List.countP_eq_length_filter, ← List.countP_eq_length_filter]; exact List.countP_mono_left fun x _ hx => by simp at hx ⊢; omega
  rw [slcO_nat hle (List.length_filter_le _ _), out_parts s h.ed]
  rfl
theorem next_ok {s e : Int} (h0 : -1000000000000 < s) (h1 : s < 1000000000000) : g_automaton_next a s e = some (stepP a s e) := by
  unfold g_automaton_next f_automaton_next
  rw [out_ok h hs h0 h1]
  simp only [Option.bind_some]
  have hl : (outP a s).length < big := Nat.lt_of_le_of_lt (List.length_filter_le _ _) hs.2.2
  have hf : stepP a s e = match (outP a s).find? (fun x => x.Event == e) with | some x => x.To | none => -1 := by
    unfold stepP outP; rw [List.find?_filter]
    have : (fun x : api_Edge => decide ((x.From == s) = true ∧ (x.Event == e) = true)) = fun x => x.From == s && x.Event == e := by
      funext x; rw [Bool.eq_iff_iff]; simp
    rw [this]
  rw [hf]
  generalize outP a s = l at hl
  have hi : g_slices_IndexFunc_Edge l (fun a6 => g_automaton_next_1 a6 e) = some (if ∃ x ∈ l, x.Event = e then (l.findIdx (fun x => x.Event == e) : Int) else -1) := by
    have hb : l.length < 1000000000000 := hl
    unfold g_slices_IndexFunc_Edge f_slices_IndexFunc_Edge
    refine (iterF_idx (len := l.length) (fun k => some (if ∃ x ∈ l.drop k, x.Event = e then ((k + (l.drop k).findIdx (fun x => x.Event == e) : Nat) : Int) else -1)) (by unfold fuel0; omega) ?_ ?_).trans (by simp)
    · intro k i hi ih
      rw [if_pos (by omega), getO_nat hi, wrap_succ (by omega), ih, List.drop_eq_getElem_cons hi]
      simp only [Option.bind_some, g_automaton_next_1, f_automaton_next_1, List.findIdx_cons]
      by_cases hx : l[i].Event = e
      · have hxb : (l[i].Event == e) = true := by simp [hx]
        have hz : ∃ x ∈ l[i] :: l.drop (i + 1), x.Event = e := ⟨l[i], List.mem_cons_self, hx⟩
        simp only [hxb, if_true, if_pos hz, cond_true]; rfl
      · have hxb : (l[i].Event == e) = false := by simp [hx]
        by_cases hy : ∃ x ∈ l.drop (i + 1), x.Event = e
        · have hz : ∃ x ∈ l[i] :: l.drop (i + 1), x.Event = e := by obtain ⟨x, k1, k2⟩ := hy; exact ⟨x, List.mem_cons_of_mem _ k1, k2⟩
          simp only [hxb, Bool.false_eq_true, if_false, if_pos hy, if_pos hz, cond_false]
          have : ∀ n : Nat, i + 1 + n = i + (n + 1) := fun n => by omega
          rw [this]
        · have hz : ¬ ∃ x ∈ l[i] :: l.drop (i + 1), x.Event = e := by
            rintro ⟨x, k1, k2⟩
            rcases List.mem_cons.1 k1 with rfl | k1
            · exact hx k2
            · exact hy ⟨x, k1, k2⟩
          simp only [hxb, Bool.false_eq_true, if_false, if_neg hy, if_neg hz, cond_false]
    · intro k; simp
  rw [hi]
  simp only [Option.bind_some]
  by_cases hx : ∃ x ∈ l, x.Event = e
  · rw [if_pos hx, if_neg (by omega)]
    have hlt : l.findIdx (fun x => x.Event == e) < l.length := by
      rw [List.findIdx_lt_length]; obtain ⟨x, k1, k2⟩ := hx; exact ⟨x, k1, by simp [k2]⟩
    rw [getO_nat hlt]
    simp only [Option.bind_some]
    rw [show l.find? (fun x => x.Event == e) = some l[l.findIdx (fun x => x.Event == e)] from by
      rw [List.find?_eq_some_iff_getElem]
      refine ⟨List.findIdx_getElem (w := hlt), _, hlt, rfl, fun j hj => ?_⟩
      have := List.not_of_lt_findIdx hj
      simpa using this]
  · rw [if_neg hx, if_pos (by omega)]
    rw [show l.find? (fun x => x.Event == e) = none from List.find?_eq_none.2 fun x hx' hy => hx ⟨x, hx', by simpa using hy⟩]
end
theorem stepP_range {a : api_Automaton} (h : Right a) (s e : Int) : stepP a s e = -1 ∨ 0 ≤ stepP a s e ∧ stepP a s e < a.States ∧ 0 ≤ s ∧ s < a.States ∧ e ∈ a.Alphabet := by
  unfold stepP
  split
  · rename_i x hx
    have hm := List.mem_of_find?_eq_some hx
    have hp := List.find?_some hx
    obtain ⟨k1, k2, k3, k4, k5⟩ := h.ed0 x hm
    simp at hp
    exact .inr ⟨k3, k4, by omega, by omega, hp.2 ▸ k5⟩
  · exact .inl rfl
end Go.Abs
end
section
namespace Go.Abs
open Go
set_option linter.unusedSimpArgs false
set_option linter.unusedVariables false
theorem Right.small {a : api_Automaton} (h : Right a) : small a ∧ a.Alphabet.length ≤ 32 ∧ a.Marked.length ≤ 4096 ∧ a.Edges.length ≤ 131072 := by
  have h1 := sorted_len h.al h.al0
  have h2 := sorted_len h.ma h.ma0
  have h3 : (a.Edges.map fun x => x.From * 32 + x.Event).Pairwise (· < ·) := by
    rw [List.pairwise_map]
    refine List.Pairwise.imp_of_mem (fun {x y} hx hy hk => ?_) h.ed
    have := h.al0 _ (h.ed0 x hx).2.2.2.2
    have := h.al0 _ (h.ed0 y hy).2.2.2.2
    unfold keyLt at hk; omega
  have h4 := sorted_len (a := 0) (b := 131072) h3 (by
    intro z hz
    obtain ⟨x, hx, rfl⟩ := List.mem_map.1 hz
    have := h.al0 _ (h.ed0 x hx).2.2.2.2
    have := h.ed0 x hx
    have := h.st
    omega)
  rw [List.length_map] at h4
  have := h.st
  refine ⟨⟨?_, ?_, ?_⟩, ?_, ?_, ?_⟩ <;> (try unfold big) <;> omega
theorem check_right {a : api_Automaton} (h : Right a) : g_automaton_Check a = some 0 := by rw [check_ok h.small.1, right_iff.2 h]
end Go.Abs
end
section
namespace Go.Abs
open Go
set_option linter.unusedSimpArgs false
set_option linter.unusedVariables false
structure Fnd (a : api_Automaton) (o : List Int) : Prop where
  nd : o.Nodup
  rg : ∀ s ∈ o, 0 ≤ s ∧ s < a.States
theorem Fnd.len {a : api_Automaton} {o : List Int} (h : Fnd a o) : o.length ≤ a.States.toNat := by
  have hO : Go.Sort.SWO ltInt' := ⟨fun x => by simp [ltInt'], fun x y z h1 h2 => by simp [ltInt'] at *; omega, fun x y z h1 h2 => by simp [ltInt'] at *; omega⟩
  have hp := isortB_perm ltInt' o
  have hs := isortB_sorted hO o
  have hn : (isortB ltInt' o).Nodup := (hp.nodup_iff).2 h.nd
  have hlt : (isortB ltInt' o).Pairwise (· < ·) := by
    have : (isortB ltInt' o).Pairwise fun x y => ltInt' y x = false ∧ x ≠ y := hs.and hn
    exact this.imp fun ⟨h1, h2⟩ => by simp [ltInt'] at h1; omega
  have := sorted_len hlt (a := 0) (b := a.States) fun x hx => h.rg x (hp.mem_iff.1 hx)
  rw [isortB_length] at this
  simpa using this
end Go.Abs
end
section
namespace Go.Abs
open Go
set_option linter.unusedSimpArgs false
set_option linter.unusedVariables false
section
variable {a : api_Automaton} (h : Right a)
include h
end
end Go.Abs
end
section
namespace Go.Abs
open Go
set_option linter.unusedSimpArgs false
set_option linter.unusedVariables false
theorem less_ok (x y : Int) : g_cmp_Less_int x y = some (decide (x < y)) := by
  unfold g_cmp_Less_int f_cmp_Less_int g_cmp_isNaN_int f_cmp_isNaN_int
  simp
theorem isNaN_ok (x : Int) : g_slices_isNaN_int x = some false := by
  unfold g_slices_isNaN_int f_slices_isNaN_int
  simp
theorem rise_mono {l : List Int} (h : l.Pairwise (· < ·)) (v : Int) : l.Pairwise fun a b => decide (b < v) = true → decide (a < v) = true :=
  h.imp fun h => by simp; omega
theorem search_ok {l : List Int} {v : Int} (hs : l.Pairwise (· < ·)) (hl : l.length < big) : ∃ n, g_slices_BinarySearch_int l v = some (n, decide (v ∈ l)) := by
  have hc := fun n h => count_mono (p := fun x : Int => decide (x < v)) (rise_mono hs v) n h
  have hcl : (l.filter fun x => decide (x < v)).length ≤ l.length := List.length_filter_le _ _
  generalize (l.filter fun x => decide (x < v)).length = c at hc hcl
  have hb : l.length < 1000000000000 := hl
  unfold g_slices_BinarySearch_int f_slices_BinarySearch_int
  obtain ⟨fuel, hfu, hge⟩ : ∃ f, fuel0 = f ∧ 1099511627776 ≤ f := ⟨_, rfl, Nat.le_refl _⟩
  rw [hfu]
  have hloop := iterF_rule (F := fun (k5 : Int × Int → Option Int) ((i3, j4) : Int × Int) => (if (i3 < j4) then ((getO l (IntKind.wrap .i64 (Int.fdiv (IntKind.wrap .u64 (IntKind.wrap .i64 (i3 + j4))) (2 ^ (min (Int.toNat 1) (IntKind.bits .u64)))))).bind fun x7 => ((g_cmp_Less_int x7 v).bind fun x10 => (if x10 then k5 ((IntKind.wrap .i64 ((IntKind.wrap .i64 (Int.fdiv (IntKind.wrap .u64 (IntKind.wrap .i64 (i3 + j4))) (2 ^ (min (Int.toNat 1) (IntKind.bits .u64))))) + 1)), j4) else k5 (i3, (IntKind.wrap .i64 (Int.fdiv (IntKind.wrap .u64 (IntKind.wrap .i64 (i3 + j4))) (2 ^ (min (Int.toNat 1) (IntKind.bits .u64))))))))) else some i3))
    (fun x => ∃ i j : Nat, x = ((i : Int), (j : Int)) ∧ i ≤ c ∧ c ≤ j ∧ j ≤ l.length) (fun x => (x.2 - x.1).toNat) (fun _ r => r = some (c : Int)) (by
      rintro k _ ⟨i, j, rfl, h1, h2, h3⟩ ih
      dsimp only
      by_cases hij : i < j
      · rw [if_pos (by omega), mid_ok (by omega) (by omega)]
        have hm : (i + j) / 2 < l.length := by omega
        rw [getO_nat hm]
        simp only [Option.bind_some]
        rw [less_ok]
        simp only [Option.bind_some]
        have hcm := hc ((i + j) / 2) hm
        by_cases hlt : l[(i + j) / 2] < v
        · rw [if_pos (by simpa using hlt), wrap_succ (by omega)]
          have : (i + j) / 2 < c := hcm.1 (by simpa using hlt)
          exact ih _ ⟨_, _, rfl, by omega, h2, h3⟩ (by simp only; omega)
        · rw [if_neg (by simpa using hlt)]
          have : ¬ (i + j) / 2 < c := fun h => hlt (by simpa using hcm.2 h)
          exact ih _ ⟨_, _, rfl, h1, by omega, by omega⟩ (by simp only; omega)
      · rw [if_neg (by omega)]
        have : i = c := by omega
        rw [this]) fuel (0, (l.length : Int)) ⟨0, l.length, rfl, by omega, hcl, Nat.le_refl _⟩ (by simp only; omega)
  rw [hloop]
  simp only [Option.bind_some]
  have hmem : v ∈ l ↔ ∃ h : c < l.length, l[c] = v := by
    constructor
    · intro hv
      obtain ⟨j, hj, rfl⟩ := List.getElem_of_mem hv
      have h1 : ¬ j < c := fun h => by have := (hc j hj).2 h; simp at this
      have h2 : c < l.length := by omega
      refine ⟨h2, ?_⟩
      have h3 : ¬ l[c] < l[j] := fun h => by have := (hc c h2).1 (by simpa using h); omega
      rcases Nat.lt_or_ge c j with h | h
      · have := List.pairwise_iff_getElem.1 hs c j h2 hj h; omega
      · have : c = j := by omega
        subst this; rfl
    · rintro ⟨h, rfl⟩; exact List.getElem_mem h
  by_cases hlt : c < l.length
  · rw [if_pos (by omega), getO_nat hlt]
    simp only [Option.bind_some]
    by_cases he : l[c] = v
    · rw [if_pos (by simpa using he)]
      exact ⟨_, by rw [decide_eq_true (hmem.2 ⟨hlt, he⟩)]⟩
    · rw [if_neg (by simpa using he), isNaN_ok]
      exact ⟨_, by rw [decide_eq_false (fun h => he (hmem.1 h).2)]; rfl⟩
  · rw [if_neg (by omega)]
    exact ⟨_, by rw [decide_eq_false (fun h => hlt (hmem.1 h).1)]⟩
structure Num (a : api_Automaton) (o num : List Int) : Prop where
  len : num.length = a.States.toNat
  at1 : ∀ s : Nat, s < a.States.toNat → num[s]? = some (if (s : Int) ∈ o then (o.idxOf (s : Int) : Int) else -1)
theorem Num.set {a : api_Automaton} {o num : List Int} (h : Num a o num) {t : Int} (ht : 0 ≤ t ∧ t < a.States) (hn : t ∉ o) : ∃ num', setO num t (o.length : Int) = some num' ∧ Num a (o ++ [t]) num' := by
  refine ⟨num.set t.toNat (o.length : Int), by unfold setO; rw [if_pos ⟨ht.1, by rw [h.len]; omega⟩], by rw [List.length_set]; exact h.len, fun s hs => ?_⟩
  rw [List.getElem?_set]
  by_cases he : t.toNat = s
  · subst he
    rw [if_pos rfl, if_pos (by rw [h.len]; omega), show ((t.toNat : Nat) : Int) = t from by omega, if_pos (by simp), List.idxOf_append, if_neg hn]
    simp
  · rw [if_neg he, h.at1 s hs]
    have hne : (s : Int) ≠ t := by omega
    by_cases hm : (s : Int) ∈ o
    · rw [if_pos hm, if_pos (by simp [hm]), List.idxOf_append, if_pos hm]
    · rw [if_neg hm, if_neg (by simp [hm, hne])]
section
variable {a : api_Automaton} (h : Right a)
include h
end
end Go.Abs
end
section
namespace Go.Abs
open Go
set_option linter.unusedSimpArgs false
set_option linter.unusedVariables false
def runP (a : api_Automaton) : Int → Nat → List Int → Int × Int
  | s, n, [] => (s, n)
  | s, n, e :: w => if 0 ≤ stepP a s e then runP a (stepP a s e) (n + 1) w else (s, n)
section
variable {a : api_Automaton} (h : Right a)
include h
theorem follow_ok {s : Int} {w : List Int} (h0 : -1000000 < s) (h1 : s < 1000000) (hw : w.length < big) : g_automaton_follow a s w = some (runP a s 0 w) := by
  have hs := h.small.1
  have hst := h.st
  have hb : w.length < 1000000000000 := hw
  unfold g_automaton_follow f_automaton_follow
  obtain ⟨fuel, hfu, hge⟩ : ∃ f, fuel0 = f ∧ 1099511627776 ≤ f := ⟨_, rfl, Nat.le_refl _⟩
  rw [hfu]
  refine (iterF_inv (len := w.length) (fun n (s : Int) => (s, (n : Int))) (fun n s => -1000000 < s ∧ s < 1000000) (fun n s => some (runP a s n (w.drop n))) ?_ ?_ fuel 0 s (Nat.zero_le _) (by omega) ⟨h0, h1⟩).trans (by simp)
  · intro k n s hn ⟨k1, k2⟩ ih
    dsimp only
    rw [if_pos (by omega), getO_nat hn]
    simp only [Option.bind_some]
    rw [next_ok h hs (by omega) (by omega)]
    simp only [Option.bind_some]
    rw [List.drop_eq_getElem_cons hn, runP]
    rcases stepP_range h s w[n] with hr | hr
    · rw [if_pos (by omega), if_neg (by omega)]
    · rw [if_neg (by omega), if_pos hr.1, wrap_succ (by omega)]
      exact ih _ ⟨by omega, by omega⟩
  · intro k s _
    dsimp only
    rw [if_neg (by omega)]; simp [runP]
def genP (a : api_Automaton) (w : List Int) : Bool := decide (0 < a.States) && (runP a 0 0 w).2 == (w.length : Int)
theorem generates_ok {w : List Int} (hw : w.length < big) : g_automaton_Generates a w = some (genP a w, 0) := by
  have hst := h.st
  unfold g_automaton_Generates f_automaton_Generates g_automaton_reached f_automaton_reached
  rw [check_right h, follow_ok h (by omega) (by omega) hw]
  unfold genP
  by_cases h0 : a.States = 0
  · simp [h0]
  · have : 0 < a.States := by omega
    simp [h0, this]
end
end Go.Abs
end
section
namespace Go.Abs
open Go
set_option linter.unusedSimpArgs false
set_option linter.unusedVariables false
theorem known21_ok : g_overseerlaw21_known = some true := by kernel_rfl
def bufE : Nat → Nat → List api_Edge
  | c, 0 => (if 0 < c then [⟨0, 0, 1⟩] else [])
  | c, i + 1 => bufE c i ++ (if i + 1 < c then [⟨((i + 1 : Nat) : Int), 0, ((i + 2 : Nat) : Int)⟩] else []) ++ [⟨((i + 1 : Nat) : Int), 1, (i : Int)⟩]
def bufA (c : Nat) : api_Automaton := ⟨[0, 1], ((c + 1 : Nat) : Int), [0], bufE c c⟩
theorem buf1 : g_requirement_Buffer [0] [1] 1 = some (bufA 1, 0) := by kernel_rfl
theorem buf2 : g_requirement_Buffer [0] [1] 2 = some (bufA 2, 0) := by kernel_rfl
theorem buf3 : g_requirement_Buffer [0] [1] 3 = some (bufA 3, 0) := by kernel_rfl
theorem buf4 : g_requirement_Buffer [0] [1] 4 = some (bufA 4, 0) := by kernel_rfl
theorem alt01 : g_requirement_Alternate [0, 1] = some (bufA 1, 0) := by kernel_rfl
theorem alphabetContains_ok {l : List Int} {v : Int} (hs : l.Pairwise (· < ·)) (hl : l.length < big) : g_alphabet_Contains l v = some (decide (v ∈ l)) := by
  unfold g_alphabet_Contains f_alphabet_Contains
  obtain ⟨n, h⟩ := search_ok (v := v) hs hl
  rw [h]; rfl
def oor (x : Int) : Bool := decide (x < 0 ∨ x ≥ 32)
theorem allows_ok {a : api_Automaton} (h : Right a) {w : List Int} (hw : w.length < big) :
    g_requirement_Allows a w = some (if w.length > 4096 then (false, 15) else if w.any oor then (false, 2) else (genP a (w.filter fun x => decide (x ∈ a.Alphabet)), 0)) := by
  have hb : w.length < 1000000000000 := hw
  unfold g_requirement_Allows f_requirement_Allows
  obtain ⟨fuel, hfu, hge⟩ : ∃ f, fuel0 = f ∧ 1099511627776 ≤ f := ⟨_, rfl, Nat.le_refl _⟩
  rw [hfu, check_right h, Option.bind_some, if_neg (by simp)]
  by_cases hl : w.length > 4096
  · rw [if_pos (by omega), if_pos hl]
  rw [if_neg (by omega), if_neg hl]
  refine (iterF_inv (len := w.length) (fun n (own : List Int) => (own, (n : Int))) (fun n own => own = (w.take n).filter (fun x => decide (x ∈ a.Alphabet)) ∧ (w.take n).any oor = false) (fun n own => some (if w.any oor then (false, 2) else (genP a (w.filter fun x => decide (x ∈ a.Alphabet)), 0))) ?_ ?_ fuel 0 [] (Nat.zero_le _) (by omega) ⟨by simp, by simp⟩)
  · rintro k n own hn ⟨hi, ho⟩ ih
    have hown : own.length ≤ n := by rw [hi]; exact Nat.le_trans (List.length_filter_le _ _) (by rw [List.length_take]; omega)
    unfold letJ
    dsimp only
    rw [if_pos (by omega), getO_nat hn, wrap_succ (by omega)]
    simp only [Option.bind_some]
    by_cases h1 : oor w[n] = true
    · have hany : w.any oor = true := List.any_eq_true.2 ⟨_, List.getElem_mem hn, h1⟩
      simp only [oor, decide_eq_true_eq] at h1
      rw [hany]
      rcases h1 with h1 | h1
      · simp [h1]
      · rw [if_neg (by omega)]; simp [h1]
    · have h1' := h1
      simp only [oor, decide_eq_true_eq, not_or, Int.not_lt] at h1
      rw [if_neg (by omega)]
      simp only [Option.bind_some, show decide (w[n] ≥ 32) = false from by simp; omega, Bool.false_eq_true, if_false]
      rw [alphabetContains_ok h.al h.small.1.1]
      simp only [Option.bind_some]
      have hta : (w.take (n + 1)).any oor = false := by
        rw [List.take_succ_eq_append_getElem hn, List.any_append, ho]; simpa using h1'
      by_cases hm : w[n] ∈ a.Alphabet
      · simp only [hm, decide_true, if_true]
        rw [appO_some (by simp only [List.length_cons, List.length_nil]; unfold lim; omega)]
        simp only [Option.bind_some]
        exact ih _ ⟨by rw [List.take_succ_eq_append_getElem hn, List.filter_append, hi]; simp [hm], hta⟩
      · simp only [hm, decide_false, Bool.false_eq_true, if_false]
        exact ih _ ⟨by rw [List.take_succ_eq_append_getElem hn, List.filter_append, hi]; simp [hm], hta⟩
  · rintro k own ⟨hi, ho⟩
    rw [List.take_length] at hi ho
    subst hi
    dsimp only
    rw [if_neg (by omega)]
    have hfl : (w.filter fun x => decide (x ∈ a.Alphabet)).length < big := Nat.lt_of_le_of_lt (List.length_filter_le _ _) hw
    rw [generates_ok h hfl, ho]; simp
def wantP (c : Int) : Int → List Int → Bool
  | _, [] => true
  | n, x :: xs => decide (0 ≤ n + (1 - 2 * x) ∧ n + (1 - 2 * x) ≤ c) && wantP c (n + (1 - 2 * x)) xs
theorem bufA_right : ∀ c, 1 ≤ c → c ≤ 4 → Right (bufA c) := by
  intro c h1 h4
  have : c = 1 ∨ c = 2 ∨ c = 3 ∨ c = 4 := by omega
  rcases this with rfl | rfl | rfl | rfl <;> exact right_iff.1 (by decide)
theorem bufA_step : ∀ c, 1 ≤ c → c ≤ 4 → ∀ s : Nat, s ≤ c → stepP (bufA c) s 0 = (if s < c then ((s + 1 : Nat) : Int) else -1) ∧ stepP (bufA c) s 1 = (if 0 < s then ((s - 1 : Nat) : Int) else -1) := by
  intro c h1 h4 s hs
  have : c = 1 ∨ c = 2 ∨ c = 3 ∨ c = 4 := by omega
  have hs2 : s = 0 ∨ s = 1 ∨ s = 2 ∨ s = 3 ∨ s = 4 := by omega
  rcases this with rfl | rfl | rfl | rfl <;> rcases hs2 with rfl | rfl | rfl | rfl | rfl <;> first | omega | exact ⟨by decide, by decide⟩
theorem buf_run {c : Nat} (h1 : 1 ≤ c) (h4 : c ≤ 4) : ∀ (w : List Int) (s k : Nat), s ≤ c → (∀ x ∈ w, x = 0 ∨ x = 1) → ((runP (bufA c) s k w).2 == ((k + w.length : Nat) : Int)) = wantP c s w
  | [], s, k, hs, _ => by simp [runP, wantP]
  | x :: w, s, k, hs, hw => by
    obtain ⟨e0, e1⟩ := bufA_step c h1 h4 s hs
    have hx := hw x (by simp)
    have hw' : ∀ x ∈ w, x = 0 ∨ x = 1 := fun y hy => hw y (by simp [hy])
    simp only [runP, wantP, List.length_cons]
    rcases hx with rfl | rfl
    · rw [e0]
      by_cases hlt : s < c
      · rw [if_pos hlt, if_pos (by omega)]
        have := buf_run h1 h4 w (s + 1) (k + 1) (by omega) hw'
        rw [show k + (w.length + 1) = k + 1 + w.length from by omega, this]
        have : (s : Int) + (1 - 2 * 0) = ((s + 1 : Nat) : Int) := by omega
        rw [this, decide_eq_true (by omega)]; simp
      · rw [if_neg hlt, if_neg (by omega)]
        have : decide (0 ≤ (s : Int) + (1 - 2 * 0) ∧ (s : Int) + (1 - 2 * 0) ≤ (c : Int)) = false := decide_eq_false (by omega)
        rw [this]; simp; omega
    · rw [e1]
      by_cases hlt : 0 < s
      · rw [if_pos hlt, if_pos (by omega)]
        have := buf_run h1 h4 w (s - 1) (k + 1) (by omega) hw'
        rw [show k + (w.length + 1) = k + 1 + w.length from by omega, this]
        have : (s : Int) + (1 - 2 * 1) = ((s - 1 : Nat) : Int) := by omega
        rw [this, decide_eq_true (by omega)]; simp
      · rw [if_neg hlt, if_neg (by omega)]
        have : decide (0 ≤ (s : Int) + (1 - 2 * 1) ∧ (s : Int) + (1 - 2 * 1) ≤ (c : Int)) = false := decide_eq_false (by omega)
        rw [this]; simp; omega
theorem buf_gen {c : Nat} (h1 : 1 ≤ c) (h4 : c ≤ 4) {w : List Int} (hw : ∀ x ∈ w, x = 0 ∨ x = 1) : genP (bufA c) w = wantP c 0 w := by
  have := buf_run h1 h4 w 0 0 (by omega) hw
  unfold genP
  rw [show ((w.length : Nat) : Int) = ((0 + w.length : Nat) : Int) from by simp]
  rw [show (0 : Int) = ((0 : Nat) : Int) from rfl] at *
  rw [this, decide_eq_true (show ((0 : Nat) : Int) < (bufA c).States from by show ((0 : Nat) : Int) < ((c + 1 : Nat) : Int); omega)]; simp
theorem buf_allows {c : Nat} (h1 : 1 ≤ c) (h4 : c ≤ 4) {w : List Int} (hl : w.length ≤ 12) (hw : ∀ x ∈ w, x = 0 ∨ x = 1) : g_requirement_Allows (bufA c) w = some (wantP c 0 w, 0) := by
  rw [allows_ok (bufA_right c h1 h4) (by unfold big; omega), if_neg (by omega)]
  have h2 : w.any oor = false := by
    rw [List.any_eq_false]
    intro x hx
    rcases hw x hx with rfl | rfl <;> decide
  have h3 : (w.filter fun x => decide (x ∈ (bufA c).Alphabet)) = w := List.filter_eq_self.2 fun x hx => by
    rcases hw x hx with rfl | rfl <;> simp [bufA]
  rw [h2, h3, buf_gen h1 h4 hw]; rfl
theorem puts_loop {c : Int} (hc : 1 ≤ c ∧ c ≤ 4) (fuel : Nat) (hfu : 1099511627776 ≤ fuel) {word : List Int} (hl : word.length ≤ 12) (hu : ∀ x ∈ word, 0 ≤ x ∧ x < 256) :
    iterF (fun k24 ((c19, n20, want21, w22, x23) : Int × Int × Bool × (List Int) × Int) => (if (x23 < (word.length : Int)) then ((((getO word x23).bind fun x26 => ((appO w22 [(IntKind.wrap .i64 (Int.tmod x26 2))]).bind fun x28 => (if want21 then (if ((IntKind.wrap .i64 (n20 + (IntKind.wrap .i64 (1 - (IntKind.wrap .i64 (2 * (IntKind.wrap .i64 (Int.tmod x26 2)))))))) ≥ 0) then some ((IntKind.wrap .i64 (n20 + (IntKind.wrap .i64 (1 - (IntKind.wrap .i64 (2 * (IntKind.wrap .i64 (Int.tmod x26 2)))))))), decide ((IntKind.wrap .i64 (n20 + (IntKind.wrap .i64 (1 - (IntKind.wrap .i64 (2 * (IntKind.wrap .i64 (Int.tmod x26 2)))))))) ≤ c19), x28, (IntKind.wrap .i64 (Int.tmod x26 2))) else some ((IntKind.wrap .i64 (n20 + (IntKind.wrap .i64 (1 - (IntKind.wrap .i64 (2 * (IntKind.wrap .i64 (Int.tmod x26 2)))))))), false, x28, (IntKind.wrap .i64 (Int.tmod x26 2)))) else some ((IntKind.wrap .i64 (n20 + (IntKind.wrap .i64 (1 - (IntKind.wrap .i64 (2 * (IntKind.wrap .i64 (Int.tmod x26 2)))))))), false, x28, (IntKind.wrap .i64 (Int.tmod x26 2))))))).bind fun ((n32, want33, w34, c35) : Int × Bool × (List Int) × Int) => k24 (c19, n32, want33, w34, (IntKind.wrap .i64 (x23 + 1)))) else some (want21, w22))) fuel (c, 0, true, [], 0) = some (wantP c 0 (word.map fun x => x.tmod 2), word.map fun x => x.tmod 2) := by
  have hm : ∀ x ∈ word, 0 ≤ x.tmod 2 ∧ x.tmod 2 < 2 := fun x hx => ⟨Int.tmod_nonneg _ (hu x hx).1, Int.tmod_lt_of_pos _ (by omega)⟩
  refine (iterF_inv (len := word.length) (fun n (s : Int × Bool × List Int) => (c, s.1, s.2.1, s.2.2, (n : Int))) (fun n s => -12 ≤ s.1 + (12 - n) ∧ s.1 ≤ n ∧ -(n : Int) ≤ s.1 ∧ s.2.2 = (word.take n).map fun x => x.tmod 2) (fun n s => some (s.2.1 && wantP c s.1 ((word.drop n).map fun x => x.tmod 2), word.map fun x => x.tmod 2)) ?_ ?_ fuel 0 (0, true, []) (Nat.zero_le _) (by omega) ⟨by simp, by simp, by simp, by simp⟩).trans (by simp)
  · rintro k n ⟨m, want, w⟩ hn ⟨h0, h1, h2, h3⟩ ih
    replace h1 : m ≤ n := h1
    replace h2 : -(n : Int) ≤ m := h2
    replace h3 : w = (word.take n).map fun x => x.tmod 2 := h3
    dsimp only
    have hx := hm _ (List.getElem_mem hn)
    rw [if_pos (by omega), getO_nat hn]
    simp only [Option.bind_some]
    generalize hX : word[n].tmod 2 = X at hx
    rw [wrap_id (x := X) (by omega) (by omega), wrap_id (x := 2 * X) (by omega) (by omega), wrap_id (x := 1 - 2 * X) (by omega) (by omega), wrap_id (x := m + (1 - 2 * X)) (by omega) (by omega), wrap_succ (by omega)]
    have hwl : w.length ≤ n := by rw [h3, List.length_map, List.length_take]; omega
    rw [appO_some (by simp only [List.length_cons, List.length_nil]; unfold lim; omega)]
    simp only [Option.bind_some]
    have hI : ∀ b : Bool, -12 ≤ (m + (1 - 2 * X), b, w ++ [X]).1 + (12 - ((n + 1 : Nat) : Int)) ∧ (m + (1 - 2 * X), b, w ++ [X]).1 ≤ ((n + 1 : Nat) : Int) ∧ -((n + 1 : Nat) : Int) ≤ (m + (1 - 2 * X), b, w ++ [X]).1 ∧ (m + (1 - 2 * X), b, w ++ [X]).2.2 = (word.take (n + 1)).map fun x => x.tmod 2 := fun b => by
      refine ⟨by simp only; omega, by simp only; omega, by simp only; omega, ?_⟩
      rw [List.take_succ_eq_append_getElem hn, List.map_append, h3]; simp [hX]
    rw [List.drop_eq_getElem_cons hn, List.map_cons, hX]
    simp only [wantP]
    cases want with
    | true =>
      simp only [if_true, Bool.true_and]
      by_cases hge : m + (1 - 2 * X) ≥ 0
      · rw [if_pos hge]
        simp only [Option.bind_some]
        have := ih (m + (1 - 2 * X), decide (m + (1 - 2 * X) ≤ c), w ++ [X]) (hI _)
        rw [this]
        have hd : decide (0 ≤ m + (1 - 2 * X) ∧ m + (1 - 2 * X) ≤ c) = decide (m + (1 - 2 * X) ≤ c) := decide_eq_decide.2 ⟨fun h => h.2, fun h => ⟨hge, h⟩⟩
        rw [hd]
      · rw [if_neg hge]
        simp only [Option.bind_some]
        have := ih (m + (1 - 2 * X), false, w ++ [X]) (hI _)
        rw [this]
        have hd : decide (0 ≤ m + (1 - 2 * X) ∧ m + (1 - 2 * X) ≤ c) = false := decide_eq_false fun h => hge h.1
        rw [hd]
        try rfl
    | false =>
      simp only [Bool.false_eq_true, if_false, Option.bind_some, Bool.false_and]
      have := ih (m + (1 - 2 * X), false, w ++ [X]) (hI _)
      rw [this]
      try rfl
  · rintro k ⟨m, want, w⟩ ⟨_, _, _, h3⟩
    replace h3 : w = (word.take word.length).map fun x => x.tmod 2 := h3
    dsimp only
    rw [if_neg (by omega), h3, List.take_length]; simp [wantP]
theorem requirementWords_ok (cap : Int) (word : List Int) (hc : 0 ≤ cap ∧ cap < 256) (hu : ∀ x ∈ word, 0 ≤ x ∧ x < 256) : g_overseerlaw21_RequirementWords cap word = some true := by
  unfold g_overseerlaw21_RequirementWords f_overseerlaw21_RequirementWords
  obtain ⟨fuel, hfu, hge⟩ : ∃ f, fuel0 = f ∧ 1099511627776 ≤ f := ⟨_, rfl, Nat.le_refl _⟩
  rw [hfu, known21_ok]
  simp only [Option.bind_some, if_true]
  by_cases h12 : (word.length : Int) > 12
  · simp [h12]
  simp only [h12, decide_false, Bool.false_eq_true, if_false]
  have hm0 : 0 ≤ cap.tmod 4 := Int.tmod_nonneg _ hc.1
  have hm1 : cap.tmod 4 < 4 := Int.tmod_lt_of_pos _ (by omega)
  rw [wrap_id (x := cap.tmod 4) (by omega) (by omega), wrap_id (by omega) (by omega)]
  obtain ⟨c, hcc⟩ : ∃ c : Nat, (c : Int) = 1 + cap.tmod 4 := ⟨(1 + cap.tmod 4).toNat, by omega⟩
  have c1 : 1 ≤ c := by omega
  have c4 : c ≤ 4 := by omega
  rw [← hcc]
  have hbuf : g_requirement_Buffer [0] [1] (c : Int) = some (bufA c, 0) := by
    have : c = 1 ∨ c = 2 ∨ c = 3 ∨ c = 4 := by omega
    rcases this with rfl | rfl | rfl | rfl
    · exact buf1
    · exact buf2
    · exact buf3
    · exact buf4
  rw [hbuf, buf1, alt01]
  simp only [Option.bind_some]
  rw [puts_loop (by omega) fuel hge (by omega) hu]
  simp only [Option.bind_some]
  have hw : ∀ x ∈ word.map fun x => x.tmod 2, x = 0 ∨ x = 1 := fun x hx => by
    obtain ⟨y, hy, rfl⟩ := List.mem_map.1 hx
    have h1 : 0 ≤ y.tmod 2 := Int.tmod_nonneg _ (hu y hy).1
    have h2 : y.tmod 2 < 2 := Int.tmod_lt_of_pos _ (by omega)
    omega
  have hl : (word.map fun x => x.tmod 2).length ≤ 12 := by rw [List.length_map]; omega
  rw [buf_allows c1 c4 hl hw, buf_allows (c := 1) (by omega) (by omega) hl hw]
  simp
end Go.Abs
end
