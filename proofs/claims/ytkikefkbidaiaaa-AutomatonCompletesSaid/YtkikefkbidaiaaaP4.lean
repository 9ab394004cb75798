/-
  Part 4 of the proof: see the last text.
-/
import Derived.Test.YtkikefkbidaiaaaP3
set_option linter.unusedVariables false
set_option linter.unusedSimpArgs false
set_option linter.unusedSectionVars false
namespace Go.Abs
open Go
set_option linter.unusedVariables false
set_option maxRecDepth 10000
set_option maxHeartbeats 4000000
theorem overseerlaw03_example_walk {P : Program} {c : Nat} (hcf : compFn P c = some F_overseerlaw03_example) : K_overseerlaw03_example P c (f_overseerlaw03_example) := by
 intro  r h
 refine fn_trP hcf rfl fun Γ M hP hnt hM => ?_
 subst hP
 refine Tr.init [] rfl ?_
 unfold f_overseerlaw03_example at h
 unfold F_overseerlaw03_example
 refine sr ((Rn.alloc trivial rfl (nt ((sr ((Rn.bslice (xs := [.d (.int .i64 0), .d (.int .i64 2)]) (cs := [.d (.int .i64 0), .d (.int .i64 2)]) trivial rfl rfl rfl rfl (Rn.bslice (xs := [.d (.int .i64 2)]) (cs := [.d (.int .i64 2)]) trivial rfl rfl rfl rfl (Rn.build (v := .agg [.d (.int .i64 0), .d (.int .i64 0), .d (.int .i64 2)]) trivial rfl (Rn.build (v := .agg [.d (.int .i64 0), .d (.int .i64 2), .d (.int .i64 0)]) trivial rfl (Rn.build (v := .agg [.d (.int .i64 2), .d (.int .i64 2), .d (.int .i64 0)]) trivial rfl (Rn.bslice (xs := [.agg [.d (.int .i64 0), .d (.int .i64 0), .d (.int .i64 2)], .agg [.d (.int .i64 0), .d (.int .i64 2), .d (.int .i64 0)], .agg [.d (.int .i64 2), .d (.int .i64 2), .d (.int .i64 0)]]) (cs := [.d (.int .i64 0), .d (.int .i64 0), .d (.int .i64 2), .d (.int .i64 0), .d (.int .i64 2), .d (.int .i64 0), .d (.int .i64 2), .d (.int .i64 2), .d (.int .i64 0)]) trivial rfl rfl rfl rfl (Rn.build (v := .agg [.sl 1 (Γ.n0 + 1) 0 2 2, .d (.int .i64 3), .sl 1 (Γ.n0 + 2) 0 1 1, .sl 3 (Γ.n0 + 6) 0 3 3]) trivial rfl (Rn.store (v := .agg [.sl 1 (Γ.n0 + 1) 0 2 2, .d (.int .i64 3), .sl 1 (Γ.n0 + 2) 0 1 1, .sl 3 (Γ.n0 + 6) 0 3 3]) (cs' := [.sl 1 (Γ.n0 + 1) 0 2 2, .d (.int .i64 3), .sl 1 (Γ.n0 + 2) 0 1 1, .sl 3 (Γ.n0 + 6) 0 3 3]) trivial rfl rfl rfl rfl rfl rfl (Rn.nil (toN ?_))))))))))))))))
 refine Tr.weak (by show WeakSt Γ _ ⟨look [(0, .ptr (Γ.n0 + 0) 0), (1, .d (.lst 1 (List.map (eI .i64) [0, 2]))), (2, .sl 1 (Γ.n0 + 2) 0 1 1), (3, .agg [.d (.int .i64 0), .d (.int .i64 0), .d (.int .i64 2)]), (4, .agg [.d (.int .i64 0), .d (.int .i64 2), .d (.int .i64 0)]), (5, .agg [.d (.int .i64 2), .d (.int .i64 2), .d (.int .i64 0)]), (6, .sl 3 (Γ.n0 + 6) 0 3 3), (7, .agg [.d (.lst 1 (List.map (eI .i64) [0, 2])), .d (.int .i64 3), .sl 1 (Γ.n0 + 2) 0 1 1, .sl 3 (Γ.n0 + 6) 0 3 3])], memOf Γ.n0 (bxs [(0, [.d (.lst 1 (List.map (eI .i64) [0, 2])), .d (.int .i64 3), .sl 1 (Γ.n0 + 2) 0 1 1, .sl 3 (Γ.n0 + 6) 0 3 3]), (2, [.d (.int .i64 2)]), (6, [.d (.int .i64 0), .d (.int .i64 0), .d (.int .i64 2), .d (.int .i64 0), .d (.int .i64 2), .d (.int .i64 0), .d (.int .i64 2), .d (.int .i64 2), .d (.int .i64 0)])]) M, Γ.n0 + 8⟩; exact weak_freeze 1 [.int .i64 0, .int .i64 2] rfl rfl ⟨(fPtr rfl), ⟨(fSl rfl rfl), ⟨(fSlO rfl), ⟨(.same rfl), ⟨(.same rfl), ⟨(.same rfl), ⟨(fSlO rfl), ⟨(WkV.agg (.cons (fSl rfl rfl) (.cons (.same rfl) (.cons (fSlO rfl) (.cons (fSlO rfl) .nil))))), trivial⟩⟩⟩⟩⟩⟩⟩⟩ ⟨⟨_, rfl, rfl, (.cons (fSl rfl rfl) (.cons (.same rfl) (.cons (fSlO rfl) (.cons (fSlO rfl) .nil))))⟩, ⟨⟨_, rfl, rfl, (.same rfl)⟩, ⟨⟨_, rfl, rfl, (.same rfl)⟩, trivial⟩⟩⟩ rfl) ?_
 refine Tr.weak (by show WeakSt Γ _ ⟨look [(0, .ptr (Γ.n0 + 0) 0), (1, .d (.lst 1 (List.map (eI .i64) [0, 2]))), (2, .d (.lst 1 (List.map (eI .i64) [2]))), (3, .agg [.d (.int .i64 0), .d (.int .i64 0), .d (.int .i64 2)]), (4, .agg [.d (.int .i64 0), .d (.int .i64 2), .d (.int .i64 0)]), (5, .agg [.d (.int .i64 2), .d (.int .i64 2), .d (.int .i64 0)]), (6, .sl 3 (Γ.n0 + 6) 0 3 3), (7, .agg [.d (.lst 1 (List.map (eI .i64) [0, 2])), .d (.int .i64 3), .d (.lst 1 (List.map (eI .i64) [2])), .sl 3 (Γ.n0 + 6) 0 3 3])], memOf Γ.n0 (bxs [(0, [.d (.lst 1 (List.map (eI .i64) [0, 2])), .d (.int .i64 3), .d (.lst 1 (List.map (eI .i64) [2])), .sl 3 (Γ.n0 + 6) 0 3 3]), (6, [.d (.int .i64 0), .d (.int .i64 0), .d (.int .i64 2), .d (.int .i64 0), .d (.int .i64 2), .d (.int .i64 0), .d (.int .i64 2), .d (.int .i64 2), .d (.int .i64 0)])]) M, Γ.n0 + 8⟩; exact weak_freeze 2 [.int .i64 2] rfl rfl ⟨(fPtr rfl), ⟨(.same rfl), ⟨(fSl rfl rfl), ⟨(.same rfl), ⟨(.same rfl), ⟨(.same rfl), ⟨(fSlO rfl), ⟨(WkV.agg (.cons (.same rfl) (.cons (.same rfl) (.cons (fSl rfl rfl) (.cons (fSlO rfl) .nil))))), trivial⟩⟩⟩⟩⟩⟩⟩⟩ ⟨⟨_, rfl, rfl, (.cons (.same rfl) (.cons (.same rfl) (.cons (fSl rfl rfl) (.cons (fSlO rfl) .nil))))⟩, ⟨⟨_, rfl, rfl, (.same rfl)⟩, trivial⟩⟩ rfl) ?_
 refine Tr.weak (by show WeakSt Γ _ ⟨look [(0, .ptr (Γ.n0 + 0) 0), (1, .d (.lst 1 (List.map (eI .i64) [0, 2]))), (2, .d (.lst 1 (List.map (eI .i64) [2]))), (3, .agg [.d (.int .i64 0), .d (.int .i64 0), .d (.int .i64 2)]), (4, .agg [.d (.int .i64 0), .d (.int .i64 2), .d (.int .i64 0)]), (5, .agg [.d (.int .i64 2), .d (.int .i64 2), .d (.int .i64 0)]), (6, .d (.lst 3 (List.map e_api_Edge [(api_Edge.mk 0 0 2), (api_Edge.mk 0 2 0), (api_Edge.mk 2 2 0)]))), (7, .agg [.d (.lst 1 (List.map (eI .i64) [0, 2])), .d (.int .i64 3), .d (.lst 1 (List.map (eI .i64) [2])), .d (.lst 3 (List.map e_api_Edge [(api_Edge.mk 0 0 2), (api_Edge.mk 0 2 0), (api_Edge.mk 2 2 0)]))])], memOf Γ.n0 (bxs [(0, [.d (.lst 1 (List.map (eI .i64) [0, 2])), .d (.int .i64 3), .d (.lst 1 (List.map (eI .i64) [2])), .d (.lst 3 (List.map e_api_Edge [(api_Edge.mk 0 0 2), (api_Edge.mk 0 2 0), (api_Edge.mk 2 2 0)]))])]) M, Γ.n0 + 8⟩; exact weak_freeze 6 [.int .i64 0, .int .i64 0, .int .i64 2, .int .i64 0, .int .i64 2, .int .i64 0, .int .i64 2, .int .i64 2, .int .i64 0] rfl rfl ⟨(fPtr rfl), ⟨(.same rfl), ⟨(.same rfl), ⟨(.same rfl), ⟨(.same rfl), ⟨(.same rfl), ⟨(fSl rfl rfl), ⟨(WkV.agg (.cons (.same rfl) (.cons (.same rfl) (.cons (.same rfl) (.cons (fSl rfl rfl) .nil))))), trivial⟩⟩⟩⟩⟩⟩⟩⟩ ⟨⟨_, rfl, rfl, (.cons (.same rfl) (.cons (.same rfl) (.cons (.same rfl) (.cons (fSl rfl rfl) .nil))))⟩, trivial⟩ rfl) ?_
 refine Tr.ret ?_
 replace h := si h; subst h
 exact ⟨.inr rfl, (.agg [.d (.lst 1 (List.map (eI .i64) [0, 2])), .d (.int .i64 3), .d (.lst 1 (List.map (eI .i64) [2])), .d (.lst 3 (List.map e_api_Edge [(api_Edge.mk 0 0 2), (api_Edge.mk 0 2 0), (api_Edge.mk 2 2 0)]))]), resCell rfl rfl rfl rfl, fun _ _ _ _ h => h, ⟨trivial, trivial, trivial, trivial, trivial⟩, fun k hk => memOf_base hk⟩
theorem automaton_checkSet_walk {P : Program} {c : Nat} (hcf : compFn P c = some F_automaton_checkSet) (fuel : Nat) : K_automaton_checkSet P c (f_automaton_checkSet fuel) := by
 intro l1 n2 r h
 refine fn_trP hcf rfl fun Γ M hP hnt hM => ?_
 subst hP
 refine Tr.init [(0, .d (.lst 1 (List.map (eI .i64) l1))), (1, .d (.int .i64 n2))] rfl ?_
 unfold f_automaton_checkSet at h
 unfold F_automaton_checkSet
 refine sr ((md rfl (nt ((Tr.seq (sr ((md rfl (Rn.lenD trivial rfl (md rfl (nt ((Tr.block ?_)))))))))))))
 refine Tr.loop (mk := fun (x3 : Int) => ⟨look [(0, .d (.lst 1 (List.map (eI .i64) l1))), (1, .d (.int .i64 n2)), (7, .d (.lst 1 (List.map (eI .i64) l1))), (8, .d (.int .i64 (l1.length : Int))), (9, .d (.int .i64 x3))], memOf Γ.n0 (bxs []) M, Γ.n0 + 35⟩) h (by show WeakSt Γ (clean _ _ _) ⟨look _, memOf _ (bxs _) _, _⟩; exact weak_clean ⟨(.same rfl), ⟨(.same rfl), ⟨(.same rfl), ⟨(.same rfl), ⟨(.same rfl), trivial⟩⟩⟩⟩⟩ trivial rfl) (fun k4 z h => ?_)
 ·obtain ⟨x3, rfl⟩ : ∃ x, x = z := ⟨_, rfl⟩
  replace h : _ = some _ := h
  refine sr ((Rn.bin trivial rfl rfl rfl (nt ((Tr.seq ?_)))))
  refine Tr.cond rfl (fun hb5 => ?_) (fun hb5 => ?_)
  ·replace h := ifT hb5 h
   refine Tr.skip (toN (Tr.seq (Tr.block (sr ((md rfl ?_))))))
   obtain ⟨x6, h7, h⟩ := bnd h
   refine Rn.idxD (e := (eI .i64)) trivial rfl rfl h7 (Rn.loadC (x := .int .i64 x6) trivial rfl (md rfl (md rfl (nt ((Tr.block ?_))))))
   refine Tr.cutB (fun (x9 : Bool) => ⟨look [(0, .d (.lst 1 (List.map (eI .i64) l1))), (1, .d (.int .i64 n2)), (5, .d (.int .i64 x3)), (6, .d (.int .i64 x6)), (7, .d (.lst 1 (List.map (eI .i64) l1))), (8, .d (.int .i64 (l1.length : Int))), (9, .d (.int .i64 x3)), (14, .d (.bool x9))], memOf Γ.n0 (bxs []) M, Γ.n0 + 35⟩) h (fun z h => ?_) (fun z h => ?_)
   ·refine Tr.rgn (md rfl (Rn.bin trivial rfl rfl rfl (md rfl ?_)))
    refine bsplit (decide (x6 < 0)) (fun hb8 => ?_) (fun hb8 => ?_)
    ·replace h := ifT hb8 h
     refine Rn.sk (nw rfl hb8) (Rn.sk (nw rfl hb8) (Rn.sk (nw rfl hb8) (Rn.pickT (v := .d (.bool true)) trivial rfl hb8 rfl (md rfl (Rn.nil ?_)))))
     replace h := si h; subst h
     show WeakSt Γ _ ⟨look _, memOf _ (bxs _) _, _⟩; exact weak_cut [] ⟨(.same rfl), ⟨(.same rfl), ⟨(.same rfl), ⟨(.same rfl), ⟨(.same rfl), ⟨(.same rfl), ⟨(.same rfl), ⟨(.same rfl), trivial⟩⟩⟩⟩⟩⟩⟩⟩ trivial rfl
    ·replace h := ifF hb8 h
     refine Rn.movD (gw rfl hb8) rfl (Rn.movD (gw rfl hb8) rfl (Rn.bin (gw rfl hb8) rfl rfl rfl (Rn.pickF (v := .d (.bool (decide (x6 ≥ n2)))) trivial rfl hb8 rfl (md rfl (Rn.nil ?_)))))
     replace h := si h; subst h
     show WeakSt Γ _ ⟨look _, memOf _ (bxs _) _, _⟩; exact weak_cut [] ⟨(.same rfl), ⟨(.same rfl), ⟨(.same rfl), ⟨(.same rfl), ⟨(.same rfl), ⟨(.same rfl), ⟨(.same rfl), ⟨(.same rfl), trivial⟩⟩⟩⟩⟩⟩⟩⟩ trivial rfl
   ·obtain ⟨x9, rfl⟩ : ∃ x, x = z := ⟨_, rfl⟩
    refine Tr.cond rfl (fun hb10 => ?_) (fun hb10 => ?_)
    ·replace h := bT hb10 h
     refine sr ((md rfl (nt ((Tr.ret ?_)))))
     replace h := si h; subst h
     exact ⟨.inr rfl, (.d (.int .i64 2)), rfl, fun _ _ _ _ h => h, trivial, fun k hk => memOf_base hk⟩
    ·replace h := bF hb10 h
     refine Tr.cutB (fun (x14 : Bool) => ⟨look [(0, .d (.lst 1 (List.map (eI .i64) l1))), (1, .d (.int .i64 n2)), (7, .d (.lst 1 (List.map (eI .i64) l1))), (8, .d (.int .i64 (l1.length : Int))), (9, .d (.int .i64 x3)), (22, .d (.bool x14))], memOf Γ.n0 (bxs []) M, Γ.n0 + 35⟩) h (fun z h => ?_) (fun z h => ?_)
     ·refine Tr.rgn (md rfl (Rn.bin trivial rfl rfl rfl (md rfl ?_)))
      refine bsplit (decide (x3 > 0)) (fun hb11 => ?_) (fun hb11 => ?_)
      ·replace h := ifT hb11 h
       refine Rn.movD (gw rfl hb11) rfl (Rn.movD (gw rfl hb11) rfl (Rn.movD (gw rfl hb11) rfl (Rn.bin (gw rfl hb11) rfl rfl rfl ?_)))
       obtain ⟨x12, h13, h⟩ := bnd h
       refine Rn.idxD (e := (eI .i64)) (gw rfl hb11) rfl rfl h13 (Rn.loadC (x := .int .i64 x12) (gw rfl hb11) rfl (Rn.bin (gw rfl hb11) rfl rfl rfl (Rn.pickT (v := .d (.bool (decide (x6 ≤ x12)))) trivial rfl hb11 rfl (md rfl (Rn.nil ?_)))))
       replace h := si h; subst h
       show WeakSt Γ _ ⟨look _, memOf _ (bxs _) _, _⟩; exact weak_cut [] ⟨(.same rfl), ⟨(.same rfl), ⟨(.same rfl), ⟨(.same rfl), ⟨(.same rfl), ⟨(.same rfl), trivial⟩⟩⟩⟩⟩⟩ trivial rfl
      ·replace h := ifF hb11 h
       refine Rn.sk (nw rfl hb11) (Rn.sk (nw rfl hb11) (Rn.sk (nw rfl hb11) (Rn.sk (nw rfl hb11) (Rn.sk (nw rfl hb11) (Rn.sk (nw rfl hb11) (Rn.sk (nw rfl hb11) (Rn.pickF (v := .d (.bool false)) trivial rfl hb11 rfl (md rfl (Rn.nil ?_)))))))))
       replace h := si h; subst h
       show WeakSt Γ _ ⟨look _, memOf _ (bxs _) _, _⟩; exact weak_cut [] ⟨(.same rfl), ⟨(.same rfl), ⟨(.same rfl), ⟨(.same rfl), ⟨(.same rfl), ⟨(.same rfl), trivial⟩⟩⟩⟩⟩⟩ trivial rfl
     ·obtain ⟨x14, rfl⟩ : ∃ x, x = z := ⟨_, rfl⟩
      refine Tr.cond rfl (fun hb15 => ?_) (fun hb15 => ?_)
      ·replace h := bT hb15 h
       refine sr ((md rfl (nt ((Tr.ret ?_)))))
       replace h := si h; subst h
       exact ⟨.inr rfl, (.d (.int .i64 5)), rfl, fun _ _ _ _ h => h, trivial, fun k hk => memOf_base hk⟩
      ·replace h := bF hb15 h
       refine Tr.skip (toN (Tr.rgn (Rn.bin trivial rfl rfl rfl (md rfl (Rn.nil ?_)))))
       exact ⟨_, h, (by show WeakSt Γ (clean _ _ _) ⟨look _, memOf _ (bxs _) _, _⟩; exact weak_clean ⟨(.same rfl), ⟨(.same rfl), ⟨(.same rfl), ⟨(.same rfl), ⟨(.same rfl), trivial⟩⟩⟩⟩⟩ trivial rfl)⟩
  ·replace h := ifF hb5 h
   refine Tr.exit (toN (sr ((md rfl (nt ((Tr.ret ?_)))))))
   replace h := si h; subst h
   exact ⟨.inr rfl, (.d (.int .i64 0)), rfl, fun _ _ _ _ h => h, trivial, fun k hk => memOf_base hk⟩
theorem slices_Index_int_walk {P : Program} {c : Nat} (hcf : compFn P c = some F_slices_Index_int) (fuel : Nat) : K_slices_Index_int P c (f_slices_Index_int fuel) := by
 intro s1 v2 r h
 refine fn_trP hcf rfl fun Γ M hP hnt hM => ?_
 subst hP
 refine Tr.init [(0, .d (.lst 1 (List.map (eI .i64) s1))), (1, .d (.int .i64 v2))] rfl ?_
 unfold f_slices_Index_int at h
 unfold F_slices_Index_int
 refine sr ((md rfl (nt ((Tr.seq (sr ((md rfl (Rn.lenD trivial rfl (md rfl (nt ((Tr.block ?_)))))))))))))
 refine Tr.loop (mk := fun (x3 : Int) => ⟨look [(0, .d (.lst 1 (List.map (eI .i64) s1))), (1, .d (.int .i64 v2)), (7, .d (.int .i64 (s1.length : Int))), (8, .d (.int .i64 x3))], memOf Γ.n0 (bxs []) M, Γ.n0 + 19⟩) h (by show WeakSt Γ (clean _ _ _) ⟨look _, memOf _ (bxs _) _, _⟩; exact weak_clean ⟨(.same rfl), ⟨(.same rfl), ⟨(.same rfl), ⟨(.same rfl), trivial⟩⟩⟩⟩ trivial rfl) (fun k4 z h => ?_)
 ·obtain ⟨x3, rfl⟩ : ∃ x, x = z := ⟨_, rfl⟩
  replace h : _ = some _ := h
  refine sr ((Rn.bin trivial rfl rfl rfl (nt ((Tr.seq ?_)))))
  refine Tr.cond rfl (fun hb5 => ?_) (fun hb5 => ?_)
  ·replace h := ifT hb5 h
   refine Tr.skip (toN (Tr.seq (Tr.block (sr ((md rfl (md rfl (nt ((sr ((md rfl (md rfl (md rfl ?_))))))))))))))
   obtain ⟨x6, h7, h⟩ := bnd h
   refine Rn.idxD (e := (eI .i64)) trivial rfl rfl h7 (Rn.loadC (x := .int .i64 x6) trivial rfl (Rn.bin trivial rfl rfl rfl (Rn.nil (toN ?_))))
   refine Tr.cond rfl (fun hb8 => ?_) (fun hb8 => ?_)
   ·replace h := bT hb8 h
    refine sr ((md rfl (md rfl (nt ((Tr.ret ?_))))))
    replace h := si h; subst h
    exact ⟨.inr rfl, (.d (.int .i64 x3)), rfl, fun _ _ _ _ h => h, trivial, fun k hk => memOf_base hk⟩
   ·replace h := bF hb8 h
    refine Tr.skip (toN (Tr.rgn (Rn.bin trivial rfl rfl rfl (md rfl (Rn.nil ?_)))))
    exact ⟨_, h, (by show WeakSt Γ (clean _ _ _) ⟨look _, memOf _ (bxs _) _, _⟩; exact weak_clean ⟨(.same rfl), ⟨(.same rfl), ⟨(.same rfl), ⟨(.same rfl), trivial⟩⟩⟩⟩ trivial rfl)⟩
  ·replace h := ifF hb5 h
   refine Tr.exit (toN (sr ((md rfl (nt ((Tr.ret ?_)))))))
   replace h := si h; subst h
   exact ⟨.inr rfl, (.d (.int .i64 (-1))), rfl, fun _ _ _ _ h => h, trivial, fun k hk => memOf_base hk⟩
theorem slices_Contains_int_walk {P : Program} {c : Nat} {f_slices_Index_int : (List Int) → Int → Option Int}
    (H_slices_Index_int : K_slices_Index_int P 54 f_slices_Index_int) (hcf : compFn P c = some F_slices_Contains_int) : K_slices_Contains_int P c (f_slices_Contains_int f_slices_Index_int) := by
 intro s1 v2 r h
 refine fn_trP hcf rfl fun Γ M hP hnt hM => ?_
 subst hP
 refine Tr.init [(0, .d (.lst 1 (List.map (eI .i64) s1))), (1, .d (.int .i64 v2))] rfl ?_
 unfold f_slices_Contains_int at h
 unfold F_slices_Contains_int
 refine sr ((md rfl (nt ((sr ((md rfl (md rfl ?_))))))))
 obtain ⟨x4, h3, h⟩ := bnd h
 refine Rn.call (args := [.d (.lst 1 (List.map (eI .i64) s1)), .d (.int .i64 v2)]) trivial rfl (H_slices_Index_int _ _ _ h3) pc9 (Rn.bin trivial rfl rfl rfl (md rfl (nt ((Tr.ret ?_)))))
 replace h := si h; subst h
 exact ⟨.inr rfl, (.d (.bool (decide (x4 ≥ 0)))), rfl, fun _ _ _ _ h => h, trivial, fun k hk => memOf_base hk⟩
theorem automaton_checkEdges_walk {P : Program} {c : Nat} {f_slices_Contains_int : (List Int) → Int → Option Bool}
    (H_slices_Contains_int : K_slices_Contains_int P 50 f_slices_Contains_int) (hcf : compFn P c = some F_automaton_checkEdges) (fuel : Nat) : K_automaton_checkEdges P c (f_automaton_checkEdges f_slices_Contains_int fuel) := by
 intro a1 r h
 refine fn_trP hcf rfl fun Γ M hP hnt hM => ?_
 subst hP
 refine Tr.init [(0, .agg [.d (.lst 1 (List.map (eI .i64) a1.Alphabet)), .d (.int .i64 a1.States), .d (.lst 1 (List.map (eI .i64) a1.Marked)), .d (.lst 3 (List.map e_api_Edge a1.Edges))])] rfl ?_
 unfold f_automaton_checkEdges at h
 unfold F_automaton_checkEdges
 refine sr ((Rn.box (v := .agg [.d (.lst 1 (List.map (eI .i64) a1.Alphabet)), .d (.int .i64 a1.States), .d (.lst 1 (List.map (eI .i64) a1.Marked)), .d (.lst 3 (List.map e_api_Edge a1.Edges))]) (cs := [.d (.lst 1 (List.map (eI .i64) a1.Alphabet)), .d (.int .i64 a1.States), .d (.lst 1 (List.map (eI .i64) a1.Marked)), .d (.lst 3 (List.map e_api_Edge a1.Edges))]) trivial rfl rfl rfl rfl rfl (md rfl (nt ((Tr.seq (sr ((Rn.fldP (o' := 3) trivial rfl rfl (Rn.load (v := .d (.lst 3 (List.map e_api_Edge a1.Edges))) trivial rfl (boxOwn rfl) rfl rfl (Rn.lenD trivial rfl (md rfl (nt ((Tr.block ?_)))))))))))))))
 refine Tr.loop (mk := fun (x2 : Int) => ⟨look [(1, .ptr (Γ.n0 + 1) 0), (7, .d (.lst 3 (List.map e_api_Edge a1.Edges))), (8, .d (.int .i64 (a1.Edges.length : Int))), (9, .d (.int .i64 x2))], memOf Γ.n0 (bxs [(1, [.d (.lst 1 (List.map (eI .i64) a1.Alphabet)), .d (.int .i64 a1.States), .d (.lst 1 (List.map (eI .i64) a1.Marked)), .d (.lst 3 (List.map e_api_Edge a1.Edges))])]) M, Γ.n0 + 72⟩) h (by show WeakSt Γ (clean _ _ _) ⟨look _, memOf _ (bxs _) _, _⟩; exact weak_clean ⟨(kPtr rfl), ⟨(.same rfl), ⟨(.same rfl), ⟨(.same rfl), trivial⟩⟩⟩⟩ ⟨⟨_, rfl, rfl, (.same rfl)⟩, trivial⟩ rfl) (fun k3 z h => ?_)
 ·obtain ⟨x2, rfl⟩ : ∃ x, x = z := ⟨_, rfl⟩
  replace h : _ = some _ := h
  refine sr ((Rn.bin trivial rfl rfl rfl (nt ((Tr.seq ?_)))))
  refine Tr.cond rfl (fun hb4 => ?_) (fun hb4 => ?_)
  ·replace h := ifT hb4 h
   refine Tr.skip (toN ?_)
   refine Tr.cutJ (fun ((c22, c23, c24) : Int × Int × Int) => ⟨look [(1, .ptr (Γ.n0 + 1) 0), (7, .d (.lst 3 (List.map e_api_Edge a1.Edges))), (8, .d (.int .i64 (a1.Edges.length : Int))), (9, .d (.int .i64 x2))], memOf Γ.n0 (bxs [(1, [.d (.lst 1 (List.map (eI .i64) a1.Alphabet)), .d (.int .i64 a1.States), .d (.lst 1 (List.map (eI .i64) a1.Marked)), .d (.lst 3 (List.map e_api_Edge a1.Edges))]), (4, [.d (.int .i64 c22), .d (.int .i64 c23), .d (.int .i64 c24)])]) M, Γ.n0 + 72⟩) h (fun J25 h => ?_) (fun z h => ?_)
   ·refine Tr.block (sr ((md rfl ?_)))
    obtain ⟨x5, h6, h⟩ := bnd h
    refine Rn.idxD (e := e_api_Edge) trivial rfl rfl h6 (Rn.loadCA (vs := [.d (.int .i64 x5.From), .d (.int .i64 x5.Event), .d (.int .i64 x5.To)]) trivial rfl rfl rfl (Rn.alloc trivial rfl (md rfl (Rn.store (v := .agg [.d (.int .i64 x5.From), .d (.int .i64 x5.Event), .d (.int .i64 x5.To)]) (cs' := [.d (.int .i64 x5.From), .d (.int .i64 x5.Event), .d (.int .i64 x5.To)]) trivial rfl rfl rfl rfl rfl rfl (nt ((Tr.seq (Tr.block ?_))))))))
    refine Tr.cutB (fun (x10 : Bool) => ⟨look [(1, .ptr (Γ.n0 + 1) 0), (3, .d (.int .i64 x2)), (4, .ptr (Γ.n0 + 4) 0), (7, .d (.lst 3 (List.map e_api_Edge a1.Edges))), (8, .d (.int .i64 (a1.Edges.length : Int))), (9, .d (.int .i64 x2)), (14, .d (.bool x10))], memOf Γ.n0 (bxs [(1, [.d (.lst 1 (List.map (eI .i64) a1.Alphabet)), .d (.int .i64 a1.States), .d (.lst 1 (List.map (eI .i64) a1.Marked)), .d (.lst 3 (List.map e_api_Edge a1.Edges))]), (4, [.d (.int .i64 x5.From), .d (.int .i64 x5.Event), .d (.int .i64 x5.To)])]) M, Γ.n0 + 72⟩) h (fun z h => ?_) (fun z h => ?_)
    ·refine Tr.rgn (Rn.fldP (o' := 0) trivial rfl rfl (Rn.load (v := .d (.int .i64 x5.From)) trivial rfl (boxOwn rfl) rfl rfl (Rn.bin trivial rfl rfl rfl (md rfl ?_))))
     refine bsplit (decide (x5.From < 0)) (fun hb7 => ?_) (fun hb7 => ?_)
     ·replace h := ifT hb7 h
      refine Rn.sk (nw rfl hb7) (Rn.sk (nw rfl hb7) (Rn.sk (nw rfl hb7) (Rn.sk (nw rfl hb7) (Rn.sk (nw rfl hb7) (Rn.pickT (v := .d (.bool true)) trivial rfl hb7 rfl (md rfl (Rn.sk (nw (b := true) rfl rfl) (Rn.sk (nw (b := true) rfl rfl) (Rn.sk (nw (b := true) rfl rfl) (Rn.pickT (v := .d (.bool true)) trivial rfl rfl rfl (md rfl (Rn.sk (nw (b := true) rfl rfl) (Rn.sk (nw (b := true) rfl rfl) (Rn.sk (nw (b := true) rfl rfl) (Rn.sk (nw (b := true) rfl rfl) (Rn.sk (nw (b := true) rfl rfl) (Rn.pickT (v := .d (.bool true)) trivial rfl rfl rfl (md rfl (Rn.nil ?_)))))))))))))))))))
      replace h := si h; subst h
      show WeakSt Γ _ ⟨look _, memOf _ (bxs _) _, _⟩; exact weak_cut [] ⟨(kPtr rfl), ⟨(.same rfl), ⟨(kPtr rfl), ⟨(.same rfl), ⟨(.same rfl), ⟨(.same rfl), ⟨(.same rfl), trivial⟩⟩⟩⟩⟩⟩⟩ ⟨⟨_, rfl, rfl, (.same rfl)⟩, ⟨⟨_, rfl, rfl, (.same rfl)⟩, trivial⟩⟩ rfl
     ·replace h := ifF hb7 h
      refine Rn.fldP (o' := 0) (gw rfl hb7) rfl rfl (Rn.load (v := .d (.int .i64 x5.From)) (gw rfl hb7) rfl (boxOwn rfl) rfl rfl (Rn.fldP (o' := 1) (gw rfl hb7) rfl rfl (Rn.load (v := .d (.int .i64 a1.States)) (gw rfl hb7) rfl (boxOwn rfl) rfl rfl (Rn.bin (gw rfl hb7) rfl rfl rfl (Rn.pickF (v := .d (.bool (decide (x5.From ≥ a1.States)))) trivial rfl hb7 rfl (md rfl ?_))))))
      refine bsplit (decide (x5.From ≥ a1.States)) (fun hb8 => ?_) (fun hb8 => ?_)
      ·replace h := ifT hb8 h
       refine Rn.sk (nw rfl hb8) (Rn.sk (nw rfl hb8) (Rn.sk (nw rfl hb8) (Rn.pickT (v := .d (.bool true)) trivial rfl hb8 rfl (md rfl (Rn.sk (nw (b := true) rfl rfl) (Rn.sk (nw (b := true) rfl rfl) (Rn.sk (nw (b := true) rfl rfl) (Rn.sk (nw (b := true) rfl rfl) (Rn.sk (nw (b := true) rfl rfl) (Rn.pickT (v := .d (.bool true)) trivial rfl rfl rfl (md rfl (Rn.nil ?_))))))))))))
       replace h := si h; subst h
       show WeakSt Γ _ ⟨look _, memOf _ (bxs _) _, _⟩; exact weak_cut [] ⟨(kPtr rfl), ⟨(.same rfl), ⟨(kPtr rfl), ⟨(.same rfl), ⟨(.same rfl), ⟨(.same rfl), ⟨(.same rfl), trivial⟩⟩⟩⟩⟩⟩⟩ ⟨⟨_, rfl, rfl, (.same rfl)⟩, ⟨⟨_, rfl, rfl, (.same rfl)⟩, trivial⟩⟩ rfl
      ·replace h := ifF hb8 h
       refine Rn.fldP (o' := 2) (gw rfl hb8) rfl rfl (Rn.load (v := .d (.int .i64 x5.To)) (gw rfl hb8) rfl (boxOwn rfl) rfl rfl (Rn.bin (gw rfl hb8) rfl rfl rfl (Rn.pickF (v := .d (.bool (decide (x5.To < 0)))) trivial rfl hb8 rfl (md rfl ?_))))
       refine bsplit (decide (x5.To < 0)) (fun hb9 => ?_) (fun hb9 => ?_)
       ·replace h := ifT hb9 h
        refine Rn.sk (nw rfl hb9) (Rn.sk (nw rfl hb9) (Rn.sk (nw rfl hb9) (Rn.sk (nw rfl hb9) (Rn.sk (nw rfl hb9) (Rn.pickT (v := .d (.bool true)) trivial rfl hb9 rfl (md rfl (Rn.nil ?_)))))))
        replace h := si h; subst h
        show WeakSt Γ _ ⟨look _, memOf _ (bxs _) _, _⟩; exact weak_cut [] ⟨(kPtr rfl), ⟨(.same rfl), ⟨(kPtr rfl), ⟨(.same rfl), ⟨(.same rfl), ⟨(.same rfl), ⟨(.same rfl), trivial⟩⟩⟩⟩⟩⟩⟩ ⟨⟨_, rfl, rfl, (.same rfl)⟩, ⟨⟨_, rfl, rfl, (.same rfl)⟩, trivial⟩⟩ rfl
       ·replace h := ifF hb9 h
        refine Rn.fldP (o' := 2) (gw rfl hb9) rfl rfl (Rn.load (v := .d (.int .i64 x5.To)) (gw rfl hb9) rfl (boxOwn rfl) rfl rfl (Rn.fldP (o' := 1) (gw rfl hb9) rfl rfl (Rn.load (v := .d (.int .i64 a1.States)) (gw rfl hb9) rfl (boxOwn rfl) rfl rfl (Rn.bin (gw rfl hb9) rfl rfl rfl (Rn.pickF (v := .d (.bool (decide (x5.To ≥ a1.States)))) trivial rfl hb9 rfl (md rfl (Rn.nil ?_)))))))
        replace h := si h; subst h
        show WeakSt Γ _ ⟨look _, memOf _ (bxs _) _, _⟩; exact weak_cut [] ⟨(kPtr rfl), ⟨(.same rfl), ⟨(kPtr rfl), ⟨(.same rfl), ⟨(.same rfl), ⟨(.same rfl), ⟨(.same rfl), trivial⟩⟩⟩⟩⟩⟩⟩ ⟨⟨_, rfl, rfl, (.same rfl)⟩, ⟨⟨_, rfl, rfl, (.same rfl)⟩, trivial⟩⟩ rfl
    ·obtain ⟨x10, rfl⟩ : ∃ x, x = z := ⟨_, rfl⟩
     refine Tr.cond rfl (fun hb11 => ?_) (fun hb11 => ?_)
     ·replace h := bT hb11 h
      refine sr ((md rfl (nt ((Tr.ret ?_)))))
      replace h := si h; subst h
      exact ⟨.inr rfl, (.d (.int .i64 2)), rfl, fun _ _ _ _ h => h, trivial, fun k hk => memOf_base hk⟩
     ·replace h := bF hb11 h
      refine sr ((Rn.fldP (o' := 0) trivial rfl rfl (Rn.load (v := .d (.lst 1 (List.map (eI .i64) a1.Alphabet))) trivial rfl (boxOwn rfl) rfl rfl (Rn.fldP (o' := 1) trivial rfl rfl (Rn.load (v := .d (.int .i64 x5.Event)) trivial rfl (boxOwn rfl) rfl rfl ?_)))))
      obtain ⟨x13, h12, h⟩ := bnd h
      refine Rn.call (args := [.d (.lst 1 (List.map (eI .i64) a1.Alphabet)), .d (.int .i64 x5.Event)]) trivial rfl (H_slices_Contains_int _ _ _ h12) pc9 (Rn.un trivial rfl rfl (md rfl (Rn.nil (toN ?_))))
      refine Tr.cond rfl (fun hb14 => ?_) (fun hb14 => ?_)
      ·have hb14 := nT' hb14
       replace h := bF hb14 h
       refine sr ((md rfl (nt ((Tr.ret ?_)))))
       replace h := si h; subst h
       exact ⟨.inr rfl, (.d (.int .i64 9)), rfl, fun _ _ _ _ h => h, trivial, fun k hk => memOf_base hk⟩
      ·have hb14 := nF' hb14
       replace h := bT hb14 h
       refine Tr.skip (toN (Tr.seq (sr ((md rfl (Rn.bin trivial rfl rfl rfl (Rn.nil (toN ?_))))))))
       refine Tr.cond rfl (fun hb15 => ?_) (fun hb15 => ?_)
       ·replace h := bT hb15 h
        refine Tr.exit ?_
        exact ⟨_, h, (by show WeakSt Γ _ ⟨look _, memOf _ (bxs _) _, _⟩; exact weak_cut [] ⟨(kPtr rfl), ⟨(.same rfl), ⟨(.same rfl), ⟨(.same rfl), trivial⟩⟩⟩⟩ ⟨⟨_, rfl, rfl, (.same rfl)⟩, ⟨⟨_, rfl, rfl, (.same rfl)⟩, trivial⟩⟩ rfl)⟩
       ·replace h := bF hb15 h
        refine Tr.skip (toN (sr ((Rn.fldP (o' := 3) trivial rfl rfl (Rn.load (v := .d (.lst 3 (List.map e_api_Edge a1.Edges))) trivial rfl (boxOwn rfl) rfl rfl (md rfl (Rn.bin trivial rfl rfl rfl ?_)))))))
        obtain ⟨x16, h17, h⟩ := bnd h
        refine Rn.idxD (e := e_api_Edge) trivial rfl rfl h17 (Rn.loadCA (vs := [.d (.int .i64 x16.From), .d (.int .i64 x16.Event), .d (.int .i64 x16.To)]) trivial rfl rfl rfl (Rn.alloc trivial rfl (Rn.store (v := .agg [.d (.int .i64 x16.From), .d (.int .i64 x16.Event), .d (.int .i64 x16.To)]) (cs' := [.d (.int .i64 x16.From), .d (.int .i64 x16.Event), .d (.int .i64 x16.To)]) trivial rfl rfl rfl rfl rfl rfl (Rn.nil (toN ?_)))))
        refine Tr.cutB (fun (x20 : Bool) => ⟨look [(1, .ptr (Γ.n0 + 1) 0), (7, .d (.lst 3 (List.map e_api_Edge a1.Edges))), (8, .d (.int .i64 (a1.Edges.length : Int))), (9, .d (.int .i64 x2)), (70, .d (.bool x20))], memOf Γ.n0 (bxs [(1, [.d (.lst 1 (List.map (eI .i64) a1.Alphabet)), .d (.int .i64 a1.States), .d (.lst 1 (List.map (eI .i64) a1.Marked)), .d (.lst 3 (List.map e_api_Edge a1.Edges))]), (4, [.d (.int .i64 x5.From), .d (.int .i64 x5.Event), .d (.int .i64 x5.To)]), (5, [.d (.int .i64 x16.From), .d (.int .i64 x16.Event), .d (.int .i64 x16.To)])]) M, Γ.n0 + 72⟩) h (fun z h => ?_) (fun z h => ?_)
        ·refine Tr.rgn (Rn.fldP (o' := 0) trivial rfl rfl (Rn.load (v := .d (.int .i64 x5.From)) trivial rfl (boxOwn rfl) rfl rfl (Rn.fldP (o' := 0) trivial rfl rfl (Rn.load (v := .d (.int .i64 x16.From)) trivial rfl (boxOwn rfl) rfl rfl (Rn.bin trivial rfl rfl rfl (md rfl ?_))))))
         refine bsplit (decide (x5.From < x16.From)) (fun hb18 => ?_) (fun hb18 => ?_)
         ·replace h := ifT hb18 h
          refine Rn.sk (nw rfl hb18) (Rn.sk (nw rfl hb18) (Rn.sk (nw rfl hb18) (Rn.sk (nw rfl hb18) (Rn.sk (nw rfl hb18) (Rn.sk (nw rfl hb18) (Rn.sk (nu rfl) (Rn.sk (nu rfl) (Rn.sk (nu rfl) (Rn.sk (nu rfl) (Rn.sk (nu rfl) (Rn.sk (nw rfl hb18) (Rn.pickT (v := .d (.bool true)) trivial rfl hb18 rfl (Rn.nil ?_)))))))))))))
          replace h := si h; subst h
          show WeakSt Γ _ ⟨look _, memOf _ (bxs _) _, _⟩; exact weak_cut [] ⟨(kPtr rfl), ⟨(.same rfl), ⟨(.same rfl), ⟨(.same rfl), ⟨(.same rfl), trivial⟩⟩⟩⟩⟩ ⟨⟨_, rfl, rfl, (.same rfl)⟩, ⟨⟨_, rfl, rfl, (.same rfl)⟩, ⟨⟨_, rfl, rfl, (.same rfl)⟩, trivial⟩⟩⟩ rfl
         ·replace h := ifF hb18 h
          refine Rn.fldP (o' := 0) (gw rfl hb18) rfl rfl (Rn.load (v := .d (.int .i64 x5.From)) (gw rfl hb18) rfl (boxOwn rfl) rfl rfl (Rn.fldP (o' := 0) (gw rfl hb18) rfl rfl (Rn.load (v := .d (.int .i64 x16.From)) (gw rfl hb18) rfl (boxOwn rfl) rfl rfl (Rn.bin (gw rfl hb18) rfl rfl rfl (Rn.movD (gw rfl hb18) rfl ?_)))))
          refine bsplit (x5.From == x16.From) (fun hb19 => ?_) (fun hb19 => ?_)
          ·replace h := bT hb19 h
           refine Rn.fldP (o' := 1) (gw rfl hb19) rfl rfl (Rn.load (v := .d (.int .i64 x5.Event)) (gw rfl hb19) rfl (boxOwn rfl) rfl rfl (Rn.fldP (o' := 1) (gw rfl hb19) rfl rfl (Rn.load (v := .d (.int .i64 x16.Event)) (gw rfl hb19) rfl (boxOwn rfl) rfl rfl (Rn.bin (gw rfl hb19) rfl rfl rfl (Rn.pickT (v := .d (.bool (decide (x5.Event ≤ x16.Event)))) (gw rfl hb18) rfl hb19 rfl (Rn.pickF (v := .d (.bool (decide (x5.Event ≤ x16.Event)))) trivial rfl hb18 rfl (Rn.nil ?_)))))))
           replace h := si h; subst h
           show WeakSt Γ _ ⟨look _, memOf _ (bxs _) _, _⟩; exact weak_cut [] ⟨(kPtr rfl), ⟨(.same rfl), ⟨(.same rfl), ⟨(.same rfl), ⟨(.same rfl), trivial⟩⟩⟩⟩⟩ ⟨⟨_, rfl, rfl, (.same rfl)⟩, ⟨⟨_, rfl, rfl, (.same rfl)⟩, ⟨⟨_, rfl, rfl, (.same rfl)⟩, trivial⟩⟩⟩ rfl
          ·replace h := bF hb19 h
           refine Rn.sk (nw rfl hb19) (Rn.sk (nw rfl hb19) (Rn.sk (nw rfl hb19) (Rn.sk (nw rfl hb19) (Rn.sk (nw rfl hb19) (Rn.pickF (v := .d (.bool false)) (gw rfl hb18) rfl hb19 rfl (Rn.pickF (v := .d (.bool false)) trivial rfl hb18 rfl (Rn.nil ?_)))))))
           replace h := si h; subst h
           show WeakSt Γ _ ⟨look _, memOf _ (bxs _) _, _⟩; exact weak_cut [] ⟨(kPtr rfl), ⟨(.same rfl), ⟨(.same rfl), ⟨(.same rfl), ⟨(.same rfl), trivial⟩⟩⟩⟩⟩ ⟨⟨_, rfl, rfl, (.same rfl)⟩, ⟨⟨_, rfl, rfl, (.same rfl)⟩, ⟨⟨_, rfl, rfl, (.same rfl)⟩, trivial⟩⟩⟩ rfl
        ·obtain ⟨x20, rfl⟩ : ∃ x, x = z := ⟨_, rfl⟩
         refine Tr.cond rfl (fun hb21 => ?_) (fun hb21 => ?_)
         ·replace h := bT hb21 h
          refine sr ((md rfl (nt ((Tr.ret ?_)))))
          replace h := si h; subst h
          exact ⟨.inr rfl, (.d (.int .i64 5)), rfl, fun _ _ _ _ h => h, trivial, fun k hk => memOf_base hk⟩
         ·replace h := bF hb21 h
          refine Tr.skip ?_
          exact ⟨_, h, (by show WeakSt Γ _ ⟨look _, memOf _ (bxs _) _, _⟩; exact weak_cut [5] ⟨(kPtr rfl), ⟨(.same rfl), ⟨(.same rfl), ⟨(.same rfl), trivial⟩⟩⟩⟩ ⟨⟨_, rfl, rfl, (.same rfl)⟩, ⟨⟨_, rfl, rfl, (.same rfl)⟩, trivial⟩⟩ rfl)⟩
   ·obtain ⟨c22, c23, c24⟩ := z
    refine Tr.rgn (Rn.bin trivial rfl rfl rfl (md rfl (Rn.nil ?_)))
    exact ⟨_, h, (by show WeakSt Γ (clean _ _ _) ⟨look _, memOf _ (bxs _) _, _⟩; exact weak_clean ⟨(kPtr rfl), ⟨(.same rfl), ⟨(.same rfl), ⟨(.same rfl), trivial⟩⟩⟩⟩ ⟨⟨_, rfl, rfl, (.same rfl)⟩, trivial⟩ rfl)⟩
  ·replace h := ifF hb4 h
   refine Tr.exit (toN (sr ((md rfl (nt ((Tr.ret ?_)))))))
   replace h := si h; subst h
   exact ⟨.inr rfl, (.d (.int .i64 0)), rfl, fun _ _ _ _ h => h, trivial, fun k hk => memOf_base hk⟩
theorem automaton_Check_walk {P : Program} {c : Nat} {f_automaton_checkSet : (List Int) → Int → Option Int} {f_automaton_checkEdges : api_Automaton → Option Int}
    (H_automaton_checkSet : K_automaton_checkSet P 68 f_automaton_checkSet)
    (H_automaton_checkEdges : K_automaton_checkEdges P 69 f_automaton_checkEdges) (hcf : compFn P c = some F_automaton_Check) : K_automaton_Check P c (f_automaton_Check f_automaton_checkSet f_automaton_checkEdges) := by
 intro a1 r h
 refine fn_trP hcf rfl fun Γ M hP hnt hM => ?_
 subst hP
 refine Tr.init [(0, .agg [.d (.lst 1 (List.map (eI .i64) a1.Alphabet)), .d (.int .i64 a1.States), .d (.lst 1 (List.map (eI .i64) a1.Marked)), .d (.lst 3 (List.map e_api_Edge a1.Edges))])] rfl ?_
 unfold f_automaton_Check at h
 unfold F_automaton_Check
 refine sr ((Rn.box (v := .agg [.d (.lst 1 (List.map (eI .i64) a1.Alphabet)), .d (.int .i64 a1.States), .d (.lst 1 (List.map (eI .i64) a1.Marked)), .d (.lst 3 (List.map e_api_Edge a1.Edges))]) (cs := [.d (.lst 1 (List.map (eI .i64) a1.Alphabet)), .d (.int .i64 a1.States), .d (.lst 1 (List.map (eI .i64) a1.Marked)), .d (.lst 3 (List.map e_api_Edge a1.Edges))]) trivial rfl rfl rfl rfl rfl (md rfl (nt ((Tr.seq (sr ((Rn.fldP (o' := 0) trivial rfl rfl (Rn.load (v := .d (.lst 1 (List.map (eI .i64) a1.Alphabet))) trivial rfl (boxOwn rfl) rfl rfl ?_))))))))))
 obtain ⟨x3, h2, h⟩ := bnd h
 refine Rn.call (args := [.d (.lst 1 (List.map (eI .i64) a1.Alphabet)), .d (.int .i64 32)]) trivial rfl (H_automaton_checkSet _ _ _ h2) pc9 (md rfl (nt ((sr ((md rfl (Rn.bin trivial rfl rfl rfl (Rn.nil (toN ?_)))))))))
 refine Tr.cond rfl (fun hb4 => ?_) (fun hb4 => ?_)
 ·replace h := bT hb4 h
  refine sr ((md rfl (md rfl (nt ((Tr.ret ?_))))))
  replace h := si h; subst h
  exact ⟨.inr rfl, (.d (.int .i64 x3)), rfl, fun _ _ _ _ h => h, trivial, fun k hk => memOf_base hk⟩
 ·replace h := bF hb4 h
  refine Tr.skip (toN (Tr.seq (Tr.block (sr ((Rn.fldP (o' := 1) trivial rfl rfl (Rn.load (v := .d (.int .i64 a1.States)) trivial rfl (boxOwn rfl) rfl rfl (Rn.bin trivial rfl rfl rfl (md rfl (Rn.nil (toN ?_)))))))))))
  refine Tr.cond rfl (fun hb5 => ?_) (fun hb5 => ?_)
  ·replace h := ifT hb5 h
   refine sr ((md rfl (nt ((Tr.ret ?_)))))
   replace h := si h; subst h
   exact ⟨.inr rfl, (.d (.int .i64 2)), rfl, fun _ _ _ _ h => h, trivial, fun k hk => memOf_base hk⟩
  ·replace h := ifF hb5 h
   refine sr ((Rn.fldP (o' := 1) trivial rfl rfl (Rn.load (v := .d (.int .i64 a1.States)) trivial rfl (boxOwn rfl) rfl rfl (Rn.bin trivial rfl rfl rfl (md rfl (Rn.nil (toN ?_)))))))
   refine Tr.cond rfl (fun hb6 => ?_) (fun hb6 => ?_)
   ·replace h := ifT hb6 h
    refine sr ((md rfl (nt ((Tr.ret ?_)))))
    replace h := si h; subst h
    exact ⟨.inr rfl, (.d (.int .i64 3)), rfl, fun _ _ _ _ h => h, trivial, fun k hk => memOf_base hk⟩
   ·replace h := ifF hb6 h
    refine Tr.skip (toN (Tr.seq (sr ((Rn.fldP (o' := 2) trivial rfl rfl (Rn.load (v := .d (.lst 1 (List.map (eI .i64) a1.Marked))) trivial rfl (boxOwn rfl) rfl rfl (Rn.fldP (o' := 1) trivial rfl rfl (Rn.load (v := .d (.int .i64 a1.States)) trivial rfl (boxOwn rfl) rfl rfl ?_))))))))
    obtain ⟨x8, h7, h⟩ := bnd h
    refine Rn.call (args := [.d (.lst 1 (List.map (eI .i64) a1.Marked)), .d (.int .i64 a1.States)]) trivial rfl (H_automaton_checkSet _ _ _ h7) pc9 (md rfl (nt ((sr ((md rfl (Rn.bin trivial rfl rfl rfl (Rn.nil (toN ?_)))))))))
    refine Tr.cond rfl (fun hb9 => ?_) (fun hb9 => ?_)
    ·replace h := bT hb9 h
     refine sr ((md rfl (md rfl (nt ((Tr.ret ?_))))))
     replace h := si h; subst h
     exact ⟨.inr rfl, (.d (.int .i64 x8)), rfl, fun _ _ _ _ h => h, trivial, fun k hk => memOf_base hk⟩
    ·replace h := bF hb9 h
     refine Tr.skip (toN (sr ((Rn.load (v := .agg [.d (.lst 1 (List.map (eI .i64) a1.Alphabet)), .d (.int .i64 a1.States), .d (.lst 1 (List.map (eI .i64) a1.Marked)), .d (.lst 3 (List.map e_api_Edge a1.Edges))]) trivial rfl (boxOwn rfl) rfl rfl ?_))))
     obtain ⟨x11, h10, h⟩ := bnd h
     refine Rn.call (args := [.agg [.d (.lst 1 (List.map (eI .i64) a1.Alphabet)), .d (.int .i64 a1.States), .d (.lst 1 (List.map (eI .i64) a1.Marked)), .d (.lst 3 (List.map e_api_Edge a1.Edges))]]) trivial rfl (H_automaton_checkEdges _ _ h10) pc9 (md rfl (nt ((Tr.ret ?_))))
     replace h := si h; subst h
     exact ⟨.inr rfl, (.d (.int .i64 x11)), rfl, fun _ _ _ _ h => h, trivial, fun k hk => memOf_base hk⟩
theorem slices_Clone_int_walk {P : Program} {c : Nat} (hcf : compFn P c = some F_slices_Clone_int) : K_slices_Clone_int P c (f_slices_Clone_int) := by
 intro s1 r h
 refine fn_trP hcf rfl fun Γ M hP hnt hM => ?_
 subst hP
 refine Tr.init [(0, .d (.lst 1 (List.map (eI .i64) s1)))] rfl ?_
 unfold f_slices_Clone_int at h
 unfold F_slices_Clone_int
 refine sr ((Rn.movTC (v := .nils 1) trivial (nt ((Tr.seq (sr ((md rfl ?_))))))))
 refine Rn.isnil (e := (eI .i64)) trivial rfl h (fun b2 h => ?_)
 refine Rn.nil (toN ?_)
 refine Tr.cond rfl (fun hb3 => ?_) (fun hb3 => ?_)
 ·replace h := bT hb3 h
  refine sr ((Rn.movTC (v := .nils 1) trivial (nt ((Tr.ret ?_)))))
  replace h := si h; subst h
  exact ⟨.inr rfl, (.nils 1), rfl, (WkV.nilsO _).rd, trivial, fun k hk => memOf_base hk⟩
 ·replace h := bF hb3 h
  refine Tr.skip (toN (sr ((Rn.bslice (xs := []) (cs := []) trivial rfl rfl rfl rfl (md rfl ?_)))))
  obtain ⟨x4, h5, h⟩ := bnd h
  refine Rn.app0 (e := (eI .i64)) trivial rfl rfl rfl rfl elems_lst h5 rfl (Rn.movTO trivial rfl (nt ((Tr.ret ?_))))
  replace h := si h; subst h
  exact ⟨.inr rfl, (.own 1 (List.map (eI .i64) x4)), rfl, fun _ _ _ _ h => h, trivial, fun k hk => memOf_base hk⟩
theorem cmp_isNaN_int_walk {P : Program} {c : Nat} (hcf : compFn P c = some F_cmp_isNaN_int) : K_cmp_isNaN_int P c (f_cmp_isNaN_int) := by
 intro x1 r h
 refine fn_trP hcf rfl fun Γ M hP hnt hM => ?_
 subst hP
 refine Tr.init [(0, .d (.int .i64 x1))] rfl ?_
 unfold f_cmp_isNaN_int at h
 unfold F_cmp_isNaN_int
 refine sr ((md rfl (nt ((sr ((md rfl (md rfl (Rn.bin trivial rfl rfl rfl (md rfl (nt ((Tr.ret ?_)))))))))))))
 replace h := si h; subst h
 exact ⟨.inr rfl, (.d (.bool (x1 != x1))), rfl, fun _ _ _ _ h => h, trivial, fun k hk => memOf_base hk⟩
theorem cmp_Less_int_walk {P : Program} {c : Nat} {f_cmp_isNaN_int : Int → Option Bool}
    (H_cmp_isNaN_int : K_cmp_isNaN_int P 106 f_cmp_isNaN_int) (hcf : compFn P c = some F_cmp_Less_int) : K_cmp_Less_int P c (f_cmp_Less_int f_cmp_isNaN_int) := by
 intro x1 y2 r h
 refine fn_trP hcf rfl fun Γ M hP hnt hM => ?_
 subst hP
 refine Tr.init [(0, .d (.int .i64 x1)), (1, .d (.int .i64 y2))] rfl ?_
 unfold f_cmp_Less_int at h
 unfold F_cmp_Less_int
 refine sr ((md rfl (nt ((sr ((md rfl ?_)))))))
 obtain ⟨x4, h3, h⟩ := bnd h
 refine Rn.call (args := [.d (.int .i64 x1)]) trivial rfl (H_cmp_isNaN_int _ _ h3) pc9 (md rfl ?_)
 refine bsplit x4 (fun hb5 => ?_) (fun hb5 => ?_)
 ·replace h := bT hb5 h
  refine Rn.movD (gw rfl hb5) rfl ?_
  obtain ⟨x7, h6, h⟩ := bnd h
  refine Rn.call (args := [.d (.int .i64 y2)]) (gw rfl hb5) rfl (H_cmp_isNaN_int _ _ h6) pc9 (Rn.un (gw rfl hb5) rfl rfl (Rn.pickT (v := .d (.bool (!x7))) trivial rfl hb5 rfl (md rfl ?_)))
  refine bsplit x7 (fun hb8 => ?_) (fun hb8 => ?_)
  ·replace h := bT hb8 h
   refine Rn.movD (gw rfl (nT hb8)) rfl (Rn.movD (gw rfl (nT hb8)) rfl (Rn.bin (gw rfl (nT hb8)) rfl rfl rfl (Rn.pickF (v := .d (.bool (decide (x1 < y2)))) trivial rfl (nT hb8) rfl (md rfl (nt ((Tr.ret ?_)))))))
   replace h := si h; subst h
   exact ⟨.inr rfl, (.d (.bool (decide (x1 < y2)))), rfl, fun _ _ _ _ h => h, trivial, fun k hk => memOf_base hk⟩
  ·replace h := bF hb8 h
   refine Rn.sk (nw rfl (nF hb8)) (Rn.sk (nw rfl (nF hb8)) (Rn.sk (nw rfl (nF hb8)) (Rn.pickT (v := .d (.bool true)) trivial rfl (nF hb8) rfl (md rfl (nt ((Tr.ret ?_)))))))
   replace h := si h; subst h
   exact ⟨.inr rfl, (.d (.bool true)), rfl, fun _ _ _ _ h => h, trivial, fun k hk => memOf_base hk⟩
 ·replace h := bF hb5 h
  refine Rn.sk (nw rfl hb5) (Rn.sk (nw rfl hb5) (Rn.sk (nw rfl hb5) (Rn.pickF (v := .d (.bool false)) trivial rfl hb5 rfl (md rfl (Rn.movD (gw (b := false) rfl rfl) rfl (Rn.movD (gw (b := false) rfl rfl) rfl (Rn.bin (gw (b := false) rfl rfl) rfl rfl rfl (Rn.pickF (v := .d (.bool (decide (x1 < y2)))) trivial rfl rfl rfl (md rfl (nt ((Tr.ret ?_))))))))))))
  replace h := si h; subst h
  exact ⟨.inr rfl, (.d (.bool (decide (x1 < y2)))), rfl, fun _ _ _ _ h => h, trivial, fun k hk => memOf_base hk⟩
theorem slices_isNaN_int_walk {P : Program} {c : Nat} (hcf : compFn P c = some F_slices_isNaN_int) : K_slices_isNaN_int P c (f_slices_isNaN_int) := by
 intro x1 r h
 refine fn_trP hcf rfl fun Γ M hP hnt hM => ?_
 subst hP
 refine Tr.init [(0, .d (.int .i64 x1))] rfl ?_
 unfold f_slices_isNaN_int at h
 unfold F_slices_isNaN_int
 refine sr ((md rfl (nt ((sr ((md rfl (md rfl (Rn.bin trivial rfl rfl rfl (md rfl (nt ((Tr.ret ?_)))))))))))))
 replace h := si h; subst h
 exact ⟨.inr rfl, (.d (.bool (x1 != x1))), rfl, fun _ _ _ _ h => h, trivial, fun k hk => memOf_base hk⟩
theorem slices_BinarySearch_int_walk {P : Program} {c : Nat} {f_cmp_Less_int : Int → Int → Option Bool} {f_slices_isNaN_int : Int → Option Bool}
    (H_cmp_Less_int : K_cmp_Less_int P 86 f_cmp_Less_int)
    (H_slices_isNaN_int : K_slices_isNaN_int P 87 f_slices_isNaN_int) (hcf : compFn P c = some F_slices_BinarySearch_int) (fuel : Nat) : K_slices_BinarySearch_int P c (f_slices_BinarySearch_int f_cmp_Less_int f_slices_isNaN_int fuel) := by
 intro x1 target2 r h
 refine fn_trP hcf rfl fun Γ M hP hnt hM => ?_
 subst hP
 refine Tr.init [(0, .d (.lst 1 (List.map (eI .i64) x1))), (1, .d (.int .i64 target2))] rfl ?_
 unfold f_slices_BinarySearch_int at h
 unfold F_slices_BinarySearch_int
 refine sr ((md rfl (md rfl (nt ((sr ((md rfl (Rn.lenD trivial rfl (md rfl (nt ((sr ((md rfl (md rfl (md rfl (Rn.nil (toN ?_)))))))))))))))))))
 refine Tr.cutB (fun (i12 : Int) => ⟨look [(0, .d (.lst 1 (List.map (eI .i64) x1))), (1, .d (.int .i64 target2)), (6, .d (.int .i64 (x1.length : Int))), (7, .d (.int .i64 i12))], memOf Γ.n0 (bxs []) M, Γ.n0 + 54⟩) h (fun z h => ?_) (fun z h => ?_)
 ·refine Tr.block ?_
  refine Tr.loop (mk := fun ((i3, j4) : Int × Int) => ⟨look [(0, .d (.lst 1 (List.map (eI .i64) x1))), (1, .d (.int .i64 target2)), (6, .d (.int .i64 (x1.length : Int))), (7, .d (.int .i64 i3)), (8, .d (.int .i64 j4))], memOf Γ.n0 (bxs []) M, Γ.n0 + 54⟩) h (by show WeakSt Γ (clean _ _ _) ⟨look _, memOf _ (bxs _) _, _⟩; exact weak_clean ⟨(.same rfl), ⟨(.same rfl), ⟨(.same rfl), ⟨(.same rfl), ⟨(.same rfl), trivial⟩⟩⟩⟩⟩ trivial rfl) (fun k5 z h => ?_)
  ·obtain ⟨i3, j4⟩ := z
   replace h : _ = some _ := h
   refine Tr.seq (sr ((md rfl (md rfl (Rn.bin trivial rfl rfl rfl (Rn.nil (toN ?_)))))))
   refine Tr.cond rfl (fun hb6 => ?_) (fun hb6 => ?_)
   ·replace h := ifT hb6 h
    refine Tr.skip (toN (Tr.block (sr ((md rfl (md rfl (Rn.bin trivial rfl rfl rfl (Rn.conv trivial rfl (Rn.bin trivial rfl rfl rfl (Rn.conv trivial rfl (md rfl (nt ((sr ((md rfl (md rfl ?_)))))))))))))))))
    obtain ⟨x7, h8, h⟩ := bnd h
    refine Rn.idxD (e := (eI .i64)) trivial rfl rfl h8 (Rn.loadC (x := .int .i64 x7) trivial rfl (md rfl ?_))
    obtain ⟨x10, h9, h⟩ := bnd h
    refine Rn.call (args := [.d (.int .i64 x7), .d (.int .i64 target2)]) trivial rfl (H_cmp_Less_int _ _ _ h9) pc9 (Rn.nil (toN ?_))
    refine Tr.cond rfl (fun hb11 => ?_) (fun hb11 => ?_)
    ·replace h := bT hb11 h
     refine Tr.rgn (md rfl (Rn.bin trivial rfl rfl rfl (md rfl (Rn.nil ?_))))
     exact ⟨_, h, (by show WeakSt Γ (clean _ _ _) ⟨look _, memOf _ (bxs _) _, _⟩; exact weak_clean ⟨(.same rfl), ⟨(.same rfl), ⟨(.same rfl), ⟨(.same rfl), ⟨(.same rfl), trivial⟩⟩⟩⟩⟩ trivial rfl)⟩
    ·replace h := bF hb11 h
     refine Tr.rgn (md rfl (md rfl (Rn.nil ?_)))
     exact ⟨_, h, (by show WeakSt Γ (clean _ _ _) ⟨look _, memOf _ (bxs _) _, _⟩; exact weak_clean ⟨(.same rfl), ⟨(.same rfl), ⟨(.same rfl), ⟨(.same rfl), ⟨(.same rfl), trivial⟩⟩⟩⟩⟩ trivial rfl)⟩
   ·replace h := ifF hb6 h
    refine Tr.exit ?_
    replace h := si h; subst h
    show WeakSt Γ _ ⟨look _, memOf _ (bxs _) _, _⟩; exact weak_cut [] ⟨(.same rfl), ⟨(.same rfl), ⟨(.same rfl), ⟨(.same rfl), trivial⟩⟩⟩⟩ trivial rfl
 ·obtain ⟨i12, rfl⟩ : ∃ x, x = z := ⟨_, rfl⟩
  refine sr ((md rfl (md rfl (md rfl (Rn.bin trivial rfl rfl rfl (md rfl ?_))))))
  refine bsplit (decide (i12 < (x1.length : Int))) (fun hb13 => ?_) (fun hb13 => ?_)
  ·replace h := ifT hb13 h
   refine Rn.movD (gw rfl hb13) rfl (Rn.movD (gw rfl hb13) rfl ?_)
   obtain ⟨x14, h15, h⟩ := bnd h
   refine Rn.idxD (e := (eI .i64)) (gw rfl hb13) rfl rfl h15 (Rn.loadC (x := .int .i64 x14) (gw rfl hb13) rfl (Rn.movD (gw rfl hb13) rfl (Rn.bin (gw rfl hb13) rfl rfl rfl (Rn.movD (gw rfl hb13) rfl ?_))))
   refine bsplit (x14 == target2) (fun hb16 => ?_) (fun hb16 => ?_)
   ·replace h := bT hb16 h
    refine Rn.sk (nw rfl hb16) (Rn.sk (nw rfl hb16) (Rn.sk (nw rfl hb16) (Rn.sk (nw rfl hb16) (Rn.sk (nw rfl hb16) (Rn.sk (nw rfl hb16) (Rn.sk (nu rfl) (Rn.sk (nu rfl) (Rn.sk (nw rfl hb16) (Rn.pickT (v := .d (.bool true)) (gw rfl hb13) rfl hb16 rfl (Rn.pickT (v := .d (.bool true)) trivial rfl hb13 rfl (md rfl (md rfl (nt ((Tr.ret ?_)))))))))))))))
    replace h := si h; subst h
    exact ⟨.inr rfl, .tup [.d (.int .i64 i12), .d (.bool true)], res2 rfl rfl, (WkV.tup (.cons (.same rfl) (.cons (.same rfl) .nil))).rd, ⟨trivial, trivial, trivial⟩, fun k hk => memOf_base hk⟩
   ·replace h := bF hb16 h
    refine Rn.movD (gw rfl hb16) rfl (Rn.movD (gw rfl hb16) rfl ?_)
    obtain ⟨x17, h18, h⟩ := bnd h
    refine Rn.idxD (e := (eI .i64)) (gw rfl hb16) rfl rfl h18 (Rn.loadC (x := .int .i64 x17) (gw rfl hb16) rfl ?_)
    obtain ⟨x20, h19, h⟩ := bnd h
    refine Rn.call (args := [.d (.int .i64 x17)]) (gw rfl hb16) rfl (H_slices_isNaN_int _ _ h19) pc9 (Rn.movD (gw rfl hb16) rfl ?_)
    refine bsplit x20 (fun hb21 => ?_) (fun hb21 => ?_)
    ·replace h := bT hb21 h
     refine Rn.movD (gw rfl hb21) rfl ?_
     obtain ⟨x23, h22, h⟩ := bnd h
     refine Rn.call (args := [.d (.int .i64 target2)]) (gw rfl hb21) rfl (H_slices_isNaN_int _ _ h22) pc9 (Rn.pickT (v := .d (.bool x23)) (gw rfl hb16) rfl hb21 rfl (Rn.pickF (v := .d (.bool x23)) (gw rfl hb13) rfl hb16 rfl (Rn.pickT (v := .d (.bool x23)) trivial rfl hb13 rfl (md rfl (md rfl (nt ((Tr.ret ?_))))))))
     replace h := si h; subst h
     exact ⟨.inr rfl, .tup [.d (.int .i64 i12), .d (.bool x23)], res2 rfl rfl, (WkV.tup (.cons (.same rfl) (.cons (.same rfl) .nil))).rd, ⟨trivial, trivial, trivial⟩, fun k hk => memOf_base hk⟩
    ·replace h := bF hb21 h
     refine Rn.sk (nw rfl hb21) (Rn.sk (nw rfl hb21) (Rn.pickF (v := .d (.bool false)) (gw rfl hb16) rfl hb21 rfl (Rn.pickF (v := .d (.bool false)) (gw rfl hb13) rfl hb16 rfl (Rn.pickT (v := .d (.bool false)) trivial rfl hb13 rfl (md rfl (md rfl (nt ((Tr.ret ?_)))))))))
     replace h := si h; subst h
     exact ⟨.inr rfl, .tup [.d (.int .i64 i12), .d (.bool false)], res2 rfl rfl, (WkV.tup (.cons (.same rfl) (.cons (.same rfl) .nil))).rd, ⟨trivial, trivial, trivial⟩, fun k hk => memOf_base hk⟩
  ·replace h := ifF hb13 h
   refine Rn.sk (nw rfl hb13) (Rn.sk (nw rfl hb13) (Rn.sk (nw rfl hb13) (Rn.sk (nw rfl hb13) (Rn.sk (nw rfl hb13) (Rn.sk (nw rfl hb13) (Rn.sk (nw rfl hb13) (Rn.sk (nu rfl) (Rn.sk (nu rfl) (Rn.sk (nu rfl) (Rn.sk (nu rfl) (Rn.sk (nu rfl) (Rn.sk (nu rfl) (Rn.sk (nu rfl) (Rn.sk (nu rfl) (Rn.sk (nu rfl) (Rn.sk (nw rfl hb13) (Rn.pickF (v := .d (.bool false)) trivial rfl hb13 rfl (md rfl (md rfl (nt ((Tr.ret ?_))))))))))))))))))))))
   replace h := si h; subst h
   exact ⟨.inr rfl, .tup [.d (.int .i64 i12), .d (.bool false)], res2 rfl rfl, (WkV.tup (.cons (.same rfl) (.cons (.same rfl) .nil))).rd, ⟨trivial, trivial, trivial⟩, fun k hk => memOf_base hk⟩
theorem slices_BinarySearchFunc_int_walk {P : Program} {c : Nat} (hcf : compFn P c = some F_slices_BinarySearchFunc_int) (fuel : Nat) : K_slices_BinarySearchFunc_int P c (f_slices_BinarySearchFunc_int fuel) := by
 intro x1 target2 cmp3 g4 cp5 r h
 intro M nb hc6 ho8 hf7
 refine fn_trM hcf rfl M nb fun Γ hP hnt hn0 hM => ?_
 subst hP hn0
 refine Tr.init [(0, .d (.lst 3 (List.map e_api_Edge x1))), (1, .d (.int .i64 target2)), (2, .clo g4 cp5)] rfl ?_
 unfold f_slices_BinarySearchFunc_int at h
 unfold F_slices_BinarySearchFunc_int
 refine sr ((md rfl (md rfl (nt ((sr ((md rfl (Rn.lenD trivial rfl (md rfl (nt ((sr ((md rfl (md rfl (md rfl (Rn.nil (toN ?_)))))))))))))))))))
 refine Tr.cutB (fun (i20 : Int) => ⟨look [(0, .d (.lst 3 (List.map e_api_Edge x1))), (1, .d (.int .i64 target2)), (2, .clo g4 cp5), (8, .d (.int .i64 (x1.length : Int))), (9, .d (.int .i64 i20))], memOf Γ.n0 (bxs []) M, Γ.n0 + 49⟩) h (fun z h => ?_) (fun z h => ?_)
 ·refine Tr.block ?_
  refine Tr.loop (mk := fun ((i11, j12) : Int × Int) => ⟨look [(0, .d (.lst 3 (List.map e_api_Edge x1))), (1, .d (.int .i64 target2)), (2, .clo g4 cp5), (8, .d (.int .i64 (x1.length : Int))), (9, .d (.int .i64 i11)), (10, .d (.int .i64 j12))], memOf Γ.n0 (bxs []) M, Γ.n0 + 49⟩) h (by show WeakSt Γ (clean _ _ _) ⟨look _, memOf _ (bxs _) _, _⟩; exact weak_clean ⟨(.same rfl), ⟨(.same rfl), ⟨(kFun hM ho8), ⟨(.same rfl), ⟨(.same rfl), ⟨(.same rfl), trivial⟩⟩⟩⟩⟩⟩ trivial rfl) (fun k13 z h => ?_)
  ·obtain ⟨i11, j12⟩ := z
   replace h : _ = some _ := h
   refine Tr.seq (sr ((md rfl (md rfl (Rn.bin trivial rfl rfl rfl (Rn.nil (toN ?_)))))))
   refine Tr.cond rfl (fun hb14 => ?_) (fun hb14 => ?_)
   ·replace h := ifT hb14 h
    refine Tr.skip (toN (Tr.block (sr ((md rfl (md rfl (Rn.bin trivial rfl rfl rfl (Rn.conv trivial rfl (Rn.bin trivial rfl rfl rfl (Rn.conv trivial rfl (md rfl (nt ((sr ((Rn.mov (v := .clo g4 cp5) trivial rfl (md rfl (md rfl ?_))))))))))))))))))
    obtain ⟨x15, h16, h⟩ := bnd h
    refine Rn.idxD (e := e_api_Edge) trivial rfl rfl h16 (Rn.loadCA (vs := [.d (.int .i64 x15.From), .d (.int .i64 x15.Event), .d (.int .i64 x15.To)]) trivial rfl rfl rfl (md rfl ?_))
    obtain ⟨x18, h17, h⟩ := bnd h
    refine Rn.callvM (args := [.agg [.d (.int .i64 x15.From), .d (.int .i64 x15.Event), .d (.int .i64 x15.To)], .d (.int .i64 target2)] ++ cp5) trivial rfl (by rw [hc6]; rfl) (fun M2 nb2 hn hx => hf7 _ _ _ h17 M2 nb2 (by omega) ((extMem hM).trans hx)) rfl pc9 ?_
    refine Rn.bin trivial rfl rfl rfl (Rn.nil (toN ?_))
    refine Tr.cond rfl (fun hb19 => ?_) (fun hb19 => ?_)
    ·replace h := ifT hb19 h
     refine Tr.rgn (md rfl (Rn.bin trivial rfl rfl rfl (md rfl (Rn.nil ?_))))
     exact ⟨_, h, (by show WeakSt Γ (clean _ _ _) ⟨look _, memOf _ (bxs _) _, _⟩; exact weak_clean ⟨(.same rfl), ⟨(.same rfl), ⟨(kFun hM ho8), ⟨(.same rfl), ⟨(.same rfl), ⟨(.same rfl), trivial⟩⟩⟩⟩⟩⟩ trivial rfl)⟩
    ·replace h := ifF hb19 h
     refine Tr.rgn (md rfl (md rfl (Rn.nil ?_)))
     exact ⟨_, h, (by show WeakSt Γ (clean _ _ _) ⟨look _, memOf _ (bxs _) _, _⟩; exact weak_clean ⟨(.same rfl), ⟨(.same rfl), ⟨(kFun hM ho8), ⟨(.same rfl), ⟨(.same rfl), ⟨(.same rfl), trivial⟩⟩⟩⟩⟩⟩ trivial rfl)⟩
   ·replace h := ifF hb14 h
    refine Tr.exit ?_
    replace h := si h; subst h
    show WeakSt Γ _ ⟨look _, memOf _ (bxs _) _, _⟩; exact weak_cut [] ⟨(.same rfl), ⟨(.same rfl), ⟨(kFun hM ho8), ⟨(.same rfl), ⟨(.same rfl), trivial⟩⟩⟩⟩⟩ trivial rfl
 ·obtain ⟨i20, rfl⟩ : ∃ x, x = z := ⟨_, rfl⟩
  refine sr ((md rfl (md rfl (md rfl (Rn.bin trivial rfl rfl rfl (md rfl ?_))))))
  refine bsplit (decide (i20 < (x1.length : Int))) (fun hb21 => ?_) (fun hb21 => ?_)
  ·replace h := ifT hb21 h
   refine Rn.mov (v := .clo g4 cp5) (gw rfl hb21) rfl (Rn.movD (gw rfl hb21) rfl (Rn.movD (gw rfl hb21) rfl ?_))
   obtain ⟨x22, h23, h⟩ := bnd h
   refine Rn.idxD (e := e_api_Edge) (gw rfl hb21) rfl rfl h23 (Rn.loadCA (vs := [.d (.int .i64 x22.From), .d (.int .i64 x22.Event), .d (.int .i64 x22.To)]) (gw rfl hb21) rfl rfl rfl (Rn.movD (gw rfl hb21) rfl ?_))
   obtain ⟨x25, h24, h⟩ := bnd h
   refine Rn.callvM (args := [.agg [.d (.int .i64 x22.From), .d (.int .i64 x22.Event), .d (.int .i64 x22.To)], .d (.int .i64 target2)] ++ cp5) (gw rfl hb21) rfl (by rw [hc6]; rfl) (fun M2 nb2 hn hx => hf7 _ _ _ h24 M2 nb2 (by omega) ((extMem hM).trans hx)) rfl pc9 ?_
   refine Rn.bin (gw rfl hb21) rfl rfl rfl (Rn.pickT (v := .d (.bool (x25 == 0))) trivial rfl hb21 rfl (md rfl (md rfl (nt ((Tr.ret ?_))))))
   replace h := si h; subst h
   exact ⟨.inr rfl, .tup [.d (.int .i64 i20), .d (.bool (x25 == 0))], res2 rfl rfl, (WkV.tup (.cons (.same rfl) (.cons (.same rfl) .nil))).rd, ⟨trivial, trivial, trivial⟩, fun k hk => memOf_base hk⟩
  ·replace h := ifF hb21 h
   refine Rn.sk (nw rfl hb21) (Rn.sk (nw rfl hb21) (Rn.sk (nw rfl hb21) (Rn.sk (nw rfl hb21) (Rn.sk (nw rfl hb21) (Rn.sk (nw rfl hb21) (Rn.sk (nw rfl hb21) (Rn.sk (nw rfl hb21) (Rn.pickF (v := .d (.bool false)) trivial rfl hb21 rfl (md rfl (md rfl (nt ((Tr.ret ?_)))))))))))))
   replace h := si h; subst h
   exact ⟨.inr rfl, .tup [.d (.int .i64 i20), .d (.bool false)], res2 rfl rfl, (WkV.tup (.cons (.same rfl) (.cons (.same rfl) .nil))).rd, ⟨trivial, trivial, trivial⟩, fun k hk => memOf_base hk⟩
theorem automaton_out_1_walk {P : Program} {c : Nat} (hcf : compFn P c = some F_automaton_out_1) : K_automaton_out_1 P c (f_automaton_out_1) := by
 intro x1 s2 r h
 refine fn_trP hcf rfl fun Γ M hP hnt hM => ?_
 subst hP
 refine Tr.init [(0, .agg [.d (.int .i64 x1.From), .d (.int .i64 x1.Event), .d (.int .i64 x1.To)]), (1, .d (.int .i64 s2))] rfl ?_
 unfold f_automaton_out_1 at h
 unfold F_automaton_out_1
 refine sr ((Rn.box (v := .agg [.d (.int .i64 x1.From), .d (.int .i64 x1.Event), .d (.int .i64 x1.To)]) (cs := [.d (.int .i64 x1.From), .d (.int .i64 x1.Event), .d (.int .i64 x1.To)]) trivial rfl rfl rfl rfl rfl (md rfl (nt ((sr ((Rn.fldP (o' := 0) trivial rfl rfl (Rn.load (v := .d (.int .i64 x1.From)) trivial rfl (boxOwn rfl) rfl rfl (md rfl (Rn.bin trivial rfl rfl rfl (md rfl (nt ((Tr.ret ?_)))))))))))))))
 replace h := si h; subst h
 exact ⟨.inr rfl, (.d (.int .i64 (IntKind.wrap .i64 (x1.From - s2)))), rfl, fun _ _ _ _ h => h, trivial, fun k hk => memOf_base hk⟩
theorem automaton_out_2_walk {P : Program} {c : Nat} (hcf : compFn P c = some F_automaton_out_2) : K_automaton_out_2 P c (f_automaton_out_2) := by
 intro x1 s2 r h
 refine fn_trP hcf rfl fun Γ M hP hnt hM => ?_
 subst hP
 refine Tr.init [(0, .agg [.d (.int .i64 x1.From), .d (.int .i64 x1.Event), .d (.int .i64 x1.To)]), (1, .d (.int .i64 s2))] rfl ?_
 unfold f_automaton_out_2 at h
 unfold F_automaton_out_2
 refine sr ((Rn.box (v := .agg [.d (.int .i64 x1.From), .d (.int .i64 x1.Event), .d (.int .i64 x1.To)]) (cs := [.d (.int .i64 x1.From), .d (.int .i64 x1.Event), .d (.int .i64 x1.To)]) trivial rfl rfl rfl rfl rfl (md rfl (nt ((sr ((Rn.fldP (o' := 0) trivial rfl rfl (Rn.load (v := .d (.int .i64 x1.From)) trivial rfl (boxOwn rfl) rfl rfl (md rfl (Rn.bin trivial rfl rfl rfl (md rfl (nt ((Tr.ret ?_)))))))))))))))
 replace h := si h; subst h
 exact ⟨.inr rfl, (.d (.int .i64 (IntKind.wrap .i64 (x1.From - s2)))), rfl, fun _ _ _ _ h => h, trivial, fun k hk => memOf_base hk⟩
theorem automaton_out_walk {P : Program} {c : Nat} {f_slices_BinarySearchFunc_int : (List api_Edge) → Int → (api_Edge → Int → Option Int) → Option (Int × Bool)} {f_automaton_out_1 : api_Edge → Int → Option Int} {f_automaton_out_2 : api_Edge → Int → Option Int}
    (H_slices_BinarySearchFunc_int : K_slices_BinarySearchFunc_int P 70 f_slices_BinarySearchFunc_int)
    (H_automaton_out_1 : K_automaton_out_1 P 71 f_automaton_out_1)
    (H_automaton_out_2 : K_automaton_out_2 P 72 f_automaton_out_2) (hcf : compFn P c = some F_automaton_out) : K_automaton_out P c (f_automaton_out f_slices_BinarySearchFunc_int f_automaton_out_1 f_automaton_out_2) := by
 intro a1 state2 r h
 refine fn_trP hcf rfl fun Γ M hP hnt hM => ?_
 subst hP
 refine Tr.init [(0, .agg [.d (.lst 1 (List.map (eI .i64) a1.Alphabet)), .d (.int .i64 a1.States), .d (.lst 1 (List.map (eI .i64) a1.Marked)), .d (.lst 3 (List.map e_api_Edge a1.Edges))]), (1, .d (.int .i64 state2))] rfl ?_
 unfold f_automaton_out at h
 unfold F_automaton_out
 refine sr ((Rn.box (v := .agg [.d (.lst 1 (List.map (eI .i64) a1.Alphabet)), .d (.int .i64 a1.States), .d (.lst 1 (List.map (eI .i64) a1.Marked)), .d (.lst 3 (List.map e_api_Edge a1.Edges))]) (cs := [.d (.lst 1 (List.map (eI .i64) a1.Alphabet)), .d (.int .i64 a1.States), .d (.lst 1 (List.map (eI .i64) a1.Marked)), .d (.lst 3 (List.map e_api_Edge a1.Edges))]) trivial rfl rfl rfl rfl rfl (Rn.movTC (v := .nils 3) trivial (nt ((sr ((Rn.fldP (o' := 3) trivial rfl rfl (Rn.load (v := .d (.lst 3 (List.map e_api_Edge a1.Edges))) trivial rfl (boxOwn rfl) rfl rfl (md rfl ?_))))))))))
 obtain ⟨⟨r8, r9⟩, h7, h⟩ := bnd h
 refine Rn.callM (args := [.d (.lst 3 (List.map e_api_Edge a1.Edges)), .d (.int .i64 state2), .clo 71 []]) trivial rfl (fun M2 nb2 hn hx => H_slices_BinarySearchFunc_int _ _ _ 71 [] _ h7 M2 nb2 rfl trivial (fun a3 a4 r5 h6 M3 nb3 hn3 hx3 => H_automaton_out_1 a3 a4 r5 h6 M3 nb3 )) rfl pc9 ?_
 refine Rn.mov (v := .tup [.d (.int .i64 r8), .d (.bool r9)]) trivial rfl (Rn.ext (v := .d (.int .i64 r8)) (vs := [.d (.int .i64 r8), .d (.bool r9)]) trivial rfl rfl rfl (Rn.ext (v := .d (.bool r9)) (vs := [.d (.int .i64 r8), .d (.bool r9)]) trivial rfl rfl rfl (md rfl (md rfl (nt ((sr ((Rn.fldP (o' := 3) trivial rfl rfl (Rn.load (v := .d (.lst 3 (List.map e_api_Edge a1.Edges))) trivial rfl (boxOwn rfl) rfl rfl (md rfl (Rn.bin trivial rfl rfl rfl ?_))))))))))))
 obtain ⟨⟨r15, r16⟩, h14, h⟩ := bnd h
 refine Rn.callM (args := [.d (.lst 3 (List.map e_api_Edge a1.Edges)), .d (.int .i64 (IntKind.wrap .i64 (state2 + 1))), .clo 72 []]) trivial rfl (fun M2 nb2 hn hx => H_slices_BinarySearchFunc_int _ _ _ 72 [] _ h14 M2 nb2 rfl trivial (fun a10 a11 r12 h13 M3 nb3 hn3 hx3 => H_automaton_out_2 a10 a11 r12 h13 M3 nb3 )) rfl pc9 ?_
 refine Rn.mov (v := .tup [.d (.int .i64 r15), .d (.bool r16)]) trivial rfl (Rn.ext (v := .d (.int .i64 r15)) (vs := [.d (.int .i64 r15), .d (.bool r16)]) trivial rfl rfl rfl (Rn.ext (v := .d (.bool r16)) (vs := [.d (.int .i64 r15), .d (.bool r16)]) trivial rfl rfl rfl (md rfl (md rfl (nt ((sr ((Rn.fldP (o' := 3) trivial rfl rfl (Rn.load (v := .d (.lst 3 (List.map e_api_Edge a1.Edges))) trivial rfl (boxOwn rfl) rfl rfl (md rfl (md rfl ?_))))))))))))
 obtain ⟨x17, h18, h⟩ := bnd h
 refine Rn.slc2 (e := e_api_Edge) trivial rfl rfl rfl h18 (Rn.movTD trivial rfl (nt ((Tr.ret ?_))))
 replace h := si h; subst h
 exact ⟨.inr rfl, (.d (.lst 3 (List.map e_api_Edge x17))), rfl, fun _ _ _ _ h => h, trivial, fun k hk => memOf_base hk⟩
theorem automaton_canonical_walk {P : Program} {c : Nat} {f_automaton_out : api_Automaton → Int → Option ((List api_Edge))} {f_slices_Clone_int : (List Int) → Option ((List Int))} {f_slices_BinarySearch_int : (List Int) → Int → Option (Int × Bool)}
    (H_automaton_out : K_automaton_out P 48 f_automaton_out)
    (H_slices_Clone_int : K_slices_Clone_int P 49 f_slices_Clone_int)
    (H_slices_BinarySearch_int : K_slices_BinarySearch_int P 78 f_slices_BinarySearch_int) (hcf : compFn P c = some F_automaton_canonical) (fuel : Nat) : K_automaton_canonical P c (f_automaton_canonical f_automaton_out f_slices_Clone_int f_slices_BinarySearch_int fuel) := by
 intro a1 r h
 refine fn_trP hcf rfl fun Γ M hP hnt hM => ?_
 subst hP
 refine Tr.init [(0, .agg [.d (.lst 1 (List.map (eI .i64) a1.Alphabet)), .d (.int .i64 a1.States), .d (.lst 1 (List.map (eI .i64) a1.Marked)), .d (.lst 3 (List.map e_api_Edge a1.Edges))])] rfl ?_
 unfold f_automaton_canonical at h
 unfold F_automaton_canonical
 refine sr ((Rn.box (v := .agg [.d (.lst 1 (List.map (eI .i64) a1.Alphabet)), .d (.int .i64 a1.States), .d (.lst 1 (List.map (eI .i64) a1.Marked)), .d (.lst 3 (List.map e_api_Edge a1.Edges))]) (cs := [.d (.lst 1 (List.map (eI .i64) a1.Alphabet)), .d (.int .i64 a1.States), .d (.lst 1 (List.map (eI .i64) a1.Marked)), .d (.lst 3 (List.map e_api_Edge a1.Edges))]) trivial rfl rfl rfl rfl rfl (Rn.alloc trivial rfl (nt ((sr ((Rn.fldP (o' := 0) trivial rfl rfl (Rn.load (v := .d (.lst 1 (List.map (eI .i64) a1.Alphabet))) trivial rfl (boxOwn rfl) rfl rfl ?_)))))))))
 obtain ⟨x3, h2, h⟩ := bnd h
 refine Rn.call (args := [.d (.lst 1 (List.map (eI .i64) a1.Alphabet))]) trivial rfl (H_slices_Clone_int _ _ h2) pc9 (Rn.build (v := .agg [.d (.lst 1 (List.map (eI .i64) x3)), .d (.int .i64 0), .nils 1, .nils 3]) trivial rfl (Rn.alloc trivial rfl (Rn.store (v := .agg [.d (.lst 1 (List.map (eI .i64) x3)), .d (.int .i64 0), .nils 1, .nils 3]) (cs' := [.d (.lst 1 (List.map (eI .i64) x3)), .d (.int .i64 0), .nils 1, .nils 3]) trivial rfl rfl rfl rfl rfl rfl (nt ((Tr.seq (sr ((Rn.fldP (o' := 1) trivial rfl rfl (Rn.load (v := .d (.int .i64 a1.States)) trivial rfl (boxOwn rfl) rfl rfl (Rn.bin trivial rfl rfl rfl (Rn.nil (toN ?_)))))))))))))
 refine Tr.cond rfl (fun hb4 => ?_) (fun hb4 => ?_)
 ·replace h := bT hb4 h
  refine sr ((Rn.load (v := .agg [.d (.lst 1 (List.map (eI .i64) x3)), .d (.int .i64 0), .nils 1, .nils 3]) trivial rfl (boxOwn rfl) rfl rfl (Rn.store (v := .agg [.d (.lst 1 (List.map (eI .i64) x3)), .d (.int .i64 0), .nils 1, .nils 3]) (cs' := [.d (.lst 1 (List.map (eI .i64) x3)), .d (.int .i64 0), .nils 1, .nils 3]) trivial rfl rfl rfl rfl rfl rfl (nt ((Tr.ret ?_))))))
  replace h := si h; subst h
  exact ⟨.inr rfl, (.agg [.d (.lst 1 (List.map (eI .i64) x3)), .d (.int .i64 0), .nils 1, .nils 3]), resCell rfl rfl rfl rfl, (WkV.agg (.cons (.same rfl) (.cons (.same rfl) (.cons (WkV.nilsD _) (.cons (WkV.nilsD _) .nil))))).rd, ⟨trivial, trivial, trivial, trivial, trivial⟩, fun k hk => memOf_base hk⟩
 ·replace h := bF hb4 h
  refine Tr.skip (toN (sr ((Rn.fldP (o' := 1) trivial rfl rfl (Rn.load (v := .d (.int .i64 a1.States)) trivial rfl (boxOwn rfl) rfl rfl ?_)))))
  obtain ⟨x5, h6, h⟩ := bnd h
  refine Rn.makes (g := (fun (x : Int) => [V.d (.int .i64 x)])) trivial rfl rfl rfl rfl rfl h6 (Rn.movTF (v := .sl 1 (Γ.n0 + 22) 0 (Int.toNat a1.States) (Int.toNat a1.States)) trivial rfl rfl (Rn.nil (toN ?_)))
  refine Tr.cutB (fun (c15 : List Int) => ⟨look [(1, .ptr (Γ.n0 + 1) 0), (2, .ptr (Γ.n0 + 2) 0), (3, .ptr (Γ.n0 + 3) 0), (4, .sl 1 (Γ.n0 + 22) 0 (Int.toNat a1.States) (Int.toNat a1.States))], memOf Γ.n0 (bxs [(1, [.d (.lst 1 (List.map (eI .i64) a1.Alphabet)), .d (.int .i64 a1.States), .d (.lst 1 (List.map (eI .i64) a1.Marked)), .d (.lst 3 (List.map e_api_Edge a1.Edges))]), (2, [.nils 1, .d (.int .i64 0), .nils 1, .nils 3]), (3, [.d (.lst 1 (List.map (eI .i64) x3)), .d (.int .i64 0), .nils 1, .nils 3]), (22, flatG (fun (x : Int) => [V.d (.int .i64 x)]) c15)]) M, Γ.n0 + 105⟩) h (fun z h => ?_) (fun z h => ?_)
  ·refine sr ((Rn.mov (v := .sl 1 (Γ.n0 + 22) 0 (Int.toNat a1.States) (Int.toNat a1.States)) trivial rfl (Rn.lenA trivial rfl (md rfl (nt ((Tr.block ?_)))))))
   refine Tr.loop (mk := fun ((x7, c8) : Int × (List Int)) => ⟨look [(1, .ptr (Γ.n0 + 1) 0), (2, .ptr (Γ.n0 + 2) 0), (3, .ptr (Γ.n0 + 3) 0), (4, .sl 1 (Γ.n0 + 22) 0 (Int.toNat a1.States) (Int.toNat a1.States)), (24, .d (.int .i64 ((Int.toNat a1.States) : Int))), (25, .d (.int .i64 x7))], memOf Γ.n0 (bxs [(1, [.d (.lst 1 (List.map (eI .i64) a1.Alphabet)), .d (.int .i64 a1.States), .d (.lst 1 (List.map (eI .i64) a1.Marked)), .d (.lst 3 (List.map e_api_Edge a1.Edges))]), (2, [.nils 1, .d (.int .i64 0), .nils 1, .nils 3]), (3, [.d (.lst 1 (List.map (eI .i64) x3)), .d (.int .i64 0), .nils 1, .nils 3]), (22, flatG (fun (x : Int) => [V.d (.int .i64 x)]) c8)]) M, Γ.n0 + 105⟩) h (by show WeakSt Γ (clean _ _ _) ⟨look _, memOf _ (bxs _) _, _⟩; exact weak_clean ⟨(kPtr rfl), ⟨(kPtr rfl), ⟨(kPtr rfl), ⟨(kSl rfl), ⟨(.same rfl), ⟨(.same rfl), trivial⟩⟩⟩⟩⟩⟩ ⟨⟨_, rfl, rfl, (.same rfl)⟩, ⟨⟨_, rfl, rfl, (.same rfl)⟩, ⟨⟨_, rfl, rfl, (.same rfl)⟩, ⟨⟨_, rfl, rfl, (mapArr fun _ => rfl)⟩, trivial⟩⟩⟩⟩ rfl) (fun k9 z h => ?_)
   ·obtain ⟨x7, c8⟩ := z
    replace h : _ = some _ := h
    refine sr ((Rn.bin trivial rfl rfl rfl (nt ((Tr.seq ?_)))))
    refine Tr.cond rfl (fun hb10 => ?_) (fun hb10 => ?_)
    ·replace h := ifT hb10 h
     refine Tr.skip (toN (Tr.seq (Tr.block (sr ((md rfl (md rfl (nt ((Tr.rgn (Rn.mov (v := .sl 1 (Γ.n0 + 22) 0 (Int.toNat a1.States) (Int.toNat a1.States)) trivial rfl (md rfl ?_))))))))))))
     obtain ⟨⟨⟩, h12, h⟩ := bnd h
     refine Rn.idxA trivial rfl rfl h12 ?_
     obtain ⟨x13, h14, h⟩ := bnd h
     refine Rn.storeA (g := (fun (x : Int) => [V.d (.int .i64 x)])) (v := .d (.int .i64 (-1))) (fun _ => rfl) trivial rfl rfl rfl rfl rfl h14 (nt ((Tr.rgn (Rn.bin trivial rfl rfl rfl (md rfl (Rn.nil ?_))))))
     exact ⟨_, h, (by show WeakSt Γ (clean _ _ _) ⟨look _, memOf _ (bxs _) _, _⟩; exact weak_clean ⟨(kPtr rfl), ⟨(kPtr rfl), ⟨(kPtr rfl), ⟨(kSl rfl), ⟨(.same rfl), ⟨(.same rfl), trivial⟩⟩⟩⟩⟩⟩ ⟨⟨_, rfl, rfl, (.same rfl)⟩, ⟨⟨_, rfl, rfl, (.same rfl)⟩, ⟨⟨_, rfl, rfl, (.same rfl)⟩, ⟨⟨_, rfl, rfl, (mapArr fun _ => rfl)⟩, trivial⟩⟩⟩⟩ rfl)⟩
    ·replace h := ifF hb10 h
     refine Tr.exit ?_
     replace h := si h; subst h
     show WeakSt Γ _ ⟨look _, memOf _ (bxs _) _, _⟩; exact weak_cut [] ⟨(kPtr rfl), ⟨(kPtr rfl), ⟨(kPtr rfl), ⟨(kSl rfl), trivial⟩⟩⟩⟩ ⟨⟨_, rfl, rfl, (.same rfl)⟩, ⟨⟨_, rfl, rfl, (.same rfl)⟩, ⟨⟨_, rfl, rfl, (.same rfl)⟩, ⟨⟨_, rfl, rfl, (mapArr fun _ => rfl)⟩, trivial⟩⟩⟩⟩ rfl
  ·obtain ⟨c15, rfl⟩ : ∃ x, x = z := ⟨_, rfl⟩
   refine sr ((Rn.mov (v := .sl 1 (Γ.n0 + 22) 0 (Int.toNat a1.States) (Int.toNat a1.States)) trivial rfl ?_))
   obtain ⟨⟨⟩, h17, h⟩ := bnd h
   refine Rn.idxA trivial rfl rfl h17 ?_
   obtain ⟨x18, h19, h⟩ := bnd h
   refine Rn.storeA (g := (fun (x : Int) => [V.d (.int .i64 x)])) (v := .d (.int .i64 0)) (fun _ => rfl) trivial rfl rfl rfl rfl rfl h19 (nt ((sr ((Rn.bslice (xs := [.d (.int .i64 0)]) (cs := [.d (.int .i64 0)]) trivial rfl rfl rfl rfl (Rn.movTF (v := .sl 1 (Γ.n0 + 34) 0 1 1) trivial rfl rfl (Rn.nil (toN ?_))))))))
   refine Tr.cutB (fun ((order74, c75, c76, c77, r78, r79, c80) : (List Int) × (List Int) × (List Int) × (List api_Edge) × (List Int) × (List api_Edge) × (List Int)) => ⟨look [(2, .ptr (Γ.n0 + 2) 0), (3, .ptr (Γ.n0 + 3) 0), (6, .own 1 (List.map (eI .i64) order74))], memOf Γ.n0 (bxs [(1, [.d (.lst 1 (List.map (eI .i64) a1.Alphabet)), .d (.int .i64 a1.States), .d (.lst 1 (List.map (eI .i64) a1.Marked)), .d (.lst 3 (List.map e_api_Edge a1.Edges))]), (2, [.own 1 (List.map (eI .i64) c75), .d (.int .i64 0), .own 1 (List.map (eI .i64) c76), .own 3 (List.map e_api_Edge c77)]), (3, [.d (.lst 1 (List.map (eI .i64) x3)), .d (.int .i64 0), .own 1 (List.map (eI .i64) r78), .own 3 (List.map e_api_Edge r79)]), (22, flatG (fun (x : Int) => [V.d (.int .i64 x)]) c80)]) M, Γ.n0 + 105⟩) h (fun z h => ?_) (fun z h => ?_)
   ·refine sr ((md rfl (nt ((Tr.block ?_)))))
    refine Tr.weak (by show WeakSt Γ _ ⟨look ((6, .own 1 (List.map (eI .i64) [0])) :: [(1, .ptr (Γ.n0 + 1) 0), (2, .ptr (Γ.n0 + 2) 0), (3, .ptr (Γ.n0 + 3) 0), (4, .sl 1 (Γ.n0 + 22) 0 (Int.toNat a1.States) (Int.toNat a1.States)), (7, .d (.int .i64 0)), (32, .sl 1 (Γ.n0 + 22) 0 (Int.toNat a1.States) (Int.toNat a1.States)), (33, .ptr (Γ.n0 + 22) (0 + Int.toNat 0 * 1))] ), memOf Γ.n0 (bxs [(1, [.d (.lst 1 (List.map (eI .i64) a1.Alphabet)), .d (.int .i64 a1.States), .d (.lst 1 (List.map (eI .i64) a1.Marked)), .d (.lst 3 (List.map e_api_Edge a1.Edges))]), (2, [.nils 1, .d (.int .i64 0), .nils 1, .nils 3]), (3, [.d (.lst 1 (List.map (eI .i64) x3)), .d (.int .i64 0), .nils 1, .nils 3]), (22, flatG (fun (x : Int) => [V.d (.int .i64 x)]) x18)]) M, Γ.n0 + 105⟩; exact weak_ownL 34 6 [.int .i64 0] rfl rfl rfl rfl rfl ⟨(kPtr rfl), ⟨(kPtr rfl), ⟨(kPtr rfl), ⟨(kSl rfl), ⟨(.same rfl), ⟨(kSl rfl), ⟨(kPtr rfl), trivial⟩⟩⟩⟩⟩⟩⟩ ⟨⟨_, rfl, rfl, (.same rfl)⟩, ⟨⟨_, rfl, rfl, (.same rfl)⟩, ⟨⟨_, rfl, rfl, (.same rfl)⟩, ⟨⟨_, rfl, rfl, (mapArr fun _ => rfl)⟩, trivial⟩⟩⟩⟩ rfl) ?_
    refine Tr.loop (mk := fun ((order20, i21, c22, c23, c24, r25, r26, c27) : (List Int) × Int × (List Int) × (List Int) × (List api_Edge) × (List Int) × (List api_Edge) × (List Int)) => ⟨look [(1, .ptr (Γ.n0 + 1) 0), (2, .ptr (Γ.n0 + 2) 0), (3, .ptr (Γ.n0 + 3) 0), (4, .sl 1 (Γ.n0 + 22) 0 (Int.toNat a1.States) (Int.toNat a1.States)), (6, .own 1 (List.map (eI .i64) order20)), (7, .d (.int .i64 i21))], memOf Γ.n0 (bxs [(1, [.d (.lst 1 (List.map (eI .i64) a1.Alphabet)), .d (.int .i64 a1.States), .d (.lst 1 (List.map (eI .i64) a1.Marked)), .d (.lst 3 (List.map e_api_Edge a1.Edges))]), (2, [.own 1 (List.map (eI .i64) c22), .d (.int .i64 0), .own 1 (List.map (eI .i64) c23), .own 3 (List.map e_api_Edge c24)]), (3, [.d (.lst 1 (List.map (eI .i64) x3)), .d (.int .i64 0), .own 1 (List.map (eI .i64) r25), .own 3 (List.map e_api_Edge r26)]), (22, flatG (fun (x : Int) => [V.d (.int .i64 x)]) c27)]) M, Γ.n0 + 105⟩) h (by show WeakSt Γ (clean _ _ _) ⟨look _, memOf _ (bxs _) _, _⟩; exact weak_clean ⟨(kPtr rfl), ⟨(kPtr rfl), ⟨(kPtr rfl), ⟨(kSl rfl), ⟨(.same rfl), ⟨(.same rfl), trivial⟩⟩⟩⟩⟩⟩ ⟨⟨_, rfl, rfl, (.same rfl)⟩, ⟨⟨_, rfl, rfl, (.cons (WkV.nilsO _) (.cons (.same rfl) (.cons (WkV.nilsO _) (.cons (WkV.nilsO _) .nil))))⟩, ⟨⟨_, rfl, rfl, (.cons (.same rfl) (.cons (.same rfl) (.cons (WkV.nilsO _) (.cons (WkV.nilsO _) .nil))))⟩, ⟨⟨_, rfl, rfl, (mapArr fun _ => rfl)⟩, trivial⟩⟩⟩⟩ rfl) (fun k28 z h => ?_)
    ·obtain ⟨order20, i21, c22, c23, c24, r25, r26, c27⟩ := z
     replace h : _ = some _ := h
     refine Tr.seq (sr ((md rfl (Rn.mov (v := .d (.lst 1 (List.map (eI .i64) order20))) trivial rfl (Rn.lenD trivial rfl (Rn.bin trivial rfl rfl rfl (Rn.nil (toN ?_))))))))
     refine Tr.cond rfl (fun hb29 => ?_) (fun hb29 => ?_)
     ·replace h := ifT hb29 h
      refine Tr.skip (toN ?_)
      refine Tr.cutB (fun ((order70, r71, r72, c73) : (List Int) × (List Int) × (List api_Edge) × (List Int)) => ⟨look [(1, .ptr (Γ.n0 + 1) 0), (2, .ptr (Γ.n0 + 2) 0), (3, .ptr (Γ.n0 + 3) 0), (4, .sl 1 (Γ.n0 + 22) 0 (Int.toNat a1.States) (Int.toNat a1.States)), (6, .own 1 (List.map (eI .i64) order70)), (7, .d (.int .i64 i21))], memOf Γ.n0 (bxs [(1, [.d (.lst 1 (List.map (eI .i64) a1.Alphabet)), .d (.int .i64 a1.States), .d (.lst 1 (List.map (eI .i64) a1.Marked)), .d (.lst 3 (List.map e_api_Edge a1.Edges))]), (2, [.own 1 (List.map (eI .i64) c22), .d (.int .i64 0), .own 1 (List.map (eI .i64) c23), .own 3 (List.map e_api_Edge c24)]), (3, [.d (.lst 1 (List.map (eI .i64) x3)), .d (.int .i64 0), .own 1 (List.map (eI .i64) r71), .own 3 (List.map e_api_Edge r72)]), (22, flatG (fun (x : Int) => [V.d (.int .i64 x)]) c73)]) M, Γ.n0 + 105⟩) h (fun z h => ?_) (fun z h => ?_)
      ·refine Tr.block ?_
       refine Tr.cutB (fun (r38 : List Int) => ⟨look [(1, .ptr (Γ.n0 + 1) 0), (2, .ptr (Γ.n0 + 2) 0), (3, .ptr (Γ.n0 + 3) 0), (4, .sl 1 (Γ.n0 + 22) 0 (Int.toNat a1.States) (Int.toNat a1.States)), (6, .own 1 (List.map (eI .i64) order20)), (7, .d (.int .i64 i21))], memOf Γ.n0 (bxs [(1, [.d (.lst 1 (List.map (eI .i64) a1.Alphabet)), .d (.int .i64 a1.States), .d (.lst 1 (List.map (eI .i64) a1.Marked)), .d (.lst 3 (List.map e_api_Edge a1.Edges))]), (2, [.own 1 (List.map (eI .i64) c22), .d (.int .i64 0), .own 1 (List.map (eI .i64) c23), .own 3 (List.map e_api_Edge c24)]), (3, [.d (.lst 1 (List.map (eI .i64) x3)), .d (.int .i64 0), .own 1 (List.map (eI .i64) r38), .own 3 (List.map e_api_Edge r26)]), (22, flatG (fun (x : Int) => [V.d (.int .i64 x)]) c27)]) M, Γ.n0 + 105⟩) h (fun z h => ?_) (fun z h => ?_)
       ·refine Tr.seq ?_
        refine Tr.rgnD (by decide) ?_
        refine Rn.fldP (o' := 2) trivial rfl rfl (Rn.load (v := .d (.lst 1 (List.map (eI .i64) a1.Marked))) trivial rfl (boxOwn rfl) rfl rfl (Rn.mov (v := .d (.lst 1 (List.map (eI .i64) order20))) trivial rfl (md rfl ?_)))
        obtain ⟨x30, h31, h⟩ := bnd h
        refine Rn.idxD (e := (eI .i64)) trivial rfl rfl h31 (Rn.loadC (x := .int .i64 x30) trivial rfl ?_)
        obtain ⟨⟨r33, r34⟩, h32, h⟩ := bnd h
        refine Rn.call (args := [.d (.lst 1 (List.map (eI .i64) a1.Marked)), .d (.int .i64 x30)]) trivial rfl (H_slices_BinarySearch_int _ _ _ h32) pc0 (Rn.mov (v := .tup [.d (.int .i64 r33), .d (.bool r34)]) trivial rfl (Rn.ext (v := .d (.int .i64 r33)) (vs := [.d (.int .i64 r33), .d (.bool r34)]) trivial rfl rfl rfl (Rn.ext (v := .d (.bool r34)) (vs := [.d (.int .i64 r33), .d (.bool r34)]) trivial rfl rfl rfl (md rfl (md rfl ?_)))))
        refine Rn.nil ⟨rfl, ?_⟩
        refine toN (sr ((md rfl (Rn.nil (toN ?_)))))
        refine Tr.cond rfl (fun hb35 => ?_) (fun hb35 => ?_)
        ·replace h := bT hb35 h
         refine Tr.rgn (Rn.fldP (o' := 2) trivial rfl rfl (Rn.loadT (cs' := [.d (.lst 1 (List.map (eI .i64) x3)), .d (.int .i64 0), .d (.lst 1 (List.map (eI .i64) r25)), .own 3 (List.map e_api_Edge r26)]) trivial rfl rfl rfl rfl (md rfl (Rn.bslice (xs := [.d (.int .i64 i21)]) (cs := [.d (.int .i64 i21)]) trivial rfl rfl rfl rfl ?_))))
         obtain ⟨x36, h37, h⟩ := bnd h
         refine Rn.app (e := (eI .i64)) trivial rfl rfl rfl (elems_box rfl rfl rfl) h37 rfl (Rn.fldP (o' := 2) trivial rfl rfl (Rn.storeO (cs' := [.d (.lst 1 (List.map (eI .i64) x3)), .d (.int .i64 0), .own 1 (List.map (eI .i64) x36), .own 3 (List.map e_api_Edge r26)]) trivial rfl rfl rfl rfl rfl (Rn.nil ?_)))
         replace h := si h; subst h
         show WeakSt Γ _ ⟨look _, memOf _ (bxs _) _, _⟩; exact weak_cut [55] ⟨(kPtr rfl), ⟨(kPtr rfl), ⟨(kPtr rfl), ⟨(kSl rfl), ⟨(.same rfl), ⟨(.same rfl), trivial⟩⟩⟩⟩⟩⟩ ⟨⟨_, rfl, rfl, (.same rfl)⟩, ⟨⟨_, rfl, rfl, (.same rfl)⟩, ⟨⟨_, rfl, rfl, (.same rfl)⟩, ⟨⟨_, rfl, rfl, (mapArr fun _ => rfl)⟩, trivial⟩⟩⟩⟩ rfl
        ·replace h := bF hb35 h
         refine Tr.skip ?_
         replace h := si h; subst h
         show WeakSt Γ _ ⟨look _, memOf _ (bxs _) _, _⟩; exact weak_cut [] ⟨(kPtr rfl), ⟨(kPtr rfl), ⟨(kPtr rfl), ⟨(kSl rfl), ⟨(.same rfl), ⟨(.same rfl), trivial⟩⟩⟩⟩⟩⟩ ⟨⟨_, rfl, rfl, (.same rfl)⟩, ⟨⟨_, rfl, rfl, (.same rfl)⟩, ⟨⟨_, rfl, rfl, (.same rfl)⟩, ⟨⟨_, rfl, rfl, (mapArr fun _ => rfl)⟩, trivial⟩⟩⟩⟩ rfl
       ·obtain ⟨r38, rfl⟩ : ∃ x, x = z := ⟨_, rfl⟩
        refine Tr.seq ?_
        refine Tr.rgnD (by decide) ?_
        refine Rn.load (v := .agg [.d (.lst 1 (List.map (eI .i64) a1.Alphabet)), .d (.int .i64 a1.States), .d (.lst 1 (List.map (eI .i64) a1.Marked)), .d (.lst 3 (List.map e_api_Edge a1.Edges))]) trivial rfl (boxOwn rfl) rfl rfl (Rn.mov (v := .d (.lst 1 (List.map (eI .i64) order20))) trivial rfl (md rfl ?_))
        obtain ⟨x39, h40, h⟩ := bnd h
        refine Rn.idxD (e := (eI .i64)) trivial rfl rfl h40 (Rn.loadC (x := .int .i64 x39) trivial rfl ?_)
        obtain ⟨x42, h41, h⟩ := bnd h
        refine Rn.call (args := [.agg [.d (.lst 1 (List.map (eI .i64) a1.Alphabet)), .d (.int .i64 a1.States), .d (.lst 1 (List.map (eI .i64) a1.Marked)), .d (.lst 3 (List.map e_api_Edge a1.Edges))], .d (.int .i64 x39)]) trivial rfl (H_automaton_out _ _ _ h41) pc0 (Rn.lenD trivial rfl (md rfl ?_))
        refine Rn.nil ⟨rfl, ?_⟩
        refine toN (Tr.block ?_)
        refine Tr.loop (mk := fun ((order43, x44, r45, c46) : (List Int) × Int × (List api_Edge) × (List Int)) => ⟨look [(1, .ptr (Γ.n0 + 1) 0), (2, .ptr (Γ.n0 + 2) 0), (3, .ptr (Γ.n0 + 3) 0), (4, .sl 1 (Γ.n0 + 22) 0 (Int.toNat a1.States) (Int.toNat a1.States)), (6, .own 1 (List.map (eI .i64) order43)), (7, .d (.int .i64 i21)), (63, .d (.lst 3 (List.map e_api_Edge x42))), (64, .d (.int .i64 (x42.length : Int))), (65, .d (.int .i64 x44))], memOf Γ.n0 (bxs [(1, [.d (.lst 1 (List.map (eI .i64) a1.Alphabet)), .d (.int .i64 a1.States), .d (.lst 1 (List.map (eI .i64) a1.Marked)), .d (.lst 3 (List.map e_api_Edge a1.Edges))]), (2, [.own 1 (List.map (eI .i64) c22), .d (.int .i64 0), .own 1 (List.map (eI .i64) c23), .own 3 (List.map e_api_Edge c24)]), (3, [.d (.lst 1 (List.map (eI .i64) x3)), .d (.int .i64 0), .own 1 (List.map (eI .i64) r38), .own 3 (List.map e_api_Edge r45)]), (22, flatG (fun (x : Int) => [V.d (.int .i64 x)]) c46)]) M, Γ.n0 + 105⟩) h (by show WeakSt Γ (clean _ _ _) ⟨look _, memOf _ (bxs _) _, _⟩; exact weak_clean ⟨(kPtr rfl), ⟨(kPtr rfl), ⟨(kPtr rfl), ⟨(kSl rfl), ⟨(.same rfl), ⟨(.same rfl), ⟨(.same rfl), ⟨(.same rfl), ⟨(.same rfl), trivial⟩⟩⟩⟩⟩⟩⟩⟩⟩ ⟨⟨_, rfl, rfl, (.same rfl)⟩, ⟨⟨_, rfl, rfl, (.same rfl)⟩, ⟨⟨_, rfl, rfl, (.same rfl)⟩, ⟨⟨_, rfl, rfl, (mapArr fun _ => rfl)⟩, trivial⟩⟩⟩⟩ rfl) (fun k47 z h => ?_)
        ·obtain ⟨order43, x44, r45, c46⟩ := z
         replace h : _ = some _ := h
         refine sr ((Rn.bin trivial rfl rfl rfl (nt ((Tr.seq ?_)))))
         refine Tr.cond rfl (fun hb48 => ?_) (fun hb48 => ?_)
         ·replace h := ifT hb48 h
          refine Tr.skip (toN (Tr.seq (Tr.block (Tr.seq (Tr.rgn ?_)))))
          obtain ⟨x49, h50, h⟩ := bnd h
          refine Rn.idxD (e := e_api_Edge) trivial rfl rfl h50 (Rn.loadCA (vs := [.d (.int .i64 x49.From), .d (.int .i64 x49.Event), .d (.int .i64 x49.To)]) trivial rfl rfl rfl (Rn.alloc trivial rfl (Rn.store (v := .agg [.d (.int .i64 x49.From), .d (.int .i64 x49.Event), .d (.int .i64 x49.To)]) (cs' := [.d (.int .i64 x49.From), .d (.int .i64 x49.Event), .d (.int .i64 x49.To)]) trivial rfl rfl rfl rfl rfl rfl (Rn.nil (toN ?_)))))
          refine Tr.cutB (fun ((order62, c63) : (List Int) × (List Int)) => ⟨look [(1, .ptr (Γ.n0 + 1) 0), (2, .ptr (Γ.n0 + 2) 0), (3, .ptr (Γ.n0 + 3) 0), (4, .sl 1 (Γ.n0 + 22) 0 (Int.toNat a1.States) (Int.toNat a1.States)), (6, .own 1 (List.map (eI .i64) order62)), (7, .d (.int .i64 i21)), (11, .ptr (Γ.n0 + 11) 0), (63, .d (.lst 3 (List.map e_api_Edge x42))), (64, .d (.int .i64 (x42.length : Int))), (65, .d (.int .i64 x44))], memOf Γ.n0 (bxs [(1, [.d (.lst 1 (List.map (eI .i64) a1.Alphabet)), .d (.int .i64 a1.States), .d (.lst 1 (List.map (eI .i64) a1.Marked)), .d (.lst 3 (List.map e_api_Edge a1.Edges))]), (2, [.own 1 (List.map (eI .i64) c22), .d (.int .i64 0), .own 1 (List.map (eI .i64) c23), .own 3 (List.map e_api_Edge c24)]), (3, [.d (.lst 1 (List.map (eI .i64) x3)), .d (.int .i64 0), .own 1 (List.map (eI .i64) r38), .own 3 (List.map e_api_Edge r45)]), (11, [.d (.int .i64 x49.From), .d (.int .i64 x49.Event), .d (.int .i64 x49.To)]), (22, flatG (fun (x : Int) => [V.d (.int .i64 x)]) c63)]) M, Γ.n0 + 105⟩) h (fun z h => ?_) (fun z h => ?_)
          ·refine sr ((Rn.mov (v := .sl 1 (Γ.n0 + 22) 0 (Int.toNat a1.States) (Int.toNat a1.States)) trivial rfl (Rn.fldP (o' := 2) trivial rfl rfl (Rn.load (v := .d (.int .i64 x49.To)) trivial rfl (boxOwn rfl) rfl rfl ?_))))
           obtain ⟨⟨⟩, h52, h⟩ := bnd h
           refine Rn.idxA trivial rfl rfl h52 ?_
           obtain ⟨x53, h54, h⟩ := bnd h
           refine Rn.loadA (g := (fun (x : Int) => [V.d (.int .i64 x)])) (v := .d (.int .i64 x53)) (f := 0) (fun _ => rfl) trivial rfl (boxOwn rfl) h54 rfl rfl (Rn.bin trivial rfl rfl rfl (Rn.nil (toN ?_)))
           refine Tr.cond rfl (fun hb55 => ?_) (fun hb55 => ?_)
           ·replace h := ifT hb55 h
            refine sr ((Rn.mov (v := .sl 1 (Γ.n0 + 22) 0 (Int.toNat a1.States) (Int.toNat a1.States)) trivial rfl (Rn.fldP (o' := 2) trivial rfl rfl (Rn.load (v := .d (.int .i64 x49.To)) trivial rfl (boxOwn rfl) rfl rfl (Rn.mov (v := .d (.lst 1 (List.map (eI .i64) order43))) trivial rfl (Rn.lenD trivial rfl ?_))))))
            obtain ⟨⟨⟩, h57, h⟩ := bnd h
            refine Rn.idxA trivial rfl rfl h57 ?_
            obtain ⟨x58, h59, h⟩ := bnd h
            refine Rn.storeA (g := (fun (x : Int) => [V.d (.int .i64 x)])) (v := .d (.int .i64 (order43.length : Int))) (fun _ => rfl) trivial rfl rfl rfl rfl rfl h59 (nt ((Tr.rgn (Rn.movTO trivial rfl (Rn.fldP (o' := 2) trivial rfl rfl (Rn.load (v := .d (.int .i64 x49.To)) trivial rfl (boxOwn rfl) rfl rfl (Rn.bslice (xs := [.d (.int .i64 x49.To)]) (cs := [.d (.int .i64 x49.To)]) trivial rfl rfl rfl rfl ?_)))))))
            obtain ⟨x60, h61, h⟩ := bnd h
            refine Rn.app (e := (eI .i64)) trivial rfl rfl rfl (elems_box rfl rfl rfl) h61 rfl (Rn.movTO trivial rfl (Rn.nil ?_))
            replace h := si h; subst h
            show WeakSt Γ _ ⟨look _, memOf _ (bxs _) _, _⟩; exact weak_cut [84] ⟨(kPtr rfl), ⟨(kPtr rfl), ⟨(kPtr rfl), ⟨(kSl rfl), ⟨(.same rfl), ⟨(.same rfl), ⟨(kPtr rfl), ⟨(.same rfl), ⟨(.same rfl), ⟨(.same rfl), trivial⟩⟩⟩⟩⟩⟩⟩⟩⟩⟩ ⟨⟨_, rfl, rfl, (.same rfl)⟩, ⟨⟨_, rfl, rfl, (.same rfl)⟩, ⟨⟨_, rfl, rfl, (.same rfl)⟩, ⟨⟨_, rfl, rfl, (.same rfl)⟩, ⟨⟨_, rfl, rfl, (mapArr fun _ => rfl)⟩, trivial⟩⟩⟩⟩⟩ rfl
           ·replace h := ifF hb55 h
            refine Tr.skip ?_
            replace h := si h; subst h
            show WeakSt Γ _ ⟨look _, memOf _ (bxs _) _, _⟩; exact weak_cut [] ⟨(kPtr rfl), ⟨(kPtr rfl), ⟨(kPtr rfl), ⟨(kSl rfl), ⟨(.same rfl), ⟨(.same rfl), ⟨(kPtr rfl), ⟨(.same rfl), ⟨(.same rfl), ⟨(.same rfl), trivial⟩⟩⟩⟩⟩⟩⟩⟩⟩⟩ ⟨⟨_, rfl, rfl, (.same rfl)⟩, ⟨⟨_, rfl, rfl, (.same rfl)⟩, ⟨⟨_, rfl, rfl, (.same rfl)⟩, ⟨⟨_, rfl, rfl, (.same rfl)⟩, ⟨⟨_, rfl, rfl, (mapArr fun _ => rfl)⟩, trivial⟩⟩⟩⟩⟩ rfl
          ·obtain ⟨order62, c63⟩ := z
           refine Tr.rgnD (by decide) ?_
           refine Rn.fldP (o' := 3) trivial rfl rfl (Rn.loadT (cs' := [.d (.lst 1 (List.map (eI .i64) x3)), .d (.int .i64 0), .own 1 (List.map (eI .i64) r38), .d (.lst 3 (List.map e_api_Edge r45))]) trivial rfl rfl rfl rfl (md rfl (Rn.fldP (o' := 1) trivial rfl rfl (Rn.load (v := .d (.int .i64 x49.Event)) trivial rfl (boxOwn rfl) rfl rfl (Rn.mov (v := .sl 1 (Γ.n0 + 22) 0 (Int.toNat a1.States) (Int.toNat a1.States)) trivial rfl (Rn.fldP (o' := 2) trivial rfl rfl (Rn.load (v := .d (.int .i64 x49.To)) trivial rfl (boxOwn rfl) rfl rfl ?_)))))))
           obtain ⟨⟨⟩, h65, h⟩ := bnd h
           refine Rn.idxA trivial rfl rfl h65 ?_
           obtain ⟨x66, h67, h⟩ := bnd h
           refine Rn.loadA (g := (fun (x : Int) => [V.d (.int .i64 x)])) (v := .d (.int .i64 x66)) (f := 0) (fun _ => rfl) trivial rfl (boxOwn rfl) h67 rfl rfl (Rn.build (v := .agg [.d (.int .i64 i21), .d (.int .i64 x49.Event), .d (.int .i64 x66)]) trivial rfl (Rn.bslice (xs := [.agg [.d (.int .i64 i21), .d (.int .i64 x49.Event), .d (.int .i64 x66)]]) (cs := [.d (.int .i64 i21), .d (.int .i64 x49.Event), .d (.int .i64 x66)]) trivial rfl rfl rfl rfl ?_))
           obtain ⟨x68, h69, h⟩ := bnd h
           refine Rn.app (e := e_api_Edge) trivial rfl rfl rfl (elems_box rfl rfl rfl) h69 rfl (Rn.fldP (o' := 3) trivial rfl rfl (Rn.storeO (cs' := [.d (.lst 1 (List.map (eI .i64) x3)), .d (.int .i64 0), .own 1 (List.map (eI .i64) r38), .own 3 (List.map e_api_Edge x68)]) trivial rfl rfl rfl rfl rfl ?_))
           refine Rn.nil ⟨rfl, ?_⟩
           refine toN (Tr.rgn (Rn.bin trivial rfl rfl rfl (md rfl (Rn.nil ?_))))
           exact ⟨_, h, (by show WeakSt Γ (clean _ _ _) ⟨look _, memOf _ (bxs _) _, _⟩; exact weak_clean ⟨(kPtr rfl), ⟨(kPtr rfl), ⟨(kPtr rfl), ⟨(kSl rfl), ⟨(.same rfl), ⟨(.same rfl), ⟨(.same rfl), ⟨(.same rfl), ⟨(.same rfl), trivial⟩⟩⟩⟩⟩⟩⟩⟩⟩ ⟨⟨_, rfl, rfl, (.same rfl)⟩, ⟨⟨_, rfl, rfl, (.same rfl)⟩, ⟨⟨_, rfl, rfl, (.same rfl)⟩, ⟨⟨_, rfl, rfl, (mapArr fun _ => rfl)⟩, trivial⟩⟩⟩⟩ rfl)⟩
         ·replace h := ifF hb48 h
          refine Tr.exit ?_
          replace h := si h; subst h
          show WeakSt Γ _ ⟨look _, memOf _ (bxs _) _, _⟩; exact weak_cut [] ⟨(kPtr rfl), ⟨(kPtr rfl), ⟨(kPtr rfl), ⟨(kSl rfl), ⟨(.same rfl), ⟨(.same rfl), trivial⟩⟩⟩⟩⟩⟩ ⟨⟨_, rfl, rfl, (.same rfl)⟩, ⟨⟨_, rfl, rfl, (.same rfl)⟩, ⟨⟨_, rfl, rfl, (.same rfl)⟩, ⟨⟨_, rfl, rfl, (mapArr fun _ => rfl)⟩, trivial⟩⟩⟩⟩ rfl
      ·obtain ⟨order70, r71, r72, c73⟩ := z
       refine Tr.rgn (md rfl (Rn.bin trivial rfl rfl rfl (md rfl (Rn.nil ?_))))
       exact ⟨_, h, (by show WeakSt Γ (clean _ _ _) ⟨look _, memOf _ (bxs _) _, _⟩; exact weak_clean ⟨(kPtr rfl), ⟨(kPtr rfl), ⟨(kPtr rfl), ⟨(kSl rfl), ⟨(.same rfl), ⟨(.same rfl), trivial⟩⟩⟩⟩⟩⟩ ⟨⟨_, rfl, rfl, (.same rfl)⟩, ⟨⟨_, rfl, rfl, (.same rfl)⟩, ⟨⟨_, rfl, rfl, (.same rfl)⟩, ⟨⟨_, rfl, rfl, (mapArr fun _ => rfl)⟩, trivial⟩⟩⟩⟩ rfl)⟩
     ·replace h := ifF hb29 h
      refine Tr.exit ?_
      replace h := si h; subst h
      show WeakSt Γ _ ⟨look _, memOf _ (bxs _) _, _⟩; exact weak_cut [] ⟨(kPtr rfl), ⟨(kPtr rfl), ⟨(.same rfl), trivial⟩⟩⟩ ⟨⟨_, rfl, rfl, (.same rfl)⟩, ⟨⟨_, rfl, rfl, (.same rfl)⟩, ⟨⟨_, rfl, rfl, (.same rfl)⟩, ⟨⟨_, rfl, rfl, (mapArr fun _ => rfl)⟩, trivial⟩⟩⟩⟩ rfl
   ·obtain ⟨order74, c75, c76, c77, r78, r79, c80⟩ := z
    refine sr ((Rn.mov (v := .d (.lst 1 (List.map (eI .i64) order74))) trivial rfl (Rn.lenD trivial rfl (Rn.fldP (o' := 1) trivial rfl rfl (Rn.store (v := .d (.int .i64 (order74.length : Int))) (cs' := [.d (.lst 1 (List.map (eI .i64) x3)), .d (.int .i64 (order74.length : Int)), .own 1 (List.map (eI .i64) r78), .own 3 (List.map e_api_Edge r79)]) trivial rfl rfl rfl rfl rfl rfl (nt ((sr ((Rn.load (v := .agg [.d (.lst 1 (List.map (eI .i64) x3)), .d (.int .i64 (order74.length : Int)), .d (.lst 1 (List.map (eI .i64) r78)), .d (.lst 3 (List.map e_api_Edge r79))]) trivial rfl (boxOwn rfl) rfl rfl (Rn.store (v := .agg [.d (.lst 1 (List.map (eI .i64) x3)), .d (.int .i64 (order74.length : Int)), .d (.lst 1 (List.map (eI .i64) r78)), .d (.lst 3 (List.map e_api_Edge r79))]) (cs' := [.d (.lst 1 (List.map (eI .i64) x3)), .d (.int .i64 (order74.length : Int)), .d (.lst 1 (List.map (eI .i64) r78)), .d (.lst 3 (List.map e_api_Edge r79))]) trivial rfl rfl rfl rfl rfl rfl (nt ((Tr.ret ?_))))))))))))))
    replace h := si h; subst h
    exact ⟨.inr rfl, (.agg [.d (.lst 1 (List.map (eI .i64) x3)), .d (.int .i64 (order74.length : Int)), .d (.lst 1 (List.map (eI .i64) r78)), .d (.lst 3 (List.map e_api_Edge r79))]), resCell rfl rfl rfl rfl, fun _ _ _ _ h => h, ⟨trivial, trivial, trivial, trivial, trivial⟩, fun k hk => memOf_base hk⟩
theorem automaton_Canonical_walk {P : Program} {c : Nat} {f_automaton_Check : api_Automaton → Option Int} {f_automaton_canonical : api_Automaton → Option api_Automaton}
    (H_automaton_Check : K_automaton_Check P 45 f_automaton_Check)
    (H_automaton_canonical : K_automaton_canonical P 56 f_automaton_canonical) (hcf : compFn P c = some F_automaton_Canonical) : K_automaton_Canonical P c (f_automaton_Canonical f_automaton_Check f_automaton_canonical) := by
 intro a1 r h
 refine fn_trP hcf rfl fun Γ M hP hnt hM => ?_
 subst hP
 refine Tr.init [(0, .agg [.d (.lst 1 (List.map (eI .i64) a1.Alphabet)), .d (.int .i64 a1.States), .d (.lst 1 (List.map (eI .i64) a1.Marked)), .d (.lst 3 (List.map e_api_Edge a1.Edges))])] rfl ?_
 unfold f_automaton_Canonical at h
 unfold F_automaton_Canonical
 refine sr ((Rn.box (v := .agg [.d (.lst 1 (List.map (eI .i64) a1.Alphabet)), .d (.int .i64 a1.States), .d (.lst 1 (List.map (eI .i64) a1.Marked)), .d (.lst 3 (List.map e_api_Edge a1.Edges))]) (cs := [.d (.lst 1 (List.map (eI .i64) a1.Alphabet)), .d (.int .i64 a1.States), .d (.lst 1 (List.map (eI .i64) a1.Marked)), .d (.lst 3 (List.map e_api_Edge a1.Edges))]) trivial rfl rfl rfl rfl rfl (Rn.alloc trivial rfl (md rfl (nt ((Tr.seq (sr ((Rn.load (v := .agg [.d (.lst 1 (List.map (eI .i64) a1.Alphabet)), .d (.int .i64 a1.States), .d (.lst 1 (List.map (eI .i64) a1.Marked)), .d (.lst 3 (List.map e_api_Edge a1.Edges))]) trivial rfl (boxOwn rfl) rfl rfl ?_))))))))))
 obtain ⟨x3, h2, h⟩ := bnd h
 refine Rn.call (args := [.agg [.d (.lst 1 (List.map (eI .i64) a1.Alphabet)), .d (.int .i64 a1.States), .d (.lst 1 (List.map (eI .i64) a1.Marked)), .d (.lst 3 (List.map e_api_Edge a1.Edges))]]) trivial rfl (H_automaton_Check _ _ h2) pc9 (md rfl (nt ((sr ((md rfl (Rn.bin trivial rfl rfl rfl (Rn.nil (toN ?_)))))))))
 refine Tr.cond rfl (fun hb4 => ?_) (fun hb4 => ?_)
 ·replace h := bT hb4 h
  refine sr ((Rn.build (v := .agg [.nils 1, .d (.int .i64 0), .nils 1, .nils 3]) trivial rfl (md rfl (Rn.store (v := .agg [.nils 1, .d (.int .i64 0), .nils 1, .nils 3]) (cs' := [.nils 1, .d (.int .i64 0), .nils 1, .nils 3]) trivial rfl rfl rfl rfl rfl rfl (md rfl (nt ((Tr.ret ?_))))))))
  replace h := si h; subst h
  exact ⟨.inr rfl, .tup [.agg [.nils 1, .d (.int .i64 0), .nils 1, .nils 3], .d (.int .i64 x3)], res2 (resCell rfl rfl rfl rfl) rfl, (WkV.tup (.cons (WkV.agg (.cons (WkV.nilsD _) (.cons (.same rfl) (.cons (WkV.nilsD _) (.cons (WkV.nilsD _) .nil))))) (.cons (.same rfl) .nil))).rd, ⟨⟨trivial, trivial, trivial, trivial, trivial⟩, trivial, trivial⟩, fun k hk => memOf_base hk⟩
 ·replace h := bF hb4 h
  refine Tr.skip (toN (sr ((Rn.load (v := .agg [.d (.lst 1 (List.map (eI .i64) a1.Alphabet)), .d (.int .i64 a1.States), .d (.lst 1 (List.map (eI .i64) a1.Marked)), .d (.lst 3 (List.map e_api_Edge a1.Edges))]) trivial rfl (boxOwn rfl) rfl rfl ?_))))
  obtain ⟨x6, h5, h⟩ := bnd h
  refine Rn.call (args := [.agg [.d (.lst 1 (List.map (eI .i64) a1.Alphabet)), .d (.int .i64 a1.States), .d (.lst 1 (List.map (eI .i64) a1.Marked)), .d (.lst 3 (List.map e_api_Edge a1.Edges))]]) trivial rfl (H_automaton_canonical _ _ h5) pc9 (Rn.store (v := .agg [.d (.lst 1 (List.map (eI .i64) x6.Alphabet)), .d (.int .i64 x6.States), .d (.lst 1 (List.map (eI .i64) x6.Marked)), .d (.lst 3 (List.map e_api_Edge x6.Edges))]) (cs' := [.d (.lst 1 (List.map (eI .i64) x6.Alphabet)), .d (.int .i64 x6.States), .d (.lst 1 (List.map (eI .i64) x6.Marked)), .d (.lst 3 (List.map e_api_Edge x6.Edges))]) trivial rfl rfl rfl rfl rfl rfl (md rfl (nt ((Tr.ret ?_)))))
  replace h := si h; subst h
  exact ⟨.inr rfl, .tup [.agg [.d (.lst 1 (List.map (eI .i64) x6.Alphabet)), .d (.int .i64 x6.States), .d (.lst 1 (List.map (eI .i64) x6.Marked)), .d (.lst 3 (List.map e_api_Edge x6.Edges))], .d (.int .i64 0)], res2 (resCell rfl rfl rfl rfl) rfl, (WkV.tup (.cons (.same rfl) (.cons (.same rfl) .nil))).rd, ⟨⟨trivial, trivial, trivial, trivial, trivial⟩, trivial, trivial⟩, fun k hk => memOf_base hk⟩
theorem automaton_checkState_walk {P : Program} {c : Nat} {f_automaton_Check : api_Automaton → Option Int}
    (H_automaton_Check : K_automaton_Check P 45 f_automaton_Check) (hcf : compFn P c = some F_automaton_checkState) : K_automaton_checkState P c (f_automaton_checkState f_automaton_Check) := by
 intro a1 state2 r h
 refine fn_trP hcf rfl fun Γ M hP hnt hM => ?_
 subst hP
 refine Tr.init [(0, .agg [.d (.lst 1 (List.map (eI .i64) a1.Alphabet)), .d (.int .i64 a1.States), .d (.lst 1 (List.map (eI .i64) a1.Marked)), .d (.lst 3 (List.map e_api_Edge a1.Edges))]), (1, .d (.int .i64 state2))] rfl ?_
 unfold f_automaton_checkState at h
 unfold F_automaton_checkState
 refine sr ((Rn.box (v := .agg [.d (.lst 1 (List.map (eI .i64) a1.Alphabet)), .d (.int .i64 a1.States), .d (.lst 1 (List.map (eI .i64) a1.Marked)), .d (.lst 3 (List.map e_api_Edge a1.Edges))]) (cs := [.d (.lst 1 (List.map (eI .i64) a1.Alphabet)), .d (.int .i64 a1.States), .d (.lst 1 (List.map (eI .i64) a1.Marked)), .d (.lst 3 (List.map e_api_Edge a1.Edges))]) trivial rfl rfl rfl rfl rfl (md rfl (nt ((Tr.seq (sr ((Rn.load (v := .agg [.d (.lst 1 (List.map (eI .i64) a1.Alphabet)), .d (.int .i64 a1.States), .d (.lst 1 (List.map (eI .i64) a1.Marked)), .d (.lst 3 (List.map e_api_Edge a1.Edges))]) trivial rfl (boxOwn rfl) rfl rfl ?_)))))))))
 obtain ⟨x4, h3, h⟩ := bnd h
 refine Rn.call (args := [.agg [.d (.lst 1 (List.map (eI .i64) a1.Alphabet)), .d (.int .i64 a1.States), .d (.lst 1 (List.map (eI .i64) a1.Marked)), .d (.lst 3 (List.map e_api_Edge a1.Edges))]]) trivial rfl (H_automaton_Check _ _ h3) pc9 (md rfl (nt ((sr ((md rfl (Rn.bin trivial rfl rfl rfl (Rn.nil (toN ?_)))))))))
 refine Tr.cond rfl (fun hb5 => ?_) (fun hb5 => ?_)
 ·replace h := bT hb5 h
  refine sr ((md rfl (md rfl (nt ((Tr.ret ?_))))))
  replace h := si h; subst h
  exact ⟨.inr rfl, (.d (.int .i64 x4)), rfl, fun _ _ _ _ h => h, trivial, fun k hk => memOf_base hk⟩
 ·replace h := bF hb5 h
  refine Tr.skip (toN (Tr.seq ?_))
  refine Tr.cutB (fun (x7 : Bool) => ⟨look [(18, .d (.bool x7))], memOf Γ.n0 (bxs [(2, [.d (.lst 1 (List.map (eI .i64) a1.Alphabet)), .d (.int .i64 a1.States), .d (.lst 1 (List.map (eI .i64) a1.Marked)), .d (.lst 3 (List.map e_api_Edge a1.Edges))])]) M, Γ.n0 + 19⟩) h (fun z h => ?_) (fun z h => ?_)
  ·refine Tr.rgn (md rfl (Rn.bin trivial rfl rfl rfl (md rfl ?_)))
   refine bsplit (decide (state2 < 0)) (fun hb6 => ?_) (fun hb6 => ?_)
   ·replace h := ifT hb6 h
    refine Rn.sk (nw rfl hb6) (Rn.sk (nw rfl hb6) (Rn.sk (nw rfl hb6) (Rn.sk (nw rfl hb6) (Rn.pickT (v := .d (.bool true)) trivial rfl hb6 rfl (Rn.nil ?_)))))
    replace h := si h; subst h
    show WeakSt Γ _ ⟨look _, memOf _ (bxs _) _, _⟩; exact weak_cut [] ⟨(.same rfl), trivial⟩ ⟨⟨_, rfl, rfl, (.same rfl)⟩, trivial⟩ rfl
   ·replace h := ifF hb6 h
    refine Rn.movD (gw rfl hb6) rfl (Rn.fldP (o' := 1) (gw rfl hb6) rfl rfl (Rn.load (v := .d (.int .i64 a1.States)) (gw rfl hb6) rfl (boxOwn rfl) rfl rfl (Rn.bin (gw rfl hb6) rfl rfl rfl (Rn.pickF (v := .d (.bool (decide (state2 ≥ a1.States)))) trivial rfl hb6 rfl (Rn.nil ?_)))))
    replace h := si h; subst h
    show WeakSt Γ _ ⟨look _, memOf _ (bxs _) _, _⟩; exact weak_cut [] ⟨(.same rfl), trivial⟩ ⟨⟨_, rfl, rfl, (.same rfl)⟩, trivial⟩ rfl
  ·obtain ⟨x7, rfl⟩ : ∃ x, x = z := ⟨_, rfl⟩
   refine Tr.cond rfl (fun hb8 => ?_) (fun hb8 => ?_)
   ·replace h := bT hb8 h
    refine sr ((md rfl (nt ((Tr.ret ?_)))))
    replace h := si h; subst h
    exact ⟨.inr rfl, (.d (.int .i64 2)), rfl, fun _ _ _ _ h => h, trivial, fun k hk => memOf_base hk⟩
   ·replace h := bF hb8 h
    refine Tr.skip (toN (sr ((md rfl (nt ((Tr.ret ?_)))))))
    replace h := si h; subst h
    exact ⟨.inr rfl, (.d (.int .i64 0)), rfl, fun _ _ _ _ h => h, trivial, fun k hk => memOf_base hk⟩
theorem automaton_Run_1_walk {P : Program} {c : Nat} {f_slices_Contains_int : (List Int) → Int → Option Bool}
    (H_slices_Contains_int : K_slices_Contains_int P 50 f_slices_Contains_int) (hcf : compFn P c = some F_automaton_Run_1) : K_automaton_Run_1 P c (f_automaton_Run_1 f_slices_Contains_int) := by
 intro x1 x2 k3 r h
 intro M nb hk4
 refine fn_trM hcf rfl M nb fun Γ hP hnt hn0 hM => ?_
 subst hP hn0
 refine Tr.init [(0, .d (.int .i64 x1)), (1, .ptr k3 0)] rfl ?_
 unfold f_automaton_Run_1 at h
 unfold F_automaton_Run_1
 refine sr ((md rfl (nt ((sr ((Rn.fldP (o' := 0) trivial rfl rfl (Rn.load (v := .d (.lst 1 (List.map (eI .i64) x2.Alphabet))) trivial rfl (baseMem hM hk4) rfl rfl (md rfl ?_)))))))))
 obtain ⟨x6, h5, h⟩ := bnd h
 refine Rn.call (args := [.d (.lst 1 (List.map (eI .i64) x2.Alphabet)), .d (.int .i64 x1)]) trivial rfl (H_slices_Contains_int _ _ _ h5) pc9 (Rn.un trivial rfl rfl (md rfl (nt ((Tr.ret ?_)))))
 replace h := si h; subst h
 exact ⟨.inr rfl, (.d (.bool (!x6))), rfl, fun _ _ _ _ h => h, trivial, fun k hk => memOf_base hk⟩
theorem slices_IndexFunc_int_walk {P : Program} {c : Nat} (hcf : compFn P c = some F_slices_IndexFunc_int) (fuel : Nat) : K_slices_IndexFunc_int P c (f_slices_IndexFunc_int fuel) := by
 intro s1 f2 g3 cp4 r h
 intro M nb hc5 ho7 hf6
 refine fn_trM hcf rfl M nb fun Γ hP hnt hn0 hM => ?_
 subst hP hn0
 refine Tr.init [(0, .d (.lst 1 (List.map (eI .i64) s1))), (1, .clo g3 cp4)] rfl ?_
 unfold f_slices_IndexFunc_int at h
 unfold F_slices_IndexFunc_int
 refine sr ((md rfl (nt ((Tr.seq (sr ((md rfl (Rn.lenD trivial rfl (md rfl (nt ((Tr.block ?_)))))))))))))
 refine Tr.loop (mk := fun (x9 : Int) => ⟨look [(0, .d (.lst 1 (List.map (eI .i64) s1))), (1, .clo g3 cp4), (7, .d (.int .i64 (s1.length : Int))), (8, .d (.int .i64 x9))], memOf Γ.n0 (bxs []) M, Γ.n0 + 19⟩) h (by show WeakSt Γ (clean _ _ _) ⟨look _, memOf _ (bxs _) _, _⟩; exact weak_clean ⟨(.same rfl), ⟨(kFun hM ho7), ⟨(.same rfl), ⟨(.same rfl), trivial⟩⟩⟩⟩ trivial rfl) (fun k10 z h => ?_)
 ·obtain ⟨x9, rfl⟩ : ∃ x, x = z := ⟨_, rfl⟩
  replace h : _ = some _ := h
  refine sr ((Rn.bin trivial rfl rfl rfl (nt ((Tr.seq ?_)))))
  refine Tr.cond rfl (fun hb11 => ?_) (fun hb11 => ?_)
  ·replace h := ifT hb11 h
   refine Tr.skip (toN (Tr.seq (Tr.block (sr ((md rfl (md rfl (nt ((sr ((Rn.mov (v := .clo g3 cp4) trivial rfl (md rfl (md rfl ?_))))))))))))))
   obtain ⟨x12, h13, h⟩ := bnd h
   refine Rn.idxD (e := (eI .i64)) trivial rfl rfl h13 (Rn.loadC (x := .int .i64 x12) trivial rfl ?_)
   obtain ⟨x15, h14, h⟩ := bnd h
   refine Rn.callvM (args := [.d (.int .i64 x12)] ++ cp4) trivial rfl (by rw [hc5]; rfl) (fun M2 nb2 hn hx => hf6 _ _ h14 M2 nb2 (by omega) ((extMem hM).trans hx)) rfl pc9 ?_
   refine Rn.nil (toN ?_)
   refine Tr.cond rfl (fun hb16 => ?_) (fun hb16 => ?_)
   ·replace h := bT hb16 h
    refine sr ((md rfl (md rfl (nt ((Tr.ret ?_))))))
    replace h := si h; subst h
    exact ⟨.inr rfl, (.d (.int .i64 x9)), rfl, fun _ _ _ _ h => h, trivial, fun k hk => memOf_base hk⟩
   ·replace h := bF hb16 h
    refine Tr.skip (toN (Tr.rgn (Rn.bin trivial rfl rfl rfl (md rfl (Rn.nil ?_)))))
    exact ⟨_, h, (by show WeakSt Γ (clean _ _ _) ⟨look _, memOf _ (bxs _) _, _⟩; exact weak_clean ⟨(.same rfl), ⟨(kFun hM ho7), ⟨(.same rfl), ⟨(.same rfl), trivial⟩⟩⟩⟩ trivial rfl)⟩
  ·replace h := ifF hb11 h
   refine Tr.exit (toN (sr ((md rfl (nt ((Tr.ret ?_)))))))
   replace h := si h; subst h
   exact ⟨.inr rfl, (.d (.int .i64 (-1))), rfl, fun _ _ _ _ h => h, trivial, fun k hk => memOf_base hk⟩
theorem slices_ContainsFunc_int_walk {P : Program} {c : Nat} {f_slices_IndexFunc_int : (List Int) → (Int → Option Bool) → Option Int}
    (H_slices_IndexFunc_int : K_slices_IndexFunc_int P 79 f_slices_IndexFunc_int) (hcf : compFn P c = some F_slices_ContainsFunc_int) : K_slices_ContainsFunc_int P c (f_slices_ContainsFunc_int f_slices_IndexFunc_int) := by
 intro s1 f2 g3 cp4 r h
 intro M nb hc5 ho7 hf6
 refine fn_trM hcf rfl M nb fun Γ hP hnt hn0 hM => ?_
 subst hP hn0
 refine Tr.init [(0, .d (.lst 1 (List.map (eI .i64) s1))), (1, .clo g3 cp4)] rfl ?_
 unfold f_slices_ContainsFunc_int at h
 unfold F_slices_ContainsFunc_int
 refine sr ((md rfl (nt ((sr ((md rfl (Rn.mov (v := .clo g3 cp4) trivial rfl ?_))))))))
 obtain ⟨x13, h12, h⟩ := bnd h
 refine Rn.callM (args := [.d (.lst 1 (List.map (eI .i64) s1)), .clo g3 cp4]) trivial rfl (fun M2 nb2 hn hx => H_slices_IndexFunc_int _ _ g3 cp4 _ h12 M2 nb2 hc5 (onsExt ((extMem hM).trans hx) ho7) (fun a9 r10 h11 M3 nb3 hn3 hx3 => hf6 a9 r10 h11 M3 nb3 (by omega) ((extMem hM).trans (hx.trans hx3)))) rfl pc9 ?_
 refine Rn.bin trivial rfl rfl rfl (md rfl (nt ((Tr.ret ?_))))
 replace h := si h; subst h
 exact ⟨.inr rfl, (.d (.bool (decide (x13 ≥ 0)))), rfl, fun _ _ _ _ h => h, trivial, fun k hk => memOf_base hk⟩
theorem automaton_next_1_walk {P : Program} {c : Nat} (hcf : compFn P c = some F_automaton_next_1) : K_automaton_next_1 P c (f_automaton_next_1) := by
 intro x1 x2 k3 r h
 intro M nb hk4
 refine fn_trM hcf rfl M nb fun Γ hP hnt hn0 hM => ?_
 subst hP hn0
 refine Tr.init [(0, .agg [.d (.int .i64 x1.From), .d (.int .i64 x1.Event), .d (.int .i64 x1.To)]), (1, .ptr k3 0)] rfl ?_
 unfold f_automaton_next_1 at h
 unfold F_automaton_next_1
 refine sr ((Rn.box (v := .agg [.d (.int .i64 x1.From), .d (.int .i64 x1.Event), .d (.int .i64 x1.To)]) (cs := [.d (.int .i64 x1.From), .d (.int .i64 x1.Event), .d (.int .i64 x1.To)]) trivial rfl rfl rfl rfl rfl (md rfl (nt ((sr ((Rn.fldP (o' := 1) trivial rfl rfl (Rn.load (v := .d (.int .i64 x1.Event)) trivial rfl (boxOwn rfl) rfl rfl (Rn.load (v := .d (.int .i64 x2)) trivial rfl (baseMem hM hk4) rfl rfl (Rn.bin trivial rfl rfl rfl (md rfl (nt ((Tr.ret ?_)))))))))))))))
 replace h := si h; subst h
 exact ⟨.inr rfl, (.d (.bool (x1.Event == x2))), rfl, fun _ _ _ _ h => h, trivial, fun k hk => memOf_base hk⟩
theorem slices_IndexFunc_Edge_walk {P : Program} {c : Nat} (hcf : compFn P c = some F_slices_IndexFunc_Edge) (fuel : Nat) : K_slices_IndexFunc_Edge P c (f_slices_IndexFunc_Edge fuel) := by
 intro s1 f2 g3 cp4 r h
 intro M nb hc5 ho7 hf6
 refine fn_trM hcf rfl M nb fun Γ hP hnt hn0 hM => ?_
 subst hP hn0
 refine Tr.init [(0, .d (.lst 3 (List.map e_api_Edge s1))), (1, .clo g3 cp4)] rfl ?_
 unfold f_slices_IndexFunc_Edge at h
 unfold F_slices_IndexFunc_Edge
 refine sr ((md rfl (nt ((Tr.seq (sr ((md rfl (Rn.lenD trivial rfl (md rfl (nt ((Tr.block ?_)))))))))))))
 refine Tr.loop (mk := fun (x9 : Int) => ⟨look [(0, .d (.lst 3 (List.map e_api_Edge s1))), (1, .clo g3 cp4), (7, .d (.int .i64 (s1.length : Int))), (8, .d (.int .i64 x9))], memOf Γ.n0 (bxs []) M, Γ.n0 + 19⟩) h (by show WeakSt Γ (clean _ _ _) ⟨look _, memOf _ (bxs _) _, _⟩; exact weak_clean ⟨(.same rfl), ⟨(kFun hM ho7), ⟨(.same rfl), ⟨(.same rfl), trivial⟩⟩⟩⟩ trivial rfl) (fun k10 z h => ?_)
 ·obtain ⟨x9, rfl⟩ : ∃ x, x = z := ⟨_, rfl⟩
  replace h : _ = some _ := h
  refine sr ((Rn.bin trivial rfl rfl rfl (nt ((Tr.seq ?_)))))
  refine Tr.cond rfl (fun hb11 => ?_) (fun hb11 => ?_)
  ·replace h := ifT hb11 h
   refine Tr.skip (toN (Tr.seq (Tr.block (sr ((md rfl (md rfl (nt ((sr ((Rn.mov (v := .clo g3 cp4) trivial rfl (md rfl (md rfl ?_))))))))))))))
   obtain ⟨x12, h13, h⟩ := bnd h
   refine Rn.idxD (e := e_api_Edge) trivial rfl rfl h13 (Rn.loadCA (vs := [.d (.int .i64 x12.From), .d (.int .i64 x12.Event), .d (.int .i64 x12.To)]) trivial rfl rfl rfl ?_)
   obtain ⟨x15, h14, h⟩ := bnd h
   refine Rn.callvM (args := [.agg [.d (.int .i64 x12.From), .d (.int .i64 x12.Event), .d (.int .i64 x12.To)]] ++ cp4) trivial rfl (by rw [hc5]; rfl) (fun M2 nb2 hn hx => hf6 _ _ h14 M2 nb2 (by omega) ((extMem hM).trans hx)) rfl pc9 ?_
   refine Rn.nil (toN ?_)
   refine Tr.cond rfl (fun hb16 => ?_) (fun hb16 => ?_)
   ·replace h := bT hb16 h
    refine sr ((md rfl (md rfl (nt ((Tr.ret ?_))))))
    replace h := si h; subst h
    exact ⟨.inr rfl, (.d (.int .i64 x9)), rfl, fun _ _ _ _ h => h, trivial, fun k hk => memOf_base hk⟩
   ·replace h := bF hb16 h
    refine Tr.skip (toN (Tr.rgn (Rn.bin trivial rfl rfl rfl (md rfl (Rn.nil ?_)))))
    exact ⟨_, h, (by show WeakSt Γ (clean _ _ _) ⟨look _, memOf _ (bxs _) _, _⟩; exact weak_clean ⟨(.same rfl), ⟨(kFun hM ho7), ⟨(.same rfl), ⟨(.same rfl), trivial⟩⟩⟩⟩ trivial rfl)⟩
  ·replace h := ifF hb11 h
   refine Tr.exit (toN (sr ((md rfl (nt ((Tr.ret ?_)))))))
   replace h := si h; subst h
   exact ⟨.inr rfl, (.d (.int .i64 (-1))), rfl, fun _ _ _ _ h => h, trivial, fun k hk => memOf_base hk⟩
theorem automaton_next_walk {P : Program} {c : Nat} {f_automaton_out : api_Automaton → Int → Option ((List api_Edge))} {f_slices_IndexFunc_Edge : (List api_Edge) → (api_Edge → Option Bool) → Option Int} {f_automaton_next_1 : api_Edge → Int → Option Bool}
    (H_automaton_out : K_automaton_out P 48 f_automaton_out)
    (H_slices_IndexFunc_Edge : K_slices_IndexFunc_Edge P 80 f_slices_IndexFunc_Edge)
    (H_automaton_next_1 : K_automaton_next_1 P 81 f_automaton_next_1) (hcf : compFn P c = some F_automaton_next) : K_automaton_next P c (f_automaton_next f_automaton_out f_slices_IndexFunc_Edge f_automaton_next_1) := by
 intro a1 state2 event3 r h
 refine fn_trP hcf rfl fun Γ M hP hnt hM => ?_
 subst hP
 refine Tr.init [(0, .agg [.d (.lst 1 (List.map (eI .i64) a1.Alphabet)), .d (.int .i64 a1.States), .d (.lst 1 (List.map (eI .i64) a1.Marked)), .d (.lst 3 (List.map e_api_Edge a1.Edges))]), (1, .d (.int .i64 state2)), (2, .d (.int .i64 event3))] rfl ?_
 unfold f_automaton_next at h
 unfold F_automaton_next
 refine sr ((Rn.box (v := .agg [.d (.lst 1 (List.map (eI .i64) a1.Alphabet)), .d (.int .i64 a1.States), .d (.lst 1 (List.map (eI .i64) a1.Marked)), .d (.lst 3 (List.map e_api_Edge a1.Edges))]) (cs := [.d (.lst 1 (List.map (eI .i64) a1.Alphabet)), .d (.int .i64 a1.States), .d (.lst 1 (List.map (eI .i64) a1.Marked)), .d (.lst 3 (List.map e_api_Edge a1.Edges))]) trivial rfl rfl rfl rfl rfl (Rn.box (v := .d (.int .i64 event3)) (cs := [.d (.int .i64 event3)]) trivial rfl rfl rfl rfl rfl (md rfl (nt ((sr ((Rn.load (v := .agg [.d (.lst 1 (List.map (eI .i64) a1.Alphabet)), .d (.int .i64 a1.States), .d (.lst 1 (List.map (eI .i64) a1.Marked)), .d (.lst 3 (List.map e_api_Edge a1.Edges))]) trivial rfl (boxOwn rfl) rfl rfl (md rfl ?_))))))))))
 obtain ⟨x5, h4, h⟩ := bnd h
 refine Rn.call (args := [.agg [.d (.lst 1 (List.map (eI .i64) a1.Alphabet)), .d (.int .i64 a1.States), .d (.lst 1 (List.map (eI .i64) a1.Marked)), .d (.lst 3 (List.map e_api_Edge a1.Edges))], .d (.int .i64 state2)]) trivial rfl (H_automaton_out _ _ _ h4) pc9 (Rn.movTD trivial rfl (nt ((sr ((md rfl (Rn.k (v := .clo 81 [.ptr (Γ.n0 + 5) 0]) trivial rfl rfl rfl ?_)))))))
 obtain ⟨x10, h9, h⟩ := bnd h
 refine Rn.callM (args := [.d (.lst 3 (List.map e_api_Edge x5)), .clo 81 [.ptr (Γ.n0 + 5) 0]]) trivial rfl (fun M2 nb2 hn hx => H_slices_IndexFunc_Edge _ _ 81 [.ptr (Γ.n0 + 5) 0] _ h9 M2 nb2 rfl ⟨thereOf (hx _ _ (boxOwn rfl)), trivial⟩ (fun a6 r7 h8 M3 nb3 hn3 hx3 => H_automaton_next_1 a6 event3 (Γ.n0 + 5) r7 h8 M3 nb3 ((hx.trans hx3) _ _ (boxOwn rfl)))) rfl pc9 ?_
 refine md rfl (nt ((Tr.seq (sr ((md rfl (Rn.bin trivial rfl rfl rfl (Rn.nil (toN ?_)))))))))
 refine Tr.cond rfl (fun hb11 => ?_) (fun hb11 => ?_)
 ·replace h := ifT hb11 h
  refine sr ((md rfl (nt ((Tr.ret ?_)))))
  replace h := si h; subst h
  exact ⟨.inr rfl, (.d (.int .i64 (-1))), rfl, fun _ _ _ _ h => h, trivial, fun k hk => memOf_base hk⟩
 ·replace h := ifF hb11 h
  refine Tr.skip (toN (sr ((md rfl (md rfl ?_)))))
  obtain ⟨x12, h13, h⟩ := bnd h
  refine Rn.idxD (e := e_api_Edge) trivial rfl rfl h13 (Rn.fldC trivial rfl (Rn.loadC (x := .int .i64 x12.To) trivial rfl (md rfl (nt ((Tr.ret ?_))))))
  replace h := si h; subst h
  exact ⟨.inr rfl, (.d (.int .i64 x12.To)), rfl, fun _ _ _ _ h => h, trivial, fun k hk => memOf_base hk⟩
theorem automaton_follow_walk {P : Program} {c : Nat} {f_automaton_next : api_Automaton → Int → Int → Option Int}
    (H_automaton_next : K_automaton_next P 67 f_automaton_next) (hcf : compFn P c = some F_automaton_follow) (fuel : Nat) : K_automaton_follow P c (f_automaton_follow f_automaton_next fuel) := by
 intro a1 state2 word3 r h
 refine fn_trP hcf rfl fun Γ M hP hnt hM => ?_
 subst hP
 refine Tr.init [(0, .agg [.d (.lst 1 (List.map (eI .i64) a1.Alphabet)), .d (.int .i64 a1.States), .d (.lst 1 (List.map (eI .i64) a1.Marked)), .d (.lst 3 (List.map e_api_Edge a1.Edges))]), (1, .d (.int .i64 state2)), (2, .d (.lst 1 (List.map (eI .i64) word3)))] rfl ?_
 unfold f_automaton_follow at h
 unfold F_automaton_follow
 refine sr ((Rn.box (v := .agg [.d (.lst 1 (List.map (eI .i64) a1.Alphabet)), .d (.int .i64 a1.States), .d (.lst 1 (List.map (eI .i64) a1.Marked)), .d (.lst 3 (List.map e_api_Edge a1.Edges))]) (cs := [.d (.lst 1 (List.map (eI .i64) a1.Alphabet)), .d (.int .i64 a1.States), .d (.lst 1 (List.map (eI .i64) a1.Marked)), .d (.lst 3 (List.map e_api_Edge a1.Edges))]) trivial rfl rfl rfl rfl rfl (md rfl (md rfl (nt ((Tr.seq (sr ((md rfl (Rn.lenD trivial rfl (md rfl (nt ((Tr.block ?_)))))))))))))))
 refine Tr.loop (mk := fun ((state4, x5) : Int × Int) => ⟨look [(1, .d (.int .i64 state4)), (2, .d (.lst 1 (List.map (eI .i64) word3))), (3, .ptr (Γ.n0 + 3) 0), (11, .d (.lst 1 (List.map (eI .i64) word3))), (12, .d (.int .i64 (word3.length : Int))), (13, .d (.int .i64 x5))], memOf Γ.n0 (bxs [(3, [.d (.lst 1 (List.map (eI .i64) a1.Alphabet)), .d (.int .i64 a1.States), .d (.lst 1 (List.map (eI .i64) a1.Marked)), .d (.lst 3 (List.map e_api_Edge a1.Edges))])]) M, Γ.n0 + 31⟩) h (by show WeakSt Γ (clean _ _ _) ⟨look _, memOf _ (bxs _) _, _⟩; exact weak_clean ⟨(.same rfl), ⟨(.same rfl), ⟨(kPtr rfl), ⟨(.same rfl), ⟨(.same rfl), ⟨(.same rfl), trivial⟩⟩⟩⟩⟩⟩ ⟨⟨_, rfl, rfl, (.same rfl)⟩, trivial⟩ rfl) (fun k6 z h => ?_)
 ·obtain ⟨state4, x5⟩ := z
  replace h : _ = some _ := h
  refine sr ((Rn.bin trivial rfl rfl rfl (nt ((Tr.seq ?_)))))
  refine Tr.cond rfl (fun hb7 => ?_) (fun hb7 => ?_)
  ·replace h := ifT hb7 h
   refine Tr.skip (toN (Tr.seq (Tr.block (sr ((md rfl ?_))))))
   obtain ⟨x8, h9, h⟩ := bnd h
   refine Rn.idxD (e := (eI .i64)) trivial rfl rfl h9 (Rn.loadC (x := .int .i64 x8) trivial rfl (md rfl (md rfl (nt ((sr ((Rn.load (v := .agg [.d (.lst 1 (List.map (eI .i64) a1.Alphabet)), .d (.int .i64 a1.States), .d (.lst 1 (List.map (eI .i64) a1.Marked)), .d (.lst 3 (List.map e_api_Edge a1.Edges))]) trivial rfl (boxOwn rfl) rfl rfl (md rfl (md rfl ?_))))))))))
   obtain ⟨x11, h10, h⟩ := bnd h
   refine Rn.call (args := [.agg [.d (.lst 1 (List.map (eI .i64) a1.Alphabet)), .d (.int .i64 a1.States), .d (.lst 1 (List.map (eI .i64) a1.Marked)), .d (.lst 3 (List.map e_api_Edge a1.Edges))], .d (.int .i64 state4), .d (.int .i64 x8)]) trivial rfl (H_automaton_next _ _ _ _ h10) pc9 (md rfl (nt ((Tr.seq (sr ((md rfl (Rn.bin trivial rfl rfl rfl (Rn.nil (toN ?_))))))))))
   refine Tr.cond rfl (fun hb12 => ?_) (fun hb12 => ?_)
   ·replace h := ifT hb12 h
    refine sr ((md rfl (md rfl (md rfl (md rfl (nt ((Tr.ret ?_))))))))
    replace h := si h; subst h
    exact ⟨.inr rfl, .tup [.d (.int .i64 state4), .d (.int .i64 x5)], res2 rfl rfl, (WkV.tup (.cons (.same rfl) (.cons (.same rfl) .nil))).rd, ⟨trivial, trivial, trivial⟩, fun k hk => memOf_base hk⟩
   ·replace h := ifF hb12 h
    refine Tr.skip (toN (Tr.rgn (md rfl (md rfl (nt ((Tr.rgn (Rn.bin trivial rfl rfl rfl (md rfl (Rn.nil ?_))))))))))
    exact ⟨_, h, (by show WeakSt Γ (clean _ _ _) ⟨look _, memOf _ (bxs _) _, _⟩; exact weak_clean ⟨(.same rfl), ⟨(.same rfl), ⟨(kPtr rfl), ⟨(.same rfl), ⟨(.same rfl), ⟨(.same rfl), trivial⟩⟩⟩⟩⟩⟩ ⟨⟨_, rfl, rfl, (.same rfl)⟩, trivial⟩ rfl)⟩
  ·replace h := ifF hb7 h
   refine Tr.exit (toN (sr ((md rfl (md rfl (Rn.lenD trivial rfl (md rfl (md rfl (nt ((Tr.ret ?_)))))))))))
   replace h := si h; subst h
   exact ⟨.inr rfl, .tup [.d (.int .i64 state4), .d (.int .i64 (word3.length : Int))], res2 rfl rfl, (WkV.tup (.cons (.same rfl) (.cons (.same rfl) .nil))).rd, ⟨trivial, trivial, trivial⟩, fun k hk => memOf_base hk⟩
theorem automaton_Run_walk {P : Program} {c : Nat} {f_automaton_checkState : api_Automaton → Int → Option Int} {f_slices_ContainsFunc_int : (List Int) → (Int → Option Bool) → Option Bool} {f_automaton_Run_1 : Int → api_Automaton → Option Bool} {f_automaton_follow : api_Automaton → Int → (List Int) → Option (Int × Int)}
    (H_automaton_checkState : K_automaton_checkState P 63 f_automaton_checkState)
    (H_slices_ContainsFunc_int : K_slices_ContainsFunc_int P 64 f_slices_ContainsFunc_int)
    (H_automaton_Run_1 : K_automaton_Run_1 P 65 f_automaton_Run_1)
    (H_automaton_follow : K_automaton_follow P 66 f_automaton_follow) (hcf : compFn P c = some F_automaton_Run) : K_automaton_Run P c (f_automaton_Run f_automaton_checkState f_slices_ContainsFunc_int f_automaton_Run_1 f_automaton_follow) := by
 intro a1 xfrom2 word3 r h
 refine fn_trP hcf rfl fun Γ M hP hnt hM => ?_
 subst hP
 refine Tr.init [(0, .agg [.d (.lst 1 (List.map (eI .i64) a1.Alphabet)), .d (.int .i64 a1.States), .d (.lst 1 (List.map (eI .i64) a1.Marked)), .d (.lst 3 (List.map e_api_Edge a1.Edges))]), (1, .d (.int .i64 xfrom2)), (2, .d (.lst 1 (List.map (eI .i64) word3)))] rfl ?_
 unfold f_automaton_Run at h
 unfold F_automaton_Run
 refine sr ((Rn.box (v := .agg [.d (.lst 1 (List.map (eI .i64) a1.Alphabet)), .d (.int .i64 a1.States), .d (.lst 1 (List.map (eI .i64) a1.Marked)), .d (.lst 3 (List.map e_api_Edge a1.Edges))]) (cs := [.d (.lst 1 (List.map (eI .i64) a1.Alphabet)), .d (.int .i64 a1.States), .d (.lst 1 (List.map (eI .i64) a1.Marked)), .d (.lst 3 (List.map e_api_Edge a1.Edges))]) trivial rfl rfl rfl rfl rfl (md rfl (md rfl (md rfl (nt ((Tr.seq (sr ((Rn.load (v := .agg [.d (.lst 1 (List.map (eI .i64) a1.Alphabet)), .d (.int .i64 a1.States), .d (.lst 1 (List.map (eI .i64) a1.Marked)), .d (.lst 3 (List.map e_api_Edge a1.Edges))]) trivial rfl (boxOwn rfl) rfl rfl (md rfl ?_))))))))))))
 obtain ⟨x5, h4, h⟩ := bnd h
 refine Rn.call (args := [.agg [.d (.lst 1 (List.map (eI .i64) a1.Alphabet)), .d (.int .i64 a1.States), .d (.lst 1 (List.map (eI .i64) a1.Marked)), .d (.lst 3 (List.map e_api_Edge a1.Edges))], .d (.int .i64 xfrom2)]) trivial rfl (H_automaton_checkState _ _ _ h4) pc9 (md rfl (nt ((sr ((md rfl (Rn.bin trivial rfl rfl rfl (Rn.nil (toN ?_)))))))))
 refine Tr.cond rfl (fun hb6 => ?_) (fun hb6 => ?_)
 ·replace h := bT hb6 h
  refine sr ((md rfl (md rfl (md rfl (md rfl (nt ((Tr.ret ?_))))))))
  replace h := si h; subst h
  exact ⟨.inr rfl, .tup [.d (.int .i64 0), .d (.int .i64 0), .d (.int .i64 x5)], res3 rfl rfl rfl, (WkV.tup (.cons (.same rfl) (.cons (.same rfl) (.cons (.same rfl) .nil)))).rd, ⟨trivial, trivial, trivial, trivial⟩, fun k hk => memOf_base hk⟩
 ·replace h := bF hb6 h
  refine Tr.skip (toN (Tr.seq (sr ((md rfl (Rn.k (v := .clo 65 [.ptr (Γ.n0 + 3) 0]) trivial rfl rfl rfl ?_))))))
  obtain ⟨x11, h10, h⟩ := bnd h
  refine Rn.callM (args := [.d (.lst 1 (List.map (eI .i64) word3)), .clo 65 [.ptr (Γ.n0 + 3) 0]]) trivial rfl (fun M2 nb2 hn hx => H_slices_ContainsFunc_int _ _ 65 [.ptr (Γ.n0 + 3) 0] _ h10 M2 nb2 rfl ⟨thereOf (hx _ _ (boxOwn rfl)), trivial⟩ (fun a7 r8 h9 M3 nb3 hn3 hx3 => H_automaton_Run_1 a7 a1 (Γ.n0 + 3) r8 h9 M3 nb3 ((hx.trans hx3) _ _ (boxOwn rfl)))) rfl pc9 ?_
  refine Rn.nil (toN ?_)
  refine Tr.cond rfl (fun hb12 => ?_) (fun hb12 => ?_)
  ·replace h := bT hb12 h
   refine sr ((md rfl (md rfl (md rfl (nt ((Tr.ret ?_)))))))
   replace h := si h; subst h
   exact ⟨.inr rfl, .tup [.d (.int .i64 0), .d (.int .i64 0), .d (.int .i64 9)], res3 rfl rfl rfl, (WkV.tup (.cons (.same rfl) (.cons (.same rfl) (.cons (.same rfl) .nil)))).rd, ⟨trivial, trivial, trivial, trivial⟩, fun k hk => memOf_base hk⟩
  ·replace h := bF hb12 h
   refine Tr.skip (toN (sr ((Rn.load (v := .agg [.d (.lst 1 (List.map (eI .i64) a1.Alphabet)), .d (.int .i64 a1.States), .d (.lst 1 (List.map (eI .i64) a1.Marked)), .d (.lst 3 (List.map e_api_Edge a1.Edges))]) trivial rfl (boxOwn rfl) rfl rfl (md rfl (md rfl ?_))))))
   obtain ⟨⟨r14, r15⟩, h13, h⟩ := bnd h
   refine Rn.call (args := [.agg [.d (.lst 1 (List.map (eI .i64) a1.Alphabet)), .d (.int .i64 a1.States), .d (.lst 1 (List.map (eI .i64) a1.Marked)), .d (.lst 3 (List.map e_api_Edge a1.Edges))], .d (.int .i64 xfrom2), .d (.lst 1 (List.map (eI .i64) word3))]) trivial rfl (H_automaton_follow _ _ _ _ h13) pc9 (Rn.mov (v := .tup [.d (.int .i64 r14), .d (.int .i64 r15)]) trivial rfl (Rn.ext (v := .d (.int .i64 r14)) (vs := [.d (.int .i64 r14), .d (.int .i64 r15)]) trivial rfl rfl rfl (Rn.ext (v := .d (.int .i64 r15)) (vs := [.d (.int .i64 r14), .d (.int .i64 r15)]) trivial rfl rfl rfl (md rfl (md rfl (nt ((sr ((md rfl (md rfl (md rfl (md rfl (md rfl (nt ((Tr.ret ?_)))))))))))))))))
   replace h := si h; subst h
   exact ⟨.inr rfl, .tup [.d (.int .i64 r14), .d (.int .i64 r15), .d (.int .i64 0)], res3 rfl rfl rfl, (WkV.tup (.cons (.same rfl) (.cons (.same rfl) (.cons (.same rfl) .nil)))).rd, ⟨trivial, trivial, trivial, trivial⟩, fun k hk => memOf_base hk⟩
theorem automaton_Words_walk {P : Program} {c : Nat} {f_automaton_Check : api_Automaton → Option Int} {f_automaton_out : api_Automaton → Int → Option ((List api_Edge))} {f_slices_Clone_int : (List Int) → Option ((List Int))} {f_slices_Contains_int : (List Int) → Int → Option Bool}
    (H_automaton_Check : K_automaton_Check P 45 f_automaton_Check)
    (H_automaton_out : K_automaton_out P 48 f_automaton_out)
    (H_slices_Clone_int : K_slices_Clone_int P 49 f_slices_Clone_int)
    (H_slices_Contains_int : K_slices_Contains_int P 50 f_slices_Contains_int) (hcf : compFn P c = some F_automaton_Words) (fuel : Nat) : K_automaton_Words P c (f_automaton_Words f_automaton_Check f_automaton_out f_slices_Clone_int f_slices_Contains_int fuel) := by
 intro a1 most2 marked3 r h
 refine fn_trP hcf rfl fun Γ M hP hnt hM => ?_
 subst hP
 refine Tr.init [(0, .agg [.d (.lst 1 (List.map (eI .i64) a1.Alphabet)), .d (.int .i64 a1.States), .d (.lst 1 (List.map (eI .i64) a1.Marked)), .d (.lst 3 (List.map e_api_Edge a1.Edges))]), (1, .d (.int .i64 most2)), (2, .d (.bool marked3))] rfl ?_
 unfold f_automaton_Words at h
 unfold F_automaton_Words
 refine sr ((Rn.box (v := .agg [.d (.lst 1 (List.map (eI .i64) a1.Alphabet)), .d (.int .i64 a1.States), .d (.lst 1 (List.map (eI .i64) a1.Marked)), .d (.lst 3 (List.map e_api_Edge a1.Edges))]) (cs := [.d (.lst 1 (List.map (eI .i64) a1.Alphabet)), .d (.int .i64 a1.States), .d (.lst 1 (List.map (eI .i64) a1.Marked)), .d (.lst 3 (List.map e_api_Edge a1.Edges))]) trivial rfl rfl rfl rfl rfl (Rn.movTC (v := .nils 1) trivial (md rfl (nt ((Tr.seq (sr ((Rn.load (v := .agg [.d (.lst 1 (List.map (eI .i64) a1.Alphabet)), .d (.int .i64 a1.States), .d (.lst 1 (List.map (eI .i64) a1.Marked)), .d (.lst 3 (List.map e_api_Edge a1.Edges))]) trivial rfl (boxOwn rfl) rfl rfl ?_))))))))))
 obtain ⟨x5, h4, h⟩ := bnd h
 refine Rn.call (args := [.agg [.d (.lst 1 (List.map (eI .i64) a1.Alphabet)), .d (.int .i64 a1.States), .d (.lst 1 (List.map (eI .i64) a1.Marked)), .d (.lst 3 (List.map e_api_Edge a1.Edges))]]) trivial rfl (H_automaton_Check _ _ h4) pc9 (md rfl (nt ((sr ((md rfl (Rn.bin trivial rfl rfl rfl (Rn.nil (toN ?_)))))))))
 refine Tr.cond rfl (fun hb6 => ?_) (fun hb6 => ?_)
 ·replace h := bT hb6 h
  refine sr ((md rfl (Rn.movTC (v := .nils 1) trivial (md rfl (nt ((Tr.ret ?_)))))))
  replace h := si h; subst h
  exact ⟨.inr rfl, .tup [.nils 1, .d (.int .i64 x5)], res2 rfl rfl, (WkV.tup (.cons (WkV.nilsO _) (.cons (.same rfl) .nil))).rd, ⟨trivial, trivial, trivial⟩, fun k hk => memOf_base hk⟩
 ·replace h := bF hb6 h
  refine Tr.skip (toN (Tr.seq ?_))
  refine Tr.cutB (fun (x8 : Bool) => ⟨look [(1, .d (.int .i64 most2)), (2, .d (.bool marked3)), (3, .ptr (Γ.n0 + 3) 0), (26, .d (.bool x8))], memOf Γ.n0 (bxs [(3, [.d (.lst 1 (List.map (eI .i64) a1.Alphabet)), .d (.int .i64 a1.States), .d (.lst 1 (List.map (eI .i64) a1.Marked)), .d (.lst 3 (List.map e_api_Edge a1.Edges))])]) M, Γ.n0 + 102⟩) h (fun z h => ?_) (fun z h => ?_)
  ·refine Tr.rgn (md rfl (Rn.bin trivial rfl rfl rfl (md rfl ?_)))
   refine bsplit (decide (most2 < 0)) (fun hb7 => ?_) (fun hb7 => ?_)
   ·replace h := ifT hb7 h
    refine Rn.sk (nw rfl hb7) (Rn.sk (nw rfl hb7) (Rn.pickT (v := .d (.bool true)) trivial rfl hb7 rfl (Rn.nil ?_)))
    replace h := si h; subst h
    show WeakSt Γ _ ⟨look _, memOf _ (bxs _) _, _⟩; exact weak_cut [] ⟨(.same rfl), ⟨(.same rfl), ⟨(kPtr rfl), ⟨(.same rfl), trivial⟩⟩⟩⟩ ⟨⟨_, rfl, rfl, (.same rfl)⟩, trivial⟩ rfl
   ·replace h := ifF hb7 h
    refine Rn.movD (gw rfl hb7) rfl (Rn.bin (gw rfl hb7) rfl rfl rfl (Rn.pickF (v := .d (.bool (decide (most2 > 4096)))) trivial rfl hb7 rfl (Rn.nil ?_)))
    replace h := si h; subst h
    show WeakSt Γ _ ⟨look _, memOf _ (bxs _) _, _⟩; exact weak_cut [] ⟨(.same rfl), ⟨(.same rfl), ⟨(kPtr rfl), ⟨(.same rfl), trivial⟩⟩⟩⟩ ⟨⟨_, rfl, rfl, (.same rfl)⟩, trivial⟩ rfl
  ·obtain ⟨x8, rfl⟩ : ∃ x, x = z := ⟨_, rfl⟩
   refine Tr.cond rfl (fun hb9 => ?_) (fun hb9 => ?_)
   ·replace h := bT hb9 h
    refine sr ((Rn.movTC (v := .nils 1) trivial (md rfl (nt ((Tr.ret ?_))))))
    replace h := si h; subst h
    exact ⟨.inr rfl, .tup [.nils 1, .d (.int .i64 2)], res2 rfl rfl, (WkV.tup (.cons (WkV.nilsO _) (.cons (.same rfl) .nil))).rd, ⟨trivial, trivial, trivial⟩, fun k hk => memOf_base hk⟩
   ·replace h := bF hb9 h
    refine Tr.skip (toN (Tr.seq (sr ((Rn.fldP (o' := 1) trivial rfl rfl (Rn.load (v := .d (.int .i64 a1.States)) trivial rfl (boxOwn rfl) rfl rfl (Rn.bin trivial rfl rfl rfl (Rn.nil (toN ?_)))))))))
    refine Tr.cond rfl (fun hb10 => ?_) (fun hb10 => ?_)
    ·replace h := bT hb10 h
     refine sr ((Rn.movTC (v := .nils 1) trivial (md rfl (nt ((Tr.ret ?_))))))
     replace h := si h; subst h
     exact ⟨.inr rfl, .tup [.nils 1, .d (.int .i64 0)], res2 rfl rfl, (WkV.tup (.cons (WkV.nilsO _) (.cons (.same rfl) .nil))).rd, ⟨trivial, trivial, trivial⟩, fun k hk => memOf_base hk⟩
    ·replace h := bF hb10 h
     refine Tr.skip (toN (sr ((Rn.build (v := .agg [.nils 1, .d (.int .i64 0)]) trivial rfl (Rn.bslice (xs := [.agg [.nils 1, .d (.int .i64 0)]]) (cs := [.nils 1, .d (.int .i64 0)]) trivial rfl rfl rfl rfl (Rn.movTF (v := .sl 2 (Γ.n0 + 31) 0 1 1) trivial rfl rfl (Rn.nil (toN ?_))))))))
     refine Tr.cutJ (fun (all38 : List automaton_found) => ⟨look [(2, .d (.bool marked3)), (3, .ptr (Γ.n0 + 3) 0), (9, .own 2 (List.map e_automaton_found all38))], memOf Γ.n0 (bxs [(3, [.d (.lst 1 (List.map (eI .i64) a1.Alphabet)), .d (.int .i64 a1.States), .d (.lst 1 (List.map (eI .i64) a1.Marked)), .d (.lst 3 (List.map e_api_Edge a1.Edges))])]) M, Γ.n0 + 102⟩) h (fun J58 h => ?_) (fun z h => ?_)
     ·refine sr ((md rfl (nt ((Tr.block ?_)))))
      refine Tr.weak (by show WeakSt Γ _ ⟨look ((9, .own 2 (List.map e_automaton_found ([(automaton_found.mk [] 0)]))) :: [(1, .d (.int .i64 most2)), (2, .d (.bool marked3)), (3, .ptr (Γ.n0 + 3) 0), (10, .d (.int .i64 0)), (26, .d (.bool x8)), (27, .ptr (Γ.n0 + 3) 1), (28, .d (.int .i64 a1.States)), (29, .d (.bool (a1.States == 0))), (30, .agg [.nils 1, .d (.int .i64 0)])] ), memOf Γ.n0 (bxs [(3, [.d (.lst 1 (List.map (eI .i64) a1.Alphabet)), .d (.int .i64 a1.States), .d (.lst 1 (List.map (eI .i64) a1.Marked)), .d (.lst 3 (List.map e_api_Edge a1.Edges))])]) M, Γ.n0 + 102⟩; exact weak_ownL 31 9 [.lst 1 [], .int .i64 0] rfl rfl rfl rfl rfl ⟨(.same rfl), ⟨(.same rfl), ⟨(kPtr rfl), ⟨(.same rfl), ⟨(.same rfl), ⟨(kPtr rfl), ⟨(.same rfl), ⟨(.same rfl), ⟨(.same rfl), trivial⟩⟩⟩⟩⟩⟩⟩⟩⟩ ⟨⟨_, rfl, rfl, (.same rfl)⟩, trivial⟩ rfl) ?_
      refine Tr.loop (mk := fun ((all11, i12) : (List automaton_found) × Int) => ⟨look [(1, .d (.int .i64 most2)), (2, .d (.bool marked3)), (3, .ptr (Γ.n0 + 3) 0), (9, .own 2 (List.map e_automaton_found all11)), (10, .d (.int .i64 i12))], memOf Γ.n0 (bxs [(3, [.d (.lst 1 (List.map (eI .i64) a1.Alphabet)), .d (.int .i64 a1.States), .d (.lst 1 (List.map (eI .i64) a1.Marked)), .d (.lst 3 (List.map e_api_Edge a1.Edges))])]) M, Γ.n0 + 102⟩) h (by show WeakSt Γ (clean _ _ _) ⟨look _, memOf _ (bxs _) _, _⟩; exact weak_clean ⟨(.same rfl), ⟨(.same rfl), ⟨(kPtr rfl), ⟨(.same rfl), ⟨(.same rfl), trivial⟩⟩⟩⟩⟩ ⟨⟨_, rfl, rfl, (.same rfl)⟩, trivial⟩ rfl) (fun k13 z h => ?_)
      ·obtain ⟨all11, i12⟩ := z
       replace h : _ = some _ := h
       refine Tr.seq (sr ((md rfl (Rn.mov (v := .d (.lst 2 (List.map e_automaton_found all11))) trivial rfl (Rn.lenD trivial rfl (Rn.bin trivial rfl rfl rfl (Rn.nil (toN ?_))))))))
       refine Tr.cond rfl (fun hb14 => ?_) (fun hb14 => ?_)
       ·replace h := ifT hb14 h
        refine Tr.skip (toN (Tr.seq (Tr.block (Tr.seq (sr ((Rn.mov (v := .d (.lst 2 (List.map e_automaton_found all11))) trivial rfl (md rfl ?_))))))))
        obtain ⟨x15, h16, h⟩ := bnd h
        refine Rn.idxD (e := e_automaton_found) trivial rfl rfl h16 (Rn.fldC trivial rfl (Rn.loadC (x := .lst 1 (List.map (eI .i64) x15.word_)) trivial rfl (Rn.lenD trivial rfl (md rfl (Rn.bin trivial rfl rfl rfl (Rn.nil (toN ?_)))))))
        refine Tr.cond rfl (fun hb17 => ?_) (fun hb17 => ?_)
        ·replace h := bT hb17 h
         refine Tr.exit ?_
         exact ⟨_, h, (by show WeakSt Γ _ ⟨look _, memOf _ (bxs _) _, _⟩; exact weak_cut [] ⟨(.same rfl), ⟨(kPtr rfl), ⟨(.same rfl), trivial⟩⟩⟩ ⟨⟨_, rfl, rfl, (.same rfl)⟩, trivial⟩ rfl)⟩
        ·replace h := bF hb17 h
         refine Tr.skip (toN ?_)
         refine Tr.cutB (fun (all36 : List automaton_found) => ⟨look [(1, .d (.int .i64 most2)), (2, .d (.bool marked3)), (3, .ptr (Γ.n0 + 3) 0), (9, .own 2 (List.map e_automaton_found all36)), (10, .d (.int .i64 i12))], memOf Γ.n0 (bxs [(3, [.d (.lst 1 (List.map (eI .i64) a1.Alphabet)), .d (.int .i64 a1.States), .d (.lst 1 (List.map (eI .i64) a1.Marked)), .d (.lst 3 (List.map e_api_Edge a1.Edges))])]) M, Γ.n0 + 102⟩) h (fun z h => ?_) (fun z h => ?_)
         ·refine Tr.seq ?_
          refine Tr.rgnD (by decide) ?_
          refine Rn.load (v := .agg [.d (.lst 1 (List.map (eI .i64) a1.Alphabet)), .d (.int .i64 a1.States), .d (.lst 1 (List.map (eI .i64) a1.Marked)), .d (.lst 3 (List.map e_api_Edge a1.Edges))]) trivial rfl (boxOwn rfl) rfl rfl (Rn.mov (v := .d (.lst 2 (List.map e_automaton_found all11))) trivial rfl (md rfl ?_))
          obtain ⟨x18, h19, h⟩ := bnd h
          refine Rn.idxD (e := e_automaton_found) trivial rfl rfl h19 (Rn.fldC trivial rfl (Rn.loadC (x := .int .i64 x18.state_) trivial rfl ?_))
          obtain ⟨x21, h20, h⟩ := bnd h
          refine Rn.call (args := [.agg [.d (.lst 1 (List.map (eI .i64) a1.Alphabet)), .d (.int .i64 a1.States), .d (.lst 1 (List.map (eI .i64) a1.Marked)), .d (.lst 3 (List.map e_api_Edge a1.Edges))], .d (.int .i64 x18.state_)]) trivial rfl (H_automaton_out _ _ _ h20) pc0 (Rn.lenD trivial rfl (md rfl ?_))
          refine Rn.nil ⟨rfl, ?_⟩
          refine toN (Tr.block ?_)
          refine Tr.loop (mk := fun ((all22, x23) : (List automaton_found) × Int) => ⟨look [(1, .d (.int .i64 most2)), (2, .d (.bool marked3)), (3, .ptr (Γ.n0 + 3) 0), (9, .own 2 (List.map e_automaton_found all22)), (10, .d (.int .i64 i12)), (52, .d (.lst 3 (List.map e_api_Edge x21))), (53, .d (.int .i64 (x21.length : Int))), (54, .d (.int .i64 x23))], memOf Γ.n0 (bxs [(3, [.d (.lst 1 (List.map (eI .i64) a1.Alphabet)), .d (.int .i64 a1.States), .d (.lst 1 (List.map (eI .i64) a1.Marked)), .d (.lst 3 (List.map e_api_Edge a1.Edges))])]) M, Γ.n0 + 102⟩) h (by show WeakSt Γ (clean _ _ _) ⟨look _, memOf _ (bxs _) _, _⟩; exact weak_clean ⟨(.same rfl), ⟨(.same rfl), ⟨(kPtr rfl), ⟨(.same rfl), ⟨(.same rfl), ⟨(.same rfl), ⟨(.same rfl), ⟨(.same rfl), trivial⟩⟩⟩⟩⟩⟩⟩⟩ ⟨⟨_, rfl, rfl, (.same rfl)⟩, trivial⟩ rfl) (fun k24 z h => ?_)
          ·obtain ⟨all22, x23⟩ := z
           replace h : _ = some _ := h
           refine sr ((Rn.bin trivial rfl rfl rfl (nt ((Tr.seq ?_)))))
           refine Tr.cond rfl (fun hb25 => ?_) (fun hb25 => ?_)
           ·replace h := ifT hb25 h
            refine Tr.skip (toN (Tr.seq (Tr.block (Tr.seq (Tr.rgn ?_)))))
            obtain ⟨x26, h27, h⟩ := bnd h
            refine Rn.idxD (e := e_api_Edge) trivial rfl rfl h27 (Rn.loadCA (vs := [.d (.int .i64 x26.From), .d (.int .i64 x26.Event), .d (.int .i64 x26.To)]) trivial rfl rfl rfl (Rn.alloc trivial rfl (Rn.store (v := .agg [.d (.int .i64 x26.From), .d (.int .i64 x26.Event), .d (.int .i64 x26.To)]) (cs' := [.d (.int .i64 x26.From), .d (.int .i64 x26.Event), .d (.int .i64 x26.To)]) trivial rfl rfl rfl rfl rfl rfl (Rn.nil (toN ?_)))))
            refine Tr.rgnD (by decide) ?_
            refine Rn.movTO trivial rfl (md rfl (md rfl ?_))
            obtain ⟨x28, h29, h⟩ := bnd h
            refine Rn.idxD (e := e_automaton_found) trivial rfl rfl h29 (Rn.fldC trivial rfl (Rn.loadC (x := .lst 1 (List.map (eI .i64) x28.word_)) trivial rfl ?_))
            obtain ⟨x31, h30, h⟩ := bnd h
            refine Rn.call (args := [.d (.lst 1 (List.map (eI .i64) x28.word_))]) trivial rfl (H_slices_Clone_int _ _ h30) (fun _ => memOut hM rfl) (Rn.fldP (o' := 1) trivial rfl rfl (Rn.load (v := .d (.int .i64 x26.Event)) trivial rfl (boxOwn rfl) rfl rfl (Rn.bslice (xs := [.d (.int .i64 x26.Event)]) (cs := [.d (.int .i64 x26.Event)]) trivial rfl rfl rfl rfl ?_)))
            obtain ⟨x32, h33, h⟩ := bnd h
            refine Rn.app (e := (eI .i64)) trivial rfl rfl rfl (elems_box rfl rfl rfl) h33 rfl (Rn.fldP (o' := 2) trivial rfl rfl (Rn.load (v := .d (.int .i64 x26.To)) trivial rfl (boxOwn rfl) rfl rfl (Rn.build (v := .agg [.d (.lst 1 (List.map (eI .i64) x32)), .d (.int .i64 x26.To)]) trivial rfl (Rn.bslice (xs := [.agg [.d (.lst 1 (List.map (eI .i64) x32)), .d (.int .i64 x26.To)]]) (cs := [.d (.lst 1 (List.map (eI .i64) x32)), .d (.int .i64 x26.To)]) trivial rfl rfl rfl rfl ?_))))
            obtain ⟨x34, h35, h⟩ := bnd h
            refine Rn.app (e := e_automaton_found) trivial rfl rfl rfl (elems_box rfl rfl rfl) h35 rfl (Rn.movTO trivial rfl ?_)
            refine Rn.nil ⟨rfl, ?_⟩
            refine toN (Tr.rgn (Rn.bin trivial rfl rfl rfl (md rfl (Rn.nil ?_))))
            exact ⟨_, h, (by show WeakSt Γ (clean _ _ _) ⟨look _, memOf _ (bxs _) _, _⟩; exact weak_clean ⟨(.same rfl), ⟨(.same rfl), ⟨(kPtr rfl), ⟨(.same rfl), ⟨(.same rfl), ⟨(.same rfl), ⟨(.same rfl), ⟨(.same rfl), trivial⟩⟩⟩⟩⟩⟩⟩⟩ ⟨⟨_, rfl, rfl, (.same rfl)⟩, trivial⟩ rfl)⟩
           ·replace h := ifF hb25 h
            refine Tr.exit ?_
            replace h := si h; subst h
            show WeakSt Γ _ ⟨look _, memOf _ (bxs _) _, _⟩; exact weak_cut [] ⟨(.same rfl), ⟨(.same rfl), ⟨(kPtr rfl), ⟨(.same rfl), ⟨(.same rfl), trivial⟩⟩⟩⟩⟩ ⟨⟨_, rfl, rfl, (.same rfl)⟩, trivial⟩ rfl
         ·obtain ⟨all36, rfl⟩ : ∃ x, x = z := ⟨_, rfl⟩
          refine sr ((Rn.mov (v := .d (.lst 2 (List.map e_automaton_found all36))) trivial rfl (Rn.lenD trivial rfl (Rn.bin trivial rfl rfl rfl (Rn.nil (toN ?_))))))
          refine Tr.cond rfl (fun hb37 => ?_) (fun hb37 => ?_)
          ·replace h := ifT hb37 h
           refine sr ((Rn.movTC (v := .nils 1) trivial (md rfl (nt ((Tr.ret ?_))))))
           replace h := si h; subst h
           exact ⟨.inr rfl, .tup [.nils 1, .d (.int .i64 3)], res2 rfl rfl, (WkV.tup (.cons (WkV.nilsO _) (.cons (.same rfl) .nil))).rd, ⟨trivial, trivial, trivial⟩, fun k hk => memOf_base hk⟩
          ·replace h := ifF hb37 h
           refine Tr.skip (toN (Tr.rgn (md rfl (Rn.bin trivial rfl rfl rfl (md rfl (Rn.nil ?_))))))
           exact ⟨_, h, (by show WeakSt Γ (clean _ _ _) ⟨look _, memOf _ (bxs _) _, _⟩; exact weak_clean ⟨(.same rfl), ⟨(.same rfl), ⟨(kPtr rfl), ⟨(.same rfl), ⟨(.same rfl), trivial⟩⟩⟩⟩⟩ ⟨⟨_, rfl, rfl, (.same rfl)⟩, trivial⟩ rfl)⟩
       ·replace h := ifF hb14 h
        refine Tr.exit ?_
        exact ⟨_, h, (by show WeakSt Γ _ ⟨look _, memOf _ (bxs _) _, _⟩; exact weak_cut [] ⟨(.same rfl), ⟨(kPtr rfl), ⟨(.same rfl), trivial⟩⟩⟩ ⟨⟨_, rfl, rfl, (.same rfl)⟩, trivial⟩ rfl)⟩
     ·obtain ⟨all38, rfl⟩ : ∃ x, x = z := ⟨_, rfl⟩
      refine sr ((Rn.movTC (v := .nils 1) trivial (Rn.nil (toN ?_))))
      refine Tr.cutB (fun (l57 : List (List Int)) => ⟨look [(13, .own 1 (List.map (eL 1 (eI .i64)) l57))], memOf Γ.n0 (bxs [(3, [.d (.lst 1 (List.map (eI .i64) a1.Alphabet)), .d (.int .i64 a1.States), .d (.lst 1 (List.map (eI .i64) a1.Marked)), .d (.lst 3 (List.map e_api_Edge a1.Edges))])]) M, Γ.n0 + 102⟩) h (fun z h => ?_) (fun z h => ?_)
      ·refine sr ((Rn.mov (v := .d (.lst 2 (List.map e_automaton_found all38))) trivial rfl (Rn.lenD trivial rfl (md rfl (nt ((Tr.block ?_)))))))
       refine Tr.loop (mk := fun ((l39, x40) : (List (List Int)) × Int) => ⟨look [(2, .d (.bool marked3)), (3, .ptr (Γ.n0 + 3) 0), (13, .own 1 (List.map (eL 1 (eI .i64)) l39)), (78, .d (.lst 2 (List.map e_automaton_found all38))), (79, .d (.int .i64 (all38.length : Int))), (80, .d (.int .i64 x40))], memOf Γ.n0 (bxs [(3, [.d (.lst 1 (List.map (eI .i64) a1.Alphabet)), .d (.int .i64 a1.States), .d (.lst 1 (List.map (eI .i64) a1.Marked)), .d (.lst 3 (List.map e_api_Edge a1.Edges))])]) M, Γ.n0 + 102⟩) h (by show WeakSt Γ (clean _ _ _) ⟨look _, memOf _ (bxs _) _, _⟩; exact weak_clean ⟨(.same rfl), ⟨(kPtr rfl), ⟨(WkV.nilsO _), ⟨(.same rfl), ⟨(.same rfl), ⟨(.same rfl), trivial⟩⟩⟩⟩⟩⟩ ⟨⟨_, rfl, rfl, (.same rfl)⟩, trivial⟩ rfl) (fun k41 z h => ?_)
       ·obtain ⟨l39, x40⟩ := z
        replace h : _ = some _ := h
        refine sr ((Rn.bin trivial rfl rfl rfl (nt ((Tr.seq ?_)))))
        refine Tr.cond rfl (fun hb42 => ?_) (fun hb42 => ?_)
        ·replace h := ifT hb42 h
         refine Tr.skip (toN ?_)
         refine Tr.cutB (fun ((l54, c55, c56) : (List (List Int)) × (List Int) × Int) => ⟨look [(2, .d (.bool marked3)), (3, .ptr (Γ.n0 + 3) 0), (13, .own 1 (List.map (eL 1 (eI .i64)) l54)), (78, .d (.lst 2 (List.map e_automaton_found all38))), (79, .d (.int .i64 (all38.length : Int))), (80, .d (.int .i64 x40))], memOf Γ.n0 (bxs [(3, [.d (.lst 1 (List.map (eI .i64) a1.Alphabet)), .d (.int .i64 a1.States), .d (.lst 1 (List.map (eI .i64) a1.Marked)), .d (.lst 3 (List.map e_api_Edge a1.Edges))]), (15, [.d (.lst 1 (List.map (eI .i64) c55)), .d (.int .i64 c56)])]) M, Γ.n0 + 102⟩) h (fun z h => ?_) (fun z h => ?_)
         ·refine Tr.block (Tr.seq (Tr.rgn ?_))
          obtain ⟨x43, h44, h⟩ := bnd h
          refine Rn.idxD (e := e_automaton_found) trivial rfl rfl h44 (Rn.loadCA (vs := [.d (.lst 1 (List.map (eI .i64) x43.word_)), .d (.int .i64 x43.state_)]) trivial rfl rfl rfl (Rn.alloc trivial rfl (Rn.store (v := .agg [.d (.lst 1 (List.map (eI .i64) x43.word_)), .d (.int .i64 x43.state_)]) (cs' := [.d (.lst 1 (List.map (eI .i64) x43.word_)), .d (.int .i64 x43.state_)]) trivial rfl rfl rfl rfl rfl rfl (Rn.nil (toN ?_)))))
          refine Tr.cutB (fun (x48 : Bool) => ⟨look [(2, .d (.bool marked3)), (3, .ptr (Γ.n0 + 3) 0), (13, .own 1 (List.map (eL 1 (eI .i64)) l39)), (15, .ptr (Γ.n0 + 15) 0), (78, .d (.lst 2 (List.map e_automaton_found all38))), (79, .d (.int .i64 (all38.length : Int))), (80, .d (.int .i64 x40)), (92, .d (.bool x48))], memOf Γ.n0 (bxs [(3, [.d (.lst 1 (List.map (eI .i64) a1.Alphabet)), .d (.int .i64 a1.States), .d (.lst 1 (List.map (eI .i64) a1.Marked)), .d (.lst 3 (List.map e_api_Edge a1.Edges))]), (15, [.d (.lst 1 (List.map (eI .i64) x43.word_)), .d (.int .i64 x43.state_)])]) M, Γ.n0 + 102⟩) h (fun z h => ?_) (fun z h => ?_)
          ·refine Tr.rgn (md rfl (Rn.un trivial rfl rfl (md rfl ?_)))
           refine bsplit marked3 (fun hb45 => ?_) (fun hb45 => ?_)
           ·replace h := bT hb45 h
            refine Rn.fldP (o' := 2) (gw rfl (nT hb45)) rfl rfl (Rn.load (v := .d (.lst 1 (List.map (eI .i64) a1.Marked))) (gw rfl (nT hb45)) rfl (boxOwn rfl) rfl rfl (Rn.fldP (o' := 1) (gw rfl (nT hb45)) rfl rfl (Rn.load (v := .d (.int .i64 x43.state_)) (gw rfl (nT hb45)) rfl (boxOwn rfl) rfl rfl ?_)))
            obtain ⟨x47, h46, h⟩ := bnd h
            refine Rn.call (args := [.d (.lst 1 (List.map (eI .i64) a1.Marked)), .d (.int .i64 x43.state_)]) (gw rfl (nT hb45)) rfl (H_slices_Contains_int _ _ _ h46) pc9 (Rn.pickF (v := .d (.bool x47)) trivial rfl (nT hb45) rfl (Rn.nil ?_))
            replace h := si h; subst h
            show WeakSt Γ _ ⟨look _, memOf _ (bxs _) _, _⟩; exact weak_cut [] ⟨(.same rfl), ⟨(kPtr rfl), ⟨(.same rfl), ⟨(kPtr rfl), ⟨(.same rfl), ⟨(.same rfl), ⟨(.same rfl), ⟨(.same rfl), trivial⟩⟩⟩⟩⟩⟩⟩⟩ ⟨⟨_, rfl, rfl, (.same rfl)⟩, ⟨⟨_, rfl, rfl, (.same rfl)⟩, trivial⟩⟩ rfl
           ·replace h := bF hb45 h
            refine Rn.sk (nw rfl (nF hb45)) (Rn.sk (nw rfl (nF hb45)) (Rn.sk (nw rfl (nF hb45)) (Rn.sk (nw rfl (nF hb45)) (Rn.sk (nw rfl (nF hb45)) (Rn.pickT (v := .d (.bool true)) trivial rfl (nF hb45) rfl (Rn.nil ?_))))))
            replace h := si h; subst h
            show WeakSt Γ _ ⟨look _, memOf _ (bxs _) _, _⟩; exact weak_cut [] ⟨(.same rfl), ⟨(kPtr rfl), ⟨(.same rfl), ⟨(kPtr rfl), ⟨(.same rfl), ⟨(.same rfl), ⟨(.same rfl), ⟨(.same rfl), trivial⟩⟩⟩⟩⟩⟩⟩⟩ ⟨⟨_, rfl, rfl, (.same rfl)⟩, ⟨⟨_, rfl, rfl, (.same rfl)⟩, trivial⟩⟩ rfl
          ·obtain ⟨x48, rfl⟩ : ∃ x, x = z := ⟨_, rfl⟩
           refine Tr.cond rfl (fun hb49 => ?_) (fun hb49 => ?_)
           ·replace h := bT hb49 h
            refine Tr.rgn (Rn.movTO trivial rfl (Rn.bslice (xs := []) (cs := []) trivial rfl rfl rfl rfl (Rn.fldP (o' := 0) trivial rfl rfl (Rn.load (v := .d (.lst 1 (List.map (eI .i64) x43.word_))) trivial rfl (boxOwn rfl) rfl rfl ?_))))
            obtain ⟨x50, h51, h⟩ := bnd h
            refine Rn.app0 (e := (eI .i64)) trivial rfl rfl rfl rfl elems_lst h51 rfl (Rn.bslice (xs := [.d (.lst 1 (List.map (eI .i64) x50))]) (cs := [.d (.lst 1 (List.map (eI .i64) x50))]) trivial rfl rfl rfl rfl ?_)
            obtain ⟨x52, h53, h⟩ := bnd h
            refine Rn.app (e := (eL 1 (eI .i64))) trivial rfl rfl rfl (elems_box rfl rfl rfl) h53 rfl (Rn.movTO trivial rfl (Rn.nil ?_))
            replace h := si h; subst h
            show WeakSt Γ _ ⟨look _, memOf _ (bxs _) _, _⟩; exact weak_cut [94, 98] ⟨(.same rfl), ⟨(kPtr rfl), ⟨(.same rfl), ⟨(.same rfl), ⟨(.same rfl), ⟨(.same rfl), trivial⟩⟩⟩⟩⟩⟩ ⟨⟨_, rfl, rfl, (.same rfl)⟩, ⟨⟨_, rfl, rfl, (.same rfl)⟩, trivial⟩⟩ rfl
           ·replace h := bF hb49 h
            refine Tr.skip ?_
            replace h := si h; subst h
            show WeakSt Γ _ ⟨look _, memOf _ (bxs _) _, _⟩; exact weak_cut [] ⟨(.same rfl), ⟨(kPtr rfl), ⟨(.same rfl), ⟨(.same rfl), ⟨(.same rfl), ⟨(.same rfl), trivial⟩⟩⟩⟩⟩⟩ ⟨⟨_, rfl, rfl, (.same rfl)⟩, ⟨⟨_, rfl, rfl, (.same rfl)⟩, trivial⟩⟩ rfl
         ·obtain ⟨l54, c55, c56⟩ := z
          refine Tr.rgn (Rn.bin trivial rfl rfl rfl (md rfl (Rn.nil ?_)))
          exact ⟨_, h, (by show WeakSt Γ (clean _ _ _) ⟨look _, memOf _ (bxs _) _, _⟩; exact weak_clean ⟨(.same rfl), ⟨(kPtr rfl), ⟨(.same rfl), ⟨(.same rfl), ⟨(.same rfl), ⟨(.same rfl), trivial⟩⟩⟩⟩⟩⟩ ⟨⟨_, rfl, rfl, (.same rfl)⟩, trivial⟩ rfl)⟩
        ·replace h := ifF hb42 h
         refine Tr.exit ?_
         replace h := si h; subst h
         show WeakSt Γ _ ⟨look _, memOf _ (bxs _) _, _⟩; exact weak_cut [] ⟨(.same rfl), trivial⟩ ⟨⟨_, rfl, rfl, (.same rfl)⟩, trivial⟩ rfl
      ·obtain ⟨l57, rfl⟩ : ∃ x, x = z := ⟨_, rfl⟩
       refine sr ((Rn.movTO trivial rfl (Rn.movTO trivial rfl (md rfl (nt ((Tr.ret ?_)))))))
       replace h := si h; subst h
       exact ⟨.inr rfl, .tup [.own 1 (List.map (eL 1 (eI .i64)) l57), .d (.int .i64 0)], res2 rfl rfl, (WkV.tup (.cons (.same rfl) (.cons (.same rfl) .nil))).rd, ⟨trivial, trivial, trivial⟩, fun k hk => memOf_base hk⟩
theorem automaton_Relabel_walk {P : Program} {c : Nat} {gv : Nat} {f_automaton_Check : api_Automaton → Option Int} {f_slices_Contains_int : (List Int) → Int → Option Bool} {f_slices_Sorted_int : List Int → Option (List Int)} {f_slices_Index_int : (List Int) → Int → Option Int} {f_automaton_sortEdges : List api_Edge → Option (List api_Edge)} {f_automaton_canonical : api_Automaton → Option api_Automaton}
    (H_automaton_Check : K_automaton_Check P 45 f_automaton_Check)
    (H_slices_Contains_int : K_slices_Contains_int P 50 f_slices_Contains_int)
    (H_slices_Sorted_int : OverK P 52 gv (eI .i64) 1 f_slices_Sorted_int)
    (H_slices_Values_int : ValsK P 53 gv 1 4)
    (H_slices_Index_int : K_slices_Index_int P 54 f_slices_Index_int)
    (H_automaton_sortEdges : RowK P 55 e_api_Edge 3 [] f_automaton_sortEdges)
    (H_automaton_canonical : K_automaton_canonical P 56 f_automaton_canonical) (hcf : compFn P c = some F_automaton_Relabel) (fuel : Nat) : K_automaton_Relabel P c (f_automaton_Relabel f_automaton_Check f_slices_Contains_int f_slices_Sorted_int f_slices_Index_int f_automaton_sortEdges f_automaton_canonical fuel) := by
 intro a1 to2 r h
 refine fn_trT hcf (args' := [.agg [.f (.lst 1 (List.map (eI .i64) a1.Alphabet)), .d (.int .i64 a1.States), .f (.lst 1 (List.map (eI .i64) a1.Marked)), .f (.lst 3 (List.map e_api_Edge a1.Edges))], .f (.lst 1 (List.map (eI .i64) to2))]) rfl rfl rfl rfl rfl rfl fun Γ M hP hnt hG hM0 hM => ?_
 subst hP
 refine Tr.init [(0, .agg [.f (.lst 1 (List.map (eI .i64) a1.Alphabet)), .d (.int .i64 a1.States), .f (.lst 1 (List.map (eI .i64) a1.Marked)), .f (.lst 3 (List.map e_api_Edge a1.Edges))]), (1, .f (.lst 1 (List.map (eI .i64) to2)))] rfl ?_
 unfold f_automaton_Relabel at h
 unfold F_automaton_Relabel
 refine sr ((Rn.box (v := .agg [.f (.lst 1 (List.map (eI .i64) a1.Alphabet)), .d (.int .i64 a1.States), .f (.lst 1 (List.map (eI .i64) a1.Marked)), .f (.lst 3 (List.map e_api_Edge a1.Edges))]) (cs := [.f (.lst 1 (List.map (eI .i64) a1.Alphabet)), .d (.int .i64 a1.States), .f (.lst 1 (List.map (eI .i64) a1.Marked)), .f (.lst 3 (List.map e_api_Edge a1.Edges))]) trivial rfl rfl rfl rfl rfl (Rn.alloc trivial rfl (md rfl (nt ((Tr.seq (sr ((Rn.load (v := .agg [.f (.lst 1 (List.map (eI .i64) a1.Alphabet)), .d (.int .i64 a1.States), .f (.lst 1 (List.map (eI .i64) a1.Marked)), .f (.lst 3 (List.map e_api_Edge a1.Edges))]) trivial rfl (boxOwn rfl) rfl rfl ?_))))))))))
 refine Rn.weak (by show WeakSt Γ _ ⟨look [(0, .agg [.f (.lst 1 (List.map (eI .i64) a1.Alphabet)), .d (.int .i64 a1.States), .f (.lst 1 (List.map (eI .i64) a1.Marked)), .f (.lst 3 (List.map e_api_Edge a1.Edges))]), (1, .f (.lst 1 (List.map (eI .i64) to2))), (2, .ptr (Γ.n0 + 2) 0), (4, .ptr (Γ.n0 + 4) 0), (5, .d (.int .i64 0)), (12, .agg [.d (.lst 1 (List.map (eI .i64) a1.Alphabet)), .d (.int .i64 a1.States), .d (.lst 1 (List.map (eI .i64) a1.Marked)), .d (.lst 3 (List.map e_api_Edge a1.Edges))])], memOf Γ.n0 (bxs [(2, [.f (.lst 1 (List.map (eI .i64) a1.Alphabet)), .d (.int .i64 a1.States), .f (.lst 1 (List.map (eI .i64) a1.Marked)), .f (.lst 3 (List.map e_api_Edge a1.Edges))]), (4, [.nils 1, .d (.int .i64 0), .nils 1, .nils 3])]) M, Γ.n0 + 84⟩; exact weak_cut [] ⟨(.same rfl), ⟨(.same rfl), ⟨(kPtr rfl), ⟨(kPtr rfl), ⟨(.same rfl), ⟨(WkV.agg (.cons fToD (.cons (.same rfl) (.cons fToD (.cons fToD .nil))))), trivial⟩⟩⟩⟩⟩⟩ ⟨⟨_, rfl, rfl, (.same rfl)⟩, ⟨⟨_, rfl, rfl, (.same rfl)⟩, trivial⟩⟩ rfl) ?_
 obtain ⟨x4, h3, h⟩ := bnd h
 refine Rn.call (args := [.agg [.d (.lst 1 (List.map (eI .i64) a1.Alphabet)), .d (.int .i64 a1.States), .d (.lst 1 (List.map (eI .i64) a1.Marked)), .d (.lst 3 (List.map e_api_Edge a1.Edges))]]) trivial rfl (H_automaton_Check _ _ h3) pc9 (md rfl (nt ((sr ((md rfl (Rn.bin trivial rfl rfl rfl (Rn.nil (toN ?_)))))))))
 refine Tr.cond rfl (fun hb5 => ?_) (fun hb5 => ?_)
 ·replace h := bT hb5 h
  refine sr ((Rn.build (v := .agg [.nils 1, .d (.int .i64 0), .nils 1, .nils 3]) trivial rfl (md rfl (Rn.store (v := .agg [.nils 1, .d (.int .i64 0), .nils 1, .nils 3]) (cs' := [.nils 1, .d (.int .i64 0), .nils 1, .nils 3]) trivial rfl rfl rfl rfl rfl rfl (md rfl (nt ((Tr.ret ?_))))))))
  replace h := si h; subst h
  exact ⟨.inr rfl, .tup [.agg [.nils 1, .d (.int .i64 0), .nils 1, .nils 3], .d (.int .i64 x4)], res2 (resCell rfl rfl rfl rfl) rfl, (WkV.tup (.cons (WkV.agg (.cons (WkV.nilsD _) (.cons (.same rfl) (.cons (WkV.nilsD _) (.cons (WkV.nilsD _) .nil))))) (.cons (.same rfl) .nil))).rd, ⟨⟨trivial, trivial, trivial, trivial, trivial⟩, trivial, trivial⟩, fun k hk => memOf_base hk⟩
 ·replace h := bF hb5 h
  refine Tr.skip (toN (Tr.seq (sr ((Rn.mov (v := .f (.lst 1 (List.map (eI .i64) to2))) trivial rfl ?_)))))
  refine Rn.weak (by show WeakSt Γ _ ⟨look [(0, .agg [.f (.lst 1 (List.map (eI .i64) a1.Alphabet)), .d (.int .i64 a1.States), .f (.lst 1 (List.map (eI .i64) a1.Marked)), .f (.lst 3 (List.map e_api_Edge a1.Edges))]), (1, .f (.lst 1 (List.map (eI .i64) to2))), (2, .ptr (Γ.n0 + 2) 0), (4, .ptr (Γ.n0 + 4) 0), (5, .d (.int .i64 0)), (6, .d (.int .i64 x4)), (12, .agg [.d (.lst 1 (List.map (eI .i64) a1.Alphabet)), .d (.int .i64 a1.States), .d (.lst 1 (List.map (eI .i64) a1.Marked)), .d (.lst 3 (List.map e_api_Edge a1.Edges))]), (13, .d (.int .i64 x4)), (14, .d (.int .i64 x4)), (15, .d (.bool (x4 != 0))), (18, .d (.lst 1 (List.map (eI .i64) to2)))], memOf Γ.n0 (bxs [(2, [.f (.lst 1 (List.map (eI .i64) a1.Alphabet)), .d (.int .i64 a1.States), .f (.lst 1 (List.map (eI .i64) a1.Marked)), .f (.lst 3 (List.map e_api_Edge a1.Edges))]), (4, [.nils 1, .d (.int .i64 0), .nils 1, .nils 3])]) M, Γ.n0 + 84⟩; exact weak_cut [] ⟨(.same rfl), ⟨(.same rfl), ⟨(kPtr rfl), ⟨(kPtr rfl), ⟨(.same rfl), ⟨(.same rfl), ⟨(.same rfl), ⟨(.same rfl), ⟨(.same rfl), ⟨(.same rfl), ⟨fToD, trivial⟩⟩⟩⟩⟩⟩⟩⟩⟩⟩⟩ ⟨⟨_, rfl, rfl, (.same rfl)⟩, ⟨⟨_, rfl, rfl, (.same rfl)⟩, trivial⟩⟩ rfl) ?_
  refine Rn.lenD trivial rfl (Rn.fldP (o' := 0) trivial rfl rfl (Rn.load (v := .f (.lst 1 (List.map (eI .i64) a1.Alphabet))) trivial rfl (boxOwn rfl) rfl rfl ?_))
  refine Rn.weak (by show WeakSt Γ _ ⟨look [(0, .agg [.f (.lst 1 (List.map (eI .i64) a1.Alphabet)), .d (.int .i64 a1.States), .f (.lst 1 (List.map (eI .i64) a1.Marked)), .f (.lst 3 (List.map e_api_Edge a1.Edges))]), (1, .f (.lst 1 (List.map (eI .i64) to2))), (2, .ptr (Γ.n0 + 2) 0), (4, .ptr (Γ.n0 + 4) 0), (5, .d (.int .i64 0)), (6, .d (.int .i64 x4)), (12, .agg [.d (.lst 1 (List.map (eI .i64) a1.Alphabet)), .d (.int .i64 a1.States), .d (.lst 1 (List.map (eI .i64) a1.Marked)), .d (.lst 3 (List.map e_api_Edge a1.Edges))]), (13, .d (.int .i64 x4)), (14, .d (.int .i64 x4)), (15, .d (.bool (x4 != 0))), (18, .d (.lst 1 (List.map (eI .i64) to2))), (19, .d (.int .i64 (to2.length : Int))), (20, .ptr (Γ.n0 + 2) 0), (21, .d (.lst 1 (List.map (eI .i64) a1.Alphabet)))], memOf Γ.n0 (bxs [(2, [.f (.lst 1 (List.map (eI .i64) a1.Alphabet)), .d (.int .i64 a1.States), .f (.lst 1 (List.map (eI .i64) a1.Marked)), .f (.lst 3 (List.map e_api_Edge a1.Edges))]), (4, [.nils 1, .d (.int .i64 0), .nils 1, .nils 3])]) M, Γ.n0 + 84⟩; exact weak_cut [] ⟨(.same rfl), ⟨(.same rfl), ⟨(kPtr rfl), ⟨(kPtr rfl), ⟨(.same rfl), ⟨(.same rfl), ⟨(.same rfl), ⟨(.same rfl), ⟨(.same rfl), ⟨(.same rfl), ⟨(.same rfl), ⟨(.same rfl), ⟨(kPtr rfl), ⟨fToD, trivial⟩⟩⟩⟩⟩⟩⟩⟩⟩⟩⟩⟩⟩⟩ ⟨⟨_, rfl, rfl, (.same rfl)⟩, ⟨⟨_, rfl, rfl, (.same rfl)⟩, trivial⟩⟩ rfl) ?_
  refine Rn.lenD trivial rfl (Rn.bin trivial rfl rfl rfl (Rn.nil (toN ?_)))
  refine Tr.cond rfl (fun hb6 => ?_) (fun hb6 => ?_)
  ·replace h := bT hb6 h
   refine sr ((Rn.build (v := .agg [.nils 1, .d (.int .i64 0), .nils 1, .nils 3]) trivial rfl (Rn.store (v := .agg [.nils 1, .d (.int .i64 0), .nils 1, .nils 3]) (cs' := [.nils 1, .d (.int .i64 0), .nils 1, .nils 3]) trivial rfl rfl rfl rfl rfl rfl (md rfl (nt ((Tr.ret ?_)))))))
   replace h := si h; subst h
   exact ⟨.inr rfl, .tup [.agg [.nils 1, .d (.int .i64 0), .nils 1, .nils 3], .d (.int .i64 4)], res2 (resCell rfl rfl rfl rfl) rfl, (WkV.tup (.cons (WkV.agg (.cons (WkV.nilsD _) (.cons (.same rfl) (.cons (WkV.nilsD _) (.cons (WkV.nilsD _) .nil))))) (.cons (.same rfl) .nil))).rd, ⟨⟨trivial, trivial, trivial, trivial, trivial⟩, trivial, trivial⟩, fun k hk => memOf_base hk⟩
  ·replace h := bF hb6 h
   refine Tr.skip (toN (Tr.seq (sr ((Rn.mov (v := .f (.lst 1 (List.map (eI .i64) to2))) trivial rfl ?_)))))
   refine Rn.weak (by show WeakSt Γ _ ⟨look [(0, .agg [.f (.lst 1 (List.map (eI .i64) a1.Alphabet)), .d (.int .i64 a1.States), .f (.lst 1 (List.map (eI .i64) a1.Marked)), .f (.lst 3 (List.map e_api_Edge a1.Edges))]), (1, .f (.lst 1 (List.map (eI .i64) to2))), (2, .ptr (Γ.n0 + 2) 0), (4, .ptr (Γ.n0 + 4) 0), (5, .d (.int .i64 0)), (6, .d (.int .i64 x4)), (12, .agg [.d (.lst 1 (List.map (eI .i64) a1.Alphabet)), .d (.int .i64 a1.States), .d (.lst 1 (List.map (eI .i64) a1.Marked)), .d (.lst 3 (List.map e_api_Edge a1.Edges))]), (13, .d (.int .i64 x4)), (14, .d (.int .i64 x4)), (15, .d (.bool (x4 != 0))), (18, .d (.lst 1 (List.map (eI .i64) to2))), (19, .d (.int .i64 (to2.length : Int))), (20, .ptr (Γ.n0 + 2) 0), (21, .d (.lst 1 (List.map (eI .i64) a1.Alphabet))), (22, .d (.int .i64 (a1.Alphabet.length : Int))), (23, .d (.bool ((to2.length : Int) != (a1.Alphabet.length : Int)))), (25, .d (.lst 1 (List.map (eI .i64) to2)))], memOf Γ.n0 (bxs [(2, [.f (.lst 1 (List.map (eI .i64) a1.Alphabet)), .d (.int .i64 a1.States), .f (.lst 1 (List.map (eI .i64) a1.Marked)), .f (.lst 3 (List.map e_api_Edge a1.Edges))]), (4, [.nils 1, .d (.int .i64 0), .nils 1, .nils 3])]) M, Γ.n0 + 84⟩; exact weak_cut [] ⟨(.same rfl), ⟨(.same rfl), ⟨(kPtr rfl), ⟨(kPtr rfl), ⟨(.same rfl), ⟨(.same rfl), ⟨(.same rfl), ⟨(.same rfl), ⟨(.same rfl), ⟨(.same rfl), ⟨(.same rfl), ⟨(.same rfl), ⟨(kPtr rfl), ⟨(.same rfl), ⟨(.same rfl), ⟨(.same rfl), ⟨fToD, trivial⟩⟩⟩⟩⟩⟩⟩⟩⟩⟩⟩⟩⟩⟩⟩⟩⟩ ⟨⟨_, rfl, rfl, (.same rfl)⟩, ⟨⟨_, rfl, rfl, (.same rfl)⟩, trivial⟩⟩ rfl) ?_
   refine Rn.lenD trivial rfl (md rfl (nt ((Tr.block ?_))))
   refine Tr.weak (by show WeakSt Γ _ ⟨look [(0, .agg [.f (.lst 1 (List.map (eI .i64) a1.Alphabet)), .d (.int .i64 a1.States), .f (.lst 1 (List.map (eI .i64) a1.Marked)), .f (.lst 3 (List.map e_api_Edge a1.Edges))]), (1, .d (.lst 1 (List.map (eI .i64) to2))), (2, .ptr (Γ.n0 + 2) 0), (4, .ptr (Γ.n0 + 4) 0), (5, .d (.int .i64 0)), (6, .d (.int .i64 x4)), (12, .agg [.d (.lst 1 (List.map (eI .i64) a1.Alphabet)), .d (.int .i64 a1.States), .d (.lst 1 (List.map (eI .i64) a1.Marked)), .d (.lst 3 (List.map e_api_Edge a1.Edges))]), (13, .d (.int .i64 x4)), (14, .d (.int .i64 x4)), (15, .d (.bool (x4 != 0))), (18, .d (.lst 1 (List.map (eI .i64) to2))), (19, .d (.int .i64 (to2.length : Int))), (20, .ptr (Γ.n0 + 2) 0), (21, .d (.lst 1 (List.map (eI .i64) a1.Alphabet))), (22, .d (.int .i64 (a1.Alphabet.length : Int))), (23, .d (.bool ((to2.length : Int) != (a1.Alphabet.length : Int)))), (25, .d (.lst 1 (List.map (eI .i64) to2))), (26, .d (.int .i64 (to2.length : Int))), (27, .d (.int .i64 0))], memOf Γ.n0 (bxs [(2, [.f (.lst 1 (List.map (eI .i64) a1.Alphabet)), .d (.int .i64 a1.States), .f (.lst 1 (List.map (eI .i64) a1.Marked)), .f (.lst 3 (List.map e_api_Edge a1.Edges))]), (4, [.nils 1, .d (.int .i64 0), .nils 1, .nils 3])]) M, Γ.n0 + 84⟩; exact weak_cut [] ⟨(.same rfl), ⟨fToD, ⟨(kPtr rfl), ⟨(kPtr rfl), ⟨(.same rfl), ⟨(.same rfl), ⟨(.same rfl), ⟨(.same rfl), ⟨(.same rfl), ⟨(.same rfl), ⟨(.same rfl), ⟨(.same rfl), ⟨(kPtr rfl), ⟨(.same rfl), ⟨(.same rfl), ⟨(.same rfl), ⟨(.same rfl), ⟨(.same rfl), ⟨(.same rfl), trivial⟩⟩⟩⟩⟩⟩⟩⟩⟩⟩⟩⟩⟩⟩⟩⟩⟩⟩⟩ ⟨⟨_, rfl, rfl, (.same rfl)⟩, ⟨⟨_, rfl, rfl, (.same rfl)⟩, trivial⟩⟩ rfl) ?_
   refine Tr.loop (mk := fun (x7 : Int) => ⟨look [(1, .d (.lst 1 (List.map (eI .i64) to2))), (2, .ptr (Γ.n0 + 2) 0), (4, .ptr (Γ.n0 + 4) 0), (25, .d (.lst 1 (List.map (eI .i64) to2))), (26, .d (.int .i64 (to2.length : Int))), (27, .d (.int .i64 x7))], memOf Γ.n0 (bxs [(2, [.f (.lst 1 (List.map (eI .i64) a1.Alphabet)), .d (.int .i64 a1.States), .f (.lst 1 (List.map (eI .i64) a1.Marked)), .f (.lst 3 (List.map e_api_Edge a1.Edges))]), (4, [.nils 1, .d (.int .i64 0), .nils 1, .nils 3])]) M, Γ.n0 + 84⟩) h (by show WeakSt Γ (clean _ _ _) ⟨look _, memOf _ (bxs _) _, _⟩; exact weak_clean ⟨(.same rfl), ⟨(kPtr rfl), ⟨(kPtr rfl), ⟨(.same rfl), ⟨(.same rfl), ⟨(.same rfl), trivial⟩⟩⟩⟩⟩⟩ ⟨⟨_, rfl, rfl, (.same rfl)⟩, ⟨⟨_, rfl, rfl, (.same rfl)⟩, trivial⟩⟩ rfl) (fun k8 z h => ?_)
   ·obtain ⟨x7, rfl⟩ : ∃ x, x = z := ⟨_, rfl⟩
    replace h : _ = some _ := h
    refine sr ((Rn.bin trivial rfl rfl rfl (nt ((Tr.seq ?_)))))
    refine Tr.cond rfl (fun hb9 => ?_) (fun hb9 => ?_)
    ·replace h := ifT hb9 h
     refine Tr.skip (toN (Tr.seq (Tr.block (sr ((md rfl ?_))))))
     obtain ⟨x10, h11, h⟩ := bnd h
     refine Rn.idxD (e := (eI .i64)) trivial rfl rfl h11 (Rn.loadC (x := .int .i64 x10) trivial rfl (md rfl (md rfl (nt ((Tr.block ?_))))))
     refine Tr.cutB (fun (x13 : Bool) => ⟨look [(1, .d (.lst 1 (List.map (eI .i64) to2))), (2, .ptr (Γ.n0 + 2) 0), (4, .ptr (Γ.n0 + 4) 0), (7, .d (.int .i64 x7)), (8, .d (.int .i64 x10)), (25, .d (.lst 1 (List.map (eI .i64) to2))), (26, .d (.int .i64 (to2.length : Int))), (27, .d (.int .i64 x7)), (32, .d (.bool x13))], memOf Γ.n0 (bxs [(2, [.f (.lst 1 (List.map (eI .i64) a1.Alphabet)), .d (.int .i64 a1.States), .f (.lst 1 (List.map (eI .i64) a1.Marked)), .f (.lst 3 (List.map e_api_Edge a1.Edges))]), (4, [.nils 1, .d (.int .i64 0), .nils 1, .nils 3])]) M, Γ.n0 + 84⟩) h (fun z h => ?_) (fun z h => ?_)
     ·refine Tr.rgn (md rfl (Rn.bin trivial rfl rfl rfl (md rfl ?_)))
      refine bsplit (decide (x10 < 0)) (fun hb12 => ?_) (fun hb12 => ?_)
      ·replace h := ifT hb12 h
       refine Rn.sk (nw rfl hb12) (Rn.sk (nw rfl hb12) (Rn.pickT (v := .d (.bool true)) trivial rfl hb12 rfl (md rfl (Rn.nil ?_))))
       replace h := si h; subst h
       show WeakSt Γ _ ⟨look _, memOf _ (bxs _) _, _⟩; exact weak_cut [] ⟨(.same rfl), ⟨(kPtr rfl), ⟨(kPtr rfl), ⟨(.same rfl), ⟨(.same rfl), ⟨(.same rfl), ⟨(.same rfl), ⟨(.same rfl), ⟨(.same rfl), trivial⟩⟩⟩⟩⟩⟩⟩⟩⟩ ⟨⟨_, rfl, rfl, (.same rfl)⟩, ⟨⟨_, rfl, rfl, (.same rfl)⟩, trivial⟩⟩ rfl
      ·replace h := ifF hb12 h
       refine Rn.movD (gw rfl hb12) rfl (Rn.bin (gw rfl hb12) rfl rfl rfl (Rn.pickF (v := .d (.bool (decide (x10 ≥ 32)))) trivial rfl hb12 rfl (md rfl (Rn.nil ?_))))
       replace h := si h; subst h
       show WeakSt Γ _ ⟨look _, memOf _ (bxs _) _, _⟩; exact weak_cut [] ⟨(.same rfl), ⟨(kPtr rfl), ⟨(kPtr rfl), ⟨(.same rfl), ⟨(.same rfl), ⟨(.same rfl), ⟨(.same rfl), ⟨(.same rfl), ⟨(.same rfl), trivial⟩⟩⟩⟩⟩⟩⟩⟩⟩ ⟨⟨_, rfl, rfl, (.same rfl)⟩, ⟨⟨_, rfl, rfl, (.same rfl)⟩, trivial⟩⟩ rfl
     ·obtain ⟨x13, rfl⟩ : ∃ x, x = z := ⟨_, rfl⟩
      refine Tr.cond rfl (fun hb14 => ?_) (fun hb14 => ?_)
      ·replace h := bT hb14 h
       refine sr ((Rn.build (v := .agg [.nils 1, .d (.int .i64 0), .nils 1, .nils 3]) trivial rfl (Rn.store (v := .agg [.nils 1, .d (.int .i64 0), .nils 1, .nils 3]) (cs' := [.nils 1, .d (.int .i64 0), .nils 1, .nils 3]) trivial rfl rfl rfl rfl rfl rfl (md rfl (nt ((Tr.ret ?_)))))))
       replace h := si h; subst h
       exact ⟨.inr rfl, .tup [.agg [.nils 1, .d (.int .i64 0), .nils 1, .nils 3], .d (.int .i64 2)], res2 (resCell rfl rfl rfl rfl) rfl, (WkV.tup (.cons (WkV.agg (.cons (WkV.nilsD _) (.cons (.same rfl) (.cons (WkV.nilsD _) (.cons (WkV.nilsD _) .nil))))) (.cons (.same rfl) .nil))).rd, ⟨⟨trivial, trivial, trivial, trivial, trivial⟩, trivial, trivial⟩, fun k hk => memOf_base hk⟩
      ·replace h := bF hb14 h
       refine sr ((md rfl (md rfl ?_)))
       obtain ⟨x15, h16, h⟩ := bnd h
       refine Rn.slcH (e := (eI .i64)) trivial rfl rfl h16 (md rfl ?_)
       obtain ⟨x18, h17, h⟩ := bnd h
       refine Rn.call (args := [.d (.lst 1 (List.map (eI .i64) x15)), .d (.int .i64 x10)]) trivial rfl (H_slices_Contains_int _ _ _ h17) pc9 (md rfl (Rn.nil (toN ?_)))
       refine Tr.cond rfl (fun hb19 => ?_) (fun hb19 => ?_)
       ·replace h := bT hb19 h
        refine sr ((Rn.build (v := .agg [.nils 1, .d (.int .i64 0), .nils 1, .nils 3]) trivial rfl (Rn.store (v := .agg [.nils 1, .d (.int .i64 0), .nils 1, .nils 3]) (cs' := [.nils 1, .d (.int .i64 0), .nils 1, .nils 3]) trivial rfl rfl rfl rfl rfl rfl (md rfl (nt ((Tr.ret ?_)))))))
        replace h := si h; subst h
        exact ⟨.inr rfl, .tup [.agg [.nils 1, .d (.int .i64 0), .nils 1, .nils 3], .d (.int .i64 8)], res2 (resCell rfl rfl rfl rfl) rfl, (WkV.tup (.cons (WkV.agg (.cons (WkV.nilsD _) (.cons (.same rfl) (.cons (WkV.nilsD _) (.cons (WkV.nilsD _) .nil))))) (.cons (.same rfl) .nil))).rd, ⟨⟨trivial, trivial, trivial, trivial, trivial⟩, trivial, trivial⟩, fun k hk => memOf_base hk⟩
       ·replace h := bF hb19 h
        refine Tr.skip (toN (Tr.rgn (Rn.bin trivial rfl rfl rfl (md rfl (Rn.nil ?_)))))
        exact ⟨_, h, (by show WeakSt Γ (clean _ _ _) ⟨look _, memOf _ (bxs _) _, _⟩; exact weak_clean ⟨(.same rfl), ⟨(kPtr rfl), ⟨(kPtr rfl), ⟨(.same rfl), ⟨(.same rfl), ⟨(.same rfl), trivial⟩⟩⟩⟩⟩⟩ ⟨⟨_, rfl, rfl, (.same rfl)⟩, ⟨⟨_, rfl, rfl, (.same rfl)⟩, trivial⟩⟩ rfl)⟩
    ·replace h := ifF hb9 h
     refine Tr.exit (toN (Tr.seq ?_))
     refine Tr.rgnD (by decide) ?_
     refine md rfl (Rn.callVals (x := .lst 1 (List.map (eI .i64) to2)) (m := 84) trivial rfl H_slices_Values_int rfl rfl hM rfl ?_)
     obtain ⟨x20, h21, h⟩ := bnd h
     refine Rn.callM (args := [.clo gv [.ptr (Γ.n0 + 85) 0]]) trivial rfl (fun M2 nb2 hn hx => H_slices_Sorted_int _ _ h21 M2 nb2 (Γ.n0 + 85) (hx _ _ (boxOwn rfl))) rfl (fun _ => memOut hM rfl) ?_
     refine Rn.fldP (o' := 1) trivial rfl rfl (Rn.load (v := .d (.int .i64 a1.States)) trivial rfl (boxOwn rfl) rfl rfl (Rn.fldP (o' := 2) trivial rfl rfl (Rn.load (v := .f (.lst 1 (List.map (eI .i64) a1.Marked))) trivial rfl (boxOwn rfl) rfl rfl (Rn.build (v := .agg [.f (.lst 1 (List.map (eI .i64) x20)), .d (.int .i64 a1.States), .f (.lst 1 (List.map (eI .i64) a1.Marked)), .nils 3]) trivial rfl (Rn.alloc trivial rfl (Rn.store (v := .agg [.f (.lst 1 (List.map (eI .i64) x20)), .d (.int .i64 a1.States), .f (.lst 1 (List.map (eI .i64) a1.Marked)), .nils 3]) (cs' := [.f (.lst 1 (List.map (eI .i64) x20)), .d (.int .i64 a1.States), .f (.lst 1 (List.map (eI .i64) a1.Marked)), .nils 3]) trivial rfl rfl rfl rfl rfl rfl ?_))))))
     refine Rn.nil ⟨rfl, ?_⟩
     refine toN ?_
     refine Tr.weak (σ' := ⟨look [(1, .d (.lst 1 (List.map (eI .i64) to2))), (2, .ptr (Γ.n0 + 2) 0), (4, .ptr (Γ.n0 + 4) 0), (9, .ptr (Γ.n0 + 9) 0), (25, .d (.lst 1 (List.map (eI .i64) to2))), (26, .d (.int .i64 (to2.length : Int))), (27, .d (.int .i64 x7)), (28, .d (.bool (decide (x7 < (to2.length : Int))))), (48, .d (.lst 1 (List.map (eI .i64) to2))), (50, .f (.lst 1 (List.map (eI .i64) x20))), (51, .ptr (Γ.n0 + 2) 1), (52, .d (.int .i64 a1.States)), (53, .ptr (Γ.n0 + 2) 2), (54, .f (.lst 1 (List.map (eI .i64) a1.Marked))), (55, .agg [.f (.lst 1 (List.map (eI .i64) x20)), .d (.int .i64 a1.States), .f (.lst 1 (List.map (eI .i64) a1.Marked)), .nils 3])], memOf Γ.n0 (bxs [(2, [.f (.lst 1 (List.map (eI .i64) a1.Alphabet)), .d (.int .i64 a1.States), .f (.lst 1 (List.map (eI .i64) a1.Marked)), .f (.lst 3 (List.map e_api_Edge a1.Edges))]), (4, [.nils 1, .d (.int .i64 0), .nils 1, .nils 3]), (9, [.f (.lst 1 (List.map (eI .i64) x20)), .d (.int .i64 a1.States), .f (.lst 1 (List.map (eI .i64) a1.Marked)), .nils 3])]) M, Γ.n0 + 84⟩) (WeakSt.trans (σ' := ⟨look [(1, .d (.lst 1 (List.map (eI .i64) to2))), (2, .ptr (Γ.n0 + 2) 0), (4, .ptr (Γ.n0 + 4) 0), (9, .ptr (Γ.n0 + 9) 0), (25, .d (.lst 1 (List.map (eI .i64) to2))), (26, .d (.int .i64 (to2.length : Int))), (27, .d (.int .i64 x7)), (28, .d (.bool (decide (x7 < (to2.length : Int))))), (48, .d (.lst 1 (List.map (eI .i64) to2))), (50, .f (.lst 1 (List.map (eI .i64) x20))), (51, .ptr (Γ.n0 + 2) 1), (52, .d (.int .i64 a1.States)), (53, .ptr (Γ.n0 + 2) 2), (54, .f (.lst 1 (List.map (eI .i64) a1.Marked))), (55, .agg [.f (.lst 1 (List.map (eI .i64) x20)), .d (.int .i64 a1.States), .f (.lst 1 (List.map (eI .i64) a1.Marked)), .nils 3])], memOf Γ.n0 (bxs [(2, [.f (.lst 1 (List.map (eI .i64) a1.Alphabet)), .d (.int .i64 a1.States), .f (.lst 1 (List.map (eI .i64) a1.Marked)), .f (.lst 3 (List.map e_api_Edge a1.Edges))]), (4, [.nils 1, .d (.int .i64 0), .nils 1, .nils 3]), (9, [.f (.lst 1 (List.map (eI .i64) x20)), .d (.int .i64 a1.States), .f (.lst 1 (List.map (eI .i64) a1.Marked)), .nils 3])]) M, Γ.n0 + (84 + 4)⟩) (by show WeakSt Γ _ ⟨look _, memOf _ (bxs _) _, _⟩; exact weak_cut [85] ⟨(.same rfl), ⟨(kPtr rfl), ⟨(kPtr rfl), ⟨(kPtr rfl), ⟨(.same rfl), ⟨(.same rfl), ⟨(.same rfl), ⟨(.same rfl), ⟨(.same rfl), ⟨(.same rfl), ⟨(kPtr rfl), ⟨(.same rfl), ⟨(kPtr rfl), ⟨(.same rfl), ⟨(.same rfl), trivial⟩⟩⟩⟩⟩⟩⟩⟩⟩⟩⟩⟩⟩⟩⟩ ⟨⟨_, rfl, rfl, (.same rfl)⟩, ⟨⟨_, rfl, rfl, (.same rfl)⟩, ⟨⟨_, rfl, rfl, (.same rfl)⟩, trivial⟩⟩⟩ rfl) (weak_low rfl (Nat.le_of_eq hnt) hM)) ?_
     refine toN ?_
     refine Tr.cutB (fun ((c37, c38, c39, r40) : (List Int) × (List Int) × (List api_Edge) × (List api_Edge)) => ⟨look [(4, .ptr (Γ.n0 + 4) 0), (9, .ptr (Γ.n0 + 9) 0)], memOf Γ.n0 (bxs [(2, [.f (.lst 1 (List.map (eI .i64) a1.Alphabet)), .d (.int .i64 a1.States), .f (.lst 1 (List.map (eI .i64) a1.Marked)), .f (.lst 3 (List.map e_api_Edge a1.Edges))]), (4, [.own 1 (List.map (eI .i64) c37), .d (.int .i64 0), .own 1 (List.map (eI .i64) c38), .own 3 (List.map e_api_Edge c39)]), (9, [.f (.lst 1 (List.map (eI .i64) x20)), .d (.int .i64 a1.States), .f (.lst 1 (List.map (eI .i64) a1.Marked)), .own 3 (List.map e_api_Edge r40)])]) M, Γ.n0 + 84⟩) h (fun z h => ?_) (fun z h => ?_)
     ·refine sr ((Rn.fldP (o' := 3) trivial rfl rfl (Rn.load (v := .f (.lst 3 (List.map e_api_Edge a1.Edges))) trivial rfl (boxOwn rfl) rfl rfl ?_)))
      refine Rn.weak (by show WeakSt Γ _ ⟨look [(1, .d (.lst 1 (List.map (eI .i64) to2))), (2, .ptr (Γ.n0 + 2) 0), (4, .ptr (Γ.n0 + 4) 0), (9, .ptr (Γ.n0 + 9) 0), (25, .d (.lst 1 (List.map (eI .i64) to2))), (26, .d (.int .i64 (to2.length : Int))), (27, .d (.int .i64 x7)), (28, .d (.bool (decide (x7 < (to2.length : Int))))), (48, .d (.lst 1 (List.map (eI .i64) to2))), (50, .f (.lst 1 (List.map (eI .i64) x20))), (51, .ptr (Γ.n0 + 2) 1), (52, .d (.int .i64 a1.States)), (53, .ptr (Γ.n0 + 2) 2), (54, .f (.lst 1 (List.map (eI .i64) a1.Marked))), (55, .agg [.f (.lst 1 (List.map (eI .i64) x20)), .d (.int .i64 a1.States), .f (.lst 1 (List.map (eI .i64) a1.Marked)), .nils 3]), (56, .ptr (Γ.n0 + 2) 3), (57, .d (.lst 3 (List.map e_api_Edge a1.Edges)))], memOf Γ.n0 (bxs [(2, [.f (.lst 1 (List.map (eI .i64) a1.Alphabet)), .d (.int .i64 a1.States), .f (.lst 1 (List.map (eI .i64) a1.Marked)), .f (.lst 3 (List.map e_api_Edge a1.Edges))]), (4, [.nils 1, .d (.int .i64 0), .nils 1, .nils 3]), (9, [.f (.lst 1 (List.map (eI .i64) x20)), .d (.int .i64 a1.States), .f (.lst 1 (List.map (eI .i64) a1.Marked)), .nils 3])]) M, Γ.n0 + 84⟩; exact weak_cut [] ⟨(.same rfl), ⟨(kPtr rfl), ⟨(kPtr rfl), ⟨(kPtr rfl), ⟨(.same rfl), ⟨(.same rfl), ⟨(.same rfl), ⟨(.same rfl), ⟨(.same rfl), ⟨(.same rfl), ⟨(kPtr rfl), ⟨(.same rfl), ⟨(kPtr rfl), ⟨(.same rfl), ⟨(.same rfl), ⟨(kPtr rfl), ⟨fToD, trivial⟩⟩⟩⟩⟩⟩⟩⟩⟩⟩⟩⟩⟩⟩⟩⟩⟩ ⟨⟨_, rfl, rfl, (.same rfl)⟩, ⟨⟨_, rfl, rfl, (.same rfl)⟩, ⟨⟨_, rfl, rfl, (.same rfl)⟩, trivial⟩⟩⟩ rfl) ?_
      refine Rn.lenD trivial rfl (md rfl (nt ((Tr.block ?_))))
      refine Tr.loop (mk := fun ((x22, c23, c24, c25, r26) : Int × (List Int) × (List Int) × (List api_Edge) × (List api_Edge)) => ⟨look [(1, .d (.lst 1 (List.map (eI .i64) to2))), (2, .ptr (Γ.n0 + 2) 0), (4, .ptr (Γ.n0 + 4) 0), (9, .ptr (Γ.n0 + 9) 0), (57, .d (.lst 3 (List.map e_api_Edge a1.Edges))), (58, .d (.int .i64 (a1.Edges.length : Int))), (59, .d (.int .i64 x22))], memOf Γ.n0 (bxs [(2, [.f (.lst 1 (List.map (eI .i64) a1.Alphabet)), .d (.int .i64 a1.States), .f (.lst 1 (List.map (eI .i64) a1.Marked)), .f (.lst 3 (List.map e_api_Edge a1.Edges))]), (4, [.own 1 (List.map (eI .i64) c23), .d (.int .i64 0), .own 1 (List.map (eI .i64) c24), .own 3 (List.map e_api_Edge c25)]), (9, [.f (.lst 1 (List.map (eI .i64) x20)), .d (.int .i64 a1.States), .f (.lst 1 (List.map (eI .i64) a1.Marked)), .own 3 (List.map e_api_Edge r26)])]) M, Γ.n0 + 84⟩) h (by show WeakSt Γ (clean _ _ _) ⟨look _, memOf _ (bxs _) _, _⟩; exact weak_clean ⟨(.same rfl), ⟨(kPtr rfl), ⟨(kPtr rfl), ⟨(kPtr rfl), ⟨(.same rfl), ⟨(.same rfl), ⟨(.same rfl), trivial⟩⟩⟩⟩⟩⟩⟩ ⟨⟨_, rfl, rfl, (.same rfl)⟩, ⟨⟨_, rfl, rfl, (.cons (WkV.nilsO _) (.cons (.same rfl) (.cons (WkV.nilsO _) (.cons (WkV.nilsO _) .nil))))⟩, ⟨⟨_, rfl, rfl, (.cons (.same rfl) (.cons (.same rfl) (.cons (.same rfl) (.cons (WkV.nilsO _) .nil))))⟩, trivial⟩⟩⟩ rfl) (fun k27 z h => ?_)
      ·obtain ⟨x22, c23, c24, c25, r26⟩ := z
       replace h : _ = some _ := h
       refine sr ((Rn.bin trivial rfl rfl rfl (nt ((Tr.seq ?_)))))
       refine Tr.cond rfl (fun hb28 => ?_) (fun hb28 => ?_)
       ·replace h := ifT hb28 h
        refine Tr.skip (toN (Tr.seq (Tr.block (Tr.seq (Tr.rgn ?_)))))
        obtain ⟨x29, h30, h⟩ := bnd h
        refine Rn.idxD (e := e_api_Edge) trivial rfl rfl h30 (Rn.loadCA (vs := [.d (.int .i64 x29.From), .d (.int .i64 x29.Event), .d (.int .i64 x29.To)]) trivial rfl rfl rfl (Rn.alloc trivial rfl (Rn.store (v := .agg [.d (.int .i64 x29.From), .d (.int .i64 x29.Event), .d (.int .i64 x29.To)]) (cs' := [.d (.int .i64 x29.From), .d (.int .i64 x29.Event), .d (.int .i64 x29.To)]) trivial rfl rfl rfl rfl rfl rfl (nt ((sr ((md rfl (Rn.fldP (o' := 0) trivial rfl rfl (Rn.load (v := .f (.lst 1 (List.map (eI .i64) a1.Alphabet))) trivial rfl (boxOwn rfl) rfl rfl (Rn.fldP (o' := 1) trivial rfl rfl (Rn.load (v := .d (.int .i64 x29.Event)) trivial rfl (boxOwn rfl) rfl rfl ?_))))))))))))
        refine Rn.weak (by show WeakSt Γ _ ⟨look [(1, .d (.lst 1 (List.map (eI .i64) to2))), (2, .ptr (Γ.n0 + 2) 0), (4, .ptr (Γ.n0 + 4) 0), (9, .ptr (Γ.n0 + 9) 0), (11, .ptr (Γ.n0 + 11) 0), (57, .d (.lst 3 (List.map e_api_Edge a1.Edges))), (58, .d (.int .i64 (a1.Edges.length : Int))), (59, .d (.int .i64 x22)), (60, .d (.bool (decide (x22 < (a1.Edges.length : Int))))), (61, .cref (e_api_Edge x29)), (62, .agg [.d (.int .i64 x29.From), .d (.int .i64 x29.Event), .d (.int .i64 x29.To)]), (63, .d (.lst 1 (List.map (eI .i64) to2))), (64, .ptr (Γ.n0 + 2) 0), (65, .d (.lst 1 (List.map (eI .i64) a1.Alphabet))), (66, .ptr (Γ.n0 + 11) 1), (67, .d (.int .i64 x29.Event))], memOf Γ.n0 (bxs [(2, [.f (.lst 1 (List.map (eI .i64) a1.Alphabet)), .d (.int .i64 a1.States), .f (.lst 1 (List.map (eI .i64) a1.Marked)), .f (.lst 3 (List.map e_api_Edge a1.Edges))]), (4, [.own 1 (List.map (eI .i64) c23), .d (.int .i64 0), .own 1 (List.map (eI .i64) c24), .own 3 (List.map e_api_Edge c25)]), (9, [.f (.lst 1 (List.map (eI .i64) x20)), .d (.int .i64 a1.States), .f (.lst 1 (List.map (eI .i64) a1.Marked)), .own 3 (List.map e_api_Edge r26)]), (11, [.d (.int .i64 x29.From), .d (.int .i64 x29.Event), .d (.int .i64 x29.To)])]) M, Γ.n0 + 84⟩; exact weak_cut [] ⟨(.same rfl), ⟨(kPtr rfl), ⟨(kPtr rfl), ⟨(kPtr rfl), ⟨(kPtr rfl), ⟨(.same rfl), ⟨(.same rfl), ⟨(.same rfl), ⟨(.same rfl), ⟨(.same rfl), ⟨(.same rfl), ⟨(.same rfl), ⟨(kPtr rfl), ⟨fToD, ⟨(kPtr rfl), ⟨(.same rfl), trivial⟩⟩⟩⟩⟩⟩⟩⟩⟩⟩⟩⟩⟩⟩⟩⟩ ⟨⟨_, rfl, rfl, (.same rfl)⟩, ⟨⟨_, rfl, rfl, (.same rfl)⟩, ⟨⟨_, rfl, rfl, (.same rfl)⟩, ⟨⟨_, rfl, rfl, (.same rfl)⟩, trivial⟩⟩⟩⟩ rfl) ?_
        obtain ⟨x32, h31, h⟩ := bnd h
        refine Rn.call (args := [.d (.lst 1 (List.map (eI .i64) a1.Alphabet)), .d (.int .i64 x29.Event)]) trivial rfl (H_slices_Index_int _ _ _ h31) pc9 ?_
        obtain ⟨x33, h34, h⟩ := bnd h
        refine Rn.idxD (e := (eI .i64)) trivial rfl rfl h34 (Rn.loadC (x := .int .i64 x33) trivial rfl (Rn.fldP (o' := 1) trivial rfl rfl (Rn.store (v := .d (.int .i64 x33)) (cs' := [.d (.int .i64 x29.From), .d (.int .i64 x33), .d (.int .i64 x29.To)]) trivial rfl rfl rfl rfl rfl rfl (nt ((Tr.rgn (Rn.fldP (o' := 3) trivial rfl rfl (Rn.loadT (cs' := [.f (.lst 1 (List.map (eI .i64) x20)), .d (.int .i64 a1.States), .f (.lst 1 (List.map (eI .i64) a1.Marked)), .d (.lst 3 (List.map e_api_Edge r26))]) trivial rfl rfl rfl rfl (Rn.load (v := .agg [.d (.int .i64 x29.From), .d (.int .i64 x33), .d (.int .i64 x29.To)]) trivial rfl (boxOwn rfl) rfl rfl (Rn.bslice (xs := [.agg [.d (.int .i64 x29.From), .d (.int .i64 x33), .d (.int .i64 x29.To)]]) (cs := [.d (.int .i64 x29.From), .d (.int .i64 x33), .d (.int .i64 x29.To)]) trivial rfl rfl rfl rfl ?_))))))))))
        obtain ⟨x35, h36, h⟩ := bnd h
        refine Rn.app (e := e_api_Edge) trivial rfl rfl rfl (elems_box rfl rfl rfl) h36 rfl (Rn.fldP (o' := 3) trivial rfl rfl (Rn.storeO (cs' := [.f (.lst 1 (List.map (eI .i64) x20)), .d (.int .i64 a1.States), .f (.lst 1 (List.map (eI .i64) a1.Marked)), .own 3 (List.map e_api_Edge x35)]) trivial rfl rfl rfl rfl rfl (nt ((Tr.rgn (Rn.bin trivial rfl rfl rfl (md rfl (Rn.nil ?_))))))))
        exact ⟨_, h, (by show WeakSt Γ (clean _ _ _) ⟨look _, memOf _ (bxs _) _, _⟩; exact weak_clean ⟨(.same rfl), ⟨(kPtr rfl), ⟨(kPtr rfl), ⟨(kPtr rfl), ⟨(.same rfl), ⟨(.same rfl), ⟨(.same rfl), trivial⟩⟩⟩⟩⟩⟩⟩ ⟨⟨_, rfl, rfl, (.same rfl)⟩, ⟨⟨_, rfl, rfl, (.same rfl)⟩, ⟨⟨_, rfl, rfl, (.same rfl)⟩, trivial⟩⟩⟩ rfl)⟩
       ·replace h := ifF hb28 h
        refine Tr.exit ?_
        replace h := si h; subst h
        show WeakSt Γ _ ⟨look _, memOf _ (bxs _) _, _⟩; exact weak_cut [] ⟨(kPtr rfl), ⟨(kPtr rfl), trivial⟩⟩ ⟨⟨_, rfl, rfl, (.same rfl)⟩, ⟨⟨_, rfl, rfl, (.same rfl)⟩, ⟨⟨_, rfl, rfl, (.same rfl)⟩, trivial⟩⟩⟩ rfl
     ·obtain ⟨c37, c38, c39, r40⟩ := z
      obtain ⟨row41, hs42, h⟩ := bnd h
      obtain ⟨hl43, hn44, hr45⟩ := H_automaton_sortEdges _ _ hs42
      refine Tr.seqW ⟨look [(4, .ptr (Γ.n0 + 4) 0), (9, .ptr (Γ.n0 + 9) 0)], memOf Γ.n0 (bxs [(2, [.f (.lst 1 (List.map (eI .i64) a1.Alphabet)), .d (.int .i64 a1.States), .f (.lst 1 (List.map (eI .i64) a1.Marked)), .f (.lst 3 (List.map e_api_Edge a1.Edges))]), (4, [.own 1 (List.map (eI .i64) c37), .d (.int .i64 0), .own 1 (List.map (eI .i64) c38), .own 3 (List.map e_api_Edge c39)]), (9, [.f (.lst 1 (List.map (eI .i64) x20)), .d (.int .i64 a1.States), .f (.lst 1 (List.map (eI .i64) a1.Marked)), .d (.lst 3 (List.map e_api_Edge row41))])]) M, Γ.n0 + 84⟩ ?_ ?_
      ·by_cases hx46 : r40 = []
       ·obtain ⟨hyx, hn44b⟩ := hn44 hx46
        replace hyx := hyx.symm
        subst hyx
        replace hn44 := And.intro trivial hn44b
        refine Tr.rgn (Rn.fldP (o' := 3) trivial rfl rfl (Rn.load (v := .d (.lst 3 (List.map e_api_Edge r40))) trivial rfl (boxOwn rfl) rfl rfl (Rn.call (args := [.d (.lst 3 (List.map e_api_Edge r40))]) trivial rfl (hn44.2) pc9 ?_)))
        refine Rn.nil ⟨rfl, (by show WeakSt Γ _ ⟨look _, memOf _ (bxs _) _, _⟩; exact weak_cut [] ⟨(kPtr rfl), ⟨(kPtr rfl), trivial⟩⟩ ⟨⟨_, rfl, rfl, (.same rfl)⟩, ⟨⟨_, rfl, rfl, (.same rfl)⟩, ⟨⟨_, rfl, rfl, (.cons (.same rfl) (.cons (.same rfl) (.cons (.same rfl) (.cons (WkV.dem' rfl) .nil))))⟩, trivial⟩⟩⟩ rfl)⟩
       ·refine Tr.weak (by show WeakSt Γ _ ⟨look [(4, .ptr (Γ.n0 + 4) 0), (9, .ptr (Γ.n0 + 9) 0)], memOf Γ.n0 (bxs [(2, [.f (.lst 1 (List.map (eI .i64) a1.Alphabet)), .d (.int .i64 a1.States), .f (.lst 1 (List.map (eI .i64) a1.Marked)), .f (.lst 3 (List.map e_api_Edge a1.Edges))]), (4, [.own 1 (List.map (eI .i64) c37), .d (.int .i64 0), .own 1 (List.map (eI .i64) c38), .own 3 (List.map e_api_Edge c39)]), (9, [.f (.lst 1 (List.map (eI .i64) x20)), .d (.int .i64 a1.States), .f (.lst 1 (List.map (eI .i64) a1.Marked)), .own 3 (List.map e_api_Edge r40)])]) M, Γ.n0 + 84⟩; exact weak_cut [] ⟨(kPtr rfl), ⟨(kPtr rfl), trivial⟩⟩ ⟨⟨_, rfl, rfl, (.same rfl)⟩, ⟨⟨_, rfl, rfl, (.same rfl)⟩, ⟨⟨_, rfl, rfl, (.same rfl)⟩, trivial⟩⟩⟩ rfl) ?_
        refine thawCL hG hM0 9 3 81 hx46 (fun _ => rfl) rfl rfl rfl rfl ⟨rfl, ⟨rfl, trivial⟩⟩ ⟨⟨rfl, ⟨rfl, ⟨rfl, ⟨rfl, trivial⟩⟩⟩⟩, ⟨⟨(plainOwn (fun _ => rfl)), ⟨rfl, ⟨(plainOwn (fun _ => rfl)), ⟨(plainOwn (fun _ => rfl)), trivial⟩⟩⟩⟩, ⟨⟨rfl, ⟨rfl, ⟨rfl, ⟨rfl, trivial⟩⟩⟩⟩, trivial⟩⟩⟩ (fun c47 hc48 hc49 => ?_)
        refine Tr.rgn (Rn.fldP (o' := 3) trivial rfl rfl (Rn.load (v := .sl 3 (Γ.n0 + 81) 0 r40.length c47) trivial rfl (boxOwn rfl) rfl rfl ?_))
        refine Rn.callRow (t := 81) (cs := thCells (List.map e_api_Edge r40) ((c47 - r40.length) * 3)) (cs' := thCells (List.map e_api_Edge row41) ((c47 - r40.length) * 3)) trivial rfl rfl (fun M2 hM2 => hr45 hc49 _ _ _ _ hM2) rfl ?_
        refine Rn.weak (by show WeakSt Γ _ ⟨look [(4, .ptr (Γ.n0 + 4) 0), (9, .ptr (Γ.n0 + 9) 0), (79, .ptr (Γ.n0 + 9) 3), (80, .d (.lst 3 (List.map e_api_Edge row41))), (81, .tup [])], memOf Γ.n0 (bxs [(2, [.f (.lst 1 (List.map (eI .i64) a1.Alphabet)), .d (.int .i64 a1.States), .f (.lst 1 (List.map (eI .i64) a1.Marked)), .f (.lst 3 (List.map e_api_Edge a1.Edges))]), (4, [.own 1 (List.map (eI .i64) c37), .d (.int .i64 0), .own 1 (List.map (eI .i64) c38), .own 3 (List.map e_api_Edge c39)]), (9, [.f (.lst 1 (List.map (eI .i64) x20)), .d (.int .i64 a1.States), .f (.lst 1 (List.map (eI .i64) a1.Marked)), .d (.lst 3 (List.map e_api_Edge row41))])]) M, Γ.n0 + 84⟩; exact weak_freezeG 81 _ rfl preTh ⟨(fPtr rfl), ⟨(fPtr rfl), ⟨(fPtr rfl), ⟨(fSlT (fun _ => rfl) hl43 hc48), ⟨(.same rfl), trivial⟩⟩⟩⟩⟩ ⟨⟨_, rfl, rfl, (.cons (.same rfl) (.cons (.same rfl) (.cons (.same rfl) (.cons (.same rfl) .nil))))⟩, ⟨⟨_, rfl, rfl, (.cons (.same rfl) (.cons (.same rfl) (.cons (.same rfl) (.cons (.same rfl) .nil))))⟩, ⟨⟨_, rfl, rfl, (.cons (.same rfl) (.cons (.same rfl) (.cons (.same rfl) (.cons (fSlT (fun _ => rfl) hl43 hc48) .nil))))⟩, trivial⟩⟩⟩ rfl) ?_
        refine Rn.nil ⟨rfl, (by show WeakSt Γ _ ⟨look _, memOf _ (bxs _) _, _⟩; exact weak_cut [] ⟨(kPtr rfl), ⟨(kPtr rfl), trivial⟩⟩ ⟨⟨_, rfl, rfl, (.same rfl)⟩, ⟨⟨_, rfl, rfl, (.same rfl)⟩, ⟨⟨_, rfl, rfl, (.same rfl)⟩, trivial⟩⟩⟩ rfl)⟩
      ·refine sr ((Rn.load (v := .agg [.f (.lst 1 (List.map (eI .i64) x20)), .d (.int .i64 a1.States), .f (.lst 1 (List.map (eI .i64) a1.Marked)), .d (.lst 3 (List.map e_api_Edge row41))]) trivial rfl (boxOwn rfl) rfl rfl ?_))
       refine Rn.weak (by show WeakSt Γ _ ⟨look [(4, .ptr (Γ.n0 + 4) 0), (9, .ptr (Γ.n0 + 9) 0), (82, .agg [.d (.lst 1 (List.map (eI .i64) x20)), .d (.int .i64 a1.States), .d (.lst 1 (List.map (eI .i64) a1.Marked)), .d (.lst 3 (List.map e_api_Edge row41))])], memOf Γ.n0 (bxs [(2, [.f (.lst 1 (List.map (eI .i64) a1.Alphabet)), .d (.int .i64 a1.States), .f (.lst 1 (List.map (eI .i64) a1.Marked)), .f (.lst 3 (List.map e_api_Edge a1.Edges))]), (4, [.own 1 (List.map (eI .i64) c37), .d (.int .i64 0), .own 1 (List.map (eI .i64) c38), .own 3 (List.map e_api_Edge c39)]), (9, [.f (.lst 1 (List.map (eI .i64) x20)), .d (.int .i64 a1.States), .f (.lst 1 (List.map (eI .i64) a1.Marked)), .d (.lst 3 (List.map e_api_Edge row41))])]) M, Γ.n0 + 84⟩; exact weak_cut [] ⟨(kPtr rfl), ⟨(kPtr rfl), ⟨(WkV.agg (.cons fToD (.cons (.same rfl) (.cons fToD (.cons (.same rfl) .nil))))), trivial⟩⟩⟩ ⟨⟨_, rfl, rfl, (.same rfl)⟩, ⟨⟨_, rfl, rfl, (.same rfl)⟩, ⟨⟨_, rfl, rfl, (.same rfl)⟩, trivial⟩⟩⟩ rfl) ?_
       obtain ⟨x51, h50, h⟩ := bnd h
       refine Rn.call (args := [.agg [.d (.lst 1 (List.map (eI .i64) x20)), .d (.int .i64 a1.States), .d (.lst 1 (List.map (eI .i64) a1.Marked)), .d (.lst 3 (List.map e_api_Edge row41))]]) trivial rfl (H_automaton_canonical _ _ h50) pc9 (Rn.store (v := .agg [.d (.lst 1 (List.map (eI .i64) x51.Alphabet)), .d (.int .i64 x51.States), .d (.lst 1 (List.map (eI .i64) x51.Marked)), .d (.lst 3 (List.map e_api_Edge x51.Edges))]) (cs' := [.d (.lst 1 (List.map (eI .i64) x51.Alphabet)), .d (.int .i64 x51.States), .d (.lst 1 (List.map (eI .i64) x51.Marked)), .d (.lst 3 (List.map e_api_Edge x51.Edges))]) trivial rfl rfl rfl rfl rfl rfl (md rfl (nt ((Tr.ret ?_)))))
       replace h := si h; subst h
       exact ⟨.inr rfl, .tup [.agg [.d (.lst 1 (List.map (eI .i64) x51.Alphabet)), .d (.int .i64 x51.States), .d (.lst 1 (List.map (eI .i64) x51.Marked)), .d (.lst 3 (List.map e_api_Edge x51.Edges))], .d (.int .i64 0)], res2 (resCell rfl rfl rfl rfl) rfl, (WkV.tup (.cons (.same rfl) (.cons (.same rfl) .nil))).rd, ⟨⟨trivial, trivial, trivial, trivial, trivial⟩, trivial, trivial⟩, fun k hk => memOf_base hk⟩
theorem overseerref03_SameInts_walk {P : Program} {c : Nat} (hcf : compFn P c = some F_overseerref03_SameInts) (fuel : Nat) : K_overseerref03_SameInts P c (f_overseerref03_SameInts fuel) := by
 intro a1 b2 r h
 refine fn_trP hcf rfl fun Γ M hP hnt hM => ?_
 subst hP
 refine Tr.init [(0, .d (.lst 1 (List.map (eI .i64) a1))), (1, .d (.lst 1 (List.map (eI .i64) b2)))] rfl ?_
 unfold f_overseerref03_SameInts at h
 unfold F_overseerref03_SameInts
 refine sr ((md rfl (nt ((Tr.seq (sr ((md rfl (Rn.lenD trivial rfl (md rfl (Rn.lenD trivial rfl (Rn.bin trivial rfl rfl rfl (Rn.nil (toN ?_))))))))))))))
 refine Tr.cond rfl (fun hb3 => ?_) (fun hb3 => ?_)
 ·replace h := bT hb3 h
  refine sr ((md rfl (nt ((Tr.ret ?_)))))
  replace h := si h; subst h
  exact ⟨.inr rfl, (.d (.bool false)), rfl, fun _ _ _ _ h => h, trivial, fun k hk => memOf_base hk⟩
 ·replace h := bF hb3 h
  refine Tr.skip (toN (Tr.seq (sr ((md rfl (nt ((Tr.block ?_))))))))
  refine Tr.loop (mk := fun (i4 : Int) => ⟨look [(0, .d (.lst 1 (List.map (eI .i64) a1))), (1, .d (.lst 1 (List.map (eI .i64) b2))), (5, .d (.int .i64 i4))], memOf Γ.n0 (bxs []) M, Γ.n0 + 26⟩) h (by show WeakSt Γ (clean _ _ _) ⟨look _, memOf _ (bxs _) _, _⟩; exact weak_clean ⟨(.same rfl), ⟨(.same rfl), ⟨(.same rfl), trivial⟩⟩⟩ trivial rfl) (fun k5 z h => ?_)
  ·obtain ⟨i4, rfl⟩ : ∃ x, x = z := ⟨_, rfl⟩
   replace h : _ = some _ := h
   refine Tr.seq (sr ((md rfl (md rfl (Rn.lenD trivial rfl (Rn.bin trivial rfl rfl rfl (Rn.nil (toN ?_))))))))
   refine Tr.cond rfl (fun hb6 => ?_) (fun hb6 => ?_)
   ·replace h := ifT hb6 h
    refine Tr.skip (toN (Tr.seq (Tr.block (Tr.seq ?_))))
    refine Tr.rgnD (by decide) ?_
    refine md rfl (md rfl ?_)
    obtain ⟨x7, h8, h⟩ := bnd h
    refine Rn.idxD (e := (eI .i64)) trivial rfl rfl h8 (Rn.loadC (x := .int .i64 x7) trivial rfl (md rfl (md rfl ?_)))
    obtain ⟨x9, h10, h⟩ := bnd h
    refine Rn.idxD (e := (eI .i64)) trivial rfl rfl h10 (Rn.loadC (x := .int .i64 x9) trivial rfl (Rn.bin trivial rfl rfl rfl ?_))
    refine Rn.nil ⟨rfl, ?_⟩
    refine toN ?_
    refine Tr.cond rfl (fun hb11 => ?_) (fun hb11 => ?_)
    ·replace h := bT hb11 h
     refine sr ((md rfl (nt ((Tr.ret ?_)))))
     replace h := si h; subst h
     exact ⟨.inr rfl, (.d (.bool false)), rfl, fun _ _ _ _ h => h, trivial, fun k hk => memOf_base hk⟩
    ·replace h := bF hb11 h
     refine Tr.skip (toN (Tr.rgn (md rfl (Rn.bin trivial rfl rfl rfl (md rfl (Rn.nil ?_))))))
     exact ⟨_, h, (by show WeakSt Γ (clean _ _ _) ⟨look _, memOf _ (bxs _) _, _⟩; exact weak_clean ⟨(.same rfl), ⟨(.same rfl), ⟨(.same rfl), trivial⟩⟩⟩ trivial rfl)⟩
   ·replace h := ifF hb6 h
    refine Tr.exit (toN (sr ((md rfl (nt ((Tr.ret ?_)))))))
    replace h := si h; subst h
    exact ⟨.inr rfl, (.d (.bool true)), rfl, fun _ _ _ _ h => h, trivial, fun k hk => memOf_base hk⟩
theorem overseerref03_Same_walk {P : Program} {c : Nat} {f_overseerref03_SameInts : (List Int) → (List Int) → Option Bool}
    (H_overseerref03_SameInts : K_overseerref03_SameInts P 38 f_overseerref03_SameInts) (hcf : compFn P c = some F_overseerref03_Same) (fuel : Nat) : K_overseerref03_Same P c (f_overseerref03_Same f_overseerref03_SameInts fuel) := by
 intro a1 b2 r h
 refine fn_trP hcf rfl fun Γ M hP hnt hM => ?_
 subst hP
 refine Tr.init [(0, .agg [.d (.lst 1 (List.map (eI .i64) a1.Alphabet)), .d (.int .i64 a1.States), .d (.lst 1 (List.map (eI .i64) a1.Marked)), .d (.lst 3 (List.map e_api_Edge a1.Edges))]), (1, .agg [.d (.lst 1 (List.map (eI .i64) b2.Alphabet)), .d (.int .i64 b2.States), .d (.lst 1 (List.map (eI .i64) b2.Marked)), .d (.lst 3 (List.map e_api_Edge b2.Edges))])] rfl ?_
 unfold f_overseerref03_Same at h
 unfold F_overseerref03_Same
 refine sr ((Rn.box (v := .agg [.d (.lst 1 (List.map (eI .i64) a1.Alphabet)), .d (.int .i64 a1.States), .d (.lst 1 (List.map (eI .i64) a1.Marked)), .d (.lst 3 (List.map e_api_Edge a1.Edges))]) (cs := [.d (.lst 1 (List.map (eI .i64) a1.Alphabet)), .d (.int .i64 a1.States), .d (.lst 1 (List.map (eI .i64) a1.Marked)), .d (.lst 3 (List.map e_api_Edge a1.Edges))]) trivial rfl rfl rfl rfl rfl (Rn.box (v := .agg [.d (.lst 1 (List.map (eI .i64) b2.Alphabet)), .d (.int .i64 b2.States), .d (.lst 1 (List.map (eI .i64) b2.Marked)), .d (.lst 3 (List.map e_api_Edge b2.Edges))]) (cs := [.d (.lst 1 (List.map (eI .i64) b2.Alphabet)), .d (.int .i64 b2.States), .d (.lst 1 (List.map (eI .i64) b2.Marked)), .d (.lst 3 (List.map e_api_Edge b2.Edges))]) trivial rfl rfl rfl rfl rfl (md rfl (nt ((Tr.seq ?_)))))))
 refine Tr.cutB (fun (x10 : Bool) => ⟨look [(2, .ptr (Γ.n0 + 2) 0), (3, .ptr (Γ.n0 + 3) 0), (35, .d (.bool x10))], memOf Γ.n0 (bxs [(2, [.d (.lst 1 (List.map (eI .i64) a1.Alphabet)), .d (.int .i64 a1.States), .d (.lst 1 (List.map (eI .i64) a1.Marked)), .d (.lst 3 (List.map e_api_Edge a1.Edges))]), (3, [.d (.lst 1 (List.map (eI .i64) b2.Alphabet)), .d (.int .i64 b2.States), .d (.lst 1 (List.map (eI .i64) b2.Marked)), .d (.lst 3 (List.map e_api_Edge b2.Edges))])]) M, Γ.n0 + 54⟩) h (fun z h => ?_) (fun z h => ?_)
 ·refine Tr.rgn (Rn.fldP (o' := 0) trivial rfl rfl (Rn.load (v := .d (.lst 1 (List.map (eI .i64) a1.Alphabet))) trivial rfl (boxOwn rfl) rfl rfl (Rn.fldP (o' := 0) trivial rfl rfl (Rn.load (v := .d (.lst 1 (List.map (eI .i64) b2.Alphabet))) trivial rfl (boxOwn rfl) rfl rfl ?_))))
  obtain ⟨x4, h3, h⟩ := bnd h
  refine Rn.call (args := [.d (.lst 1 (List.map (eI .i64) a1.Alphabet)), .d (.lst 1 (List.map (eI .i64) b2.Alphabet))]) trivial rfl (H_overseerref03_SameInts _ _ _ h3) pc9 (Rn.un trivial rfl rfl (md rfl ?_))
  refine bsplit x4 (fun hb5 => ?_) (fun hb5 => ?_)
  ·replace h := bT hb5 h
   refine Rn.fldP (o' := 1) (gw rfl (nT hb5)) rfl rfl (Rn.load (v := .d (.int .i64 a1.States)) (gw rfl (nT hb5)) rfl (boxOwn rfl) rfl rfl (Rn.fldP (o' := 1) (gw rfl (nT hb5)) rfl rfl (Rn.load (v := .d (.int .i64 b2.States)) (gw rfl (nT hb5)) rfl (boxOwn rfl) rfl rfl (Rn.bin (gw rfl (nT hb5)) rfl rfl rfl (Rn.pickF (v := .d (.bool (a1.States != b2.States))) trivial rfl (nT hb5) rfl (md rfl ?_))))))
   refine bsplit (a1.States != b2.States) (fun hb6 => ?_) (fun hb6 => ?_)
   ·replace h := bT hb6 h
    refine Rn.sk (nw rfl hb6) (Rn.sk (nw rfl hb6) (Rn.sk (nw rfl hb6) (Rn.sk (nw rfl hb6) (Rn.sk (nw rfl hb6) (Rn.sk (nw rfl hb6) (Rn.pickT (v := .d (.bool true)) trivial rfl hb6 rfl (md rfl (Rn.sk (nw (b := true) rfl rfl) (Rn.sk (nw (b := true) rfl rfl) (Rn.sk (nw (b := true) rfl rfl) (Rn.sk (nw (b := true) rfl rfl) (Rn.sk (nw (b := true) rfl rfl) (Rn.sk (nw (b := true) rfl rfl) (Rn.sk (nw (b := true) rfl rfl) (Rn.pickT (v := .d (.bool true)) trivial rfl rfl rfl (Rn.nil ?_))))))))))))))))
    replace h := si h; subst h
    show WeakSt Γ _ ⟨look _, memOf _ (bxs _) _, _⟩; exact weak_cut [] ⟨(kPtr rfl), ⟨(kPtr rfl), ⟨(.same rfl), trivial⟩⟩⟩ ⟨⟨_, rfl, rfl, (.same rfl)⟩, ⟨⟨_, rfl, rfl, (.same rfl)⟩, trivial⟩⟩ rfl
   ·replace h := bF hb6 h
    refine Rn.fldP (o' := 2) (gw rfl hb6) rfl rfl (Rn.load (v := .d (.lst 1 (List.map (eI .i64) a1.Marked))) (gw rfl hb6) rfl (boxOwn rfl) rfl rfl (Rn.fldP (o' := 2) (gw rfl hb6) rfl rfl (Rn.load (v := .d (.lst 1 (List.map (eI .i64) b2.Marked))) (gw rfl hb6) rfl (boxOwn rfl) rfl rfl ?_)))
    obtain ⟨x8, h7, h⟩ := bnd h
    refine Rn.call (args := [.d (.lst 1 (List.map (eI .i64) a1.Marked)), .d (.lst 1 (List.map (eI .i64) b2.Marked))]) (gw rfl hb6) rfl (H_overseerref03_SameInts _ _ _ h7) pc9 (Rn.un (gw rfl hb6) rfl rfl (Rn.pickF (v := .d (.bool (!x8))) trivial rfl hb6 rfl (md rfl ?_)))
    refine bsplit x8 (fun hb9 => ?_) (fun hb9 => ?_)
    ·replace h := bT hb9 h
     refine Rn.fldP (o' := 3) (gw rfl (nT hb9)) rfl rfl (Rn.load (v := .d (.lst 3 (List.map e_api_Edge a1.Edges))) (gw rfl (nT hb9)) rfl (boxOwn rfl) rfl rfl (Rn.lenD (gw rfl (nT hb9)) rfl (Rn.fldP (o' := 3) (gw rfl (nT hb9)) rfl rfl (Rn.load (v := .d (.lst 3 (List.map e_api_Edge b2.Edges))) (gw rfl (nT hb9)) rfl (boxOwn rfl) rfl rfl (Rn.lenD (gw rfl (nT hb9)) rfl (Rn.bin (gw rfl (nT hb9)) rfl rfl rfl (Rn.pickF (v := .d (.bool ((a1.Edges.length : Int) != (b2.Edges.length : Int)))) trivial rfl (nT hb9) rfl (Rn.nil ?_))))))))
     replace h := si h; subst h
     show WeakSt Γ _ ⟨look _, memOf _ (bxs _) _, _⟩; exact weak_cut [] ⟨(kPtr rfl), ⟨(kPtr rfl), ⟨(.same rfl), trivial⟩⟩⟩ ⟨⟨_, rfl, rfl, (.same rfl)⟩, ⟨⟨_, rfl, rfl, (.same rfl)⟩, trivial⟩⟩ rfl
    ·replace h := bF hb9 h
     refine Rn.sk (nw rfl (nF hb9)) (Rn.sk (nw rfl (nF hb9)) (Rn.sk (nw rfl (nF hb9)) (Rn.sk (nw rfl (nF hb9)) (Rn.sk (nw rfl (nF hb9)) (Rn.sk (nw rfl (nF hb9)) (Rn.sk (nw rfl (nF hb9)) (Rn.pickT (v := .d (.bool true)) trivial rfl (nF hb9) rfl (Rn.nil ?_))))))))
     replace h := si h; subst h
     show WeakSt Γ _ ⟨look _, memOf _ (bxs _) _, _⟩; exact weak_cut [] ⟨(kPtr rfl), ⟨(kPtr rfl), ⟨(.same rfl), trivial⟩⟩⟩ ⟨⟨_, rfl, rfl, (.same rfl)⟩, ⟨⟨_, rfl, rfl, (.same rfl)⟩, trivial⟩⟩ rfl
  ·replace h := bF hb5 h
   refine Rn.sk (nw rfl (nF hb5)) (Rn.sk (nw rfl (nF hb5)) (Rn.sk (nw rfl (nF hb5)) (Rn.sk (nw rfl (nF hb5)) (Rn.sk (nw rfl (nF hb5)) (Rn.pickT (v := .d (.bool true)) trivial rfl (nF hb5) rfl (md rfl (Rn.sk (nw (b := true) rfl rfl) (Rn.sk (nw (b := true) rfl rfl) (Rn.sk (nw (b := true) rfl rfl) (Rn.sk (nw (b := true) rfl rfl) (Rn.sk (nw (b := true) rfl rfl) (Rn.sk (nw (b := true) rfl rfl) (Rn.pickT (v := .d (.bool true)) trivial rfl rfl rfl (md rfl (Rn.sk (nw (b := true) rfl rfl) (Rn.sk (nw (b := true) rfl rfl) (Rn.sk (nw (b := true) rfl rfl) (Rn.sk (nw (b := true) rfl rfl) (Rn.sk (nw (b := true) rfl rfl) (Rn.sk (nw (b := true) rfl rfl) (Rn.sk (nw (b := true) rfl rfl) (Rn.pickT (v := .d (.bool true)) trivial rfl rfl rfl (Rn.nil ?_)))))))))))))))))))))))
   replace h := si h; subst h
   show WeakSt Γ _ ⟨look _, memOf _ (bxs _) _, _⟩; exact weak_cut [] ⟨(kPtr rfl), ⟨(kPtr rfl), ⟨(.same rfl), trivial⟩⟩⟩ ⟨⟨_, rfl, rfl, (.same rfl)⟩, ⟨⟨_, rfl, rfl, (.same rfl)⟩, trivial⟩⟩ rfl
 ·obtain ⟨x10, rfl⟩ : ∃ x, x = z := ⟨_, rfl⟩
  refine Tr.cond rfl (fun hb11 => ?_) (fun hb11 => ?_)
  ·replace h := bT hb11 h
   refine sr ((md rfl (nt ((Tr.ret ?_)))))
   replace h := si h; subst h
   exact ⟨.inr rfl, (.d (.bool false)), rfl, fun _ _ _ _ h => h, trivial, fun k hk => memOf_base hk⟩
  ·replace h := bF hb11 h
   refine Tr.skip (toN (Tr.seq (sr ((md rfl (nt ((Tr.block ?_))))))))
   refine Tr.loop (mk := fun (i12 : Int) => ⟨look [(2, .ptr (Γ.n0 + 2) 0), (3, .ptr (Γ.n0 + 3) 0), (5, .d (.int .i64 i12))], memOf Γ.n0 (bxs [(2, [.d (.lst 1 (List.map (eI .i64) a1.Alphabet)), .d (.int .i64 a1.States), .d (.lst 1 (List.map (eI .i64) a1.Marked)), .d (.lst 3 (List.map e_api_Edge a1.Edges))]), (3, [.d (.lst 1 (List.map (eI .i64) b2.Alphabet)), .d (.int .i64 b2.States), .d (.lst 1 (List.map (eI .i64) b2.Marked)), .d (.lst 3 (List.map e_api_Edge b2.Edges))])]) M, Γ.n0 + 54⟩) h (by show WeakSt Γ (clean _ _ _) ⟨look _, memOf _ (bxs _) _, _⟩; exact weak_clean ⟨(kPtr rfl), ⟨(kPtr rfl), ⟨(.same rfl), trivial⟩⟩⟩ ⟨⟨_, rfl, rfl, (.same rfl)⟩, ⟨⟨_, rfl, rfl, (.same rfl)⟩, trivial⟩⟩ rfl) (fun k13 z h => ?_)
   ·obtain ⟨i12, rfl⟩ : ∃ x, x = z := ⟨_, rfl⟩
    replace h : _ = some _ := h
    refine Tr.seq (sr ((md rfl (Rn.fldP (o' := 3) trivial rfl rfl (Rn.load (v := .d (.lst 3 (List.map e_api_Edge a1.Edges))) trivial rfl (boxOwn rfl) rfl rfl (Rn.lenD trivial rfl (Rn.bin trivial rfl rfl rfl (Rn.nil (toN ?_)))))))))
    refine Tr.cond rfl (fun hb14 => ?_) (fun hb14 => ?_)
    ·replace h := ifT hb14 h
     refine Tr.skip (toN (Tr.seq (Tr.block (Tr.seq ?_))))
     refine Tr.rgnD (by decide) ?_
     refine Rn.fldP (o' := 3) trivial rfl rfl (Rn.load (v := .d (.lst 3 (List.map e_api_Edge a1.Edges))) trivial rfl (boxOwn rfl) rfl rfl (md rfl ?_))
     obtain ⟨x15, h16, h⟩ := bnd h
     refine Rn.idxD (e := e_api_Edge) trivial rfl rfl h16 (Rn.loadCA (vs := [.d (.int .i64 x15.From), .d (.int .i64 x15.Event), .d (.int .i64 x15.To)]) trivial rfl rfl rfl (Rn.fldP (o' := 3) trivial rfl rfl (Rn.load (v := .d (.lst 3 (List.map e_api_Edge b2.Edges))) trivial rfl (boxOwn rfl) rfl rfl (md rfl ?_))))
     obtain ⟨x17, h18, h⟩ := bnd h
     refine Rn.idxD (e := e_api_Edge) trivial rfl rfl h18 (Rn.loadCA (vs := [.d (.int .i64 x17.From), .d (.int .i64 x17.Event), .d (.int .i64 x17.To)]) trivial rfl rfl rfl (Rn.eqa (r := ((x15.From == x17.From) && ((x15.Event == x17.Event) && ((x15.To == x17.To) && true)))) trivial rfl rfl rfl ?_))
     refine Rn.nil ⟨rfl, ?_⟩
     refine toN ?_
     refine Tr.cond rfl (fun hb19 => ?_) (fun hb19 => ?_)
     ·have hb19 := nT' hb19
      replace h := bF hb19 h
      refine sr ((md rfl (nt ((Tr.ret ?_)))))
      replace h := si h; subst h
      exact ⟨.inr rfl, (.d (.bool false)), rfl, fun _ _ _ _ h => h, trivial, fun k hk => memOf_base hk⟩
     ·have hb19 := nF' hb19
      replace h := bT hb19 h
      refine Tr.skip (toN (Tr.rgn (md rfl (Rn.bin trivial rfl rfl rfl (md rfl (Rn.nil ?_))))))
      exact ⟨_, h, (by show WeakSt Γ (clean _ _ _) ⟨look _, memOf _ (bxs _) _, _⟩; exact weak_clean ⟨(kPtr rfl), ⟨(kPtr rfl), ⟨(.same rfl), trivial⟩⟩⟩ ⟨⟨_, rfl, rfl, (.same rfl)⟩, ⟨⟨_, rfl, rfl, (.same rfl)⟩, trivial⟩⟩ rfl)⟩
    ·replace h := ifF hb14 h
     refine Tr.exit (toN (sr ((md rfl (nt ((Tr.ret ?_)))))))
     replace h := si h; subst h
     exact ⟨.inr rfl, (.d (.bool true)), rfl, fun _ _ _ _ h => h, trivial, fun k hk => memOf_base hk⟩
end Go.Abs
