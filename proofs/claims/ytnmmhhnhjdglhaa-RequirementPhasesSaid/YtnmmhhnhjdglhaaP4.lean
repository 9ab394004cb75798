/-
  Part 4 of the proof: see the last text.
-/
import Derived.Test.YtnmmhhnhjdglhaaP3
set_option linter.unusedVariables false
set_option linter.unusedSimpArgs false
set_option linter.unusedSectionVars false
namespace Go.Abs
open Go
set_option linter.unusedVariables false
set_option maxRecDepth 10000
set_option maxHeartbeats 4000000
theorem slices_Index_int_walk {P : Program} {c : Nat} (hcf : compFn P c = some F_slices_Index_int) (fuel : Nat) : K_slices_Index_int P c (f_slices_Index_int fuel) := by
 intro s1 v2 r h
 refine fn_trP hcf rfl fun Γ M hP hnt hM => ?_
 subst hP
 refine Tr.init [(0, .d (.lst 1 (List.map (eI .i64) s1))), (1, .d (.int .i64 v2))] rfl ?_
 unfold f_slices_Index_int at h
 unfold F_slices_Index_int
 refine sr ((md rfl (nt ((Tr.seq (sr ((md rfl (Rn.lenD trivial rfl (md rfl (nt ((Tr.block ?_)))))))))))))
 refine Tr.loop (mk := fun (x3 : Int) => ⟨look [(0, .d (.lst 1 (List.map (eI .i64) s1))), (1, .d (.int .i64 v2)), (7, .d (.int .i64 (s1.length : Int))), (8, .d (.int .i64 x3))], memOf Γ.n0 (bxs []) M, Γ.n0 + 19⟩) h (by show WeakSt Γ (clean _ _ _) ⟨look _, memOf _ (bxs _) _, _⟩; exact weak_clean ⟨(.same rfl), ⟨(.same rfl), ⟨(.same rfl), ⟨(.same rfl), trivial⟩⟩⟩⟩ trivial rfl) (fun k4 z h => ?_)
 ·obtain ⟨x3, rfl⟩ : ∃ x, x = z := ⟨_, rfl⟩
  replace h : _ = some _ := h
  refine sr ((Rn.bin trivial rfl rfl rfl (nt ((Tr.seq ?_)))))
  refine Tr.cond rfl (fun hb5 => ?_) (fun hb5 => ?_)
  ·replace h := ifT hb5 h
   refine Tr.skip (toN (Tr.seq (Tr.block (sr ((md rfl (md rfl (nt ((sr ((md rfl (md rfl (md rfl ?_))))))))))))))
   obtain ⟨x6, h7, h⟩ := bnd h
   refine Rn.idxD (e := (eI .i64)) trivial rfl rfl h7 (Rn.loadC (x := .int .i64 x6) trivial rfl (Rn.bin trivial rfl rfl rfl (Rn.nil (toN ?_))))
   refine Tr.cond rfl (fun hb8 => ?_) (fun hb8 => ?_)
   ·replace h := bT hb8 h
    refine sr ((md rfl (md rfl (nt ((Tr.ret ?_))))))
    replace h := si h; subst h
    exact ⟨.inr rfl, (.d (.int .i64 x3)), rfl, fun _ _ _ _ h => h, trivial, fun k hk => memOf_base hk⟩
   ·replace h := bF hb8 h
    refine Tr.skip (toN (Tr.rgn (Rn.bin trivial rfl rfl rfl (md rfl (Rn.nil ?_)))))
    exact ⟨_, h, (by show WeakSt Γ (clean _ _ _) ⟨look _, memOf _ (bxs _) _, _⟩; exact weak_clean ⟨(.same rfl), ⟨(.same rfl), ⟨(.same rfl), ⟨(.same rfl), trivial⟩⟩⟩⟩ trivial rfl)⟩
  ·replace h := ifF hb5 h
   refine Tr.exit (toN (sr ((md rfl (nt ((Tr.ret ?_)))))))
   replace h := si h; subst h
   exact ⟨.inr rfl, (.d (.int .i64 (-1))), rfl, fun _ _ _ _ h => h, trivial, fun k hk => memOf_base hk⟩
theorem slices_Contains_int_walk {P : Program} {c : Nat} {f_slices_Index_int : (List Int) → Int → Option Int}
    (H_slices_Index_int : K_slices_Index_int P 52 f_slices_Index_int) (hcf : compFn P c = some F_slices_Contains_int) : K_slices_Contains_int P c (f_slices_Contains_int f_slices_Index_int) := by
 intro s1 v2 r h
 refine fn_trP hcf rfl fun Γ M hP hnt hM => ?_
 subst hP
 refine Tr.init [(0, .d (.lst 1 (List.map (eI .i64) s1))), (1, .d (.int .i64 v2))] rfl ?_
 unfold f_slices_Contains_int at h
 unfold F_slices_Contains_int
 refine sr ((md rfl (nt ((sr ((md rfl (md rfl ?_))))))))
 obtain ⟨x4, h3, h⟩ := bnd h
 refine Rn.call (args := [.d (.lst 1 (List.map (eI .i64) s1)), .d (.int .i64 v2)]) trivial rfl (H_slices_Index_int _ _ _ h3) pc9 (Rn.bin trivial rfl rfl rfl (md rfl (nt ((Tr.ret ?_)))))
 replace h := si h; subst h
 exact ⟨.inr rfl, (.d (.bool (decide (x4 ≥ 0)))), rfl, fun _ _ _ _ h => h, trivial, fun k hk => memOf_base hk⟩
theorem requirement_distinct_walk {P : Program} {c : Nat} {f_slices_Contains_int : (List Int) → Int → Option Bool}
    (H_slices_Contains_int : K_slices_Contains_int P 13 f_slices_Contains_int) (hcf : compFn P c = some F_requirement_distinct) (fuel : Nat) : K_requirement_distinct P c (f_requirement_distinct f_slices_Contains_int fuel) := by
 intro l1 r h
 refine fn_trP hcf rfl fun Γ M hP hnt hM => ?_
 subst hP
 refine Tr.init [(0, .d (.lst 1 (List.map (eI .i64) l1)))] rfl ?_
 unfold f_requirement_distinct at h
 unfold F_requirement_distinct
 refine sr ((md rfl (nt ((Tr.seq (sr ((md rfl (Rn.lenD trivial rfl (md rfl (nt ((Tr.block ?_)))))))))))))
 refine Tr.loop (mk := fun (x2 : Int) => ⟨look [(0, .d (.lst 1 (List.map (eI .i64) l1))), (5, .d (.lst 1 (List.map (eI .i64) l1))), (6, .d (.int .i64 (l1.length : Int))), (7, .d (.int .i64 x2))], memOf Γ.n0 (bxs []) M, Γ.n0 + 24⟩) h (by show WeakSt Γ (clean _ _ _) ⟨look _, memOf _ (bxs _) _, _⟩; exact weak_clean ⟨(.same rfl), ⟨(.same rfl), ⟨(.same rfl), ⟨(.same rfl), trivial⟩⟩⟩⟩ trivial rfl) (fun k3 z h => ?_)
 ·obtain ⟨x2, rfl⟩ : ∃ x, x = z := ⟨_, rfl⟩
  replace h : _ = some _ := h
  refine sr ((Rn.bin trivial rfl rfl rfl (nt ((Tr.seq ?_)))))
  refine Tr.cond rfl (fun hb4 => ?_) (fun hb4 => ?_)
  ·replace h := ifT hb4 h
   refine Tr.skip (toN (Tr.seq (Tr.block (sr ((md rfl ?_))))))
   obtain ⟨x5, h6, h⟩ := bnd h
   refine Rn.idxD (e := (eI .i64)) trivial rfl rfl h6 (Rn.loadC (x := .int .i64 x5) trivial rfl (md rfl (md rfl (nt ((Tr.seq ?_))))))
   refine Tr.cutB (fun (x8 : Bool) => ⟨look [(0, .d (.lst 1 (List.map (eI .i64) l1))), (3, .d (.int .i64 x2)), (4, .d (.int .i64 x5)), (5, .d (.lst 1 (List.map (eI .i64) l1))), (6, .d (.int .i64 (l1.length : Int))), (7, .d (.int .i64 x2)), (17, .d (.bool x8))], memOf Γ.n0 (bxs []) M, Γ.n0 + 24⟩) h (fun z h => ?_) (fun z h => ?_)
   ·refine Tr.rgn (md rfl (Rn.bin trivial rfl rfl rfl (md rfl ?_)))
    refine bsplit (decide (x5 < 0)) (fun hb7 => ?_) (fun hb7 => ?_)
    ·replace h := ifT hb7 h
     refine Rn.sk (nw rfl hb7) (Rn.sk (nw rfl hb7) (Rn.pickT (v := .d (.bool true)) trivial rfl hb7 rfl (Rn.nil ?_)))
     replace h := si h; subst h
     show WeakSt Γ _ ⟨look _, memOf _ (bxs _) _, _⟩; exact weak_cut [] ⟨(.same rfl), ⟨(.same rfl), ⟨(.same rfl), ⟨(.same rfl), ⟨(.same rfl), ⟨(.same rfl), ⟨(.same rfl), trivial⟩⟩⟩⟩⟩⟩⟩ trivial rfl
    ·replace h := ifF hb7 h
     refine Rn.movD (gw rfl hb7) rfl (Rn.bin (gw rfl hb7) rfl rfl rfl (Rn.pickF (v := .d (.bool (decide (x5 ≥ 32)))) trivial rfl hb7 rfl (Rn.nil ?_)))
     replace h := si h; subst h
     show WeakSt Γ _ ⟨look _, memOf _ (bxs _) _, _⟩; exact weak_cut [] ⟨(.same rfl), ⟨(.same rfl), ⟨(.same rfl), ⟨(.same rfl), ⟨(.same rfl), ⟨(.same rfl), ⟨(.same rfl), trivial⟩⟩⟩⟩⟩⟩⟩ trivial rfl
   ·obtain ⟨x8, rfl⟩ : ∃ x, x = z := ⟨_, rfl⟩
    refine Tr.cond rfl (fun hb9 => ?_) (fun hb9 => ?_)
    ·replace h := bT hb9 h
     refine sr ((md rfl (nt ((Tr.ret ?_)))))
     replace h := si h; subst h
     exact ⟨.inr rfl, (.d (.int .i64 2)), rfl, fun _ _ _ _ h => h, trivial, fun k hk => memOf_base hk⟩
    ·replace h := bF hb9 h
     refine Tr.skip (toN (sr ((md rfl (md rfl ?_)))))
     obtain ⟨x10, h11, h⟩ := bnd h
     refine Rn.slcH (e := (eI .i64)) trivial rfl rfl h11 (md rfl ?_)
     obtain ⟨x13, h12, h⟩ := bnd h
     refine Rn.call (args := [.d (.lst 1 (List.map (eI .i64) x10)), .d (.int .i64 x5)]) trivial rfl (H_slices_Contains_int _ _ _ h12) pc9 (Rn.nil (toN ?_))
     refine Tr.cond rfl (fun hb14 => ?_) (fun hb14 => ?_)
     ·replace h := bT hb14 h
      refine sr ((md rfl (nt ((Tr.ret ?_)))))
      replace h := si h; subst h
      exact ⟨.inr rfl, (.d (.int .i64 8)), rfl, fun _ _ _ _ h => h, trivial, fun k hk => memOf_base hk⟩
     ·replace h := bF hb14 h
      refine Tr.skip (toN (Tr.rgn (Rn.bin trivial rfl rfl rfl (md rfl (Rn.nil ?_)))))
      exact ⟨_, h, (by show WeakSt Γ (clean _ _ _) ⟨look _, memOf _ (bxs _) _, _⟩; exact weak_clean ⟨(.same rfl), ⟨(.same rfl), ⟨(.same rfl), ⟨(.same rfl), trivial⟩⟩⟩⟩ trivial rfl)⟩
  ·replace h := ifF hb4 h
   refine Tr.exit (toN (sr ((md rfl (nt ((Tr.ret ?_)))))))
   replace h := si h; subst h
   exact ⟨.inr rfl, (.d (.int .i64 0)), rfl, fun _ _ _ _ h => h, trivial, fun k hk => memOf_base hk⟩
theorem slices_Clone_int_walk {P : Program} {c : Nat} (hcf : compFn P c = some F_slices_Clone_int) : K_slices_Clone_int P c (f_slices_Clone_int) := by
 intro s1 r h
 refine fn_trP hcf rfl fun Γ M hP hnt hM => ?_
 subst hP
 refine Tr.init [(0, .d (.lst 1 (List.map (eI .i64) s1)))] rfl ?_
 unfold f_slices_Clone_int at h
 unfold F_slices_Clone_int
 refine sr ((Rn.movTC (v := .nils 1) trivial (nt ((Tr.seq (sr ((md rfl ?_))))))))
 refine Rn.isnil (e := (eI .i64)) trivial rfl h (fun b2 h => ?_)
 refine Rn.nil (toN ?_)
 refine Tr.cond rfl (fun hb3 => ?_) (fun hb3 => ?_)
 ·replace h := bT hb3 h
  refine sr ((Rn.movTC (v := .nils 1) trivial (nt ((Tr.ret ?_)))))
  replace h := si h; subst h
  exact ⟨.inr rfl, (.nils 1), rfl, (WkV.nilsO _).rd, trivial, fun k hk => memOf_base hk⟩
 ·replace h := bF hb3 h
  refine Tr.skip (toN (sr ((Rn.bslice (xs := []) (cs := []) trivial rfl rfl rfl rfl (md rfl ?_)))))
  obtain ⟨x4, h5, h⟩ := bnd h
  refine Rn.app0 (e := (eI .i64)) trivial rfl rfl rfl rfl elems_lst h5 rfl (Rn.movTO trivial rfl (nt ((Tr.ret ?_))))
  replace h := si h; subst h
  exact ⟨.inr rfl, (.own 1 (List.map (eI .i64) x4)), rfl, fun _ _ _ _ h => h, trivial, fun k hk => memOf_base hk⟩
theorem requirement_sorted_walk {P : Program} {c : Nat} {f_slices_Clone_int : (List Int) → Option ((List Int))} {f_slices_Sort_int : List Int → Option (List Int)}
    (H_slices_Clone_int : K_slices_Clone_int P 23 f_slices_Clone_int)
    (H_slices_Sort_int : RowK P 56 (eI .i64) 1 [] f_slices_Sort_int) (hcf : compFn P c = some F_requirement_sorted) : K_requirement_sorted P c (f_requirement_sorted f_slices_Clone_int f_slices_Sort_int) := by
 intro l1 r h
 refine fn_trT hcf (args' := [.f (.lst 1 (List.map (eI .i64) l1))]) rfl rfl rfl rfl rfl rfl fun Γ M hP hnt hG hM0 hM => ?_
 subst hP
 refine Tr.init [(0, .f (.lst 1 (List.map (eI .i64) l1)))] rfl ?_
 unfold f_requirement_sorted at h
 unfold F_requirement_sorted
 refine sr ((Rn.movTC (v := .nils 1) trivial (nt ((sr ((Rn.mov (v := .f (.lst 1 (List.map (eI .i64) l1))) trivial rfl ?_)))))))
 refine Rn.weak (by show WeakSt Γ _ ⟨look [(0, .f (.lst 1 (List.map (eI .i64) l1))), (2, .nils 1), (4, .d (.lst 1 (List.map (eI .i64) l1)))], memOf Γ.n0 (bxs []) M, Γ.n0 + 9⟩; exact weak_cut [] ⟨(.same rfl), ⟨(.same rfl), ⟨fToD, trivial⟩⟩⟩ trivial rfl) ?_
 obtain ⟨x3, h2, h⟩ := bnd h
 refine Rn.call (args := [.d (.lst 1 (List.map (eI .i64) l1))]) trivial rfl (H_slices_Clone_int _ _ h2) pc9 (Rn.movTO trivial rfl (Rn.nil (toN ?_)))
 obtain ⟨out4, hs5, h⟩ := bnd h
 obtain ⟨hl6, hn7, hr8⟩ := H_slices_Sort_int _ _ hs5
 refine Tr.seqW ⟨look [(3, .d (.lst 1 (List.map (eI .i64) out4)))], memOf Γ.n0 (bxs []) M, Γ.n0 + 9⟩ ?_ ?_
 ·by_cases hx9 : x3 = []
  ·obtain ⟨hyx, hn7b⟩ := hn7 hx9
   replace hyx := hyx.symm
   subst hyx
   replace hn7 := And.intro trivial hn7b
   refine Tr.rgn (Rn.mov (v := .d (.lst 1 (List.map (eI .i64) x3))) trivial rfl (Rn.call (args := [.d (.lst 1 (List.map (eI .i64) x3))]) trivial rfl (hn7.2) pc9 ?_))
   refine Rn.nil ⟨rfl, (by show WeakSt Γ _ ⟨look _, memOf _ (bxs _) _, _⟩; exact weak_cut [] ⟨(WkV.dem' rfl), trivial⟩ trivial rfl)⟩
  ·refine Tr.weak (by show WeakSt Γ _ ⟨look [(3, .own 1 (List.map (eI .i64) x3))], memOf Γ.n0 (bxs []) M, Γ.n0 + 9⟩; exact weak_cut [] ⟨(.same rfl), trivial⟩ trivial rfl) ?_
   refine thawSL hG hM0 3 7 hx9 (fun _ => rfl) rfl rfl rfl ⟨rfl, ⟨(plainOwn (fun _ => rfl)), trivial⟩⟩ trivial (fun c10 hc11 hc12 => ?_)
   refine Tr.rgn (Rn.mov (v := .sl 1 (Γ.n0 + 7) 0 x3.length c10) trivial rfl ?_)
   refine Rn.callRow (t := 7) (cs := thCells (List.map (eI .i64) x3) ((c10 - x3.length) * 1)) (cs' := thCells (List.map (eI .i64) out4) ((c10 - x3.length) * 1)) trivial rfl rfl (fun M2 hM2 => hr8 hc12 _ _ _ _ hM2) rfl ?_
   refine Rn.weak (by show WeakSt Γ _ ⟨look [(3, .d (.lst 1 (List.map (eI .i64) out4))), (6, .d (.lst 1 (List.map (eI .i64) out4))), (7, .tup [])], memOf Γ.n0 (bxs []) M, Γ.n0 + 9⟩; exact weak_freezeG 7 _ rfl preTh ⟨(fSlT (fun _ => rfl) hl6 hc11), ⟨(fSlT (fun _ => rfl) hl6 hc11), ⟨(.same rfl), trivial⟩⟩⟩ trivial rfl) ?_
   refine Rn.nil ⟨rfl, (by show WeakSt Γ _ ⟨look _, memOf _ (bxs _) _, _⟩; exact weak_cut [] ⟨(.same rfl), trivial⟩ trivial rfl)⟩
 ·refine sr ((Rn.movTD trivial rfl (Rn.movTD trivial rfl (nt ((Tr.ret ?_))))))
  replace h := si h; subst h
  exact ⟨.inr rfl, (.d (.lst 1 (List.map (eI .i64) out4))), rfl, fun _ _ _ _ h => h, trivial, fun k hk => memOf_base hk⟩
theorem requirement_Alternate_1_walk {P : Program} {c : Nat} (hcf : compFn P c = some F_requirement_Alternate_1) : K_requirement_Alternate_1 P c (f_requirement_Alternate_1) := by
 intro state1 event2 x3 k4 r h
 intro M nb hk5
 refine fn_trM hcf rfl M nb fun Γ hP hnt hn0 hM => ?_
 subst hP hn0
 refine Tr.init [(0, .d (.int .i64 state1)), (1, .d (.int .i64 event2)), (2, .ptr k4 0)] rfl ?_
 unfold f_requirement_Alternate_1 at h
 unfold F_requirement_Alternate_1
 refine sr ((md rfl (md rfl (nt ((Tr.seq ?_))))))
 refine Tr.rgnD (by decide) ?_
 refine md rfl (Rn.bin trivial rfl rfl rfl (Rn.load (v := .d (.lst 1 (List.map (eI .i64) x3))) trivial rfl (baseMem hM hk5) rfl rfl (Rn.lenD trivial rfl ?_)))
 obtain ⟨s6, h7, h⟩ := bnd h
 refine Rn.bin trivial rfl rfl (rem_bin h7) (Rn.load (v := .d (.lst 1 (List.map (eI .i64) x3))) trivial rfl (baseMem hM hk5) rfl rfl (md rfl ?_))
 obtain ⟨x8, h9, h⟩ := bnd h
 refine Rn.idxD (e := (eI .i64)) trivial rfl rfl h9 (Rn.loadC (x := .int .i64 x8) trivial rfl (md rfl (Rn.bin trivial rfl rfl rfl (md rfl (md rfl ?_)))))
 refine Rn.nil ⟨rfl, ?_⟩
 refine toN (Tr.ret ?_)
 replace h := si h; subst h
 exact ⟨.inr rfl, .tup [.d (.int .i64 s6), .d (.bool (x8 == event2))], res2 rfl rfl, (WkV.tup (.cons (.same rfl) (.cons (.same rfl) .nil))).rd, ⟨trivial, trivial, trivial⟩, fun k hk => memOf_base hk⟩
theorem requirement_explore_walk {P : Program} {c : Nat} (hcf : compFn P c = some F_requirement_explore) (fuel : Nat) : K_requirement_explore P c (f_requirement_explore fuel) := by
 intro events1 marked2 next9 g3 cp4 g10 cp11 r h
 intro M nb hc5 ho7 hf6 hc12 ho14 hf13
 refine fn_trM hcf rfl M nb fun Γ hP hnt hn0 hM => ?_
 subst hP hn0
 refine Tr.init [(0, .d (.lst 1 (List.map (eI .i64) events1))), (1, .clo g3 cp4), (2, .clo g10 cp11)] rfl ?_
 unfold f_requirement_explore at h
 unfold F_requirement_explore
 refine sr ((Rn.alloc trivial rfl (nt ((sr ((md rfl (Rn.build (v := .agg [.d (.lst 1 (List.map (eI .i64) events1)), .d (.int .i64 0), .nils 1, .nils 3]) trivial rfl (Rn.alloc trivial rfl (Rn.store (v := .agg [.d (.lst 1 (List.map (eI .i64) events1)), .d (.int .i64 0), .nils 1, .nils 3]) (cs' := [.d (.lst 1 (List.map (eI .i64) events1)), .d (.int .i64 0), .nils 1, .nils 3]) trivial rfl rfl rfl rfl rfl rfl (nt ((sr ((Rn.bslice (xs := [.d (.int .i64 0)]) (cs := [.d (.int .i64 0)]) trivial rfl rfl rfl rfl (Rn.mkmap trivial rfl (fun (x : Int) => (.d (.int .i64 x) : V)) (fun (x : Int) => (.d (.int .i64 x) : V)) (Rn.mapset (ek := (fun (x : Int) => (.d (.int .i64 x) : V))) (ev := (fun (x : Int) => (.d (.int .i64 x) : V))) (m := ([] : List (Int × Int))) (k := 0) (v := 0) (fun _ _ => rfl) (fun _ => rfl) (fun _ => rfl) trivial rfl rfl rfl rfl (Rn.mov (v := .mp (Γ.n0 + 20)) trivial rfl (Rn.movTF (v := .sl 1 (Γ.n0 + 19) 0 1 1) trivial rfl rfl (Rn.mov (v := .mp (Γ.n0 + 20)) trivial rfl (Rn.nil (toN ?_))))))))))))))))))))))
 refine Tr.cutB (fun ((states65, c66, c67, c68, a69, a70, c71) : (List Int) × (List Int) × (List Int) × (List api_Edge) × (List Int) × (List api_Edge) × (List (Int × Int))) => ⟨look [(6, .ptr (Γ.n0 + 6) 0), (7, .ptr (Γ.n0 + 7) 0), (8, .own 1 (List.map (eI .i64) states65))], memOf Γ.n0 (bxs [(6, .cells ([.own 1 (List.map (eI .i64) c66), .d (.int .i64 0), .own 1 (List.map (eI .i64) c67), .own 3 (List.map e_api_Edge c68)])), (7, .cells ([.d (.lst 1 (List.map (eI .i64) events1)), .d (.int .i64 0), .own 1 (List.map (eI .i64) a69), .own 3 (List.map e_api_Edge a70)])), (20, .mp (mapE (fun (x : Int) => (.d (.int .i64 x) : V)) (fun (x : Int) => (.d (.int .i64 x) : V)) 0 c71) (c71).length)]) M, Γ.n0 + 89⟩) h (fun z h => ?_) (fun z h => ?_)
 ·refine sr ((md rfl (nt ((Tr.block ?_)))))
  refine Tr.weak (by show WeakSt Γ _ ⟨look ((8, .own 1 (List.map (eI .i64) [0])) :: [(0, .d (.lst 1 (List.map (eI .i64) events1))), (1, .clo g3 cp4), (2, .clo g10 cp11), (6, .ptr (Γ.n0 + 6) 0), (7, .ptr (Γ.n0 + 7) 0), (9, .mp (Γ.n0 + 20)), (10, .d (.int .i64 0)), (17, .d (.lst 1 (List.map (eI .i64) events1))), (18, .agg [.d (.lst 1 (List.map (eI .i64) events1)), .d (.int .i64 0), .nils 1, .nils 3]), (20, .mp (Γ.n0 + 20)), (21, .mp (Γ.n0 + 20))] ), memOf Γ.n0 (bxs [(6, .cells ([.nils 1, .d (.int .i64 0), .nils 1, .nils 3])), (7, .cells ([.d (.lst 1 (List.map (eI .i64) events1)), .d (.int .i64 0), .nils 1, .nils 3])), (20, .mp (mapE (fun (x : Int) => (.d (.int .i64 x) : V)) (fun (x : Int) => (.d (.int .i64 x) : V)) 0 (setM ([] : List (Int × Int)) 0 0)) ((setM ([] : List (Int × Int)) 0 0)).length)]) M, Γ.n0 + 89⟩; exact weak_ownL 19 8 [.int .i64 0] rfl rfl rfl rfl rfl ⟨(.same rfl), ⟨(kFun hM ho7), ⟨(kFun hM ho14), ⟨(kPtr rfl), ⟨(kPtr rfl), ⟨(kMp rfl), ⟨(.same rfl), ⟨(.same rfl), ⟨(.same rfl), ⟨(kMp rfl), ⟨(kMp rfl), trivial⟩⟩⟩⟩⟩⟩⟩⟩⟩⟩⟩ ⟨⟨_, rfl, rfl, (.same rfl)⟩, ⟨⟨_, rfl, rfl, (.same rfl)⟩, ⟨⟨rfl, rfl⟩, trivial⟩⟩⟩ rfl) ?_
  refine Tr.loop (mk := fun ((states17, i18, c19, c20, c21, a22, a23, c24) : (List Int) × Int × (List Int) × (List Int) × (List api_Edge) × (List Int) × (List api_Edge) × (List (Int × Int))) => ⟨look [(0, .d (.lst 1 (List.map (eI .i64) events1))), (1, .clo g3 cp4), (2, .clo g10 cp11), (6, .ptr (Γ.n0 + 6) 0), (7, .ptr (Γ.n0 + 7) 0), (8, .own 1 (List.map (eI .i64) states17)), (9, .mp (Γ.n0 + 20)), (10, .d (.int .i64 i18))], memOf Γ.n0 (bxs [(6, .cells ([.own 1 (List.map (eI .i64) c19), .d (.int .i64 0), .own 1 (List.map (eI .i64) c20), .own 3 (List.map e_api_Edge c21)])), (7, .cells ([.d (.lst 1 (List.map (eI .i64) events1)), .d (.int .i64 0), .own 1 (List.map (eI .i64) a22), .own 3 (List.map e_api_Edge a23)])), (20, .mp (mapE (fun (x : Int) => (.d (.int .i64 x) : V)) (fun (x : Int) => (.d (.int .i64 x) : V)) 0 c24) (c24).length)]) M, Γ.n0 + 89⟩) h (by show WeakSt Γ (clean _ _ _) ⟨look _, memOf _ (bxs _) _, _⟩; exact weak_clean ⟨(.same rfl), ⟨(kFun hM ho7), ⟨(kFun hM ho14), ⟨(kPtr rfl), ⟨(kPtr rfl), ⟨(.same rfl), ⟨(kMp rfl), ⟨(.same rfl), trivial⟩⟩⟩⟩⟩⟩⟩⟩ ⟨⟨_, rfl, rfl, (.cons (WkV.nilsO _) (.cons (.same rfl) (.cons (WkV.nilsO _) (.cons (WkV.nilsO _) .nil))))⟩, ⟨⟨_, rfl, rfl, (.cons (.same rfl) (.cons (.same rfl) (.cons (WkV.nilsO _) (.cons (WkV.nilsO _) .nil))))⟩, ⟨⟨rfl, rfl⟩, trivial⟩⟩⟩ rfl) (fun k25 z h => ?_)
  ·obtain ⟨states17, i18, c19, c20, c21, a22, a23, c24⟩ := z
   replace h : _ = some _ := h
   refine Tr.seq (sr ((md rfl (Rn.mov (v := .d (.lst 1 (List.map (eI .i64) states17))) trivial rfl (Rn.lenD trivial rfl (Rn.bin trivial rfl rfl rfl (Rn.nil (toN ?_))))))))
   refine Tr.cond rfl (fun hb26 => ?_) (fun hb26 => ?_)
   ·replace h := ifT hb26 h
    refine Tr.skip (toN ?_)
    refine Tr.cutB (fun ((states61, a62, a63, c64) : (List Int) × (List Int) × (List api_Edge) × (List (Int × Int))) => ⟨look [(0, .d (.lst 1 (List.map (eI .i64) events1))), (1, .clo g3 cp4), (2, .clo g10 cp11), (6, .ptr (Γ.n0 + 6) 0), (7, .ptr (Γ.n0 + 7) 0), (8, .own 1 (List.map (eI .i64) states61)), (9, .mp (Γ.n0 + 20)), (10, .d (.int .i64 i18))], memOf Γ.n0 (bxs [(6, .cells ([.own 1 (List.map (eI .i64) c19), .d (.int .i64 0), .own 1 (List.map (eI .i64) c20), .own 3 (List.map e_api_Edge c21)])), (7, .cells ([.d (.lst 1 (List.map (eI .i64) events1)), .d (.int .i64 0), .own 1 (List.map (eI .i64) a62), .own 3 (List.map e_api_Edge a63)])), (20, .mp (mapE (fun (x : Int) => (.d (.int .i64 x) : V)) (fun (x : Int) => (.d (.int .i64 x) : V)) 0 c64) (c64).length)]) M, Γ.n0 + 89⟩) h (fun z h => ?_) (fun z h => ?_)
    ·refine Tr.block ?_
     refine Tr.cutB (fun (a34 : List Int) => ⟨look [(0, .d (.lst 1 (List.map (eI .i64) events1))), (1, .clo g3 cp4), (2, .clo g10 cp11), (6, .ptr (Γ.n0 + 6) 0), (7, .ptr (Γ.n0 + 7) 0), (8, .own 1 (List.map (eI .i64) states17)), (9, .mp (Γ.n0 + 20)), (10, .d (.int .i64 i18))], memOf Γ.n0 (bxs [(6, .cells ([.own 1 (List.map (eI .i64) c19), .d (.int .i64 0), .own 1 (List.map (eI .i64) c20), .own 3 (List.map e_api_Edge c21)])), (7, .cells ([.d (.lst 1 (List.map (eI .i64) events1)), .d (.int .i64 0), .own 1 (List.map (eI .i64) a34), .own 3 (List.map e_api_Edge a23)])), (20, .mp (mapE (fun (x : Int) => (.d (.int .i64 x) : V)) (fun (x : Int) => (.d (.int .i64 x) : V)) 0 c24) (c24).length)]) M, Γ.n0 + 89⟩) h (fun z h => ?_) (fun z h => ?_)
     ·refine sr ((Rn.mov (v := .clo g3 cp4) trivial rfl (Rn.mov (v := .d (.lst 1 (List.map (eI .i64) states17))) trivial rfl (md rfl ?_))))
      obtain ⟨x27, h28, h⟩ := bnd h
      refine Rn.idxD (e := (eI .i64)) trivial rfl rfl h28 (Rn.loadC (x := .int .i64 x27) trivial rfl ?_)
      obtain ⟨x30, h29, h⟩ := bnd h
      refine Rn.callvM (args := [.d (.int .i64 x27)] ++ cp4) trivial rfl (by rw [hc5]; rfl) (fun M2 nb2 hn hx => hf6 _ _ h29 M2 nb2 (by omega) ((extMem hM).trans hx)) rfl pc9 ?_
      refine Rn.nil (toN ?_)
      refine Tr.cond rfl (fun hb31 => ?_) (fun hb31 => ?_)
      ·replace h := bT hb31 h
       refine Tr.rgn (Rn.fldP (o' := 2) trivial rfl rfl (Rn.loadT (cs' := [.d (.lst 1 (List.map (eI .i64) events1)), .d (.int .i64 0), .d (.lst 1 (List.map (eI .i64) a22)), .own 3 (List.map e_api_Edge a23)]) trivial rfl rfl rfl rfl (md rfl (Rn.bslice (xs := [.d (.int .i64 i18)]) (cs := [.d (.int .i64 i18)]) trivial rfl rfl rfl rfl ?_))))
       obtain ⟨x32, h33, h⟩ := bnd h
       refine Rn.app (e := (eI .i64)) trivial rfl rfl rfl (elems_box rfl rfl rfl) h33 rfl (Rn.fldP (o' := 2) trivial rfl rfl (Rn.storeO (cs' := [.d (.lst 1 (List.map (eI .i64) events1)), .d (.int .i64 0), .own 1 (List.map (eI .i64) x32), .own 3 (List.map e_api_Edge a23)]) trivial rfl rfl rfl rfl rfl (Rn.nil ?_)))
       replace h := si h; subst h
       show WeakSt Γ _ ⟨look _, memOf _ (bxs _) _, _⟩; exact weak_cut [37] ⟨(.same rfl), ⟨(kFun hM ho7), ⟨(kFun hM ho14), ⟨(kPtr rfl), ⟨(kPtr rfl), ⟨(.same rfl), ⟨(kMp rfl), ⟨(.same rfl), trivial⟩⟩⟩⟩⟩⟩⟩⟩ ⟨⟨_, rfl, rfl, (.same rfl)⟩, ⟨⟨_, rfl, rfl, (.same rfl)⟩, ⟨⟨rfl, rfl⟩, trivial⟩⟩⟩ rfl
      ·replace h := bF hb31 h
       refine Tr.skip ?_
       replace h := si h; subst h
       show WeakSt Γ _ ⟨look _, memOf _ (bxs _) _, _⟩; exact weak_cut [] ⟨(.same rfl), ⟨(kFun hM ho7), ⟨(kFun hM ho14), ⟨(kPtr rfl), ⟨(kPtr rfl), ⟨(.same rfl), ⟨(kMp rfl), ⟨(.same rfl), trivial⟩⟩⟩⟩⟩⟩⟩⟩ ⟨⟨_, rfl, rfl, (.same rfl)⟩, ⟨⟨_, rfl, rfl, (.same rfl)⟩, ⟨⟨rfl, rfl⟩, trivial⟩⟩⟩ rfl
     ·obtain ⟨a34, rfl⟩ : ∃ x, x = z := ⟨_, rfl⟩
      refine sr ((md rfl (Rn.lenD trivial rfl (md rfl (nt ((Tr.block ?_)))))))
      refine Tr.loop (mk := fun ((states35, x36, a37, c38) : (List Int) × Int × (List api_Edge) × (List (Int × Int))) => ⟨look [(0, .d (.lst 1 (List.map (eI .i64) events1))), (1, .clo g3 cp4), (2, .clo g10 cp11), (6, .ptr (Γ.n0 + 6) 0), (7, .ptr (Γ.n0 + 7) 0), (8, .own 1 (List.map (eI .i64) states35)), (9, .mp (Γ.n0 + 20)), (10, .d (.int .i64 i18)), (40, .d (.lst 1 (List.map (eI .i64) events1))), (41, .d (.int .i64 (events1.length : Int))), (42, .d (.int .i64 x36))], memOf Γ.n0 (bxs [(6, .cells ([.own 1 (List.map (eI .i64) c19), .d (.int .i64 0), .own 1 (List.map (eI .i64) c20), .own 3 (List.map e_api_Edge c21)])), (7, .cells ([.d (.lst 1 (List.map (eI .i64) events1)), .d (.int .i64 0), .own 1 (List.map (eI .i64) a34), .own 3 (List.map e_api_Edge a37)])), (20, .mp (mapE (fun (x : Int) => (.d (.int .i64 x) : V)) (fun (x : Int) => (.d (.int .i64 x) : V)) 0 c38) (c38).length)]) M, Γ.n0 + 89⟩) h (by show WeakSt Γ (clean _ _ _) ⟨look _, memOf _ (bxs _) _, _⟩; exact weak_clean ⟨(.same rfl), ⟨(kFun hM ho7), ⟨(kFun hM ho14), ⟨(kPtr rfl), ⟨(kPtr rfl), ⟨(.same rfl), ⟨(kMp rfl), ⟨(.same rfl), ⟨(.same rfl), ⟨(.same rfl), ⟨(.same rfl), trivial⟩⟩⟩⟩⟩⟩⟩⟩⟩⟩⟩ ⟨⟨_, rfl, rfl, (.same rfl)⟩, ⟨⟨_, rfl, rfl, (.same rfl)⟩, ⟨⟨rfl, rfl⟩, trivial⟩⟩⟩ rfl) (fun k39 z h => ?_)
      ·obtain ⟨states35, x36, a37, c38⟩ := z
       replace h : _ = some _ := h
       refine sr ((Rn.bin trivial rfl rfl rfl (nt ((Tr.seq ?_)))))
       refine Tr.cond rfl (fun hb40 => ?_) (fun hb40 => ?_)
       ·replace h := ifT hb40 h
        refine Tr.skip (toN ?_)
        refine Tr.cutB (fun ((states58, a59, c60) : (List Int) × (List api_Edge) × (List (Int × Int))) => ⟨look [(0, .d (.lst 1 (List.map (eI .i64) events1))), (1, .clo g3 cp4), (2, .clo g10 cp11), (6, .ptr (Γ.n0 + 6) 0), (7, .ptr (Γ.n0 + 7) 0), (8, .own 1 (List.map (eI .i64) states58)), (9, .mp (Γ.n0 + 20)), (10, .d (.int .i64 i18)), (40, .d (.lst 1 (List.map (eI .i64) events1))), (41, .d (.int .i64 (events1.length : Int))), (42, .d (.int .i64 x36))], memOf Γ.n0 (bxs [(6, .cells ([.own 1 (List.map (eI .i64) c19), .d (.int .i64 0), .own 1 (List.map (eI .i64) c20), .own 3 (List.map e_api_Edge c21)])), (7, .cells ([.d (.lst 1 (List.map (eI .i64) events1)), .d (.int .i64 0), .own 1 (List.map (eI .i64) a34), .own 3 (List.map e_api_Edge a59)])), (20, .mp (mapE (fun (x : Int) => (.d (.int .i64 x) : V)) (fun (x : Int) => (.d (.int .i64 x) : V)) 0 c60) (c60).length)]) M, Γ.n0 + 89⟩) h (fun z h => ?_) (fun z h => ?_)
        ·refine Tr.block (Tr.seq (Tr.rgn ?_))
         obtain ⟨x41, h42, h⟩ := bnd h
         refine Rn.idxD (e := (eI .i64)) trivial rfl rfl h42 (Rn.loadC (x := .int .i64 x41) trivial rfl (md rfl (nt ((sr ((Rn.mov (v := .clo g10 cp11) trivial rfl (Rn.mov (v := .d (.lst 1 (List.map (eI .i64) states35))) trivial rfl (md rfl ?_)))))))))
         obtain ⟨x43, h44, h⟩ := bnd h
         refine Rn.idxD (e := (eI .i64)) trivial rfl rfl h44 (Rn.loadC (x := .int .i64 x43) trivial rfl (md rfl ?_))
         obtain ⟨⟨r47, r48⟩, h45, h⟩ := bnd h
         refine Rn.callvM (args := [.d (.int .i64 x43), .d (.int .i64 x41)] ++ cp11) trivial rfl (by rw [hc12]; rfl) (fun M2 nb2 hn hx => hf13 _ _ _ h45 M2 nb2 (by omega) ((extMem hM).trans hx)) rfl pc9 ?_
         refine Rn.mov (v := .tup [.d (.int .i64 r47), .d (.bool r48)]) trivial rfl (Rn.ext (v := .d (.int .i64 r47)) (vs := [.d (.int .i64 r47), .d (.bool r48)]) trivial rfl rfl rfl (Rn.ext (v := .d (.bool r48)) (vs := [.d (.int .i64 r47), .d (.bool r48)]) trivial rfl rfl rfl (md rfl (md rfl (nt ((Tr.seq (sr ((md rfl (Rn.un trivial rfl rfl (Rn.nil (toN ?_)))))))))))))
         refine Tr.cond rfl (fun hb49 => ?_) (fun hb49 => ?_)
         ·have hb49 := nT' hb49
          replace h := bF hb49 h
          refine Tr.exit ?_
          replace h := si h; subst h
          show WeakSt Γ _ ⟨look _, memOf _ (bxs _) _, _⟩; exact weak_cut [] ⟨(.same rfl), ⟨(kFun hM ho7), ⟨(kFun hM ho14), ⟨(kPtr rfl), ⟨(kPtr rfl), ⟨(.same rfl), ⟨(kMp rfl), ⟨(.same rfl), ⟨(.same rfl), ⟨(.same rfl), ⟨(.same rfl), trivial⟩⟩⟩⟩⟩⟩⟩⟩⟩⟩⟩ ⟨⟨_, rfl, rfl, (.same rfl)⟩, ⟨⟨_, rfl, rfl, (.same rfl)⟩, ⟨⟨rfl, rfl⟩, trivial⟩⟩⟩ rfl
         ·have hb49 := nF' hb49
          replace h := bT hb49 h
          refine Tr.skip (toN (sr ((Rn.mov (v := .mp (Γ.n0 + 20)) trivial rfl (md rfl (Rn.lookupC (ek := (fun (x : Int) => (.d (.int .i64 x) : V))) (ev := (fun (x : Int) => (.d (.int .i64 x) : V))) (m := c38) (k := r47) (fun _ _ => rfl) (fun _ => rfl) (fun _ => rfl) 0 rfl trivial rfl rfl rfl (Rn.mov (v := .tup [.d (.int .i64 (getM c38 r47 0)), .d (.bool (hasM c38 r47))]) trivial rfl (Rn.ext (v := .d (.int .i64 (getM c38 r47 0))) (vs := [.d (.int .i64 (getM c38 r47 0)), .d (.bool (hasM c38 r47))]) trivial rfl rfl rfl (Rn.ext (v := .d (.bool (hasM c38 r47))) (vs := [.d (.int .i64 (getM c38 r47 0)), .d (.bool (hasM c38 r47))]) trivial rfl rfl rfl (md rfl (md rfl (Rn.nil (toN ?_)))))))))))))
          refine Tr.cutB (fun ((states53, k54, c55) : (List Int) × Int × (List (Int × Int))) => ⟨look [(0, .d (.lst 1 (List.map (eI .i64) events1))), (1, .clo g3 cp4), (2, .clo g10 cp11), (6, .ptr (Γ.n0 + 6) 0), (7, .ptr (Γ.n0 + 7) 0), (8, .own 1 (List.map (eI .i64) states53)), (9, .mp (Γ.n0 + 20)), (10, .d (.int .i64 i18)), (12, .d (.int .i64 x41)), (15, .d (.int .i64 k54)), (40, .d (.lst 1 (List.map (eI .i64) events1))), (41, .d (.int .i64 (events1.length : Int))), (42, .d (.int .i64 x36))], memOf Γ.n0 (bxs [(6, .cells ([.own 1 (List.map (eI .i64) c19), .d (.int .i64 0), .own 1 (List.map (eI .i64) c20), .own 3 (List.map e_api_Edge c21)])), (7, .cells ([.d (.lst 1 (List.map (eI .i64) events1)), .d (.int .i64 0), .own 1 (List.map (eI .i64) a34), .own 3 (List.map e_api_Edge a37)])), (20, .mp (mapE (fun (x : Int) => (.d (.int .i64 x) : V)) (fun (x : Int) => (.d (.int .i64 x) : V)) 0 c55) (c55).length)]) M, Γ.n0 + 89⟩) h (fun z h => ?_) (fun z h => ?_)
          ·refine sr ((md rfl (Rn.un trivial rfl rfl (Rn.nil (toN ?_)))))
           refine Tr.cond rfl (fun hb50 => ?_) (fun hb50 => ?_)
           ·have hb50 := nT' hb50
            replace h := bF hb50 h
            refine sr ((Rn.mov (v := .d (.lst 1 (List.map (eI .i64) states35))) trivial rfl (Rn.lenD trivial rfl (md rfl (nt ((Tr.rgn (Rn.mov (v := .mp (Γ.n0 + 20)) trivial rfl (md rfl (md rfl (Rn.movTO trivial rfl (md rfl (Rn.bslice (xs := [.d (.int .i64 r47)]) (cs := [.d (.int .i64 r47)]) trivial rfl rfl rfl rfl ?_)))))))))))))
            obtain ⟨x51, h52, h⟩ := bnd h
            refine Rn.app (e := (eI .i64)) trivial rfl rfl rfl (elems_box rfl rfl rfl) h52 rfl (Rn.mapset (ek := (fun (x : Int) => (.d (.int .i64 x) : V))) (ev := (fun (x : Int) => (.d (.int .i64 x) : V))) (m := c38) (k := r47) (v := (states35.length : Int)) (fun _ _ => rfl) (fun _ => rfl) (fun _ => rfl) trivial rfl rfl rfl rfl (Rn.movTO trivial rfl (Rn.nil ?_)))
            replace h := si h; subst h
            show WeakSt Γ _ ⟨look _, memOf _ (bxs _) _, _⟩; exact weak_cut [73] ⟨(.same rfl), ⟨(kFun hM ho7), ⟨(kFun hM ho14), ⟨(kPtr rfl), ⟨(kPtr rfl), ⟨(.same rfl), ⟨(kMp rfl), ⟨(.same rfl), ⟨(.same rfl), ⟨(.same rfl), ⟨(.same rfl), ⟨(.same rfl), ⟨(.same rfl), trivial⟩⟩⟩⟩⟩⟩⟩⟩⟩⟩⟩⟩⟩ ⟨⟨_, rfl, rfl, (.same rfl)⟩, ⟨⟨_, rfl, rfl, (.same rfl)⟩, ⟨⟨rfl, rfl⟩, trivial⟩⟩⟩ rfl
           ·have hb50 := nF' hb50
            replace h := bT hb50 h
            refine Tr.skip ?_
            replace h := si h; subst h
            show WeakSt Γ _ ⟨look _, memOf _ (bxs _) _, _⟩; exact weak_cut [] ⟨(.same rfl), ⟨(kFun hM ho7), ⟨(kFun hM ho14), ⟨(kPtr rfl), ⟨(kPtr rfl), ⟨(.same rfl), ⟨(kMp rfl), ⟨(.same rfl), ⟨(.same rfl), ⟨(.same rfl), ⟨(.same rfl), ⟨(.same rfl), ⟨(.same rfl), trivial⟩⟩⟩⟩⟩⟩⟩⟩⟩⟩⟩⟩⟩ ⟨⟨_, rfl, rfl, (.same rfl)⟩, ⟨⟨_, rfl, rfl, (.same rfl)⟩, ⟨⟨rfl, rfl⟩, trivial⟩⟩⟩ rfl
          ·obtain ⟨states53, k54, c55⟩ := z
           refine Tr.rgn (Rn.fldP (o' := 3) trivial rfl rfl (Rn.loadT (cs' := [.d (.lst 1 (List.map (eI .i64) events1)), .d (.int .i64 0), .own 1 (List.map (eI .i64) a34), .d (.lst 3 (List.map e_api_Edge a37))]) trivial rfl rfl rfl rfl (md rfl (md rfl (md rfl (Rn.build (v := .agg [.d (.int .i64 i18), .d (.int .i64 x41), .d (.int .i64 k54)]) trivial rfl (Rn.bslice (xs := [.agg [.d (.int .i64 i18), .d (.int .i64 x41), .d (.int .i64 k54)]]) (cs := [.d (.int .i64 i18), .d (.int .i64 x41), .d (.int .i64 k54)]) trivial rfl rfl rfl rfl ?_)))))))
           obtain ⟨x56, h57, h⟩ := bnd h
           refine Rn.app (e := e_api_Edge) trivial rfl rfl rfl (elems_box rfl rfl rfl) h57 rfl (Rn.fldP (o' := 3) trivial rfl rfl (Rn.storeO (cs' := [.d (.lst 1 (List.map (eI .i64) events1)), .d (.int .i64 0), .own 1 (List.map (eI .i64) a34), .own 3 (List.map e_api_Edge x56)]) trivial rfl rfl rfl rfl rfl (Rn.nil ?_)))
           replace h := si h; subst h
           show WeakSt Γ _ ⟨look _, memOf _ (bxs _) _, _⟩; exact weak_cut [81] ⟨(.same rfl), ⟨(kFun hM ho7), ⟨(kFun hM ho14), ⟨(kPtr rfl), ⟨(kPtr rfl), ⟨(.same rfl), ⟨(kMp rfl), ⟨(.same rfl), ⟨(.same rfl), ⟨(.same rfl), ⟨(.same rfl), trivial⟩⟩⟩⟩⟩⟩⟩⟩⟩⟩⟩ ⟨⟨_, rfl, rfl, (.same rfl)⟩, ⟨⟨_, rfl, rfl, (.same rfl)⟩, ⟨⟨rfl, rfl⟩, trivial⟩⟩⟩ rfl
        ·obtain ⟨states58, a59, c60⟩ := z
         refine Tr.rgn (Rn.bin trivial rfl rfl rfl (md rfl (Rn.nil ?_)))
         exact ⟨_, h, (by show WeakSt Γ (clean _ _ _) ⟨look _, memOf _ (bxs _) _, _⟩; exact weak_clean ⟨(.same rfl), ⟨(kFun hM ho7), ⟨(kFun hM ho14), ⟨(kPtr rfl), ⟨(kPtr rfl), ⟨(.same rfl), ⟨(kMp rfl), ⟨(.same rfl), ⟨(.same rfl), ⟨(.same rfl), ⟨(.same rfl), trivial⟩⟩⟩⟩⟩⟩⟩⟩⟩⟩⟩ ⟨⟨_, rfl, rfl, (.same rfl)⟩, ⟨⟨_, rfl, rfl, (.same rfl)⟩, ⟨⟨rfl, rfl⟩, trivial⟩⟩⟩ rfl)⟩
       ·replace h := ifF hb40 h
        refine Tr.exit ?_
        replace h := si h; subst h
        show WeakSt Γ _ ⟨look _, memOf _ (bxs _) _, _⟩; exact weak_cut [] ⟨(.same rfl), ⟨(kFun hM ho7), ⟨(kFun hM ho14), ⟨(kPtr rfl), ⟨(kPtr rfl), ⟨(.same rfl), ⟨(kMp rfl), ⟨(.same rfl), trivial⟩⟩⟩⟩⟩⟩⟩⟩ ⟨⟨_, rfl, rfl, (.same rfl)⟩, ⟨⟨_, rfl, rfl, (.same rfl)⟩, ⟨⟨rfl, rfl⟩, trivial⟩⟩⟩ rfl
    ·obtain ⟨states61, a62, a63, c64⟩ := z
     refine Tr.rgn (md rfl (Rn.bin trivial rfl rfl rfl (md rfl (Rn.nil ?_))))
     exact ⟨_, h, (by show WeakSt Γ (clean _ _ _) ⟨look _, memOf _ (bxs _) _, _⟩; exact weak_clean ⟨(.same rfl), ⟨(kFun hM ho7), ⟨(kFun hM ho14), ⟨(kPtr rfl), ⟨(kPtr rfl), ⟨(.same rfl), ⟨(kMp rfl), ⟨(.same rfl), trivial⟩⟩⟩⟩⟩⟩⟩⟩ ⟨⟨_, rfl, rfl, (.same rfl)⟩, ⟨⟨_, rfl, rfl, (.same rfl)⟩, ⟨⟨rfl, rfl⟩, trivial⟩⟩⟩ rfl)⟩
   ·replace h := ifF hb26 h
    refine Tr.exit ?_
    replace h := si h; subst h
    show WeakSt Γ _ ⟨look _, memOf _ (bxs _) _, _⟩; exact weak_cut [] ⟨(kPtr rfl), ⟨(kPtr rfl), ⟨(.same rfl), trivial⟩⟩⟩ ⟨⟨_, rfl, rfl, (.same rfl)⟩, ⟨⟨_, rfl, rfl, (.same rfl)⟩, ⟨⟨rfl, rfl⟩, trivial⟩⟩⟩ rfl
 ·obtain ⟨states65, c66, c67, c68, a69, a70, c71⟩ := z
  refine sr ((Rn.mov (v := .d (.lst 1 (List.map (eI .i64) states65))) trivial rfl (Rn.lenD trivial rfl (Rn.fldP (o' := 1) trivial rfl rfl (Rn.store (v := .d (.int .i64 (states65.length : Int))) (cs' := [.d (.lst 1 (List.map (eI .i64) events1)), .d (.int .i64 (states65.length : Int)), .own 1 (List.map (eI .i64) a69), .own 3 (List.map e_api_Edge a70)]) trivial rfl rfl rfl rfl rfl rfl (nt ((sr ((Rn.load (v := .agg [.d (.lst 1 (List.map (eI .i64) events1)), .d (.int .i64 (states65.length : Int)), .d (.lst 1 (List.map (eI .i64) a69)), .d (.lst 3 (List.map e_api_Edge a70))]) trivial rfl (boxOwn rfl) rfl rfl (Rn.store (v := .agg [.d (.lst 1 (List.map (eI .i64) events1)), .d (.int .i64 (states65.length : Int)), .d (.lst 1 (List.map (eI .i64) a69)), .d (.lst 3 (List.map e_api_Edge a70))]) (cs' := [.d (.lst 1 (List.map (eI .i64) events1)), .d (.int .i64 (states65.length : Int)), .d (.lst 1 (List.map (eI .i64) a69)), .d (.lst 3 (List.map e_api_Edge a70))]) trivial rfl rfl rfl rfl rfl rfl (nt ((Tr.ret ?_))))))))))))))
  replace h := si h; subst h
  exact ⟨.inr rfl, (.agg [.d (.lst 1 (List.map (eI .i64) events1)), .d (.int .i64 (states65.length : Int)), .d (.lst 1 (List.map (eI .i64) a69)), .d (.lst 3 (List.map e_api_Edge a70))]), resCell rfl rfl rfl rfl, fun _ _ _ _ h => h, ⟨trivial, trivial, trivial, trivial, trivial⟩, fun k hk => memOf_base hk⟩
theorem requirement_first_walk {P : Program} {c : Nat} (hcf : compFn P c = some F_requirement_first) : K_requirement_first P c (f_requirement_first) := by
 intro state1 r h
 refine fn_trP hcf rfl fun Γ M hP hnt hM => ?_
 subst hP
 refine Tr.init [(0, .d (.int .i64 state1))] rfl ?_
 unfold f_requirement_first at h
 unfold F_requirement_first
 refine sr ((md rfl (nt ((sr ((md rfl (Rn.bin trivial rfl rfl rfl (md rfl (nt ((Tr.ret ?_))))))))))))
 replace h := si h; subst h
 exact ⟨.inr rfl, (.d (.bool (state1 == 0))), rfl, fun _ _ _ _ h => h, trivial, fun k hk => memOf_base hk⟩
theorem requirement_Alternate_walk {P : Program} {c : Nat} {f_requirement_distinct : (List Int) → Option Int} {f_requirement_explore : (List Int) → (Int → Option Bool) → (Int → Int → Option (Int × Bool)) → Option api_Automaton} {f_requirement_sorted : (List Int) → Option ((List Int))} {f_requirement_first : Int → Option Bool} {f_requirement_Alternate_1 : Int → Int → (List Int) → Option (Int × Bool)}
    (H_requirement_distinct : K_requirement_distinct P 47 f_requirement_distinct)
    (H_requirement_explore : K_requirement_explore P 48 f_requirement_explore)
    (H_requirement_sorted : K_requirement_sorted P 49 f_requirement_sorted)
    (H_requirement_first : K_requirement_first P 60 f_requirement_first)
    (H_requirement_Alternate_1 : K_requirement_Alternate_1 P 67 f_requirement_Alternate_1) (hcf : compFn P c = some F_requirement_Alternate) : K_requirement_Alternate P c (f_requirement_Alternate f_requirement_distinct f_requirement_explore f_requirement_sorted f_requirement_first f_requirement_Alternate_1) := by
 intro events1 r h
 refine fn_trP hcf rfl fun Γ M hP hnt hM => ?_
 subst hP
 refine Tr.init [(0, .d (.lst 1 (List.map (eI .i64) events1)))] rfl ?_
 unfold f_requirement_Alternate at h
 unfold F_requirement_Alternate
 refine sr ((Rn.box (v := .d (.lst 1 (List.map (eI .i64) events1))) (cs := [.d (.lst 1 (List.map (eI .i64) events1))]) trivial rfl rfl rfl rfl rfl (Rn.alloc trivial rfl (md rfl (nt ((Tr.seq (sr ((Rn.load (v := .d (.lst 1 (List.map (eI .i64) events1))) trivial rfl (boxOwn rfl) rfl rfl (Rn.lenD trivial rfl (Rn.bin trivial rfl rfl rfl (Rn.nil (toN ?_))))))))))))))
 refine Tr.cond rfl (fun hb2 => ?_) (fun hb2 => ?_)
 ·replace h := bT hb2 h
  refine sr ((Rn.build (v := .agg [.nils 1, .d (.int .i64 0), .nils 1, .nils 3]) trivial rfl (Rn.store (v := .agg [.nils 1, .d (.int .i64 0), .nils 1, .nils 3]) (cs' := [.nils 1, .d (.int .i64 0), .nils 1, .nils 3]) trivial rfl rfl rfl rfl rfl rfl (md rfl (nt ((Tr.ret ?_)))))))
  replace h := si h; subst h
  exact ⟨.inr rfl, .tup [.agg [.nils 1, .d (.int .i64 0), .nils 1, .nils 3], .d (.int .i64 12)], res2 (resCell rfl rfl rfl rfl) rfl, (WkV.tup (.cons (WkV.agg (.cons (WkV.nilsD _) (.cons (.same rfl) (.cons (WkV.nilsD _) (.cons (WkV.nilsD _) .nil))))) (.cons (.same rfl) .nil))).rd, ⟨⟨trivial, trivial, trivial, trivial, trivial⟩, trivial, trivial⟩, fun k hk => memOf_base hk⟩
 ·replace h := bF hb2 h
  refine Tr.skip (toN (Tr.seq (sr ((Rn.load (v := .d (.lst 1 (List.map (eI .i64) events1))) trivial rfl (boxOwn rfl) rfl rfl ?_)))))
  obtain ⟨x4, h3, h⟩ := bnd h
  refine Rn.call (args := [.d (.lst 1 (List.map (eI .i64) events1))]) trivial rfl (H_requirement_distinct _ _ h3) pc9 (md rfl (nt ((sr ((md rfl (Rn.bin trivial rfl rfl rfl (Rn.nil (toN ?_)))))))))
  refine Tr.cond rfl (fun hb5 => ?_) (fun hb5 => ?_)
  ·replace h := bT hb5 h
   refine sr ((Rn.build (v := .agg [.nils 1, .d (.int .i64 0), .nils 1, .nils 3]) trivial rfl (md rfl (Rn.store (v := .agg [.nils 1, .d (.int .i64 0), .nils 1, .nils 3]) (cs' := [.nils 1, .d (.int .i64 0), .nils 1, .nils 3]) trivial rfl rfl rfl rfl rfl rfl (md rfl (nt ((Tr.ret ?_))))))))
   replace h := si h; subst h
   exact ⟨.inr rfl, .tup [.agg [.nils 1, .d (.int .i64 0), .nils 1, .nils 3], .d (.int .i64 x4)], res2 (resCell rfl rfl rfl rfl) rfl, (WkV.tup (.cons (WkV.agg (.cons (WkV.nilsD _) (.cons (.same rfl) (.cons (WkV.nilsD _) (.cons (WkV.nilsD _) .nil))))) (.cons (.same rfl) .nil))).rd, ⟨⟨trivial, trivial, trivial, trivial, trivial⟩, trivial, trivial⟩, fun k hk => memOf_base hk⟩
  ·replace h := bF hb5 h
   refine Tr.skip (toN (sr ((Rn.load (v := .d (.lst 1 (List.map (eI .i64) events1))) trivial rfl (boxOwn rfl) rfl rfl ?_))))
   obtain ⟨x7, h6, h⟩ := bnd h
   refine Rn.call (args := [.d (.lst 1 (List.map (eI .i64) events1))]) trivial rfl (H_requirement_sorted _ _ h6) pc9 (Rn.k (v := .clo 67 [.ptr (Γ.n0 + 1) 0]) trivial rfl rfl rfl ?_)
   obtain ⟨x16, h15, h⟩ := bnd h
   refine Rn.callM (args := [.d (.lst 1 (List.map (eI .i64) x7)), .clo 60 [], .clo 67 [.ptr (Γ.n0 + 1) 0]]) trivial rfl (fun M2 nb2 hn hx => H_requirement_explore _ _ _ 60 [] 67 [.ptr (Γ.n0 + 1) 0] _ h15 M2 nb2 rfl trivial (fun a8 r9 h10 M3 nb3 hn3 hx3 => H_requirement_first a8 r9 h10 M3 nb3 ) rfl ⟨thereOf (hx _ _ (boxOwn rfl)), trivial⟩ (fun a11 a12 r13 h14 M3 nb3 hn3 hx3 => H_requirement_Alternate_1 a11 a12 events1 (Γ.n0 + 1) r13 h14 M3 nb3 ((hx.trans hx3) _ _ (boxOwn rfl)))) rfl pc9 ?_
   refine Rn.store (v := .agg [.d (.lst 1 (List.map (eI .i64) x16.Alphabet)), .d (.int .i64 x16.States), .d (.lst 1 (List.map (eI .i64) x16.Marked)), .d (.lst 3 (List.map e_api_Edge x16.Edges))]) (cs' := [.d (.lst 1 (List.map (eI .i64) x16.Alphabet)), .d (.int .i64 x16.States), .d (.lst 1 (List.map (eI .i64) x16.Marked)), .d (.lst 3 (List.map e_api_Edge x16.Edges))]) trivial rfl rfl rfl rfl rfl rfl (md rfl (nt ((Tr.ret ?_))))
   replace h := si h; subst h
   exact ⟨.inr rfl, .tup [.agg [.d (.lst 1 (List.map (eI .i64) x16.Alphabet)), .d (.int .i64 x16.States), .d (.lst 1 (List.map (eI .i64) x16.Marked)), .d (.lst 3 (List.map e_api_Edge x16.Edges))], .d (.int .i64 0)], res2 (resCell rfl rfl rfl rfl) rfl, (WkV.tup (.cons (.same rfl) (.cons (.same rfl) .nil))).rd, ⟨⟨trivial, trivial, trivial, trivial, trivial⟩, trivial, trivial⟩, fun k hk => memOf_base hk⟩
theorem alphabet_CheckSet_walk {P : Program} {c : Nat} (hcf : compFn P c = some F_alphabet_CheckSet) (fuel : Nat) : K_alphabet_CheckSet P c (f_alphabet_CheckSet fuel) := by
 intro xset1 n2 r h
 refine fn_trP hcf rfl fun Γ M hP hnt hM => ?_
 subst hP
 refine Tr.init [(0, .d (.lst 1 (List.map (eI .i64) xset1))), (1, .d (.int .i64 n2))] rfl ?_
 unfold f_alphabet_CheckSet at h
 unfold F_alphabet_CheckSet
 refine sr ((md rfl (nt ((Tr.seq (sr ((md rfl (Rn.lenD trivial rfl (md rfl (nt ((Tr.block ?_)))))))))))))
 refine Tr.loop (mk := fun (x3 : Int) => ⟨look [(0, .d (.lst 1 (List.map (eI .i64) xset1))), (1, .d (.int .i64 n2)), (7, .d (.lst 1 (List.map (eI .i64) xset1))), (8, .d (.int .i64 (xset1.length : Int))), (9, .d (.int .i64 x3))], memOf Γ.n0 (bxs []) M, Γ.n0 + 33⟩) h (by show WeakSt Γ (clean _ _ _) ⟨look _, memOf _ (bxs _) _, _⟩; exact weak_clean ⟨(.same rfl), ⟨(.same rfl), ⟨(.same rfl), ⟨(.same rfl), ⟨(.same rfl), trivial⟩⟩⟩⟩⟩ trivial rfl) (fun k4 z h => ?_)
 ·obtain ⟨x3, rfl⟩ : ∃ x, x = z := ⟨_, rfl⟩
  replace h : _ = some _ := h
  refine sr ((Rn.bin trivial rfl rfl rfl (nt ((Tr.seq ?_)))))
  refine Tr.cond rfl (fun hb5 => ?_) (fun hb5 => ?_)
  ·replace h := ifT hb5 h
   refine Tr.skip (toN (Tr.seq (Tr.block (sr ((md rfl ?_))))))
   obtain ⟨x6, h7, h⟩ := bnd h
   refine Rn.idxD (e := (eI .i64)) trivial rfl rfl h7 (Rn.loadC (x := .int .i64 x6) trivial rfl (md rfl (md rfl (nt ((Tr.seq ?_))))))
   refine Tr.cutB (fun (x9 : Bool) => ⟨look [(0, .d (.lst 1 (List.map (eI .i64) xset1))), (1, .d (.int .i64 n2)), (5, .d (.int .i64 x3)), (6, .d (.int .i64 x6)), (7, .d (.lst 1 (List.map (eI .i64) xset1))), (8, .d (.int .i64 (xset1.length : Int))), (9, .d (.int .i64 x3)), (20, .d (.bool x9))], memOf Γ.n0 (bxs []) M, Γ.n0 + 33⟩) h (fun z h => ?_) (fun z h => ?_)
   ·refine Tr.rgn (md rfl (Rn.bin trivial rfl rfl rfl (md rfl ?_)))
    refine bsplit (decide (x6 < 0)) (fun hb8 => ?_) (fun hb8 => ?_)
    ·replace h := ifT hb8 h
     refine Rn.sk (nw rfl hb8) (Rn.sk (nw rfl hb8) (Rn.sk (nw rfl hb8) (Rn.pickT (v := .d (.bool true)) trivial rfl hb8 rfl (Rn.nil ?_))))
     replace h := si h; subst h
     show WeakSt Γ _ ⟨look _, memOf _ (bxs _) _, _⟩; exact weak_cut [] ⟨(.same rfl), ⟨(.same rfl), ⟨(.same rfl), ⟨(.same rfl), ⟨(.same rfl), ⟨(.same rfl), ⟨(.same rfl), ⟨(.same rfl), trivial⟩⟩⟩⟩⟩⟩⟩⟩ trivial rfl
    ·replace h := ifF hb8 h
     refine Rn.movD (gw rfl hb8) rfl (Rn.movD (gw rfl hb8) rfl (Rn.bin (gw rfl hb8) rfl rfl rfl (Rn.pickF (v := .d (.bool (decide (x6 ≥ n2)))) trivial rfl hb8 rfl (Rn.nil ?_))))
     replace h := si h; subst h
     show WeakSt Γ _ ⟨look _, memOf _ (bxs _) _, _⟩; exact weak_cut [] ⟨(.same rfl), ⟨(.same rfl), ⟨(.same rfl), ⟨(.same rfl), ⟨(.same rfl), ⟨(.same rfl), ⟨(.same rfl), ⟨(.same rfl), trivial⟩⟩⟩⟩⟩⟩⟩⟩ trivial rfl
   ·obtain ⟨x9, rfl⟩ : ∃ x, x = z := ⟨_, rfl⟩
    refine Tr.cond rfl (fun hb10 => ?_) (fun hb10 => ?_)
    ·replace h := bT hb10 h
     refine sr ((md rfl (nt ((Tr.ret ?_)))))
     replace h := si h; subst h
     exact ⟨.inr rfl, (.d (.int .i64 2)), rfl, fun _ _ _ _ h => h, trivial, fun k hk => memOf_base hk⟩
    ·replace h := bF hb10 h
     refine Tr.skip (toN ?_)
     refine Tr.cutB (fun (x14 : Bool) => ⟨look [(0, .d (.lst 1 (List.map (eI .i64) xset1))), (1, .d (.int .i64 n2)), (7, .d (.lst 1 (List.map (eI .i64) xset1))), (8, .d (.int .i64 (xset1.length : Int))), (9, .d (.int .i64 x3)), (31, .d (.bool x14))], memOf Γ.n0 (bxs []) M, Γ.n0 + 33⟩) h (fun z h => ?_) (fun z h => ?_)
     ·refine Tr.rgn (md rfl (Rn.bin trivial rfl rfl rfl (md rfl ?_)))
      refine bsplit (decide (x3 > 0)) (fun hb11 => ?_) (fun hb11 => ?_)
      ·replace h := ifT hb11 h
       refine Rn.movD (gw rfl hb11) rfl (Rn.movD (gw rfl hb11) rfl (Rn.movD (gw rfl hb11) rfl (Rn.bin (gw rfl hb11) rfl rfl rfl ?_)))
       obtain ⟨x12, h13, h⟩ := bnd h
       refine Rn.idxD (e := (eI .i64)) (gw rfl hb11) rfl rfl h13 (Rn.loadC (x := .int .i64 x12) (gw rfl hb11) rfl (Rn.bin (gw rfl hb11) rfl rfl rfl (Rn.pickT (v := .d (.bool (decide (x6 ≤ x12)))) trivial rfl hb11 rfl (Rn.nil ?_))))
       replace h := si h; subst h
       show WeakSt Γ _ ⟨look _, memOf _ (bxs _) _, _⟩; exact weak_cut [] ⟨(.same rfl), ⟨(.same rfl), ⟨(.same rfl), ⟨(.same rfl), ⟨(.same rfl), ⟨(.same rfl), trivial⟩⟩⟩⟩⟩⟩ trivial rfl
      ·replace h := ifF hb11 h
       refine Rn.sk (nw rfl hb11) (Rn.sk (nw rfl hb11) (Rn.sk (nw rfl hb11) (Rn.sk (nw rfl hb11) (Rn.sk (nw rfl hb11) (Rn.sk (nw rfl hb11) (Rn.sk (nw rfl hb11) (Rn.pickF (v := .d (.bool false)) trivial rfl hb11 rfl (Rn.nil ?_))))))))
       replace h := si h; subst h
       show WeakSt Γ _ ⟨look _, memOf _ (bxs _) _, _⟩; exact weak_cut [] ⟨(.same rfl), ⟨(.same rfl), ⟨(.same rfl), ⟨(.same rfl), ⟨(.same rfl), ⟨(.same rfl), trivial⟩⟩⟩⟩⟩⟩ trivial rfl
     ·obtain ⟨x14, rfl⟩ : ∃ x, x = z := ⟨_, rfl⟩
      refine Tr.cond rfl (fun hb15 => ?_) (fun hb15 => ?_)
      ·replace h := bT hb15 h
       refine sr ((md rfl (nt ((Tr.ret ?_)))))
       replace h := si h; subst h
       exact ⟨.inr rfl, (.d (.int .i64 5)), rfl, fun _ _ _ _ h => h, trivial, fun k hk => memOf_base hk⟩
      ·replace h := bF hb15 h
       refine Tr.skip (toN (Tr.rgn (Rn.bin trivial rfl rfl rfl (md rfl (Rn.nil ?_)))))
       exact ⟨_, h, (by show WeakSt Γ (clean _ _ _) ⟨look _, memOf _ (bxs _) _, _⟩; exact weak_clean ⟨(.same rfl), ⟨(.same rfl), ⟨(.same rfl), ⟨(.same rfl), ⟨(.same rfl), trivial⟩⟩⟩⟩⟩ trivial rfl)⟩
  ·replace h := ifF hb5 h
   refine Tr.exit (toN (sr ((md rfl (nt ((Tr.ret ?_)))))))
   replace h := si h; subst h
   exact ⟨.inr rfl, (.d (.int .i64 0)), rfl, fun _ _ _ _ h => h, trivial, fun k hk => memOf_base hk⟩
theorem alphabet_merge_walk {P : Program} {c : Nat} (hcf : compFn P c = some F_alphabet_merge) (fuel : Nat) : K_alphabet_merge P c (f_alphabet_merge fuel) := by
 intro a1 b2 keep3 g4 cp5 r h
 intro M nb hc6 ho8 hf7
 refine fn_trM hcf rfl M nb fun Γ hP hnt hn0 hM => ?_
 subst hP hn0
 refine Tr.init [(0, .d (.lst 1 (List.map (eI .i64) a1))), (1, .d (.lst 1 (List.map (eI .i64) b2))), (2, .clo g4 cp5)] rfl ?_
 unfold f_alphabet_merge at h
 unfold F_alphabet_merge
 refine sr ((Rn.movTC (v := .nils 1) trivial (nt ((sr ((Rn.movTC (v := .nils 1) trivial (Rn.nil (toN ?_)))))))))
 refine Tr.cutB (fun (out51 : List Int) => ⟨look [(7, .own 1 (List.map (eI .i64) out51))], memOf Γ.n0 (bxs []) M, Γ.n0 + 74⟩) h (fun z h => ?_) (fun z h => ?_)
 ·refine Tr.block ?_
  refine Tr.loop (mk := fun ((a11, b12, out13) : (List Int) × (List Int) × (List Int)) => ⟨look [(0, .d (.lst 1 (List.map (eI .i64) a11))), (1, .d (.lst 1 (List.map (eI .i64) b12))), (2, .clo g4 cp5), (7, .own 1 (List.map (eI .i64) out13))], memOf Γ.n0 (bxs []) M, Γ.n0 + 74⟩) h (by show WeakSt Γ (clean _ _ _) ⟨look _, memOf _ (bxs _) _, _⟩; exact weak_clean ⟨(.same rfl), ⟨(.same rfl), ⟨(kFun hM ho8), ⟨(WkV.nilsO _), trivial⟩⟩⟩⟩ trivial rfl) (fun k14 z h => ?_)
  ·obtain ⟨a11, b12, out13⟩ := z
   replace h : _ = some _ := h
   refine Tr.seq ?_
   refine Tr.cutB (fun (x16 : Bool) => ⟨look [(0, .d (.lst 1 (List.map (eI .i64) a11))), (1, .d (.lst 1 (List.map (eI .i64) b12))), (2, .clo g4 cp5), (7, .own 1 (List.map (eI .i64) out13)), (18, .d (.bool x16))], memOf Γ.n0 (bxs []) M, Γ.n0 + 74⟩) h (fun z h => ?_) (fun z h => ?_)
   ·refine Tr.rgn (md rfl (Rn.lenD trivial rfl (Rn.bin trivial rfl rfl rfl (md rfl ?_))))
    refine bsplit (decide ((a11.length : Int) > 0)) (fun hb15 => ?_) (fun hb15 => ?_)
    ·replace h := ifT hb15 h
     refine Rn.sk (nw rfl hb15) (Rn.sk (nw rfl hb15) (Rn.sk (nw rfl hb15) (Rn.pickT (v := .d (.bool true)) trivial rfl hb15 rfl (Rn.nil ?_))))
     replace h := si h; subst h
     show WeakSt Γ _ ⟨look _, memOf _ (bxs _) _, _⟩; exact weak_cut [] ⟨(.same rfl), ⟨(.same rfl), ⟨(kFun hM ho8), ⟨(.same rfl), ⟨(.same rfl), trivial⟩⟩⟩⟩⟩ trivial rfl
    ·replace h := ifF hb15 h
     refine Rn.movD (gw rfl hb15) rfl (Rn.lenD (gw rfl hb15) rfl (Rn.bin (gw rfl hb15) rfl rfl rfl (Rn.pickF (v := .d (.bool (decide ((b12.length : Int) > 0)))) trivial rfl hb15 rfl (Rn.nil ?_))))
     replace h := si h; subst h
     show WeakSt Γ _ ⟨look _, memOf _ (bxs _) _, _⟩; exact weak_cut [] ⟨(.same rfl), ⟨(.same rfl), ⟨(kFun hM ho8), ⟨(.same rfl), ⟨(.same rfl), trivial⟩⟩⟩⟩⟩ trivial rfl
   ·obtain ⟨x16, rfl⟩ : ∃ x, x = z := ⟨_, rfl⟩
    refine Tr.cond rfl (fun hb17 => ?_) (fun hb17 => ?_)
    ·replace h := bT hb17 h
     refine Tr.skip (toN (Tr.block ?_))
     refine Tr.cutB (fun (inA24 : Bool) => ⟨look [(0, .d (.lst 1 (List.map (eI .i64) a11))), (1, .d (.lst 1 (List.map (eI .i64) b12))), (2, .clo g4 cp5), (7, .own 1 (List.map (eI .i64) out13)), (8, .d (.bool inA24))], memOf Γ.n0 (bxs []) M, Γ.n0 + 74⟩) h (fun z h => ?_) (fun z h => ?_)
     ·refine Tr.rgnD (by decide) ?_
      refine md rfl (Rn.lenD trivial rfl (Rn.bin trivial rfl rfl rfl (md rfl ?_)))
      refine bsplit (decide ((a11.length : Int) > 0)) (fun hb18 => ?_) (fun hb18 => ?_)
      ·replace h := ifT hb18 h
       refine Rn.movD (gw rfl hb18) rfl (Rn.lenD (gw rfl hb18) rfl (Rn.bin (gw rfl hb18) rfl rfl rfl (Rn.movD (gw rfl hb18) rfl ?_)))
       refine bsplit ((b12.length : Int) == 0) (fun hb19 => ?_) (fun hb19 => ?_)
       ·replace h := bT hb19 h
        refine Rn.sk (nw rfl hb19) (Rn.sk (nw rfl hb19) (Rn.sk (nw rfl hb19) (Rn.sk (nw rfl hb19) (Rn.sk (nw rfl hb19) (Rn.sk (nw rfl hb19) (Rn.sk (nw rfl hb19) (Rn.pickT (v := .d (.bool true)) (gw rfl hb18) rfl hb19 rfl (Rn.pickT (v := .d (.bool true)) trivial rfl hb18 rfl (md rfl ?_)))))))))
        refine Rn.nil ⟨rfl, ?_⟩
        replace h := si h; subst h
        show WeakSt Γ _ ⟨look _, memOf _ (bxs _) _, _⟩; exact weak_cut [] ⟨(.same rfl), ⟨(.same rfl), ⟨(kFun hM ho8), ⟨(.same rfl), ⟨(.same rfl), trivial⟩⟩⟩⟩⟩ trivial rfl
       ·replace h := bF hb19 h
        refine Rn.movD (gw rfl hb19) rfl ?_
        obtain ⟨x20, h21, h⟩ := bnd h
        refine Rn.idxD (e := (eI .i64)) (gw rfl hb19) rfl rfl h21 (Rn.loadC (x := .int .i64 x20) (gw rfl hb19) rfl (Rn.movD (gw rfl hb19) rfl ?_))
        obtain ⟨x22, h23, h⟩ := bnd h
        refine Rn.idxD (e := (eI .i64)) (gw rfl hb19) rfl rfl h23 (Rn.loadC (x := .int .i64 x22) (gw rfl hb19) rfl (Rn.bin (gw rfl hb19) rfl rfl rfl (Rn.pickF (v := .d (.bool (decide (x20 ≤ x22)))) (gw rfl hb18) rfl hb19 rfl (Rn.pickT (v := .d (.bool (decide (x20 ≤ x22)))) trivial rfl hb18 rfl (md rfl ?_)))))
        refine Rn.nil ⟨rfl, ?_⟩
        replace h := si h; subst h
        show WeakSt Γ _ ⟨look _, memOf _ (bxs _) _, _⟩; exact weak_cut [] ⟨(.same rfl), ⟨(.same rfl), ⟨(kFun hM ho8), ⟨(.same rfl), ⟨(.same rfl), trivial⟩⟩⟩⟩⟩ trivial rfl
      ·replace h := ifF hb18 h
       refine Rn.sk (nw rfl hb18) (Rn.sk (nw rfl hb18) (Rn.sk (nw rfl hb18) (Rn.sk (nw rfl hb18) (Rn.sk (nu rfl) (Rn.sk (nu rfl) (Rn.sk (nu rfl) (Rn.sk (nu rfl) (Rn.sk (nu rfl) (Rn.sk (nu rfl) (Rn.sk (nu rfl) (Rn.sk (nw rfl hb18) (Rn.pickF (v := .d (.bool false)) trivial rfl hb18 rfl (md rfl ?_)))))))))))))
       refine Rn.nil ⟨rfl, ?_⟩
       replace h := si h; subst h
       show WeakSt Γ _ ⟨look _, memOf _ (bxs _) _, _⟩; exact weak_cut [] ⟨(.same rfl), ⟨(.same rfl), ⟨(kFun hM ho8), ⟨(.same rfl), ⟨(.same rfl), trivial⟩⟩⟩⟩⟩ trivial rfl
     ·obtain ⟨inA24, rfl⟩ : ∃ x, x = z := ⟨_, rfl⟩
      refine Tr.cutB (fun (inB31 : Bool) => ⟨look [(0, .d (.lst 1 (List.map (eI .i64) a11))), (1, .d (.lst 1 (List.map (eI .i64) b12))), (2, .clo g4 cp5), (7, .own 1 (List.map (eI .i64) out13)), (8, .d (.bool inA24)), (9, .d (.bool inB31))], memOf Γ.n0 (bxs []) M, Γ.n0 + 74⟩) h (fun z h => ?_) (fun z h => ?_)
      ·refine Tr.rgnD (by decide) ?_
       refine md rfl (Rn.lenD trivial rfl (Rn.bin trivial rfl rfl rfl (md rfl ?_)))
       refine bsplit (decide ((b12.length : Int) > 0)) (fun hb25 => ?_) (fun hb25 => ?_)
       ·replace h := ifT hb25 h
        refine Rn.movD (gw rfl hb25) rfl (Rn.lenD (gw rfl hb25) rfl (Rn.bin (gw rfl hb25) rfl rfl rfl (Rn.movD (gw rfl hb25) rfl ?_)))
        refine bsplit ((a11.length : Int) == 0) (fun hb26 => ?_) (fun hb26 => ?_)
        ·replace h := bT hb26 h
         refine Rn.sk (nw rfl hb26) (Rn.sk (nw rfl hb26) (Rn.sk (nw rfl hb26) (Rn.sk (nw rfl hb26) (Rn.sk (nw rfl hb26) (Rn.sk (nw rfl hb26) (Rn.sk (nw rfl hb26) (Rn.pickT (v := .d (.bool true)) (gw rfl hb25) rfl hb26 rfl (Rn.pickT (v := .d (.bool true)) trivial rfl hb25 rfl (md rfl ?_)))))))))
         refine Rn.nil ⟨rfl, ?_⟩
         replace h := si h; subst h
         show WeakSt Γ _ ⟨look _, memOf _ (bxs _) _, _⟩; exact weak_cut [] ⟨(.same rfl), ⟨(.same rfl), ⟨(kFun hM ho8), ⟨(.same rfl), ⟨(.same rfl), ⟨(.same rfl), trivial⟩⟩⟩⟩⟩⟩ trivial rfl
        ·replace h := bF hb26 h
         refine Rn.movD (gw rfl hb26) rfl ?_
         obtain ⟨x27, h28, h⟩ := bnd h
         refine Rn.idxD (e := (eI .i64)) (gw rfl hb26) rfl rfl h28 (Rn.loadC (x := .int .i64 x27) (gw rfl hb26) rfl (Rn.movD (gw rfl hb26) rfl ?_))
         obtain ⟨x29, h30, h⟩ := bnd h
         refine Rn.idxD (e := (eI .i64)) (gw rfl hb26) rfl rfl h30 (Rn.loadC (x := .int .i64 x29) (gw rfl hb26) rfl (Rn.bin (gw rfl hb26) rfl rfl rfl (Rn.pickF (v := .d (.bool (decide (x27 ≤ x29)))) (gw rfl hb25) rfl hb26 rfl (Rn.pickT (v := .d (.bool (decide (x27 ≤ x29)))) trivial rfl hb25 rfl (md rfl ?_)))))
         refine Rn.nil ⟨rfl, ?_⟩
         replace h := si h; subst h
         show WeakSt Γ _ ⟨look _, memOf _ (bxs _) _, _⟩; exact weak_cut [] ⟨(.same rfl), ⟨(.same rfl), ⟨(kFun hM ho8), ⟨(.same rfl), ⟨(.same rfl), ⟨(.same rfl), trivial⟩⟩⟩⟩⟩⟩ trivial rfl
       ·replace h := ifF hb25 h
        refine Rn.sk (nw rfl hb25) (Rn.sk (nw rfl hb25) (Rn.sk (nw rfl hb25) (Rn.sk (nw rfl hb25) (Rn.sk (nu rfl) (Rn.sk (nu rfl) (Rn.sk (nu rfl) (Rn.sk (nu rfl) (Rn.sk (nu rfl) (Rn.sk (nu rfl) (Rn.sk (nu rfl) (Rn.sk (nw rfl hb25) (Rn.pickF (v := .d (.bool false)) trivial rfl hb25 rfl (md rfl ?_)))))))))))))
        refine Rn.nil ⟨rfl, ?_⟩
        replace h := si h; subst h
        show WeakSt Γ _ ⟨look _, memOf _ (bxs _) _, _⟩; exact weak_cut [] ⟨(.same rfl), ⟨(.same rfl), ⟨(kFun hM ho8), ⟨(.same rfl), ⟨(.same rfl), ⟨(.same rfl), trivial⟩⟩⟩⟩⟩⟩ trivial rfl
      ·obtain ⟨inB31, rfl⟩ : ∃ x, x = z := ⟨_, rfl⟩
       refine sr ((md rfl (Rn.nil (toN ?_))))
       refine Tr.cutB (fun ((a37, x38) : (List Int) × Int) => ⟨look [(0, .d (.lst 1 (List.map (eI .i64) a37))), (1, .d (.lst 1 (List.map (eI .i64) b12))), (2, .clo g4 cp5), (7, .own 1 (List.map (eI .i64) out13)), (8, .d (.bool inA24)), (9, .d (.bool inB31)), (10, .d (.int .i64 x38))], memOf Γ.n0 (bxs []) M, Γ.n0 + 74⟩) h (fun z h => ?_) (fun z h => ?_)
       ·refine sr ((md rfl (Rn.nil (toN ?_))))
        refine Tr.cond rfl (fun hb32 => ?_) (fun hb32 => ?_)
        ·replace h := bT hb32 h
         refine Tr.rgnD (by decide) ?_
         refine md rfl ?_
         obtain ⟨x33, h34, h⟩ := bnd h
         refine Rn.idxD (e := (eI .i64)) trivial rfl rfl h34 (Rn.loadC (x := .int .i64 x33) trivial rfl (md rfl ?_))
         obtain ⟨x35, h36, h⟩ := bnd h
         refine Rn.slcL (e := (eI .i64)) trivial rfl rfl h36 (md rfl (Rn.movTD trivial rfl ?_))
         refine Rn.nil ⟨rfl, ?_⟩
         replace h := si h; subst h
         show WeakSt Γ _ ⟨look _, memOf _ (bxs _) _, _⟩; exact weak_cut [] ⟨(.same rfl), ⟨(.same rfl), ⟨(kFun hM ho8), ⟨(.same rfl), ⟨(.same rfl), ⟨(.same rfl), ⟨(.same rfl), trivial⟩⟩⟩⟩⟩⟩⟩ trivial rfl
        ·replace h := bF hb32 h
         refine Tr.skip ?_
         replace h := si h; subst h
         show WeakSt Γ _ ⟨look _, memOf _ (bxs _) _, _⟩; exact weak_cut [] ⟨(.same rfl), ⟨(.same rfl), ⟨(kFun hM ho8), ⟨(.same rfl), ⟨(.same rfl), ⟨(.same rfl), ⟨(.same rfl), trivial⟩⟩⟩⟩⟩⟩⟩ trivial rfl
       ·obtain ⟨a37, x38⟩ := z
        refine Tr.cutB (fun ((b44, x45) : (List Int) × Int) => ⟨look [(0, .d (.lst 1 (List.map (eI .i64) a37))), (1, .d (.lst 1 (List.map (eI .i64) b44))), (2, .clo g4 cp5), (7, .own 1 (List.map (eI .i64) out13)), (8, .d (.bool inA24)), (9, .d (.bool inB31)), (10, .d (.int .i64 x45))], memOf Γ.n0 (bxs []) M, Γ.n0 + 74⟩) h (fun z h => ?_) (fun z h => ?_)
        ·refine sr ((md rfl (Rn.nil (toN ?_))))
         refine Tr.cond rfl (fun hb39 => ?_) (fun hb39 => ?_)
         ·replace h := bT hb39 h
          refine Tr.rgnD (by decide) ?_
          refine md rfl ?_
          obtain ⟨x40, h41, h⟩ := bnd h
          refine Rn.idxD (e := (eI .i64)) trivial rfl rfl h41 (Rn.loadC (x := .int .i64 x40) trivial rfl (md rfl ?_))
          obtain ⟨x42, h43, h⟩ := bnd h
          refine Rn.slcL (e := (eI .i64)) trivial rfl rfl h43 (md rfl (Rn.movTD trivial rfl ?_))
          refine Rn.nil ⟨rfl, ?_⟩
          replace h := si h; subst h
          show WeakSt Γ _ ⟨look _, memOf _ (bxs _) _, _⟩; exact weak_cut [] ⟨(.same rfl), ⟨(.same rfl), ⟨(kFun hM ho8), ⟨(.same rfl), ⟨(.same rfl), ⟨(.same rfl), ⟨(.same rfl), trivial⟩⟩⟩⟩⟩⟩⟩ trivial rfl
         ·replace h := bF hb39 h
          refine Tr.skip ?_
          replace h := si h; subst h
          show WeakSt Γ _ ⟨look _, memOf _ (bxs _) _, _⟩; exact weak_cut [] ⟨(.same rfl), ⟨(.same rfl), ⟨(kFun hM ho8), ⟨(.same rfl), ⟨(.same rfl), ⟨(.same rfl), ⟨(.same rfl), trivial⟩⟩⟩⟩⟩⟩⟩ trivial rfl
        ·obtain ⟨b44, x45⟩ := z
         refine sr ((Rn.mov (v := .clo g4 cp5) trivial rfl (md rfl (md rfl ?_))))
         obtain ⟨x47, h46, h⟩ := bnd h
         refine Rn.callvM (args := [.d (.bool inA24), .d (.bool inB31)] ++ cp5) trivial rfl (by rw [hc6]; rfl) (fun M2 nb2 hn hx => hf7 _ _ _ h46 M2 nb2 (by omega) ((extMem hM).trans hx)) rfl pc9 ?_
         refine Rn.nil (toN ?_)
         refine Tr.cond rfl (fun hb48 => ?_) (fun hb48 => ?_)
         ·replace h := bT hb48 h
          refine Tr.rgn (Rn.movTO trivial rfl (md rfl (Rn.bslice (xs := [.d (.int .i64 x45)]) (cs := [.d (.int .i64 x45)]) trivial rfl rfl rfl rfl ?_)))
          obtain ⟨x49, h50, h⟩ := bnd h
          refine Rn.app (e := (eI .i64)) trivial rfl rfl rfl (elems_box rfl rfl rfl) h50 rfl (Rn.movTO trivial rfl (Rn.nil ?_))
          exact ⟨_, h, (by show WeakSt Γ (clean _ _ _) ⟨look _, memOf _ (bxs _) _, _⟩; exact weak_clean ⟨(.same rfl), ⟨(.same rfl), ⟨(kFun hM ho8), ⟨(.same rfl), trivial⟩⟩⟩⟩ trivial rfl)⟩
         ·replace h := bF hb48 h
          refine Tr.skip ?_
          exact ⟨_, h, (by show WeakSt Γ (clean _ _ _) ⟨look _, memOf _ (bxs _) _, _⟩; exact weak_clean ⟨(.same rfl), ⟨(.same rfl), ⟨(kFun hM ho8), ⟨(.same rfl), trivial⟩⟩⟩⟩ trivial rfl)⟩
    ·replace h := bF hb17 h
     refine Tr.exit ?_
     replace h := si h; subst h
     show WeakSt Γ _ ⟨look _, memOf _ (bxs _) _, _⟩; exact weak_cut [] ⟨(.same rfl), trivial⟩ trivial rfl
 ·obtain ⟨out51, rfl⟩ : ∃ x, x = z := ⟨_, rfl⟩
  refine sr ((Rn.movTO trivial rfl (Rn.movTO trivial rfl (nt ((Tr.ret ?_))))))
  replace h := si h; subst h
  exact ⟨.inr rfl, (.own 1 (List.map (eI .i64) out51)), rfl, fun _ _ _ _ h => h, trivial, fun k hk => memOf_base hk⟩
theorem alphabet_Intersect_1_walk {P : Program} {c : Nat} (hcf : compFn P c = some F_alphabet_Intersect_1) : K_alphabet_Intersect_1 P c (f_alphabet_Intersect_1) := by
 intro inA1 inB2 r h
 refine fn_trP hcf rfl fun Γ M hP hnt hM => ?_
 subst hP
 refine Tr.init [(0, .d (.bool inA1)), (1, .d (.bool inB2))] rfl ?_
 unfold f_alphabet_Intersect_1 at h
 unfold F_alphabet_Intersect_1
 refine sr ((md rfl (nt ((sr ((md rfl (md rfl ?_))))))))
 refine bsplit inA1 (fun hb3 => ?_) (fun hb3 => ?_)
 ·replace h := bT hb3 h
  refine Rn.movD (gw rfl hb3) rfl (Rn.pickT (v := .d (.bool inB2)) trivial rfl hb3 rfl (md rfl (nt ((Tr.ret ?_)))))
  replace h := si h; subst h
  exact ⟨.inr rfl, (.d (.bool inB2)), rfl, fun _ _ _ _ h => h, trivial, fun k hk => memOf_base hk⟩
 ·replace h := bF hb3 h
  refine Rn.sk (nw rfl hb3) (Rn.pickF (v := .d (.bool false)) trivial rfl hb3 rfl (md rfl (nt ((Tr.ret ?_)))))
  replace h := si h; subst h
  exact ⟨.inr rfl, (.d (.bool false)), rfl, fun _ _ _ _ h => h, trivial, fun k hk => memOf_base hk⟩
theorem alphabet_Intersect_walk {P : Program} {c : Nat} {f_alphabet_merge : (List Int) → (List Int) → (Bool → Bool → Option Bool) → Option ((List Int))} {f_alphabet_Intersect_1 : Bool → Bool → Option Bool}
    (H_alphabet_merge : K_alphabet_merge P 83 f_alphabet_merge)
    (H_alphabet_Intersect_1 : K_alphabet_Intersect_1 P 113 f_alphabet_Intersect_1) (hcf : compFn P c = some F_alphabet_Intersect) : K_alphabet_Intersect P c (f_alphabet_Intersect f_alphabet_merge f_alphabet_Intersect_1) := by
 intro a1 b2 r h
 refine fn_trP hcf rfl fun Γ M hP hnt hM => ?_
 subst hP
 refine Tr.init [(0, .d (.lst 1 (List.map (eI .i64) a1))), (1, .d (.lst 1 (List.map (eI .i64) b2)))] rfl ?_
 unfold f_alphabet_Intersect at h
 unfold F_alphabet_Intersect
 refine sr ((Rn.movTC (v := .nils 1) trivial (nt ((sr ((md rfl (md rfl ?_))))))))
 obtain ⟨x8, h7, h⟩ := bnd h
 refine Rn.callM (args := [.d (.lst 1 (List.map (eI .i64) a1)), .d (.lst 1 (List.map (eI .i64) b2)), .clo 113 []]) trivial rfl (fun M2 nb2 hn hx => H_alphabet_merge _ _ _ 113 [] _ h7 M2 nb2 rfl trivial (fun a3 a4 r5 h6 M3 nb3 hn3 hx3 => H_alphabet_Intersect_1 a3 a4 r5 h6 M3 nb3 )) rfl pc9 ?_
 refine Rn.movTO trivial rfl (nt ((Tr.ret ?_)))
 replace h := si h; subst h
 exact ⟨.inr rfl, (.own 1 (List.map (eI .i64) x8)), rfl, fun _ _ _ _ h => h, trivial, fun k hk => memOf_base hk⟩
theorem requirement_sets_walk {P : Program} {c : Nat} {f_alphabet_CheckSet : (List Int) → Int → Option Int} {f_alphabet_Intersect : (List Int) → (List Int) → Option ((List Int))}
    (H_alphabet_CheckSet : K_alphabet_CheckSet P 20 f_alphabet_CheckSet)
    (H_alphabet_Intersect : K_alphabet_Intersect P 82 f_alphabet_Intersect) (hcf : compFn P c = some F_requirement_sets) (fuel : Nat) : K_requirement_sets P c (f_requirement_sets f_alphabet_CheckSet f_alphabet_Intersect fuel) := by
 intro a1 b2 r h
 refine fn_trP hcf rfl fun Γ M hP hnt hM => ?_
 subst hP
 refine Tr.init [(0, .d (.lst 1 (List.map (eI .i64) a1))), (1, .d (.lst 1 (List.map (eI .i64) b2)))] rfl ?_
 unfold f_requirement_sets at h
 unfold F_requirement_sets
 refine sr ((md rfl (nt ((Tr.seq (sr ((md rfl (md rfl (Rn.build (v := .agg [.d (.lst 1 (List.map (eI .i64) a1)), .d (.lst 1 (List.map (eI .i64) b2))]) trivial rfl (md rfl (nt ((Tr.block ?_))))))))))))))
 refine Tr.loop (mk := fun (x3 : Int) => ⟨look [(0, .d (.lst 1 (List.map (eI .i64) a1))), (1, .d (.lst 1 (List.map (eI .i64) b2))), (10, .agg [.d (.lst 1 (List.map (eI .i64) a1)), .d (.lst 1 (List.map (eI .i64) b2))]), (11, .d (.int .i64 x3))], memOf Γ.n0 (bxs []) M, Γ.n0 + 25⟩) h (by show WeakSt Γ (clean _ _ _) ⟨look _, memOf _ (bxs _) _, _⟩; exact weak_clean ⟨(.same rfl), ⟨(.same rfl), ⟨(.same rfl), ⟨(.same rfl), trivial⟩⟩⟩⟩ trivial rfl) (fun k4 z h => ?_)
 ·obtain ⟨x3, rfl⟩ : ∃ x, x = z := ⟨_, rfl⟩
  replace h : _ = some _ := h
  refine sr ((Rn.bin trivial rfl rfl rfl (nt ((Tr.seq ?_)))))
  refine Tr.cond rfl (fun hb5 => ?_) (fun hb5 => ?_)
  ·replace h := ifT hb5 h
   refine Tr.skip (toN (Tr.seq (Tr.block (Tr.seq (Tr.rgn ?_)))))
   obtain ⟨x6, h7, h⟩ := bnd h
   refine Rn.idxvalV (e := fun (z : List Int) => .lst 1 (List.map (eI .i64) z)) (xs := [a1, b2]) trivial rfl rfl rfl h7 (Rn.movTD trivial rfl (nt ((sr ((md rfl ?_))))))
   obtain ⟨x9, h8, h⟩ := bnd h
   refine Rn.call (args := [.d (.lst 1 (List.map (eI .i64) x6)), .d (.int .i64 32)]) trivial rfl (H_alphabet_CheckSet _ _ _ h8) pc9 (md rfl (nt ((sr ((md rfl (Rn.bin trivial rfl rfl rfl (Rn.nil (toN ?_)))))))))
   refine Tr.cond rfl (fun hb10 => ?_) (fun hb10 => ?_)
   ·replace h := bT hb10 h
    refine sr ((md rfl (md rfl (nt ((Tr.ret ?_))))))
    replace h := si h; subst h
    exact ⟨.inr rfl, (.d (.int .i64 x9)), rfl, fun _ _ _ _ h => h, trivial, fun k hk => memOf_base hk⟩
   ·replace h := bF hb10 h
    refine Tr.skip (toN (Tr.rgn (Rn.bin trivial rfl rfl rfl (md rfl (Rn.nil ?_)))))
    exact ⟨_, h, (by show WeakSt Γ (clean _ _ _) ⟨look _, memOf _ (bxs _) _, _⟩; exact weak_clean ⟨(.same rfl), ⟨(.same rfl), ⟨(.same rfl), ⟨(.same rfl), trivial⟩⟩⟩⟩ trivial rfl)⟩
  ·replace h := ifF hb5 h
   refine Tr.exit (toN (Tr.seq (sr ((md rfl (md rfl ?_))))))
   obtain ⟨x12, h11, h⟩ := bnd h
   refine Rn.call (args := [.d (.lst 1 (List.map (eI .i64) a1)), .d (.lst 1 (List.map (eI .i64) b2))]) trivial rfl (H_alphabet_Intersect _ _ _ h11) pc9 (Rn.lenD trivial rfl (Rn.bin trivial rfl rfl rfl (Rn.nil (toN ?_))))
   refine Tr.cond rfl (fun hb13 => ?_) (fun hb13 => ?_)
   ·replace h := ifT hb13 h
    refine sr ((md rfl (nt ((Tr.ret ?_)))))
    replace h := si h; subst h
    exact ⟨.inr rfl, (.d (.int .i64 13)), rfl, fun _ _ _ _ h => h, trivial, fun k hk => memOf_base hk⟩
   ·replace h := ifF hb13 h
    refine Tr.skip (toN (sr ((md rfl (nt ((Tr.ret ?_)))))))
    replace h := si h; subst h
    exact ⟨.inr rfl, (.d (.int .i64 0)), rfl, fun _ _ _ _ h => h, trivial, fun k hk => memOf_base hk⟩
theorem alphabet_Union_1_walk {P : Program} {c : Nat} (hcf : compFn P c = some F_alphabet_Union_1) : K_alphabet_Union_1 P c (f_alphabet_Union_1) := by
 intro inA1 inB2 r h
 refine fn_trP hcf rfl fun Γ M hP hnt hM => ?_
 subst hP
 refine Tr.init [(0, .d (.bool inA1)), (1, .d (.bool inB2))] rfl ?_
 unfold f_alphabet_Union_1 at h
 unfold F_alphabet_Union_1
 refine sr ((md rfl (nt ((sr ((md rfl (md rfl ?_))))))))
 refine bsplit inA1 (fun hb3 => ?_) (fun hb3 => ?_)
 ·replace h := bT hb3 h
  refine Rn.sk (nw rfl hb3) (Rn.pickT (v := .d (.bool true)) trivial rfl hb3 rfl (md rfl (nt ((Tr.ret ?_)))))
  replace h := si h; subst h
  exact ⟨.inr rfl, (.d (.bool true)), rfl, fun _ _ _ _ h => h, trivial, fun k hk => memOf_base hk⟩
 ·replace h := bF hb3 h
  refine Rn.movD (gw rfl hb3) rfl (Rn.pickF (v := .d (.bool inB2)) trivial rfl hb3 rfl (md rfl (nt ((Tr.ret ?_)))))
  replace h := si h; subst h
  exact ⟨.inr rfl, (.d (.bool inB2)), rfl, fun _ _ _ _ h => h, trivial, fun k hk => memOf_base hk⟩
theorem alphabet_Union_walk {P : Program} {c : Nat} {f_alphabet_merge : (List Int) → (List Int) → (Bool → Bool → Option Bool) → Option ((List Int))} {f_alphabet_Union_1 : Bool → Bool → Option Bool}
    (H_alphabet_merge : K_alphabet_merge P 83 f_alphabet_merge)
    (H_alphabet_Union_1 : K_alphabet_Union_1 P 84 f_alphabet_Union_1) (hcf : compFn P c = some F_alphabet_Union) : K_alphabet_Union P c (f_alphabet_Union f_alphabet_merge f_alphabet_Union_1) := by
 intro a1 b2 r h
 refine fn_trP hcf rfl fun Γ M hP hnt hM => ?_
 subst hP
 refine Tr.init [(0, .d (.lst 1 (List.map (eI .i64) a1))), (1, .d (.lst 1 (List.map (eI .i64) b2)))] rfl ?_
 unfold f_alphabet_Union at h
 unfold F_alphabet_Union
 refine sr ((Rn.movTC (v := .nils 1) trivial (nt ((sr ((md rfl (md rfl ?_))))))))
 obtain ⟨x8, h7, h⟩ := bnd h
 refine Rn.callM (args := [.d (.lst 1 (List.map (eI .i64) a1)), .d (.lst 1 (List.map (eI .i64) b2)), .clo 84 []]) trivial rfl (fun M2 nb2 hn hx => H_alphabet_merge _ _ _ 84 [] _ h7 M2 nb2 rfl trivial (fun a3 a4 r5 h6 M3 nb3 hn3 hx3 => H_alphabet_Union_1 a3 a4 r5 h6 M3 nb3 )) rfl pc9 ?_
 refine Rn.movTO trivial rfl (nt ((Tr.ret ?_)))
 replace h := si h; subst h
 exact ⟨.inr rfl, (.own 1 (List.map (eI .i64) x8)), rfl, fun _ _ _ _ h => h, trivial, fun k hk => memOf_base hk⟩
theorem cmp_isNaN_int_walk {P : Program} {c : Nat} (hcf : compFn P c = some F_cmp_isNaN_int) : K_cmp_isNaN_int P c (f_cmp_isNaN_int) := by
 intro x1 r h
 refine fn_trP hcf rfl fun Γ M hP hnt hM => ?_
 subst hP
 refine Tr.init [(0, .d (.int .i64 x1))] rfl ?_
 unfold f_cmp_isNaN_int at h
 unfold F_cmp_isNaN_int
 refine sr ((md rfl (nt ((sr ((md rfl (md rfl (Rn.bin trivial rfl rfl rfl (md rfl (nt ((Tr.ret ?_)))))))))))))
 replace h := si h; subst h
 exact ⟨.inr rfl, (.d (.bool (x1 != x1))), rfl, fun _ _ _ _ h => h, trivial, fun k hk => memOf_base hk⟩
theorem cmp_Less_int_walk {P : Program} {c : Nat} {f_cmp_isNaN_int : Int → Option Bool}
    (H_cmp_isNaN_int : K_cmp_isNaN_int P 128 f_cmp_isNaN_int) (hcf : compFn P c = some F_cmp_Less_int) : K_cmp_Less_int P c (f_cmp_Less_int f_cmp_isNaN_int) := by
 intro x1 y2 r h
 refine fn_trP hcf rfl fun Γ M hP hnt hM => ?_
 subst hP
 refine Tr.init [(0, .d (.int .i64 x1)), (1, .d (.int .i64 y2))] rfl ?_
 unfold f_cmp_Less_int at h
 unfold F_cmp_Less_int
 refine sr ((md rfl (nt ((sr ((md rfl ?_)))))))
 obtain ⟨x4, h3, h⟩ := bnd h
 refine Rn.call (args := [.d (.int .i64 x1)]) trivial rfl (H_cmp_isNaN_int _ _ h3) pc9 (md rfl ?_)
 refine bsplit x4 (fun hb5 => ?_) (fun hb5 => ?_)
 ·replace h := bT hb5 h
  refine Rn.movD (gw rfl hb5) rfl ?_
  obtain ⟨x7, h6, h⟩ := bnd h
  refine Rn.call (args := [.d (.int .i64 y2)]) (gw rfl hb5) rfl (H_cmp_isNaN_int _ _ h6) pc9 (Rn.un (gw rfl hb5) rfl rfl (Rn.pickT (v := .d (.bool (!x7))) trivial rfl hb5 rfl (md rfl ?_)))
  refine bsplit x7 (fun hb8 => ?_) (fun hb8 => ?_)
  ·replace h := bT hb8 h
   refine Rn.movD (gw rfl (nT hb8)) rfl (Rn.movD (gw rfl (nT hb8)) rfl (Rn.bin (gw rfl (nT hb8)) rfl rfl rfl (Rn.pickF (v := .d (.bool (decide (x1 < y2)))) trivial rfl (nT hb8) rfl (md rfl (nt ((Tr.ret ?_)))))))
   replace h := si h; subst h
   exact ⟨.inr rfl, (.d (.bool (decide (x1 < y2)))), rfl, fun _ _ _ _ h => h, trivial, fun k hk => memOf_base hk⟩
  ·replace h := bF hb8 h
   refine Rn.sk (nw rfl (nF hb8)) (Rn.sk (nw rfl (nF hb8)) (Rn.sk (nw rfl (nF hb8)) (Rn.pickT (v := .d (.bool true)) trivial rfl (nF hb8) rfl (md rfl (nt ((Tr.ret ?_)))))))
   replace h := si h; subst h
   exact ⟨.inr rfl, (.d (.bool true)), rfl, fun _ _ _ _ h => h, trivial, fun k hk => memOf_base hk⟩
 ·replace h := bF hb5 h
  refine Rn.sk (nw rfl hb5) (Rn.sk (nw rfl hb5) (Rn.sk (nw rfl hb5) (Rn.pickF (v := .d (.bool false)) trivial rfl hb5 rfl (md rfl (Rn.movD (gw (b := false) rfl rfl) rfl (Rn.movD (gw (b := false) rfl rfl) rfl (Rn.bin (gw (b := false) rfl rfl) rfl rfl rfl (Rn.pickF (v := .d (.bool (decide (x1 < y2)))) trivial rfl rfl rfl (md rfl (nt ((Tr.ret ?_))))))))))))
  replace h := si h; subst h
  exact ⟨.inr rfl, (.d (.bool (decide (x1 < y2)))), rfl, fun _ _ _ _ h => h, trivial, fun k hk => memOf_base hk⟩
theorem slices_isNaN_int_walk {P : Program} {c : Nat} (hcf : compFn P c = some F_slices_isNaN_int) : K_slices_isNaN_int P c (f_slices_isNaN_int) := by
 intro x1 r h
 refine fn_trP hcf rfl fun Γ M hP hnt hM => ?_
 subst hP
 refine Tr.init [(0, .d (.int .i64 x1))] rfl ?_
 unfold f_slices_isNaN_int at h
 unfold F_slices_isNaN_int
 refine sr ((md rfl (nt ((sr ((md rfl (md rfl (Rn.bin trivial rfl rfl rfl (md rfl (nt ((Tr.ret ?_)))))))))))))
 replace h := si h; subst h
 exact ⟨.inr rfl, (.d (.bool (x1 != x1))), rfl, fun _ _ _ _ h => h, trivial, fun k hk => memOf_base hk⟩
theorem slices_BinarySearch_int_walk {P : Program} {c : Nat} {f_cmp_Less_int : Int → Int → Option Bool} {f_slices_isNaN_int : Int → Option Bool}
    (H_cmp_Less_int : K_cmp_Less_int P 108 f_cmp_Less_int)
    (H_slices_isNaN_int : K_slices_isNaN_int P 114 f_slices_isNaN_int) (hcf : compFn P c = some F_slices_BinarySearch_int) (fuel : Nat) : K_slices_BinarySearch_int P c (f_slices_BinarySearch_int f_cmp_Less_int f_slices_isNaN_int fuel) := by
 intro x1 target2 r h
 refine fn_trP hcf rfl fun Γ M hP hnt hM => ?_
 subst hP
 refine Tr.init [(0, .d (.lst 1 (List.map (eI .i64) x1))), (1, .d (.int .i64 target2))] rfl ?_
 unfold f_slices_BinarySearch_int at h
 unfold F_slices_BinarySearch_int
 refine sr ((md rfl (md rfl (nt ((sr ((md rfl (Rn.lenD trivial rfl (md rfl (nt ((sr ((md rfl (md rfl (md rfl (Rn.nil (toN ?_)))))))))))))))))))
 refine Tr.cutB (fun (i12 : Int) => ⟨look [(0, .d (.lst 1 (List.map (eI .i64) x1))), (1, .d (.int .i64 target2)), (6, .d (.int .i64 (x1.length : Int))), (7, .d (.int .i64 i12))], memOf Γ.n0 (bxs []) M, Γ.n0 + 54⟩) h (fun z h => ?_) (fun z h => ?_)
 ·refine Tr.block ?_
  refine Tr.loop (mk := fun ((i3, j4) : Int × Int) => ⟨look [(0, .d (.lst 1 (List.map (eI .i64) x1))), (1, .d (.int .i64 target2)), (6, .d (.int .i64 (x1.length : Int))), (7, .d (.int .i64 i3)), (8, .d (.int .i64 j4))], memOf Γ.n0 (bxs []) M, Γ.n0 + 54⟩) h (by show WeakSt Γ (clean _ _ _) ⟨look _, memOf _ (bxs _) _, _⟩; exact weak_clean ⟨(.same rfl), ⟨(.same rfl), ⟨(.same rfl), ⟨(.same rfl), ⟨(.same rfl), trivial⟩⟩⟩⟩⟩ trivial rfl) (fun k5 z h => ?_)
  ·obtain ⟨i3, j4⟩ := z
   replace h : _ = some _ := h
   refine Tr.seq (sr ((md rfl (md rfl (Rn.bin trivial rfl rfl rfl (Rn.nil (toN ?_)))))))
   refine Tr.cond rfl (fun hb6 => ?_) (fun hb6 => ?_)
   ·replace h := ifT hb6 h
    refine Tr.skip (toN (Tr.block (sr ((md rfl (md rfl (Rn.bin trivial rfl rfl rfl (Rn.conv trivial rfl (Rn.bin trivial rfl rfl rfl (Rn.conv trivial rfl (md rfl (nt ((sr ((md rfl (md rfl ?_)))))))))))))))))
    obtain ⟨x7, h8, h⟩ := bnd h
    refine Rn.idxD (e := (eI .i64)) trivial rfl rfl h8 (Rn.loadC (x := .int .i64 x7) trivial rfl (md rfl ?_))
    obtain ⟨x10, h9, h⟩ := bnd h
    refine Rn.call (args := [.d (.int .i64 x7), .d (.int .i64 target2)]) trivial rfl (H_cmp_Less_int _ _ _ h9) pc9 (Rn.nil (toN ?_))
    refine Tr.cond rfl (fun hb11 => ?_) (fun hb11 => ?_)
    ·replace h := bT hb11 h
     refine Tr.rgn (md rfl (Rn.bin trivial rfl rfl rfl (md rfl (Rn.nil ?_))))
     exact ⟨_, h, (by show WeakSt Γ (clean _ _ _) ⟨look _, memOf _ (bxs _) _, _⟩; exact weak_clean ⟨(.same rfl), ⟨(.same rfl), ⟨(.same rfl), ⟨(.same rfl), ⟨(.same rfl), trivial⟩⟩⟩⟩⟩ trivial rfl)⟩
    ·replace h := bF hb11 h
     refine Tr.rgn (md rfl (md rfl (Rn.nil ?_)))
     exact ⟨_, h, (by show WeakSt Γ (clean _ _ _) ⟨look _, memOf _ (bxs _) _, _⟩; exact weak_clean ⟨(.same rfl), ⟨(.same rfl), ⟨(.same rfl), ⟨(.same rfl), ⟨(.same rfl), trivial⟩⟩⟩⟩⟩ trivial rfl)⟩
   ·replace h := ifF hb6 h
    refine Tr.exit ?_
    replace h := si h; subst h
    show WeakSt Γ _ ⟨look _, memOf _ (bxs _) _, _⟩; exact weak_cut [] ⟨(.same rfl), ⟨(.same rfl), ⟨(.same rfl), ⟨(.same rfl), trivial⟩⟩⟩⟩ trivial rfl
 ·obtain ⟨i12, rfl⟩ : ∃ x, x = z := ⟨_, rfl⟩
  refine sr ((md rfl (md rfl (md rfl (Rn.bin trivial rfl rfl rfl (md rfl ?_))))))
  refine bsplit (decide (i12 < (x1.length : Int))) (fun hb13 => ?_) (fun hb13 => ?_)
  ·replace h := ifT hb13 h
   refine Rn.movD (gw rfl hb13) rfl (Rn.movD (gw rfl hb13) rfl ?_)
   obtain ⟨x14, h15, h⟩ := bnd h
   refine Rn.idxD (e := (eI .i64)) (gw rfl hb13) rfl rfl h15 (Rn.loadC (x := .int .i64 x14) (gw rfl hb13) rfl (Rn.movD (gw rfl hb13) rfl (Rn.bin (gw rfl hb13) rfl rfl rfl (Rn.movD (gw rfl hb13) rfl ?_))))
   refine bsplit (x14 == target2) (fun hb16 => ?_) (fun hb16 => ?_)
   ·replace h := bT hb16 h
    refine Rn.sk (nw rfl hb16) (Rn.sk (nw rfl hb16) (Rn.sk (nw rfl hb16) (Rn.sk (nw rfl hb16) (Rn.sk (nw rfl hb16) (Rn.sk (nw rfl hb16) (Rn.sk (nu rfl) (Rn.sk (nu rfl) (Rn.sk (nw rfl hb16) (Rn.pickT (v := .d (.bool true)) (gw rfl hb13) rfl hb16 rfl (Rn.pickT (v := .d (.bool true)) trivial rfl hb13 rfl (md rfl (md rfl (nt ((Tr.ret ?_)))))))))))))))
    replace h := si h; subst h
    exact ⟨.inr rfl, .tup [.d (.int .i64 i12), .d (.bool true)], res2 rfl rfl, (WkV.tup (.cons (.same rfl) (.cons (.same rfl) .nil))).rd, ⟨trivial, trivial, trivial⟩, fun k hk => memOf_base hk⟩
   ·replace h := bF hb16 h
    refine Rn.movD (gw rfl hb16) rfl (Rn.movD (gw rfl hb16) rfl ?_)
    obtain ⟨x17, h18, h⟩ := bnd h
    refine Rn.idxD (e := (eI .i64)) (gw rfl hb16) rfl rfl h18 (Rn.loadC (x := .int .i64 x17) (gw rfl hb16) rfl ?_)
    obtain ⟨x20, h19, h⟩ := bnd h
    refine Rn.call (args := [.d (.int .i64 x17)]) (gw rfl hb16) rfl (H_slices_isNaN_int _ _ h19) pc9 (Rn.movD (gw rfl hb16) rfl ?_)
    refine bsplit x20 (fun hb21 => ?_) (fun hb21 => ?_)
    ·replace h := bT hb21 h
     refine Rn.movD (gw rfl hb21) rfl ?_
     obtain ⟨x23, h22, h⟩ := bnd h
     refine Rn.call (args := [.d (.int .i64 target2)]) (gw rfl hb21) rfl (H_slices_isNaN_int _ _ h22) pc9 (Rn.pickT (v := .d (.bool x23)) (gw rfl hb16) rfl hb21 rfl (Rn.pickF (v := .d (.bool x23)) (gw rfl hb13) rfl hb16 rfl (Rn.pickT (v := .d (.bool x23)) trivial rfl hb13 rfl (md rfl (md rfl (nt ((Tr.ret ?_))))))))
     replace h := si h; subst h
     exact ⟨.inr rfl, .tup [.d (.int .i64 i12), .d (.bool x23)], res2 rfl rfl, (WkV.tup (.cons (.same rfl) (.cons (.same rfl) .nil))).rd, ⟨trivial, trivial, trivial⟩, fun k hk => memOf_base hk⟩
    ·replace h := bF hb21 h
     refine Rn.sk (nw rfl hb21) (Rn.sk (nw rfl hb21) (Rn.pickF (v := .d (.bool false)) (gw rfl hb16) rfl hb21 rfl (Rn.pickF (v := .d (.bool false)) (gw rfl hb13) rfl hb16 rfl (Rn.pickT (v := .d (.bool false)) trivial rfl hb13 rfl (md rfl (md rfl (nt ((Tr.ret ?_)))))))))
     replace h := si h; subst h
     exact ⟨.inr rfl, .tup [.d (.int .i64 i12), .d (.bool false)], res2 rfl rfl, (WkV.tup (.cons (.same rfl) (.cons (.same rfl) .nil))).rd, ⟨trivial, trivial, trivial⟩, fun k hk => memOf_base hk⟩
  ·replace h := ifF hb13 h
   refine Rn.sk (nw rfl hb13) (Rn.sk (nw rfl hb13) (Rn.sk (nw rfl hb13) (Rn.sk (nw rfl hb13) (Rn.sk (nw rfl hb13) (Rn.sk (nw rfl hb13) (Rn.sk (nw rfl hb13) (Rn.sk (nu rfl) (Rn.sk (nu rfl) (Rn.sk (nu rfl) (Rn.sk (nu rfl) (Rn.sk (nu rfl) (Rn.sk (nu rfl) (Rn.sk (nu rfl) (Rn.sk (nu rfl) (Rn.sk (nu rfl) (Rn.sk (nw rfl hb13) (Rn.pickF (v := .d (.bool false)) trivial rfl hb13 rfl (md rfl (md rfl (nt ((Tr.ret ?_))))))))))))))))))))))
   replace h := si h; subst h
   exact ⟨.inr rfl, .tup [.d (.int .i64 i12), .d (.bool false)], res2 rfl rfl, (WkV.tup (.cons (.same rfl) (.cons (.same rfl) .nil))).rd, ⟨trivial, trivial, trivial⟩, fun k hk => memOf_base hk⟩
theorem alphabet_Contains_walk {P : Program} {c : Nat} {f_slices_BinarySearch_int : (List Int) → Int → Option (Int × Bool)}
    (H_slices_BinarySearch_int : K_slices_BinarySearch_int P 85 f_slices_BinarySearch_int) (hcf : compFn P c = some F_alphabet_Contains) : K_alphabet_Contains P c (f_alphabet_Contains f_slices_BinarySearch_int) := by
 intro xset1 x2 r h
 refine fn_trP hcf rfl fun Γ M hP hnt hM => ?_
 subst hP
 refine Tr.init [(0, .d (.lst 1 (List.map (eI .i64) xset1))), (1, .d (.int .i64 x2))] rfl ?_
 unfold f_alphabet_Contains at h
 unfold F_alphabet_Contains
 refine sr ((md rfl (nt ((sr ((md rfl (md rfl ?_))))))))
 obtain ⟨⟨r4, r5⟩, h3, h⟩ := bnd h
 refine Rn.call (args := [.d (.lst 1 (List.map (eI .i64) xset1)), .d (.int .i64 x2)]) trivial rfl (H_slices_BinarySearch_int _ _ _ h3) pc9 (Rn.mov (v := .tup [.d (.int .i64 r4), .d (.bool r5)]) trivial rfl (Rn.ext (v := .d (.int .i64 r4)) (vs := [.d (.int .i64 r4), .d (.bool r5)]) trivial rfl rfl rfl (Rn.ext (v := .d (.bool r5)) (vs := [.d (.int .i64 r4), .d (.bool r5)]) trivial rfl rfl rfl (md rfl (md rfl (nt ((sr ((md rfl (md rfl (nt ((Tr.ret ?_))))))))))))))
 replace h := si h; subst h
 exact ⟨.inr rfl, (.d (.bool r5)), rfl, fun _ _ _ _ h => h, trivial, fun k hk => memOf_base hk⟩
theorem requirement_Buffer_1_walk {P : Program} {c : Nat} {f_alphabet_Contains : (List Int) → Int → Option Bool}
    (H_alphabet_Contains : K_alphabet_Contains P 62 f_alphabet_Contains) (hcf : compFn P c = some F_requirement_Buffer_1) : K_requirement_Buffer_1 P c (f_requirement_Buffer_1 f_alphabet_Contains) := by
 intro state1 event2 x3 x6 k4 k7 r h
 intro M nb hk5 hk8
 refine fn_trM hcf rfl M nb fun Γ hP hnt hn0 hM => ?_
 subst hP hn0
 refine Tr.init [(0, .d (.int .i64 state1)), (1, .d (.int .i64 event2)), (2, .ptr k4 0), (3, .ptr k7 0)] rfl ?_
 unfold f_requirement_Buffer_1 at h
 unfold F_requirement_Buffer_1
 refine sr ((md rfl (md rfl (nt ((Tr.seq (sr ((Rn.load (v := .d (.lst 1 (List.map (eI .i64) x3))) trivial rfl (baseMem hM hk5) rfl rfl (md rfl ?_))))))))))
 obtain ⟨x10, h9, h⟩ := bnd h
 refine Rn.call (args := [.d (.lst 1 (List.map (eI .i64) x3)), .d (.int .i64 event2)]) trivial rfl (H_alphabet_Contains _ _ _ h9) pc9 (Rn.nil (toN ?_))
 refine Tr.cond rfl (fun hb11 => ?_) (fun hb11 => ?_)
 ·replace h := bT hb11 h
  refine Tr.seq ?_
  refine Tr.rgnD (by decide) ?_
  refine md rfl (Rn.bin trivial rfl rfl rfl (md rfl (Rn.load (v := .d (.int .i64 x6)) trivial rfl (baseMem hM hk8) rfl rfl (Rn.bin trivial rfl rfl rfl (md rfl (md rfl ?_))))))
  refine Rn.nil ⟨rfl, ?_⟩
  refine toN (Tr.ret ?_)
  replace h := si h; subst h
  exact ⟨.inr rfl, .tup [.d (.int .i64 (IntKind.wrap .i64 (state1 + 1))), .d (.bool (decide (state1 < x6)))], res2 rfl rfl, (WkV.tup (.cons (.same rfl) (.cons (.same rfl) .nil))).rd, ⟨trivial, trivial, trivial⟩, fun k hk => memOf_base hk⟩
 ·replace h := bF hb11 h
  refine Tr.skip (toN (sr ((md rfl (Rn.bin trivial rfl rfl rfl (md rfl (Rn.bin trivial rfl rfl rfl (md rfl (md rfl (nt ((Tr.ret ?_))))))))))))
  replace h := si h; subst h
  exact ⟨.inr rfl, .tup [.d (.int .i64 (IntKind.wrap .i64 (state1 - 1))), .d (.bool (decide (state1 > 0)))], res2 rfl rfl, (WkV.tup (.cons (.same rfl) (.cons (.same rfl) .nil))).rd, ⟨trivial, trivial, trivial⟩, fun k hk => memOf_base hk⟩
theorem requirement_Buffer_walk {P : Program} {c : Nat} {f_requirement_explore : (List Int) → (Int → Option Bool) → (Int → Int → Option (Int × Bool)) → Option api_Automaton} {f_requirement_sets : (List Int) → (List Int) → Option Int} {f_alphabet_Union : (List Int) → (List Int) → Option ((List Int))} {f_requirement_first : Int → Option Bool} {f_requirement_Buffer_1 : Int → Int → (List Int) → Int → Option (Int × Bool)}
    (H_requirement_explore : K_requirement_explore P 48 f_requirement_explore)
    (H_requirement_sets : K_requirement_sets P 58 f_requirement_sets)
    (H_alphabet_Union : K_alphabet_Union P 59 f_alphabet_Union)
    (H_requirement_first : K_requirement_first P 60 f_requirement_first)
    (H_requirement_Buffer_1 : K_requirement_Buffer_1 P 61 f_requirement_Buffer_1) (hcf : compFn P c = some F_requirement_Buffer) : K_requirement_Buffer P c (f_requirement_Buffer f_requirement_explore f_requirement_sets f_alphabet_Union f_requirement_first f_requirement_Buffer_1) := by
 intro put1 take2 capacity3 r h
 refine fn_trP hcf rfl fun Γ M hP hnt hM => ?_
 subst hP
 refine Tr.init [(0, .d (.lst 1 (List.map (eI .i64) put1))), (1, .d (.lst 1 (List.map (eI .i64) take2))), (2, .d (.int .i64 capacity3))] rfl ?_
 unfold f_requirement_Buffer at h
 unfold F_requirement_Buffer
 refine sr ((Rn.box (v := .d (.lst 1 (List.map (eI .i64) put1))) (cs := [.d (.lst 1 (List.map (eI .i64) put1))]) trivial rfl rfl rfl rfl rfl (Rn.box (v := .d (.int .i64 capacity3)) (cs := [.d (.int .i64 capacity3)]) trivial rfl rfl rfl rfl rfl (Rn.alloc trivial rfl (md rfl (nt ((Tr.seq (sr ((Rn.load (v := .d (.lst 1 (List.map (eI .i64) put1))) trivial rfl (boxOwn rfl) rfl rfl (md rfl ?_))))))))))))
 obtain ⟨x5, h4, h⟩ := bnd h
 refine Rn.call (args := [.d (.lst 1 (List.map (eI .i64) put1)), .d (.lst 1 (List.map (eI .i64) take2))]) trivial rfl (H_requirement_sets _ _ _ h4) pc9 (md rfl (nt ((sr ((md rfl (Rn.bin trivial rfl rfl rfl (Rn.nil (toN ?_)))))))))
 refine Tr.cond rfl (fun hb6 => ?_) (fun hb6 => ?_)
 ·replace h := bT hb6 h
  refine sr ((Rn.build (v := .agg [.nils 1, .d (.int .i64 0), .nils 1, .nils 3]) trivial rfl (md rfl (Rn.store (v := .agg [.nils 1, .d (.int .i64 0), .nils 1, .nils 3]) (cs' := [.nils 1, .d (.int .i64 0), .nils 1, .nils 3]) trivial rfl rfl rfl rfl rfl rfl (md rfl (nt ((Tr.ret ?_))))))))
  replace h := si h; subst h
  exact ⟨.inr rfl, .tup [.agg [.nils 1, .d (.int .i64 0), .nils 1, .nils 3], .d (.int .i64 x5)], res2 (resCell rfl rfl rfl rfl) rfl, (WkV.tup (.cons (WkV.agg (.cons (WkV.nilsD _) (.cons (.same rfl) (.cons (WkV.nilsD _) (.cons (WkV.nilsD _) .nil))))) (.cons (.same rfl) .nil))).rd, ⟨⟨trivial, trivial, trivial, trivial, trivial⟩, trivial, trivial⟩, fun k hk => memOf_base hk⟩
 ·replace h := bF hb6 h
  refine Tr.skip (toN (Tr.seq ?_))
  refine Tr.cutB (fun (x8 : Bool) => ⟨look [(1, .d (.lst 1 (List.map (eI .i64) take2))), (3, .ptr (Γ.n0 + 3) 0), (5, .ptr (Γ.n0 + 5) 0), (6, .ptr (Γ.n0 + 6) 0), (21, .d (.bool x8))], memOf Γ.n0 (bxs [(3, .cells ([.d (.lst 1 (List.map (eI .i64) put1))])), (5, .cells ([.d (.int .i64 capacity3)])), (6, .cells ([.nils 1, .d (.int .i64 0), .nils 1, .nils 3]))]) M, Γ.n0 + 28⟩) h (fun z h => ?_) (fun z h => ?_)
  ·refine Tr.rgn (Rn.load (v := .d (.int .i64 capacity3)) trivial rfl (boxOwn rfl) rfl rfl (Rn.bin trivial rfl rfl rfl (md rfl ?_)))
   refine bsplit (decide (capacity3 < 1)) (fun hb7 => ?_) (fun hb7 => ?_)
   ·replace h := ifT hb7 h
    refine Rn.sk (nw rfl hb7) (Rn.sk (nw rfl hb7) (Rn.pickT (v := .d (.bool true)) trivial rfl hb7 rfl (Rn.nil ?_)))
    replace h := si h; subst h
    show WeakSt Γ _ ⟨look _, memOf _ (bxs _) _, _⟩; exact weak_cut [] ⟨(.same rfl), ⟨(kPtr rfl), ⟨(kPtr rfl), ⟨(kPtr rfl), ⟨(.same rfl), trivial⟩⟩⟩⟩⟩ ⟨⟨_, rfl, rfl, (.same rfl)⟩, ⟨⟨_, rfl, rfl, (.same rfl)⟩, ⟨⟨_, rfl, rfl, (.same rfl)⟩, trivial⟩⟩⟩ rfl
   ·replace h := ifF hb7 h
    refine Rn.load (v := .d (.int .i64 capacity3)) (gw rfl hb7) rfl (boxOwn rfl) rfl rfl (Rn.bin (gw rfl hb7) rfl rfl rfl (Rn.pickF (v := .d (.bool (decide (capacity3 > 1024)))) trivial rfl hb7 rfl (Rn.nil ?_)))
    replace h := si h; subst h
    show WeakSt Γ _ ⟨look _, memOf _ (bxs _) _, _⟩; exact weak_cut [] ⟨(.same rfl), ⟨(kPtr rfl), ⟨(kPtr rfl), ⟨(kPtr rfl), ⟨(.same rfl), trivial⟩⟩⟩⟩⟩ ⟨⟨_, rfl, rfl, (.same rfl)⟩, ⟨⟨_, rfl, rfl, (.same rfl)⟩, ⟨⟨_, rfl, rfl, (.same rfl)⟩, trivial⟩⟩⟩ rfl
  ·obtain ⟨x8, rfl⟩ : ∃ x, x = z := ⟨_, rfl⟩
   refine Tr.cond rfl (fun hb9 => ?_) (fun hb9 => ?_)
   ·replace h := bT hb9 h
    refine sr ((Rn.build (v := .agg [.nils 1, .d (.int .i64 0), .nils 1, .nils 3]) trivial rfl (Rn.store (v := .agg [.nils 1, .d (.int .i64 0), .nils 1, .nils 3]) (cs' := [.nils 1, .d (.int .i64 0), .nils 1, .nils 3]) trivial rfl rfl rfl rfl rfl rfl (md rfl (nt ((Tr.ret ?_)))))))
    replace h := si h; subst h
    exact ⟨.inr rfl, .tup [.agg [.nils 1, .d (.int .i64 0), .nils 1, .nils 3], .d (.int .i64 2)], res2 (resCell rfl rfl rfl rfl) rfl, (WkV.tup (.cons (WkV.agg (.cons (WkV.nilsD _) (.cons (.same rfl) (.cons (WkV.nilsD _) (.cons (WkV.nilsD _) .nil))))) (.cons (.same rfl) .nil))).rd, ⟨⟨trivial, trivial, trivial, trivial, trivial⟩, trivial, trivial⟩, fun k hk => memOf_base hk⟩
   ·replace h := bF hb9 h
    refine Tr.skip (toN (sr ((Rn.load (v := .d (.lst 1 (List.map (eI .i64) put1))) trivial rfl (boxOwn rfl) rfl rfl (md rfl ?_)))))
    obtain ⟨x11, h10, h⟩ := bnd h
    refine Rn.call (args := [.d (.lst 1 (List.map (eI .i64) put1)), .d (.lst 1 (List.map (eI .i64) take2))]) trivial rfl (H_alphabet_Union _ _ _ h10) pc9 (Rn.k (v := .clo 61 [.ptr (Γ.n0 + 3) 0, .ptr (Γ.n0 + 5) 0]) trivial rfl rfl rfl ?_)
    obtain ⟨x20, h19, h⟩ := bnd h
    refine Rn.callM (args := [.d (.lst 1 (List.map (eI .i64) x11)), .clo 60 [], .clo 61 [.ptr (Γ.n0 + 3) 0, .ptr (Γ.n0 + 5) 0]]) trivial rfl (fun M2 nb2 hn hx => H_requirement_explore _ _ _ 60 [] 61 [.ptr (Γ.n0 + 3) 0, .ptr (Γ.n0 + 5) 0] _ h19 M2 nb2 rfl trivial (fun a12 r13 h14 M3 nb3 hn3 hx3 => H_requirement_first a12 r13 h14 M3 nb3 ) rfl ⟨thereOf (hx _ _ (boxOwn rfl)), thereOf (hx _ _ (boxOwn rfl)), trivial⟩ (fun a15 a16 r17 h18 M3 nb3 hn3 hx3 => H_requirement_Buffer_1 a15 a16 put1 capacity3 (Γ.n0 + 3) (Γ.n0 + 5) r17 h18 M3 nb3 ((hx.trans hx3) _ _ (boxOwn rfl)) ((hx.trans hx3) _ _ (boxOwn rfl)))) rfl pc9 ?_
    refine Rn.store (v := .agg [.d (.lst 1 (List.map (eI .i64) x20.Alphabet)), .d (.int .i64 x20.States), .d (.lst 1 (List.map (eI .i64) x20.Marked)), .d (.lst 3 (List.map e_api_Edge x20.Edges))]) (cs' := [.d (.lst 1 (List.map (eI .i64) x20.Alphabet)), .d (.int .i64 x20.States), .d (.lst 1 (List.map (eI .i64) x20.Marked)), .d (.lst 3 (List.map e_api_Edge x20.Edges))]) trivial rfl rfl rfl rfl rfl rfl (md rfl (nt ((Tr.ret ?_))))
    replace h := si h; subst h
    exact ⟨.inr rfl, .tup [.agg [.d (.lst 1 (List.map (eI .i64) x20.Alphabet)), .d (.int .i64 x20.States), .d (.lst 1 (List.map (eI .i64) x20.Marked)), .d (.lst 3 (List.map e_api_Edge x20.Edges))], .d (.int .i64 0)], res2 (resCell rfl rfl rfl rfl) rfl, (WkV.tup (.cons (.same rfl) (.cons (.same rfl) .nil))).rd, ⟨⟨trivial, trivial, trivial, trivial, trivial⟩, trivial, trivial⟩, fun k hk => memOf_base hk⟩
theorem bits_OnesCount64_walk {P : Program} {c : Nat} (hcf : compFn P c = some F_bits_OnesCount64) : K_bits_OnesCount64 P c (f_bits_OnesCount64) := by
 intro x1 r h
 refine fn_trP hcf rfl fun Γ M hP hnt hM => ?_
 subst hP
 refine Tr.init [(0, .d (.int .u64 x1))] rfl ?_
 unfold f_bits_OnesCount64 at h
 unfold F_bits_OnesCount64
 refine sr ((md rfl (nt ((sr ((md rfl (Rn.bin trivial rfl rfl rfl (Rn.bin trivial rfl rfl rfl (md rfl (Rn.bin trivial rfl rfl rfl (Rn.bin trivial rfl rfl rfl (md rfl (nt ((sr ((md rfl (Rn.bin trivial rfl rfl rfl (Rn.bin trivial rfl rfl rfl (md rfl (Rn.bin trivial rfl rfl rfl (Rn.bin trivial rfl rfl rfl (md rfl (nt ((sr ((md rfl (Rn.bin trivial rfl rfl rfl (md rfl (Rn.bin trivial rfl rfl rfl (Rn.bin trivial rfl rfl rfl (md rfl (nt ((sr ((md rfl ?_)))))))))))))))))))))))))))))))))))))))
 refine md rfl (Rn.bin trivial rfl rfl rfl (Rn.bin trivial rfl rfl rfl (md rfl (nt ((sr ((md rfl (md rfl (Rn.bin trivial rfl rfl rfl (Rn.bin trivial rfl rfl rfl (md rfl (nt ((sr ((md rfl (md rfl (Rn.bin trivial rfl rfl rfl (Rn.bin trivial rfl rfl rfl (md rfl (nt ((sr ((md rfl (Rn.conv trivial rfl (Rn.bin trivial rfl rfl rfl (md rfl (nt ((Tr.ret ?_))))))))))))))))))))))))))))))))
 replace h := si h; subst h
 exact ⟨.inr rfl, (.d (.int .i64 (andI .i64 (IntKind.wrap .i64 (IntKind.wrap .u64 ((IntKind.wrap .u64 ((IntKind.wrap .u64 ((andI .u64 (IntKind.wrap .u64 ((Int.fdiv (IntKind.wrap .u64 ((andI .u64 (Int.fdiv (IntKind.wrap .u64 ((andI .u64 (Int.fdiv x1 (2 ^ (min (Int.toNat 1) (IntKind.bits .u64)))) 6148914691236517205) + (andI .u64 x1 6148914691236517205))) (2 ^ (min (Int.toNat 2) (IntKind.bits .u64)))) 3689348814741910323) + (andI .u64 (IntKind.wrap .u64 ((andI .u64 (Int.fdiv x1 (2 ^ (min (Int.toNat 1) (IntKind.bits .u64)))) 6148914691236517205) + (andI .u64 x1 6148914691236517205))) 3689348814741910323))) (2 ^ (min (Int.toNat 4) (IntKind.bits .u64)))) + (IntKind.wrap .u64 ((andI .u64 (Int.fdiv (IntKind.wrap .u64 ((andI .u64 (Int.fdiv x1 (2 ^ (min (Int.toNat 1) (IntKind.bits .u64)))) 6148914691236517205) + (andI .u64 x1 6148914691236517205))) (2 ^ (min (Int.toNat 2) (IntKind.bits .u64)))) 3689348814741910323) + (andI .u64 (IntKind.wrap .u64 ((andI .u64 (Int.fdiv x1 (2 ^ (min (Int.toNat 1) (IntKind.bits .u64)))) 6148914691236517205) + (andI .u64 x1 6148914691236517205))) 3689348814741910323))))) 1085102592571150095) + (Int.fdiv (andI .u64 (IntKind.wrap .u64 ((Int.fdiv (IntKind.wrap .u64 ((andI .u64 (Int.fdiv (IntKind.wrap .u64 ((andI .u64 (Int.fdiv x1 (2 ^ (min (Int.toNat 1) (IntKind.bits .u64)))) 6148914691236517205) + (andI .u64 x1 6148914691236517205))) (2 ^ (min (Int.toNat 2) (IntKind.bits .u64)))) 3689348814741910323) + (andI .u64 (IntKind.wrap .u64 ((andI .u64 (Int.fdiv x1 (2 ^ (min (Int.toNat 1) (IntKind.bits .u64)))) 6148914691236517205) + (andI .u64 x1 6148914691236517205))) 3689348814741910323))) (2 ^ (min (Int.toNat 4) (IntKind.bits .u64)))) + (IntKind.wrap .u64 ((andI .u64 (Int.fdiv (IntKind.wrap .u64 ((andI .u64 (Int.fdiv x1 (2 ^ (min (Int.toNat 1) (IntKind.bits .u64)))) 6148914691236517205) + (andI .u64 x1 6148914691236517205))) (2 ^ (min (Int.toNat 2) (IntKind.bits .u64)))) 3689348814741910323) + (andI .u64 (IntKind.wrap .u64 ((andI .u64 (Int.fdiv x1 (2 ^ (min (Int.toNat 1) (IntKind.bits .u64)))) 6148914691236517205) + (andI .u64 x1 6148914691236517205))) 3689348814741910323))))) 1085102592571150095) (2 ^ (min (Int.toNat 8) (IntKind.bits .u64)))))) + (Int.fdiv (IntKind.wrap .u64 ((andI .u64 (IntKind.wrap .u64 ((Int.fdiv (IntKind.wrap .u64 ((andI .u64 (Int.fdiv (IntKind.wrap .u64 ((andI .u64 (Int.fdiv x1 (2 ^ (min (Int.toNat 1) (IntKind.bits .u64)))) 6148914691236517205) + (andI .u64 x1 6148914691236517205))) (2 ^ (min (Int.toNat 2) (IntKind.bits .u64)))) 3689348814741910323) + (andI .u64 (IntKind.wrap .u64 ((andI .u64 (Int.fdiv x1 (2 ^ (min (Int.toNat 1) (IntKind.bits .u64)))) 6148914691236517205) + (andI .u64 x1 6148914691236517205))) 3689348814741910323))) (2 ^ (min (Int.toNat 4) (IntKind.bits .u64)))) + (IntKind.wrap .u64 ((andI .u64 (Int.fdiv (IntKind.wrap .u64 ((andI .u64 (Int.fdiv x1 (2 ^ (min (Int.toNat 1) (IntKind.bits .u64)))) 6148914691236517205) + (andI .u64 x1 6148914691236517205))) (2 ^ (min (Int.toNat 2) (IntKind.bits .u64)))) 3689348814741910323) + (andI .u64 (IntKind.wrap .u64 ((andI .u64 (Int.fdiv x1 (2 ^ (min (Int.toNat 1) (IntKind.bits .u64)))) 6148914691236517205) + (andI .u64 x1 6148914691236517205))) 3689348814741910323))))) 1085102592571150095) + (Int.fdiv (andI .u64 (IntKind.wrap .u64 ((Int.fdiv (IntKind.wrap .u64 ((andI .u64 (Int.fdiv (IntKind.wrap .u64 ((andI .u64 (Int.fdiv x1 (2 ^ (min (Int.toNat 1) (IntKind.bits .u64)))) 6148914691236517205) + (andI .u64 x1 6148914691236517205))) (2 ^ (min (Int.toNat 2) (IntKind.bits .u64)))) 3689348814741910323) + (andI .u64 (IntKind.wrap .u64 ((andI .u64 (Int.fdiv x1 (2 ^ (min (Int.toNat 1) (IntKind.bits .u64)))) 6148914691236517205) + (andI .u64 x1 6148914691236517205))) 3689348814741910323))) (2 ^ (min (Int.toNat 4) (IntKind.bits .u64)))) + (IntKind.wrap .u64 ((andI .u64 (Int.fdiv (IntKind.wrap .u64 ((andI .u64 (Int.fdiv x1 (2 ^ (min (Int.toNat 1) (IntKind.bits .u64)))) 6148914691236517205) + (andI .u64 x1 6148914691236517205))) (2 ^ (min (Int.toNat 2) (IntKind.bits .u64)))) 3689348814741910323) + (andI .u64 (IntKind.wrap .u64 ((andI .u64 (Int.fdiv x1 (2 ^ (min (Int.toNat 1) (IntKind.bits .u64)))) 6148914691236517205) + (andI .u64 x1 6148914691236517205))) 3689348814741910323))))) 1085102592571150095) (2 ^ (min (Int.toNat 8) (IntKind.bits .u64)))))) (2 ^ (min (Int.toNat 16) (IntKind.bits .u64)))))) + (Int.fdiv (IntKind.wrap .u64 ((IntKind.wrap .u64 ((andI .u64 (IntKind.wrap .u64 ((Int.fdiv (IntKind.wrap .u64 ((andI .u64 (Int.fdiv (IntKind.wrap .u64 ((andI .u64 (Int.fdiv x1 (2 ^ (min (Int.toNat 1) (IntKind.bits .u64)))) 6148914691236517205) + (andI .u64 x1 6148914691236517205))) (2 ^ (min (Int.toNat 2) (IntKind.bits .u64)))) 3689348814741910323) + (andI .u64 (IntKind.wrap .u64 ((andI .u64 (Int.fdiv x1 (2 ^ (min (Int.toNat 1) (IntKind.bits .u64)))) 6148914691236517205) + (andI .u64 x1 6148914691236517205))) 3689348814741910323))) (2 ^ (min (Int.toNat 4) (IntKind.bits .u64)))) + (IntKind.wrap .u64 ((andI .u64 (Int.fdiv (IntKind.wrap .u64 ((andI .u64 (Int.fdiv x1 (2 ^ (min (Int.toNat 1) (IntKind.bits .u64)))) 6148914691236517205) + (andI .u64 x1 6148914691236517205))) (2 ^ (min (Int.toNat 2) (IntKind.bits .u64)))) 3689348814741910323) + (andI .u64 (IntKind.wrap .u64 ((andI .u64 (Int.fdiv x1 (2 ^ (min (Int.toNat 1) (IntKind.bits .u64)))) 6148914691236517205) + (andI .u64 x1 6148914691236517205))) 3689348814741910323))))) 1085102592571150095) + (Int.fdiv (andI .u64 (IntKind.wrap .u64 ((Int.fdiv (IntKind.wrap .u64 ((andI .u64 (Int.fdiv (IntKind.wrap .u64 ((andI .u64 (Int.fdiv x1 (2 ^ (min (Int.toNat 1) (IntKind.bits .u64)))) 6148914691236517205) + (andI .u64 x1 6148914691236517205))) (2 ^ (min (Int.toNat 2) (IntKind.bits .u64)))) 3689348814741910323) + (andI .u64 (IntKind.wrap .u64 ((andI .u64 (Int.fdiv x1 (2 ^ (min (Int.toNat 1) (IntKind.bits .u64)))) 6148914691236517205) + (andI .u64 x1 6148914691236517205))) 3689348814741910323))) (2 ^ (min (Int.toNat 4) (IntKind.bits .u64)))) + (IntKind.wrap .u64 ((andI .u64 (Int.fdiv (IntKind.wrap .u64 ((andI .u64 (Int.fdiv x1 (2 ^ (min (Int.toNat 1) (IntKind.bits .u64)))) 6148914691236517205) + (andI .u64 x1 6148914691236517205))) (2 ^ (min (Int.toNat 2) (IntKind.bits .u64)))) 3689348814741910323) + (andI .u64 (IntKind.wrap .u64 ((andI .u64 (Int.fdiv x1 (2 ^ (min (Int.toNat 1) (IntKind.bits .u64)))) 6148914691236517205) + (andI .u64 x1 6148914691236517205))) 3689348814741910323))))) 1085102592571150095) (2 ^ (min (Int.toNat 8) (IntKind.bits .u64)))))) + (Int.fdiv (IntKind.wrap .u64 ((andI .u64 (IntKind.wrap .u64 ((Int.fdiv (IntKind.wrap .u64 ((andI .u64 (Int.fdiv (IntKind.wrap .u64 ((andI .u64 (Int.fdiv x1 (2 ^ (min (Int.toNat 1) (IntKind.bits .u64)))) 6148914691236517205) + (andI .u64 x1 6148914691236517205))) (2 ^ (min (Int.toNat 2) (IntKind.bits .u64)))) 3689348814741910323) + (andI .u64 (IntKind.wrap .u64 ((andI .u64 (Int.fdiv x1 (2 ^ (min (Int.toNat 1) (IntKind.bits .u64)))) 6148914691236517205) + (andI .u64 x1 6148914691236517205))) 3689348814741910323))) (2 ^ (min (Int.toNat 4) (IntKind.bits .u64)))) + (IntKind.wrap .u64 ((andI .u64 (Int.fdiv (IntKind.wrap .u64 ((andI .u64 (Int.fdiv x1 (2 ^ (min (Int.toNat 1) (IntKind.bits .u64)))) 6148914691236517205) + (andI .u64 x1 6148914691236517205))) (2 ^ (min (Int.toNat 2) (IntKind.bits .u64)))) 3689348814741910323) + (andI .u64 (IntKind.wrap .u64 ((andI .u64 (Int.fdiv x1 (2 ^ (min (Int.toNat 1) (IntKind.bits .u64)))) 6148914691236517205) + (andI .u64 x1 6148914691236517205))) 3689348814741910323))))) 1085102592571150095) + (Int.fdiv (andI .u64 (IntKind.wrap .u64 ((Int.fdiv (IntKind.wrap .u64 ((andI .u64 (Int.fdiv (IntKind.wrap .u64 ((andI .u64 (Int.fdiv x1 (2 ^ (min (Int.toNat 1) (IntKind.bits .u64)))) 6148914691236517205) + (andI .u64 x1 6148914691236517205))) (2 ^ (min (Int.toNat 2) (IntKind.bits .u64)))) 3689348814741910323) + (andI .u64 (IntKind.wrap .u64 ((andI .u64 (Int.fdiv x1 (2 ^ (min (Int.toNat 1) (IntKind.bits .u64)))) 6148914691236517205) + (andI .u64 x1 6148914691236517205))) 3689348814741910323))) (2 ^ (min (Int.toNat 4) (IntKind.bits .u64)))) + (IntKind.wrap .u64 ((andI .u64 (Int.fdiv (IntKind.wrap .u64 ((andI .u64 (Int.fdiv x1 (2 ^ (min (Int.toNat 1) (IntKind.bits .u64)))) 6148914691236517205) + (andI .u64 x1 6148914691236517205))) (2 ^ (min (Int.toNat 2) (IntKind.bits .u64)))) 3689348814741910323) + (andI .u64 (IntKind.wrap .u64 ((andI .u64 (Int.fdiv x1 (2 ^ (min (Int.toNat 1) (IntKind.bits .u64)))) 6148914691236517205) + (andI .u64 x1 6148914691236517205))) 3689348814741910323))))) 1085102592571150095) (2 ^ (min (Int.toNat 8) (IntKind.bits .u64)))))) (2 ^ (min (Int.toNat 16) (IntKind.bits .u64)))))) (2 ^ (min (Int.toNat 32) (IntKind.bits .u64))))))) 127))), rfl, fun _ _ _ _ h => h, trivial, fun k hk => memOf_base hk⟩
theorem bits_OnesCount_walk {P : Program} {c : Nat} {f_bits_OnesCount64 : Int → Option Int}
    (H_bits_OnesCount64 : K_bits_OnesCount64 P 78 f_bits_OnesCount64) (hcf : compFn P c = some F_bits_OnesCount) : K_bits_OnesCount P c (f_bits_OnesCount f_bits_OnesCount64) := by
 intro x1 r h
 refine fn_trP hcf rfl fun Γ M hP hnt hM => ?_
 subst hP
 refine Tr.init [(0, .d (.int .u64 x1))] rfl ?_
 unfold f_bits_OnesCount at h
 unfold F_bits_OnesCount
 refine sr ((md rfl (nt ((Tr.seq (Tr.condF rfl rfl (Tr.skip (toN (sr ((md rfl ?_)))))))))))
 obtain ⟨x3, h2, h⟩ := bnd h
 refine Rn.call (args := [.d (.int .u64 x1)]) trivial rfl (H_bits_OnesCount64 _ _ h2) pc9 (md rfl (nt ((Tr.ret ?_))))
 replace h := si h; subst h
 exact ⟨.inr rfl, (.d (.int .i64 x3)), rfl, fun _ _ _ _ h => h, trivial, fun k hk => memOf_base hk⟩
theorem requirement_AtMost_1_walk {P : Program} {c : Nat} {f_slices_Index_int : (List Int) → Int → Option Int} {f_bits_OnesCount : Int → Option Int}
    (H_slices_Index_int : K_slices_Index_int P 52 f_slices_Index_int)
    (H_bits_OnesCount : K_bits_OnesCount P 53 f_bits_OnesCount) (hcf : compFn P c = some F_requirement_AtMost_1) : K_requirement_AtMost_1 P c (f_requirement_AtMost_1 f_slices_Index_int f_bits_OnesCount) := by
 intro state1 event2 x3 x6 k4 k7 r h
 intro M nb hk5 hk8
 refine fn_trM hcf rfl M nb fun Γ hP hnt hn0 hM => ?_
 subst hP hn0
 refine Tr.init [(0, .d (.int .i64 state1)), (1, .d (.int .i64 event2)), (2, .ptr k4 0), (3, .ptr k7 0)] rfl ?_
 unfold f_requirement_AtMost_1 at h
 unfold F_requirement_AtMost_1
 refine sr ((md rfl (md rfl (nt ((sr ((Rn.load (v := .d (.lst 1 (List.map (eI .i64) x3))) trivial rfl (baseMem hM hk5) rfl rfl (md rfl ?_)))))))))
 obtain ⟨x10, h9, h⟩ := bnd h
 refine Rn.call (args := [.d (.lst 1 (List.map (eI .i64) x3)), .d (.int .i64 event2)]) trivial rfl (H_slices_Index_int _ _ _ h9) pc9 (md rfl (nt ((sr ((md rfl (Rn.bin trivial rfl rfl rfl ?_)))))))
 obtain ⟨s11, h12, h⟩ := bnd h
 refine Rn.bin trivial rfl rfl (shl_bin h12) (md rfl (nt ((Tr.seq (sr ((md rfl (Rn.bin trivial rfl rfl rfl (Rn.bin trivial rfl rfl rfl (Rn.nil (toN ?_)))))))))))
 refine Tr.cond rfl (fun hb13 => ?_) (fun hb13 => ?_)
 ·replace h := bT hb13 h
  refine Tr.seq ?_
  refine Tr.rgnD (by decide) ?_
  refine md rfl (md rfl (Rn.bin trivial rfl rfl rfl (md rfl (md rfl (Rn.bin trivial rfl rfl rfl (Rn.bin trivial rfl rfl rfl (md rfl ?_)))))))
  refine bsplit ((andI .i64 state1 s11) == 0) (fun hb14 => ?_) (fun hb14 => ?_)
  ·replace h := bT hb14 h
   refine Rn.movD (gw rfl hb14) rfl (Rn.conv (gw rfl hb14) rfl ?_)
   obtain ⟨x16, h15, h⟩ := bnd h
   refine Rn.call (args := [.d (.int .u64 (IntKind.wrap .u64 state1))]) (gw rfl hb14) rfl (H_bits_OnesCount _ _ h15) (fun _ => memOut hM rfl) (Rn.load (v := .d (.int .i64 x6)) (gw rfl hb14) rfl (baseMem hM hk8) rfl rfl (Rn.bin (gw rfl hb14) rfl rfl rfl (Rn.pickT (v := .d (.bool (decide (x16 < x6)))) trivial rfl hb14 rfl (md rfl (md rfl ?_)))))
   refine Rn.nil ⟨rfl, ?_⟩
   refine toN (Tr.ret ?_)
   replace h := si h; subst h
   exact ⟨.inr rfl, .tup [.d (.int .i64 (orI .i64 state1 s11)), .d (.bool (decide (x16 < x6)))], res2 rfl rfl, (WkV.tup (.cons (.same rfl) (.cons (.same rfl) .nil))).rd, ⟨trivial, trivial, trivial⟩, fun k hk => memOf_base hk⟩
  ·replace h := bF hb14 h
   refine Rn.sk (nw rfl hb14) (Rn.sk (nw rfl hb14) (Rn.sk (nw rfl hb14) (Rn.sk (nw rfl hb14) (Rn.sk (nw rfl hb14) (Rn.pickF (v := .d (.bool false)) trivial rfl hb14 rfl (md rfl (md rfl ?_)))))))
   refine Rn.nil ⟨rfl, ?_⟩
   refine toN (Tr.ret ?_)
   replace h := si h; subst h
   exact ⟨.inr rfl, .tup [.d (.int .i64 (orI .i64 state1 s11)), .d (.bool false)], res2 rfl rfl, (WkV.tup (.cons (.same rfl) (.cons (.same rfl) .nil))).rd, ⟨trivial, trivial, trivial⟩, fun k hk => memOf_base hk⟩
 ·replace h := bF hb13 h
  refine Tr.skip (toN (sr ((md rfl (md rfl (Rn.bin trivial rfl rfl rfl (md rfl (md rfl (Rn.bin trivial rfl rfl rfl (Rn.bin trivial rfl rfl rfl (md rfl (md rfl (nt ((Tr.ret ?_)))))))))))))))
  replace h := si h; subst h
  exact ⟨.inr rfl, .tup [.d (.int .i64 (andNotI .i64 state1 s11)), .d (.bool ((andI .i64 state1 s11) != 0))], res2 rfl rfl, (WkV.tup (.cons (.same rfl) (.cons (.same rfl) .nil))).rd, ⟨trivial, trivial, trivial⟩, fun k hk => memOf_base hk⟩
theorem requirement_all_walk {P : Program} {c : Nat} (hcf : compFn P c = some F_requirement_all) : K_requirement_all P c (f_requirement_all) := by
 intro x1 r h
 refine fn_trP hcf rfl fun Γ M hP hnt hM => ?_
 subst hP
 refine Tr.init [(0, .d (.int .i64 x1))] rfl ?_
 unfold f_requirement_all at h
 unfold F_requirement_all
 refine sr ((md rfl (nt ((sr ((md rfl (nt ((Tr.ret ?_))))))))))
 replace h := si h; subst h
 exact ⟨.inr rfl, (.d (.bool true)), rfl, fun _ _ _ _ h => h, trivial, fun k hk => memOf_base hk⟩
theorem requirement_AtMost_walk {P : Program} {c : Nat} {f_requirement_distinct : (List Int) → Option Int} {f_requirement_explore : (List Int) → (Int → Option Bool) → (Int → Int → Option (Int × Bool)) → Option api_Automaton} {f_requirement_sorted : (List Int) → Option ((List Int))} {f_requirement_all : Int → Option Bool} {f_requirement_AtMost_1 : Int → Int → (List Int) → Int → Option (Int × Bool)}
    (H_requirement_distinct : K_requirement_distinct P 47 f_requirement_distinct)
    (H_requirement_explore : K_requirement_explore P 48 f_requirement_explore)
    (H_requirement_sorted : K_requirement_sorted P 49 f_requirement_sorted)
    (H_requirement_all : K_requirement_all P 50 f_requirement_all)
    (H_requirement_AtMost_1 : K_requirement_AtMost_1 P 51 f_requirement_AtMost_1) (hcf : compFn P c = some F_requirement_AtMost) (fuel : Nat) : K_requirement_AtMost P c (f_requirement_AtMost f_requirement_distinct f_requirement_explore f_requirement_sorted f_requirement_all f_requirement_AtMost_1 fuel) := by
 intro phases1 most2 r h
 refine fn_trP hcf rfl fun Γ M hP hnt hM => ?_
 subst hP
 refine Tr.init [(0, .d (.lst 2 (List.map e_requirement_Phase phases1))), (1, .d (.int .i64 most2))] rfl ?_
 unfold f_requirement_AtMost at h
 unfold F_requirement_AtMost
 refine sr ((Rn.box (v := .d (.int .i64 most2)) (cs := [.d (.int .i64 most2)]) trivial rfl rfl rfl rfl rfl (Rn.alloc trivial rfl (md rfl (nt ((Tr.seq (sr ((md rfl (Rn.lenD trivial rfl (Rn.bin trivial rfl rfl rfl (Rn.nil (toN ?_))))))))))))))
 refine Tr.cond rfl (fun hb3 => ?_) (fun hb3 => ?_)
 ·replace h := ifT hb3 h
  refine sr ((Rn.build (v := .agg [.nils 1, .d (.int .i64 0), .nils 1, .nils 3]) trivial rfl (Rn.store (v := .agg [.nils 1, .d (.int .i64 0), .nils 1, .nils 3]) (cs' := [.nils 1, .d (.int .i64 0), .nils 1, .nils 3]) trivial rfl rfl rfl rfl rfl rfl (md rfl (nt ((Tr.ret ?_)))))))
  replace h := si h; subst h
  exact ⟨.inr rfl, .tup [.agg [.nils 1, .d (.int .i64 0), .nils 1, .nils 3], .d (.int .i64 3)], res2 (resCell rfl rfl rfl rfl) rfl, (WkV.tup (.cons (WkV.agg (.cons (WkV.nilsD _) (.cons (.same rfl) (.cons (WkV.nilsD _) (.cons (WkV.nilsD _) .nil))))) (.cons (.same rfl) .nil))).rd, ⟨⟨trivial, trivial, trivial, trivial, trivial⟩, trivial, trivial⟩, fun k hk => memOf_base hk⟩
 ·replace h := ifF hb3 h
  refine Tr.skip (toN (sr ((Rn.alloc trivial rfl (Rn.nil (toN ?_))))))
  refine Tr.cutB (fun ((c15, c16, c17, events18) : (List Int) × (List Int) × (List api_Edge) × (List Int)) => ⟨look [(0, .d (.lst 2 (List.map e_requirement_Phase phases1))), (3, .ptr (Γ.n0 + 3) 0), (4, .ptr (Γ.n0 + 4) 0), (6, .ptr (Γ.n0 + 6) 0)], memOf Γ.n0 (bxs [(3, .cells ([.d (.int .i64 most2)])), (4, .cells ([.own 1 (List.map (eI .i64) c15), .d (.int .i64 0), .own 1 (List.map (eI .i64) c16), .own 3 (List.map e_api_Edge c17)])), (6, .cells ([.own 1 (List.map (eI .i64) events18)]))]) M, Γ.n0 + 47⟩) h (fun z h => ?_) (fun z h => ?_)
  ·refine sr ((md rfl (Rn.lenD trivial rfl (md rfl (nt ((Tr.block ?_)))))))
   refine Tr.loop (mk := fun ((x4, c5, c6, c7, events8) : Int × (List Int) × (List Int) × (List api_Edge) × (List Int)) => ⟨look [(0, .d (.lst 2 (List.map e_requirement_Phase phases1))), (3, .ptr (Γ.n0 + 3) 0), (4, .ptr (Γ.n0 + 4) 0), (6, .ptr (Γ.n0 + 6) 0), (14, .d (.lst 2 (List.map e_requirement_Phase phases1))), (15, .d (.int .i64 (phases1.length : Int))), (16, .d (.int .i64 x4))], memOf Γ.n0 (bxs [(3, .cells ([.d (.int .i64 most2)])), (4, .cells ([.own 1 (List.map (eI .i64) c5), .d (.int .i64 0), .own 1 (List.map (eI .i64) c6), .own 3 (List.map e_api_Edge c7)])), (6, .cells ([.own 1 (List.map (eI .i64) events8)]))]) M, Γ.n0 + 47⟩) h (by show WeakSt Γ (clean _ _ _) ⟨look _, memOf _ (bxs _) _, _⟩; exact weak_clean ⟨(.same rfl), ⟨(kPtr rfl), ⟨(kPtr rfl), ⟨(kPtr rfl), ⟨(.same rfl), ⟨(.same rfl), ⟨(.same rfl), trivial⟩⟩⟩⟩⟩⟩⟩ ⟨⟨_, rfl, rfl, (.same rfl)⟩, ⟨⟨_, rfl, rfl, (.cons (WkV.nilsO _) (.cons (.same rfl) (.cons (WkV.nilsO _) (.cons (WkV.nilsO _) .nil))))⟩, ⟨⟨_, rfl, rfl, (.cons (WkV.nilsO _) .nil)⟩, trivial⟩⟩⟩ rfl) (fun k9 z h => ?_)
   ·obtain ⟨x4, c5, c6, c7, events8⟩ := z
    replace h : _ = some _ := h
    refine sr ((Rn.bin trivial rfl rfl rfl (nt ((Tr.seq ?_)))))
    refine Tr.cond rfl (fun hb10 => ?_) (fun hb10 => ?_)
    ·replace h := ifT hb10 h
     refine Tr.skip (toN (Tr.seq (Tr.block (Tr.seq (Tr.rgn ?_)))))
     obtain ⟨x11, h12, h⟩ := bnd h
     refine Rn.idxD (e := e_requirement_Phase) trivial rfl rfl h12 (Rn.loadCA (vs := [.d (.int .i64 x11.Enter), .d (.int .i64 x11.Leave)]) trivial rfl rfl rfl (Rn.alloc trivial rfl (Rn.store (v := .agg [.d (.int .i64 x11.Enter), .d (.int .i64 x11.Leave)]) (cs' := [.d (.int .i64 x11.Enter), .d (.int .i64 x11.Leave)]) trivial rfl rfl rfl rfl rfl rfl (nt ((Tr.rgn (Rn.loadT (cs' := [.d (.lst 1 (List.map (eI .i64) events8))]) trivial rfl rfl rfl rfl (Rn.fldP (o' := 0) trivial rfl rfl (Rn.load (v := .d (.int .i64 x11.Enter)) trivial rfl (boxOwn rfl) rfl rfl (Rn.fldP (o' := 1) trivial rfl rfl (Rn.load (v := .d (.int .i64 x11.Leave)) trivial rfl (boxOwn rfl) rfl rfl (Rn.bslice (xs := [.d (.int .i64 x11.Enter), .d (.int .i64 x11.Leave)]) (cs := [.d (.int .i64 x11.Enter), .d (.int .i64 x11.Leave)]) trivial rfl rfl rfl rfl ?_))))))))))))
     obtain ⟨x13, h14, h⟩ := bnd h
     refine Rn.app (e := (eI .i64)) trivial rfl rfl rfl (elems_box rfl rfl rfl) h14 rfl (Rn.storeO (cs' := [.own 1 (List.map (eI .i64) x13)]) trivial rfl rfl rfl rfl rfl (nt ((Tr.rgn (Rn.bin trivial rfl rfl rfl (md rfl (Rn.nil ?_)))))))
     exact ⟨_, h, (by show WeakSt Γ (clean _ _ _) ⟨look _, memOf _ (bxs _) _, _⟩; exact weak_clean ⟨(.same rfl), ⟨(kPtr rfl), ⟨(kPtr rfl), ⟨(kPtr rfl), ⟨(.same rfl), ⟨(.same rfl), ⟨(.same rfl), trivial⟩⟩⟩⟩⟩⟩⟩ ⟨⟨_, rfl, rfl, (.same rfl)⟩, ⟨⟨_, rfl, rfl, (.same rfl)⟩, ⟨⟨_, rfl, rfl, (.same rfl)⟩, trivial⟩⟩⟩ rfl)⟩
    ·replace h := ifF hb10 h
     refine Tr.exit ?_
     replace h := si h; subst h
     show WeakSt Γ _ ⟨look _, memOf _ (bxs _) _, _⟩; exact weak_cut [] ⟨(.same rfl), ⟨(kPtr rfl), ⟨(kPtr rfl), ⟨(kPtr rfl), trivial⟩⟩⟩⟩ ⟨⟨_, rfl, rfl, (.same rfl)⟩, ⟨⟨_, rfl, rfl, (.same rfl)⟩, ⟨⟨_, rfl, rfl, (.same rfl)⟩, trivial⟩⟩⟩ rfl
  ·obtain ⟨c15, c16, c17, events18⟩ := z
   refine Tr.seq (sr ((Rn.load (v := .d (.lst 1 (List.map (eI .i64) events18))) trivial rfl (boxOwn rfl) rfl rfl ?_)))
   obtain ⟨x20, h19, h⟩ := bnd h
   refine Rn.call (args := [.d (.lst 1 (List.map (eI .i64) events18))]) trivial rfl (H_requirement_distinct _ _ h19) pc9 (md rfl (nt ((sr ((md rfl (Rn.bin trivial rfl rfl rfl (Rn.nil (toN ?_)))))))))
   refine Tr.cond rfl (fun hb21 => ?_) (fun hb21 => ?_)
   ·replace h := bT hb21 h
    refine sr ((Rn.build (v := .agg [.nils 1, .d (.int .i64 0), .nils 1, .nils 3]) trivial rfl (md rfl (Rn.store (v := .agg [.nils 1, .d (.int .i64 0), .nils 1, .nils 3]) (cs' := [.nils 1, .d (.int .i64 0), .nils 1, .nils 3]) trivial rfl rfl rfl rfl rfl rfl (md rfl (nt ((Tr.ret ?_))))))))
    replace h := si h; subst h
    exact ⟨.inr rfl, .tup [.agg [.nils 1, .d (.int .i64 0), .nils 1, .nils 3], .d (.int .i64 x20)], res2 (resCell rfl rfl rfl rfl) rfl, (WkV.tup (.cons (WkV.agg (.cons (WkV.nilsD _) (.cons (.same rfl) (.cons (WkV.nilsD _) (.cons (WkV.nilsD _) .nil))))) (.cons (.same rfl) .nil))).rd, ⟨⟨trivial, trivial, trivial, trivial, trivial⟩, trivial, trivial⟩, fun k hk => memOf_base hk⟩
   ·replace h := bF hb21 h
    refine Tr.skip (toN (Tr.seq ?_))
    refine Tr.cutB (fun (x23 : Bool) => ⟨look [(3, .ptr (Γ.n0 + 3) 0), (4, .ptr (Γ.n0 + 4) 0), (6, .ptr (Γ.n0 + 6) 0), (41, .d (.bool x23))], memOf Γ.n0 (bxs [(3, .cells ([.d (.int .i64 most2)])), (4, .cells ([.own 1 (List.map (eI .i64) c15), .d (.int .i64 0), .own 1 (List.map (eI .i64) c16), .own 3 (List.map e_api_Edge c17)])), (6, .cells ([.own 1 (List.map (eI .i64) events18)]))]) M, Γ.n0 + 47⟩) h (fun z h => ?_) (fun z h => ?_)
    ·refine Tr.rgn (Rn.load (v := .d (.int .i64 most2)) trivial rfl (boxOwn rfl) rfl rfl (Rn.bin trivial rfl rfl rfl (md rfl ?_)))
     refine bsplit (decide (most2 < 0)) (fun hb22 => ?_) (fun hb22 => ?_)
     ·replace h := ifT hb22 h
      refine Rn.sk (nw rfl hb22) (Rn.sk (nw rfl hb22) (Rn.sk (nw rfl hb22) (Rn.sk (nw rfl hb22) (Rn.pickT (v := .d (.bool true)) trivial rfl hb22 rfl (Rn.nil ?_)))))
      replace h := si h; subst h
      show WeakSt Γ _ ⟨look _, memOf _ (bxs _) _, _⟩; exact weak_cut [] ⟨(kPtr rfl), ⟨(kPtr rfl), ⟨(kPtr rfl), ⟨(.same rfl), trivial⟩⟩⟩⟩ ⟨⟨_, rfl, rfl, (.same rfl)⟩, ⟨⟨_, rfl, rfl, (.same rfl)⟩, ⟨⟨_, rfl, rfl, (.same rfl)⟩, trivial⟩⟩⟩ rfl
     ·replace h := ifF hb22 h
      refine Rn.load (v := .d (.int .i64 most2)) (gw rfl hb22) rfl (boxOwn rfl) rfl rfl (Rn.movD (gw rfl hb22) rfl (Rn.lenD (gw rfl hb22) rfl (Rn.bin (gw rfl hb22) rfl rfl rfl (Rn.pickF (v := .d (.bool (decide (most2 > (phases1.length : Int))))) trivial rfl hb22 rfl (Rn.nil ?_)))))
      replace h := si h; subst h
      show WeakSt Γ _ ⟨look _, memOf _ (bxs _) _, _⟩; exact weak_cut [] ⟨(kPtr rfl), ⟨(kPtr rfl), ⟨(kPtr rfl), ⟨(.same rfl), trivial⟩⟩⟩⟩ ⟨⟨_, rfl, rfl, (.same rfl)⟩, ⟨⟨_, rfl, rfl, (.same rfl)⟩, ⟨⟨_, rfl, rfl, (.same rfl)⟩, trivial⟩⟩⟩ rfl
    ·obtain ⟨x23, rfl⟩ : ∃ x, x = z := ⟨_, rfl⟩
     refine Tr.cond rfl (fun hb24 => ?_) (fun hb24 => ?_)
     ·replace h := bT hb24 h
      refine sr ((Rn.build (v := .agg [.nils 1, .d (.int .i64 0), .nils 1, .nils 3]) trivial rfl (Rn.store (v := .agg [.nils 1, .d (.int .i64 0), .nils 1, .nils 3]) (cs' := [.nils 1, .d (.int .i64 0), .nils 1, .nils 3]) trivial rfl rfl rfl rfl rfl rfl (md rfl (nt ((Tr.ret ?_)))))))
      replace h := si h; subst h
      exact ⟨.inr rfl, .tup [.agg [.nils 1, .d (.int .i64 0), .nils 1, .nils 3], .d (.int .i64 2)], res2 (resCell rfl rfl rfl rfl) rfl, (WkV.tup (.cons (WkV.agg (.cons (WkV.nilsD _) (.cons (.same rfl) (.cons (WkV.nilsD _) (.cons (WkV.nilsD _) .nil))))) (.cons (.same rfl) .nil))).rd, ⟨⟨trivial, trivial, trivial, trivial, trivial⟩, trivial, trivial⟩, fun k hk => memOf_base hk⟩
     ·replace h := bF hb24 h
      refine Tr.skip (toN (sr ((Rn.load (v := .d (.lst 1 (List.map (eI .i64) events18))) trivial rfl (boxOwn rfl) rfl rfl ?_))))
      obtain ⟨x26, h25, h⟩ := bnd h
      refine Rn.call (args := [.d (.lst 1 (List.map (eI .i64) events18))]) trivial rfl (H_requirement_sorted _ _ h25) pc9 (Rn.k (v := .clo 51 [.ptr (Γ.n0 + 6) 0, .ptr (Γ.n0 + 3) 0]) trivial rfl rfl rfl ?_)
      refine Rn.weak (by show WeakSt Γ _ ⟨look [(3, .ptr (Γ.n0 + 3) 0), (4, .ptr (Γ.n0 + 4) 0), (6, .ptr (Γ.n0 + 6) 0), (41, .d (.bool x23)), (43, .d (.lst 1 (List.map (eI .i64) events18))), (44, .d (.lst 1 (List.map (eI .i64) x26))), (45, .clo 51 [.ptr (Γ.n0 + 6) 0, .ptr (Γ.n0 + 3) 0])], memOf Γ.n0 (bxs [(3, .cells ([.d (.int .i64 most2)])), (4, .cells ([.own 1 (List.map (eI .i64) c15), .d (.int .i64 0), .own 1 (List.map (eI .i64) c16), .own 3 (List.map e_api_Edge c17)])), (6, .cells ([.d (.lst 1 (List.map (eI .i64) events18))]))]) M, Γ.n0 + 47⟩; exact weak_cut [] ⟨(kPtr rfl), ⟨(kPtr rfl), ⟨(kPtr rfl), ⟨(.same rfl), ⟨(.same rfl), ⟨(.same rfl), ⟨(kClo (kgPtr rfl (kgPtr rfl kgNil))), trivial⟩⟩⟩⟩⟩⟩⟩ ⟨⟨_, rfl, rfl, (.same rfl)⟩, ⟨⟨_, rfl, rfl, (.same rfl)⟩, ⟨⟨_, rfl, rfl, (.cons (WkV.dem' rfl) .nil)⟩, trivial⟩⟩⟩ rfl) ?_
      obtain ⟨x35, h34, h⟩ := bnd h
      refine Rn.callM (args := [.d (.lst 1 (List.map (eI .i64) x26)), .clo 50 [], .clo 51 [.ptr (Γ.n0 + 6) 0, .ptr (Γ.n0 + 3) 0]]) trivial rfl (fun M2 nb2 hn hx => H_requirement_explore _ _ _ 50 [] 51 [.ptr (Γ.n0 + 6) 0, .ptr (Γ.n0 + 3) 0] _ h34 M2 nb2 rfl trivial (fun a27 r28 h29 M3 nb3 hn3 hx3 => H_requirement_all a27 r28 h29 M3 nb3 ) rfl ⟨thereOf (hx _ _ (boxOwn rfl)), thereOf (hx _ _ (boxOwn rfl)), trivial⟩ (fun a30 a31 r32 h33 M3 nb3 hn3 hx3 => H_requirement_AtMost_1 a30 a31 events18 most2 (Γ.n0 + 6) (Γ.n0 + 3) r32 h33 M3 nb3 ((hx.trans hx3) _ _ (boxOwn rfl)) ((hx.trans hx3) _ _ (boxOwn rfl)))) rfl pc9 ?_
      refine Rn.store (v := .agg [.d (.lst 1 (List.map (eI .i64) x35.Alphabet)), .d (.int .i64 x35.States), .d (.lst 1 (List.map (eI .i64) x35.Marked)), .d (.lst 3 (List.map e_api_Edge x35.Edges))]) (cs' := [.d (.lst 1 (List.map (eI .i64) x35.Alphabet)), .d (.int .i64 x35.States), .d (.lst 1 (List.map (eI .i64) x35.Marked)), .d (.lst 3 (List.map e_api_Edge x35.Edges))]) trivial rfl rfl rfl rfl rfl rfl (md rfl (nt ((Tr.ret ?_))))
      replace h := si h; subst h
      exact ⟨.inr rfl, .tup [.agg [.d (.lst 1 (List.map (eI .i64) x35.Alphabet)), .d (.int .i64 x35.States), .d (.lst 1 (List.map (eI .i64) x35.Marked)), .d (.lst 3 (List.map e_api_Edge x35.Edges))], .d (.int .i64 0)], res2 (resCell rfl rfl rfl rfl) rfl, (WkV.tup (.cons (.same rfl) (.cons (.same rfl) .nil))).rd, ⟨⟨trivial, trivial, trivial, trivial, trivial⟩, trivial, trivial⟩, fun k hk => memOf_base hk⟩
theorem automaton_checkSet_walk {P : Program} {c : Nat} (hcf : compFn P c = some F_automaton_checkSet) (fuel : Nat) : K_automaton_checkSet P c (f_automaton_checkSet fuel) := by
 intro l1 n2 r h
 refine fn_trP hcf rfl fun Γ M hP hnt hM => ?_
 subst hP
 refine Tr.init [(0, .d (.lst 1 (List.map (eI .i64) l1))), (1, .d (.int .i64 n2))] rfl ?_
 unfold f_automaton_checkSet at h
 unfold F_automaton_checkSet
 refine sr ((md rfl (nt ((Tr.seq (sr ((md rfl (Rn.lenD trivial rfl (md rfl (nt ((Tr.block ?_)))))))))))))
 refine Tr.loop (mk := fun (x3 : Int) => ⟨look [(0, .d (.lst 1 (List.map (eI .i64) l1))), (1, .d (.int .i64 n2)), (7, .d (.lst 1 (List.map (eI .i64) l1))), (8, .d (.int .i64 (l1.length : Int))), (9, .d (.int .i64 x3))], memOf Γ.n0 (bxs []) M, Γ.n0 + 35⟩) h (by show WeakSt Γ (clean _ _ _) ⟨look _, memOf _ (bxs _) _, _⟩; exact weak_clean ⟨(.same rfl), ⟨(.same rfl), ⟨(.same rfl), ⟨(.same rfl), ⟨(.same rfl), trivial⟩⟩⟩⟩⟩ trivial rfl) (fun k4 z h => ?_)
 ·obtain ⟨x3, rfl⟩ : ∃ x, x = z := ⟨_, rfl⟩
  replace h : _ = some _ := h
  refine sr ((Rn.bin trivial rfl rfl rfl (nt ((Tr.seq ?_)))))
  refine Tr.cond rfl (fun hb5 => ?_) (fun hb5 => ?_)
  ·replace h := ifT hb5 h
   refine Tr.skip (toN (Tr.seq (Tr.block (sr ((md rfl ?_))))))
   obtain ⟨x6, h7, h⟩ := bnd h
   refine Rn.idxD (e := (eI .i64)) trivial rfl rfl h7 (Rn.loadC (x := .int .i64 x6) trivial rfl (md rfl (md rfl (nt ((Tr.block ?_))))))
   refine Tr.cutB (fun (x9 : Bool) => ⟨look [(0, .d (.lst 1 (List.map (eI .i64) l1))), (1, .d (.int .i64 n2)), (5, .d (.int .i64 x3)), (6, .d (.int .i64 x6)), (7, .d (.lst 1 (List.map (eI .i64) l1))), (8, .d (.int .i64 (l1.length : Int))), (9, .d (.int .i64 x3)), (14, .d (.bool x9))], memOf Γ.n0 (bxs []) M, Γ.n0 + 35⟩) h (fun z h => ?_) (fun z h => ?_)
   ·refine Tr.rgn (md rfl (Rn.bin trivial rfl rfl rfl (md rfl ?_)))
    refine bsplit (decide (x6 < 0)) (fun hb8 => ?_) (fun hb8 => ?_)
    ·replace h := ifT hb8 h
     refine Rn.sk (nw rfl hb8) (Rn.sk (nw rfl hb8) (Rn.sk (nw rfl hb8) (Rn.pickT (v := .d (.bool true)) trivial rfl hb8 rfl (md rfl (Rn.nil ?_)))))
     replace h := si h; subst h
     show WeakSt Γ _ ⟨look _, memOf _ (bxs _) _, _⟩; exact weak_cut [] ⟨(.same rfl), ⟨(.same rfl), ⟨(.same rfl), ⟨(.same rfl), ⟨(.same rfl), ⟨(.same rfl), ⟨(.same rfl), ⟨(.same rfl), trivial⟩⟩⟩⟩⟩⟩⟩⟩ trivial rfl
    ·replace h := ifF hb8 h
     refine Rn.movD (gw rfl hb8) rfl (Rn.movD (gw rfl hb8) rfl (Rn.bin (gw rfl hb8) rfl rfl rfl (Rn.pickF (v := .d (.bool (decide (x6 ≥ n2)))) trivial rfl hb8 rfl (md rfl (Rn.nil ?_)))))
     replace h := si h; subst h
     show WeakSt Γ _ ⟨look _, memOf _ (bxs _) _, _⟩; exact weak_cut [] ⟨(.same rfl), ⟨(.same rfl), ⟨(.same rfl), ⟨(.same rfl), ⟨(.same rfl), ⟨(.same rfl), ⟨(.same rfl), ⟨(.same rfl), trivial⟩⟩⟩⟩⟩⟩⟩⟩ trivial rfl
   ·obtain ⟨x9, rfl⟩ : ∃ x, x = z := ⟨_, rfl⟩
    refine Tr.cond rfl (fun hb10 => ?_) (fun hb10 => ?_)
    ·replace h := bT hb10 h
     refine sr ((md rfl (nt ((Tr.ret ?_)))))
     replace h := si h; subst h
     exact ⟨.inr rfl, (.d (.int .i64 2)), rfl, fun _ _ _ _ h => h, trivial, fun k hk => memOf_base hk⟩
    ·replace h := bF hb10 h
     refine Tr.cutB (fun (x14 : Bool) => ⟨look [(0, .d (.lst 1 (List.map (eI .i64) l1))), (1, .d (.int .i64 n2)), (7, .d (.lst 1 (List.map (eI .i64) l1))), (8, .d (.int .i64 (l1.length : Int))), (9, .d (.int .i64 x3)), (22, .d (.bool x14))], memOf Γ.n0 (bxs []) M, Γ.n0 + 35⟩) h (fun z h => ?_) (fun z h => ?_)
     ·refine Tr.rgn (md rfl (Rn.bin trivial rfl rfl rfl (md rfl ?_)))
      refine bsplit (decide (x3 > 0)) (fun hb11 => ?_) (fun hb11 => ?_)
      ·replace h := ifT hb11 h
       refine Rn.movD (gw rfl hb11) rfl (Rn.movD (gw rfl hb11) rfl (Rn.movD (gw rfl hb11) rfl (Rn.bin (gw rfl hb11) rfl rfl rfl ?_)))
       obtain ⟨x12, h13, h⟩ := bnd h
       refine Rn.idxD (e := (eI .i64)) (gw rfl hb11) rfl rfl h13 (Rn.loadC (x := .int .i64 x12) (gw rfl hb11) rfl (Rn.bin (gw rfl hb11) rfl rfl rfl (Rn.pickT (v := .d (.bool (decide (x6 ≤ x12)))) trivial rfl hb11 rfl (md rfl (Rn.nil ?_)))))
       replace h := si h; subst h
       show WeakSt Γ _ ⟨look _, memOf _ (bxs _) _, _⟩; exact weak_cut [] ⟨(.same rfl), ⟨(.same rfl), ⟨(.same rfl), ⟨(.same rfl), ⟨(.same rfl), ⟨(.same rfl), trivial⟩⟩⟩⟩⟩⟩ trivial rfl
      ·replace h := ifF hb11 h
       refine Rn.sk (nw rfl hb11) (Rn.sk (nw rfl hb11) (Rn.sk (nw rfl hb11) (Rn.sk (nw rfl hb11) (Rn.sk (nw rfl hb11) (Rn.sk (nw rfl hb11) (Rn.sk (nw rfl hb11) (Rn.pickF (v := .d (.bool false)) trivial rfl hb11 rfl (md rfl (Rn.nil ?_)))))))))
       replace h := si h; subst h
       show WeakSt Γ _ ⟨look _, memOf _ (bxs _) _, _⟩; exact weak_cut [] ⟨(.same rfl), ⟨(.same rfl), ⟨(.same rfl), ⟨(.same rfl), ⟨(.same rfl), ⟨(.same rfl), trivial⟩⟩⟩⟩⟩⟩ trivial rfl
     ·obtain ⟨x14, rfl⟩ : ∃ x, x = z := ⟨_, rfl⟩
      refine Tr.cond rfl (fun hb15 => ?_) (fun hb15 => ?_)
      ·replace h := bT hb15 h
       refine sr ((md rfl (nt ((Tr.ret ?_)))))
       replace h := si h; subst h
       exact ⟨.inr rfl, (.d (.int .i64 5)), rfl, fun _ _ _ _ h => h, trivial, fun k hk => memOf_base hk⟩
      ·replace h := bF hb15 h
       refine Tr.skip (toN (Tr.rgn (Rn.bin trivial rfl rfl rfl (md rfl (Rn.nil ?_)))))
       exact ⟨_, h, (by show WeakSt Γ (clean _ _ _) ⟨look _, memOf _ (bxs _) _, _⟩; exact weak_clean ⟨(.same rfl), ⟨(.same rfl), ⟨(.same rfl), ⟨(.same rfl), ⟨(.same rfl), trivial⟩⟩⟩⟩⟩ trivial rfl)⟩
  ·replace h := ifF hb5 h
   refine Tr.exit (toN (sr ((md rfl (nt ((Tr.ret ?_)))))))
   replace h := si h; subst h
   exact ⟨.inr rfl, (.d (.int .i64 0)), rfl, fun _ _ _ _ h => h, trivial, fun k hk => memOf_base hk⟩
theorem automaton_checkEdges_walk {P : Program} {c : Nat} {f_slices_Contains_int : (List Int) → Int → Option Bool}
    (H_slices_Contains_int : K_slices_Contains_int P 13 f_slices_Contains_int) (hcf : compFn P c = some F_automaton_checkEdges) (fuel : Nat) : K_automaton_checkEdges P c (f_automaton_checkEdges f_slices_Contains_int fuel) := by
 intro a1 r h
 refine fn_trP hcf rfl fun Γ M hP hnt hM => ?_
 subst hP
 refine Tr.init [(0, .agg [.d (.lst 1 (List.map (eI .i64) a1.Alphabet)), .d (.int .i64 a1.States), .d (.lst 1 (List.map (eI .i64) a1.Marked)), .d (.lst 3 (List.map e_api_Edge a1.Edges))])] rfl ?_
 unfold f_automaton_checkEdges at h
 unfold F_automaton_checkEdges
 refine sr ((Rn.box (v := .agg [.d (.lst 1 (List.map (eI .i64) a1.Alphabet)), .d (.int .i64 a1.States), .d (.lst 1 (List.map (eI .i64) a1.Marked)), .d (.lst 3 (List.map e_api_Edge a1.Edges))]) (cs := [.d (.lst 1 (List.map (eI .i64) a1.Alphabet)), .d (.int .i64 a1.States), .d (.lst 1 (List.map (eI .i64) a1.Marked)), .d (.lst 3 (List.map e_api_Edge a1.Edges))]) trivial rfl rfl rfl rfl rfl (md rfl (nt ((Tr.seq (sr ((Rn.fldP (o' := 3) trivial rfl rfl (Rn.load (v := .d (.lst 3 (List.map e_api_Edge a1.Edges))) trivial rfl (boxOwn rfl) rfl rfl (Rn.lenD trivial rfl (md rfl (nt ((Tr.block ?_)))))))))))))))
 refine Tr.loop (mk := fun (x2 : Int) => ⟨look [(1, .ptr (Γ.n0 + 1) 0), (7, .d (.lst 3 (List.map e_api_Edge a1.Edges))), (8, .d (.int .i64 (a1.Edges.length : Int))), (9, .d (.int .i64 x2))], memOf Γ.n0 (bxs [(1, .cells ([.d (.lst 1 (List.map (eI .i64) a1.Alphabet)), .d (.int .i64 a1.States), .d (.lst 1 (List.map (eI .i64) a1.Marked)), .d (.lst 3 (List.map e_api_Edge a1.Edges))]))]) M, Γ.n0 + 72⟩) h (by show WeakSt Γ (clean _ _ _) ⟨look _, memOf _ (bxs _) _, _⟩; exact weak_clean ⟨(kPtr rfl), ⟨(.same rfl), ⟨(.same rfl), ⟨(.same rfl), trivial⟩⟩⟩⟩ ⟨⟨_, rfl, rfl, (.same rfl)⟩, trivial⟩ rfl) (fun k3 z h => ?_)
 ·obtain ⟨x2, rfl⟩ : ∃ x, x = z := ⟨_, rfl⟩
  replace h : _ = some _ := h
  refine sr ((Rn.bin trivial rfl rfl rfl (nt ((Tr.seq ?_)))))
  refine Tr.cond rfl (fun hb4 => ?_) (fun hb4 => ?_)
  ·replace h := ifT hb4 h
   refine Tr.skip (toN ?_)
   refine Tr.cutJ (fun ((c22, c23, c24) : Int × Int × Int) => ⟨look [(1, .ptr (Γ.n0 + 1) 0), (7, .d (.lst 3 (List.map e_api_Edge a1.Edges))), (8, .d (.int .i64 (a1.Edges.length : Int))), (9, .d (.int .i64 x2))], memOf Γ.n0 (bxs [(1, .cells ([.d (.lst 1 (List.map (eI .i64) a1.Alphabet)), .d (.int .i64 a1.States), .d (.lst 1 (List.map (eI .i64) a1.Marked)), .d (.lst 3 (List.map e_api_Edge a1.Edges))])), (4, .cells ([.d (.int .i64 c22), .d (.int .i64 c23), .d (.int .i64 c24)]))]) M, Γ.n0 + 72⟩) h (fun J25 h => ?_) (fun z h => ?_)
   ·refine Tr.block (sr ((md rfl ?_)))
    obtain ⟨x5, h6, h⟩ := bnd h
    refine Rn.idxD (e := e_api_Edge) trivial rfl rfl h6 (Rn.loadCA (vs := [.d (.int .i64 x5.From), .d (.int .i64 x5.Event), .d (.int .i64 x5.To)]) trivial rfl rfl rfl (Rn.alloc trivial rfl (md rfl (Rn.store (v := .agg [.d (.int .i64 x5.From), .d (.int .i64 x5.Event), .d (.int .i64 x5.To)]) (cs' := [.d (.int .i64 x5.From), .d (.int .i64 x5.Event), .d (.int .i64 x5.To)]) trivial rfl rfl rfl rfl rfl rfl (nt ((Tr.seq (Tr.block ?_))))))))
    refine Tr.cutB (fun (x10 : Bool) => ⟨look [(1, .ptr (Γ.n0 + 1) 0), (3, .d (.int .i64 x2)), (4, .ptr (Γ.n0 + 4) 0), (7, .d (.lst 3 (List.map e_api_Edge a1.Edges))), (8, .d (.int .i64 (a1.Edges.length : Int))), (9, .d (.int .i64 x2)), (14, .d (.bool x10))], memOf Γ.n0 (bxs [(1, .cells ([.d (.lst 1 (List.map (eI .i64) a1.Alphabet)), .d (.int .i64 a1.States), .d (.lst 1 (List.map (eI .i64) a1.Marked)), .d (.lst 3 (List.map e_api_Edge a1.Edges))])), (4, .cells ([.d (.int .i64 x5.From), .d (.int .i64 x5.Event), .d (.int .i64 x5.To)]))]) M, Γ.n0 + 72⟩) h (fun z h => ?_) (fun z h => ?_)
    ·refine Tr.rgn (Rn.fldP (o' := 0) trivial rfl rfl (Rn.load (v := .d (.int .i64 x5.From)) trivial rfl (boxOwn rfl) rfl rfl (Rn.bin trivial rfl rfl rfl (md rfl ?_))))
     refine bsplit (decide (x5.From < 0)) (fun hb7 => ?_) (fun hb7 => ?_)
     ·replace h := ifT hb7 h
      refine Rn.sk (nw rfl hb7) (Rn.sk (nw rfl hb7) (Rn.sk (nw rfl hb7) (Rn.sk (nw rfl hb7) (Rn.sk (nw rfl hb7) (Rn.pickT (v := .d (.bool true)) trivial rfl hb7 rfl (md rfl (Rn.sk (nw (b := true) rfl rfl) (Rn.sk (nw (b := true) rfl rfl) (Rn.sk (nw (b := true) rfl rfl) (Rn.pickT (v := .d (.bool true)) trivial rfl rfl rfl (md rfl (Rn.sk (nw (b := true) rfl rfl) (Rn.sk (nw (b := true) rfl rfl) (Rn.sk (nw (b := true) rfl rfl) (Rn.sk (nw (b := true) rfl rfl) (Rn.sk (nw (b := true) rfl rfl) (Rn.pickT (v := .d (.bool true)) trivial rfl rfl rfl (md rfl (Rn.nil ?_)))))))))))))))))))
      replace h := si h; subst h
      show WeakSt Γ _ ⟨look _, memOf _ (bxs _) _, _⟩; exact weak_cut [] ⟨(kPtr rfl), ⟨(.same rfl), ⟨(kPtr rfl), ⟨(.same rfl), ⟨(.same rfl), ⟨(.same rfl), ⟨(.same rfl), trivial⟩⟩⟩⟩⟩⟩⟩ ⟨⟨_, rfl, rfl, (.same rfl)⟩, ⟨⟨_, rfl, rfl, (.same rfl)⟩, trivial⟩⟩ rfl
     ·replace h := ifF hb7 h
      refine Rn.fldP (o' := 0) (gw rfl hb7) rfl rfl (Rn.load (v := .d (.int .i64 x5.From)) (gw rfl hb7) rfl (boxOwn rfl) rfl rfl (Rn.fldP (o' := 1) (gw rfl hb7) rfl rfl (Rn.load (v := .d (.int .i64 a1.States)) (gw rfl hb7) rfl (boxOwn rfl) rfl rfl (Rn.bin (gw rfl hb7) rfl rfl rfl (Rn.pickF (v := .d (.bool (decide (x5.From ≥ a1.States)))) trivial rfl hb7 rfl (md rfl ?_))))))
      refine bsplit (decide (x5.From ≥ a1.States)) (fun hb8 => ?_) (fun hb8 => ?_)
      ·replace h := ifT hb8 h
       refine Rn.sk (nw rfl hb8) (Rn.sk (nw rfl hb8) (Rn.sk (nw rfl hb8) (Rn.pickT (v := .d (.bool true)) trivial rfl hb8 rfl (md rfl (Rn.sk (nw (b := true) rfl rfl) (Rn.sk (nw (b := true) rfl rfl) (Rn.sk (nw (b := true) rfl rfl) (Rn.sk (nw (b := true) rfl rfl) (Rn.sk (nw (b := true) rfl rfl) (Rn.pickT (v := .d (.bool true)) trivial rfl rfl rfl (md rfl (Rn.nil ?_))))))))))))
       replace h := si h; subst h
       show WeakSt Γ _ ⟨look _, memOf _ (bxs _) _, _⟩; exact weak_cut [] ⟨(kPtr rfl), ⟨(.same rfl), ⟨(kPtr rfl), ⟨(.same rfl), ⟨(.same rfl), ⟨(.same rfl), ⟨(.same rfl), trivial⟩⟩⟩⟩⟩⟩⟩ ⟨⟨_, rfl, rfl, (.same rfl)⟩, ⟨⟨_, rfl, rfl, (.same rfl)⟩, trivial⟩⟩ rfl
      ·replace h := ifF hb8 h
       refine Rn.fldP (o' := 2) (gw rfl hb8) rfl rfl (Rn.load (v := .d (.int .i64 x5.To)) (gw rfl hb8) rfl (boxOwn rfl) rfl rfl (Rn.bin (gw rfl hb8) rfl rfl rfl (Rn.pickF (v := .d (.bool (decide (x5.To < 0)))) trivial rfl hb8 rfl (md rfl ?_))))
       refine bsplit (decide (x5.To < 0)) (fun hb9 => ?_) (fun hb9 => ?_)
       ·replace h := ifT hb9 h
        refine Rn.sk (nw rfl hb9) (Rn.sk (nw rfl hb9) (Rn.sk (nw rfl hb9) (Rn.sk (nw rfl hb9) (Rn.sk (nw rfl hb9) (Rn.pickT (v := .d (.bool true)) trivial rfl hb9 rfl (md rfl (Rn.nil ?_)))))))
        replace h := si h; subst h
        show WeakSt Γ _ ⟨look _, memOf _ (bxs _) _, _⟩; exact weak_cut [] ⟨(kPtr rfl), ⟨(.same rfl), ⟨(kPtr rfl), ⟨(.same rfl), ⟨(.same rfl), ⟨(.same rfl), ⟨(.same rfl), trivial⟩⟩⟩⟩⟩⟩⟩ ⟨⟨_, rfl, rfl, (.same rfl)⟩, ⟨⟨_, rfl, rfl, (.same rfl)⟩, trivial⟩⟩ rfl
       ·replace h := ifF hb9 h
        refine Rn.fldP (o' := 2) (gw rfl hb9) rfl rfl (Rn.load (v := .d (.int .i64 x5.To)) (gw rfl hb9) rfl (boxOwn rfl) rfl rfl (Rn.fldP (o' := 1) (gw rfl hb9) rfl rfl (Rn.load (v := .d (.int .i64 a1.States)) (gw rfl hb9) rfl (boxOwn rfl) rfl rfl (Rn.bin (gw rfl hb9) rfl rfl rfl (Rn.pickF (v := .d (.bool (decide (x5.To ≥ a1.States)))) trivial rfl hb9 rfl (md rfl (Rn.nil ?_)))))))
        replace h := si h; subst h
        show WeakSt Γ _ ⟨look _, memOf _ (bxs _) _, _⟩; exact weak_cut [] ⟨(kPtr rfl), ⟨(.same rfl), ⟨(kPtr rfl), ⟨(.same rfl), ⟨(.same rfl), ⟨(.same rfl), ⟨(.same rfl), trivial⟩⟩⟩⟩⟩⟩⟩ ⟨⟨_, rfl, rfl, (.same rfl)⟩, ⟨⟨_, rfl, rfl, (.same rfl)⟩, trivial⟩⟩ rfl
    ·obtain ⟨x10, rfl⟩ : ∃ x, x = z := ⟨_, rfl⟩
     refine Tr.cond rfl (fun hb11 => ?_) (fun hb11 => ?_)
     ·replace h := bT hb11 h
      refine sr ((md rfl (nt ((Tr.ret ?_)))))
      replace h := si h; subst h
      exact ⟨.inr rfl, (.d (.int .i64 2)), rfl, fun _ _ _ _ h => h, trivial, fun k hk => memOf_base hk⟩
     ·replace h := bF hb11 h
      refine sr ((Rn.fldP (o' := 0) trivial rfl rfl (Rn.load (v := .d (.lst 1 (List.map (eI .i64) a1.Alphabet))) trivial rfl (boxOwn rfl) rfl rfl (Rn.fldP (o' := 1) trivial rfl rfl (Rn.load (v := .d (.int .i64 x5.Event)) trivial rfl (boxOwn rfl) rfl rfl ?_)))))
      obtain ⟨x13, h12, h⟩ := bnd h
      refine Rn.call (args := [.d (.lst 1 (List.map (eI .i64) a1.Alphabet)), .d (.int .i64 x5.Event)]) trivial rfl (H_slices_Contains_int _ _ _ h12) pc9 (Rn.un trivial rfl rfl (md rfl (Rn.nil (toN ?_))))
      refine Tr.cond rfl (fun hb14 => ?_) (fun hb14 => ?_)
      ·have hb14 := nT' hb14
       replace h := bF hb14 h
       refine sr ((md rfl (nt ((Tr.ret ?_)))))
       replace h := si h; subst h
       exact ⟨.inr rfl, (.d (.int .i64 9)), rfl, fun _ _ _ _ h => h, trivial, fun k hk => memOf_base hk⟩
      ·have hb14 := nF' hb14
       replace h := bT hb14 h
       refine Tr.skip (toN (Tr.seq (sr ((md rfl (Rn.bin trivial rfl rfl rfl (Rn.nil (toN ?_))))))))
       refine Tr.cond rfl (fun hb15 => ?_) (fun hb15 => ?_)
       ·replace h := bT hb15 h
        refine Tr.exit ?_
        exact ⟨_, h, (by show WeakSt Γ _ ⟨look _, memOf _ (bxs _) _, _⟩; exact weak_cut [] ⟨(kPtr rfl), ⟨(.same rfl), ⟨(.same rfl), ⟨(.same rfl), trivial⟩⟩⟩⟩ ⟨⟨_, rfl, rfl, (.same rfl)⟩, ⟨⟨_, rfl, rfl, (.same rfl)⟩, trivial⟩⟩ rfl)⟩
       ·replace h := bF hb15 h
        refine Tr.skip (toN (sr ((Rn.fldP (o' := 3) trivial rfl rfl (Rn.load (v := .d (.lst 3 (List.map e_api_Edge a1.Edges))) trivial rfl (boxOwn rfl) rfl rfl (md rfl (Rn.bin trivial rfl rfl rfl ?_)))))))
        obtain ⟨x16, h17, h⟩ := bnd h
        refine Rn.idxD (e := e_api_Edge) trivial rfl rfl h17 (Rn.loadCA (vs := [.d (.int .i64 x16.From), .d (.int .i64 x16.Event), .d (.int .i64 x16.To)]) trivial rfl rfl rfl (Rn.alloc trivial rfl (Rn.store (v := .agg [.d (.int .i64 x16.From), .d (.int .i64 x16.Event), .d (.int .i64 x16.To)]) (cs' := [.d (.int .i64 x16.From), .d (.int .i64 x16.Event), .d (.int .i64 x16.To)]) trivial rfl rfl rfl rfl rfl rfl (Rn.nil (toN ?_)))))
        refine Tr.cutB (fun (x20 : Bool) => ⟨look [(1, .ptr (Γ.n0 + 1) 0), (7, .d (.lst 3 (List.map e_api_Edge a1.Edges))), (8, .d (.int .i64 (a1.Edges.length : Int))), (9, .d (.int .i64 x2)), (70, .d (.bool x20))], memOf Γ.n0 (bxs [(1, .cells ([.d (.lst 1 (List.map (eI .i64) a1.Alphabet)), .d (.int .i64 a1.States), .d (.lst 1 (List.map (eI .i64) a1.Marked)), .d (.lst 3 (List.map e_api_Edge a1.Edges))])), (4, .cells ([.d (.int .i64 x5.From), .d (.int .i64 x5.Event), .d (.int .i64 x5.To)])), (5, .cells ([.d (.int .i64 x16.From), .d (.int .i64 x16.Event), .d (.int .i64 x16.To)]))]) M, Γ.n0 + 72⟩) h (fun z h => ?_) (fun z h => ?_)
        ·refine Tr.rgn (Rn.fldP (o' := 0) trivial rfl rfl (Rn.load (v := .d (.int .i64 x5.From)) trivial rfl (boxOwn rfl) rfl rfl (Rn.fldP (o' := 0) trivial rfl rfl (Rn.load (v := .d (.int .i64 x16.From)) trivial rfl (boxOwn rfl) rfl rfl (Rn.bin trivial rfl rfl rfl (md rfl ?_))))))
         refine bsplit (decide (x5.From < x16.From)) (fun hb18 => ?_) (fun hb18 => ?_)
         ·replace h := ifT hb18 h
          refine Rn.sk (nw rfl hb18) (Rn.sk (nw rfl hb18) (Rn.sk (nw rfl hb18) (Rn.sk (nw rfl hb18) (Rn.sk (nw rfl hb18) (Rn.sk (nw rfl hb18) (Rn.sk (nu rfl) (Rn.sk (nu rfl) (Rn.sk (nu rfl) (Rn.sk (nu rfl) (Rn.sk (nu rfl) (Rn.sk (nw rfl hb18) (Rn.pickT (v := .d (.bool true)) trivial rfl hb18 rfl (Rn.nil ?_)))))))))))))
          replace h := si h; subst h
          show WeakSt Γ _ ⟨look _, memOf _ (bxs _) _, _⟩; exact weak_cut [] ⟨(kPtr rfl), ⟨(.same rfl), ⟨(.same rfl), ⟨(.same rfl), ⟨(.same rfl), trivial⟩⟩⟩⟩⟩ ⟨⟨_, rfl, rfl, (.same rfl)⟩, ⟨⟨_, rfl, rfl, (.same rfl)⟩, ⟨⟨_, rfl, rfl, (.same rfl)⟩, trivial⟩⟩⟩ rfl
         ·replace h := ifF hb18 h
          refine Rn.fldP (o' := 0) (gw rfl hb18) rfl rfl (Rn.load (v := .d (.int .i64 x5.From)) (gw rfl hb18) rfl (boxOwn rfl) rfl rfl (Rn.fldP (o' := 0) (gw rfl hb18) rfl rfl (Rn.load (v := .d (.int .i64 x16.From)) (gw rfl hb18) rfl (boxOwn rfl) rfl rfl (Rn.bin (gw rfl hb18) rfl rfl rfl (Rn.movD (gw rfl hb18) rfl ?_)))))
          refine bsplit (x5.From == x16.From) (fun hb19 => ?_) (fun hb19 => ?_)
          ·replace h := bT hb19 h
           refine Rn.fldP (o' := 1) (gw rfl hb19) rfl rfl (Rn.load (v := .d (.int .i64 x5.Event)) (gw rfl hb19) rfl (boxOwn rfl) rfl rfl (Rn.fldP (o' := 1) (gw rfl hb19) rfl rfl (Rn.load (v := .d (.int .i64 x16.Event)) (gw rfl hb19) rfl (boxOwn rfl) rfl rfl (Rn.bin (gw rfl hb19) rfl rfl rfl (Rn.pickT (v := .d (.bool (decide (x5.Event ≤ x16.Event)))) (gw rfl hb18) rfl hb19 rfl (Rn.pickF (v := .d (.bool (decide (x5.Event ≤ x16.Event)))) trivial rfl hb18 rfl (Rn.nil ?_)))))))
           replace h := si h; subst h
           show WeakSt Γ _ ⟨look _, memOf _ (bxs _) _, _⟩; exact weak_cut [] ⟨(kPtr rfl), ⟨(.same rfl), ⟨(.same rfl), ⟨(.same rfl), ⟨(.same rfl), trivial⟩⟩⟩⟩⟩ ⟨⟨_, rfl, rfl, (.same rfl)⟩, ⟨⟨_, rfl, rfl, (.same rfl)⟩, ⟨⟨_, rfl, rfl, (.same rfl)⟩, trivial⟩⟩⟩ rfl
          ·replace h := bF hb19 h
           refine Rn.sk (nw rfl hb19) (Rn.sk (nw rfl hb19) (Rn.sk (nw rfl hb19) (Rn.sk (nw rfl hb19) (Rn.sk (nw rfl hb19) (Rn.pickF (v := .d (.bool false)) (gw rfl hb18) rfl hb19 rfl (Rn.pickF (v := .d (.bool false)) trivial rfl hb18 rfl (Rn.nil ?_)))))))
           replace h := si h; subst h
           show WeakSt Γ _ ⟨look _, memOf _ (bxs _) _, _⟩; exact weak_cut [] ⟨(kPtr rfl), ⟨(.same rfl), ⟨(.same rfl), ⟨(.same rfl), ⟨(.same rfl), trivial⟩⟩⟩⟩⟩ ⟨⟨_, rfl, rfl, (.same rfl)⟩, ⟨⟨_, rfl, rfl, (.same rfl)⟩, ⟨⟨_, rfl, rfl, (.same rfl)⟩, trivial⟩⟩⟩ rfl
        ·obtain ⟨x20, rfl⟩ : ∃ x, x = z := ⟨_, rfl⟩
         refine Tr.cond rfl (fun hb21 => ?_) (fun hb21 => ?_)
         ·replace h := bT hb21 h
          refine sr ((md rfl (nt ((Tr.ret ?_)))))
          replace h := si h; subst h
          exact ⟨.inr rfl, (.d (.int .i64 5)), rfl, fun _ _ _ _ h => h, trivial, fun k hk => memOf_base hk⟩
         ·replace h := bF hb21 h
          refine Tr.skip ?_
          exact ⟨_, h, (by show WeakSt Γ _ ⟨look _, memOf _ (bxs _) _, _⟩; exact weak_cut [5] ⟨(kPtr rfl), ⟨(.same rfl), ⟨(.same rfl), ⟨(.same rfl), trivial⟩⟩⟩⟩ ⟨⟨_, rfl, rfl, (.same rfl)⟩, ⟨⟨_, rfl, rfl, (.same rfl)⟩, trivial⟩⟩ rfl)⟩
   ·obtain ⟨c22, c23, c24⟩ := z
    refine Tr.rgn (Rn.bin trivial rfl rfl rfl (md rfl (Rn.nil ?_)))
    exact ⟨_, h, (by show WeakSt Γ (clean _ _ _) ⟨look _, memOf _ (bxs _) _, _⟩; exact weak_clean ⟨(kPtr rfl), ⟨(.same rfl), ⟨(.same rfl), ⟨(.same rfl), trivial⟩⟩⟩⟩ ⟨⟨_, rfl, rfl, (.same rfl)⟩, trivial⟩ rfl)⟩
  ·replace h := ifF hb4 h
   refine Tr.exit (toN (sr ((md rfl (nt ((Tr.ret ?_)))))))
   replace h := si h; subst h
   exact ⟨.inr rfl, (.d (.int .i64 0)), rfl, fun _ _ _ _ h => h, trivial, fun k hk => memOf_base hk⟩
theorem automaton_Check_walk {P : Program} {c : Nat} {f_automaton_checkSet : (List Int) → Int → Option Int} {f_automaton_checkEdges : api_Automaton → Option Int}
    (H_automaton_checkSet : K_automaton_checkSet P 86 f_automaton_checkSet)
    (H_automaton_checkEdges : K_automaton_checkEdges P 87 f_automaton_checkEdges) (hcf : compFn P c = some F_automaton_Check) : K_automaton_Check P c (f_automaton_Check f_automaton_checkSet f_automaton_checkEdges) := by
 intro a1 r h
 refine fn_trP hcf rfl fun Γ M hP hnt hM => ?_
 subst hP
 refine Tr.init [(0, .agg [.d (.lst 1 (List.map (eI .i64) a1.Alphabet)), .d (.int .i64 a1.States), .d (.lst 1 (List.map (eI .i64) a1.Marked)), .d (.lst 3 (List.map e_api_Edge a1.Edges))])] rfl ?_
 unfold f_automaton_Check at h
 unfold F_automaton_Check
 refine sr ((Rn.box (v := .agg [.d (.lst 1 (List.map (eI .i64) a1.Alphabet)), .d (.int .i64 a1.States), .d (.lst 1 (List.map (eI .i64) a1.Marked)), .d (.lst 3 (List.map e_api_Edge a1.Edges))]) (cs := [.d (.lst 1 (List.map (eI .i64) a1.Alphabet)), .d (.int .i64 a1.States), .d (.lst 1 (List.map (eI .i64) a1.Marked)), .d (.lst 3 (List.map e_api_Edge a1.Edges))]) trivial rfl rfl rfl rfl rfl (md rfl (nt ((Tr.seq (sr ((Rn.fldP (o' := 0) trivial rfl rfl (Rn.load (v := .d (.lst 1 (List.map (eI .i64) a1.Alphabet))) trivial rfl (boxOwn rfl) rfl rfl ?_))))))))))
 obtain ⟨x3, h2, h⟩ := bnd h
 refine Rn.call (args := [.d (.lst 1 (List.map (eI .i64) a1.Alphabet)), .d (.int .i64 32)]) trivial rfl (H_automaton_checkSet _ _ _ h2) pc9 (md rfl (nt ((sr ((md rfl (Rn.bin trivial rfl rfl rfl (Rn.nil (toN ?_)))))))))
 refine Tr.cond rfl (fun hb4 => ?_) (fun hb4 => ?_)
 ·replace h := bT hb4 h
  refine sr ((md rfl (md rfl (nt ((Tr.ret ?_))))))
  replace h := si h; subst h
  exact ⟨.inr rfl, (.d (.int .i64 x3)), rfl, fun _ _ _ _ h => h, trivial, fun k hk => memOf_base hk⟩
 ·replace h := bF hb4 h
  refine Tr.skip (toN (Tr.seq (Tr.block (sr ((Rn.fldP (o' := 1) trivial rfl rfl (Rn.load (v := .d (.int .i64 a1.States)) trivial rfl (boxOwn rfl) rfl rfl (Rn.bin trivial rfl rfl rfl (md rfl (Rn.nil (toN ?_)))))))))))
  refine Tr.cond rfl (fun hb5 => ?_) (fun hb5 => ?_)
  ·replace h := ifT hb5 h
   refine sr ((md rfl (nt ((Tr.ret ?_)))))
   replace h := si h; subst h
   exact ⟨.inr rfl, (.d (.int .i64 2)), rfl, fun _ _ _ _ h => h, trivial, fun k hk => memOf_base hk⟩
  ·replace h := ifF hb5 h
   refine sr ((Rn.fldP (o' := 1) trivial rfl rfl (Rn.load (v := .d (.int .i64 a1.States)) trivial rfl (boxOwn rfl) rfl rfl (Rn.bin trivial rfl rfl rfl (md rfl (Rn.nil (toN ?_)))))))
   refine Tr.cond rfl (fun hb6 => ?_) (fun hb6 => ?_)
   ·replace h := ifT hb6 h
    refine sr ((md rfl (nt ((Tr.ret ?_)))))
    replace h := si h; subst h
    exact ⟨.inr rfl, (.d (.int .i64 3)), rfl, fun _ _ _ _ h => h, trivial, fun k hk => memOf_base hk⟩
   ·replace h := ifF hb6 h
    refine Tr.skip (toN (Tr.seq (sr ((Rn.fldP (o' := 2) trivial rfl rfl (Rn.load (v := .d (.lst 1 (List.map (eI .i64) a1.Marked))) trivial rfl (boxOwn rfl) rfl rfl (Rn.fldP (o' := 1) trivial rfl rfl (Rn.load (v := .d (.int .i64 a1.States)) trivial rfl (boxOwn rfl) rfl rfl ?_))))))))
    obtain ⟨x8, h7, h⟩ := bnd h
    refine Rn.call (args := [.d (.lst 1 (List.map (eI .i64) a1.Marked)), .d (.int .i64 a1.States)]) trivial rfl (H_automaton_checkSet _ _ _ h7) pc9 (md rfl (nt ((sr ((md rfl (Rn.bin trivial rfl rfl rfl (Rn.nil (toN ?_)))))))))
    refine Tr.cond rfl (fun hb9 => ?_) (fun hb9 => ?_)
    ·replace h := bT hb9 h
     refine sr ((md rfl (md rfl (nt ((Tr.ret ?_))))))
     replace h := si h; subst h
     exact ⟨.inr rfl, (.d (.int .i64 x8)), rfl, fun _ _ _ _ h => h, trivial, fun k hk => memOf_base hk⟩
    ·replace h := bF hb9 h
     refine Tr.skip (toN (sr ((Rn.load (v := .agg [.d (.lst 1 (List.map (eI .i64) a1.Alphabet)), .d (.int .i64 a1.States), .d (.lst 1 (List.map (eI .i64) a1.Marked)), .d (.lst 3 (List.map e_api_Edge a1.Edges))]) trivial rfl (boxOwn rfl) rfl rfl ?_))))
     obtain ⟨x11, h10, h⟩ := bnd h
     refine Rn.call (args := [.agg [.d (.lst 1 (List.map (eI .i64) a1.Alphabet)), .d (.int .i64 a1.States), .d (.lst 1 (List.map (eI .i64) a1.Marked)), .d (.lst 3 (List.map e_api_Edge a1.Edges))]]) trivial rfl (H_automaton_checkEdges _ _ h10) pc9 (md rfl (nt ((Tr.ret ?_))))
     replace h := si h; subst h
     exact ⟨.inr rfl, (.d (.int .i64 x11)), rfl, fun _ _ _ _ h => h, trivial, fun k hk => memOf_base hk⟩
theorem automaton_checkState_walk {P : Program} {c : Nat} {f_automaton_Check : api_Automaton → Option Int}
    (H_automaton_Check : K_automaton_Check P 68 f_automaton_Check) (hcf : compFn P c = some F_automaton_checkState) : K_automaton_checkState P c (f_automaton_checkState f_automaton_Check) := by
 intro a1 state2 r h
 refine fn_trP hcf rfl fun Γ M hP hnt hM => ?_
 subst hP
 refine Tr.init [(0, .agg [.d (.lst 1 (List.map (eI .i64) a1.Alphabet)), .d (.int .i64 a1.States), .d (.lst 1 (List.map (eI .i64) a1.Marked)), .d (.lst 3 (List.map e_api_Edge a1.Edges))]), (1, .d (.int .i64 state2))] rfl ?_
 unfold f_automaton_checkState at h
 unfold F_automaton_checkState
 refine sr ((Rn.box (v := .agg [.d (.lst 1 (List.map (eI .i64) a1.Alphabet)), .d (.int .i64 a1.States), .d (.lst 1 (List.map (eI .i64) a1.Marked)), .d (.lst 3 (List.map e_api_Edge a1.Edges))]) (cs := [.d (.lst 1 (List.map (eI .i64) a1.Alphabet)), .d (.int .i64 a1.States), .d (.lst 1 (List.map (eI .i64) a1.Marked)), .d (.lst 3 (List.map e_api_Edge a1.Edges))]) trivial rfl rfl rfl rfl rfl (md rfl (nt ((Tr.seq (sr ((Rn.load (v := .agg [.d (.lst 1 (List.map (eI .i64) a1.Alphabet)), .d (.int .i64 a1.States), .d (.lst 1 (List.map (eI .i64) a1.Marked)), .d (.lst 3 (List.map e_api_Edge a1.Edges))]) trivial rfl (boxOwn rfl) rfl rfl ?_)))))))))
 obtain ⟨x4, h3, h⟩ := bnd h
 refine Rn.call (args := [.agg [.d (.lst 1 (List.map (eI .i64) a1.Alphabet)), .d (.int .i64 a1.States), .d (.lst 1 (List.map (eI .i64) a1.Marked)), .d (.lst 3 (List.map e_api_Edge a1.Edges))]]) trivial rfl (H_automaton_Check _ _ h3) pc9 (md rfl (nt ((sr ((md rfl (Rn.bin trivial rfl rfl rfl (Rn.nil (toN ?_)))))))))
 refine Tr.cond rfl (fun hb5 => ?_) (fun hb5 => ?_)
 ·replace h := bT hb5 h
  refine sr ((md rfl (md rfl (nt ((Tr.ret ?_))))))
  replace h := si h; subst h
  exact ⟨.inr rfl, (.d (.int .i64 x4)), rfl, fun _ _ _ _ h => h, trivial, fun k hk => memOf_base hk⟩
 ·replace h := bF hb5 h
  refine Tr.skip (toN (Tr.seq ?_))
  refine Tr.cutB (fun (x7 : Bool) => ⟨look [(18, .d (.bool x7))], memOf Γ.n0 (bxs [(2, .cells ([.d (.lst 1 (List.map (eI .i64) a1.Alphabet)), .d (.int .i64 a1.States), .d (.lst 1 (List.map (eI .i64) a1.Marked)), .d (.lst 3 (List.map e_api_Edge a1.Edges))]))]) M, Γ.n0 + 19⟩) h (fun z h => ?_) (fun z h => ?_)
  ·refine Tr.rgn (md rfl (Rn.bin trivial rfl rfl rfl (md rfl ?_)))
   refine bsplit (decide (state2 < 0)) (fun hb6 => ?_) (fun hb6 => ?_)
   ·replace h := ifT hb6 h
    refine Rn.sk (nw rfl hb6) (Rn.sk (nw rfl hb6) (Rn.sk (nw rfl hb6) (Rn.sk (nw rfl hb6) (Rn.pickT (v := .d (.bool true)) trivial rfl hb6 rfl (Rn.nil ?_)))))
    replace h := si h; subst h
    show WeakSt Γ _ ⟨look _, memOf _ (bxs _) _, _⟩; exact weak_cut [] ⟨(.same rfl), trivial⟩ ⟨⟨_, rfl, rfl, (.same rfl)⟩, trivial⟩ rfl
   ·replace h := ifF hb6 h
    refine Rn.movD (gw rfl hb6) rfl (Rn.fldP (o' := 1) (gw rfl hb6) rfl rfl (Rn.load (v := .d (.int .i64 a1.States)) (gw rfl hb6) rfl (boxOwn rfl) rfl rfl (Rn.bin (gw rfl hb6) rfl rfl rfl (Rn.pickF (v := .d (.bool (decide (state2 ≥ a1.States)))) trivial rfl hb6 rfl (Rn.nil ?_)))))
    replace h := si h; subst h
    show WeakSt Γ _ ⟨look _, memOf _ (bxs _) _, _⟩; exact weak_cut [] ⟨(.same rfl), trivial⟩ ⟨⟨_, rfl, rfl, (.same rfl)⟩, trivial⟩ rfl
  ·obtain ⟨x7, rfl⟩ : ∃ x, x = z := ⟨_, rfl⟩
   refine Tr.cond rfl (fun hb8 => ?_) (fun hb8 => ?_)
   ·replace h := bT hb8 h
    refine sr ((md rfl (nt ((Tr.ret ?_)))))
    replace h := si h; subst h
    exact ⟨.inr rfl, (.d (.int .i64 2)), rfl, fun _ _ _ _ h => h, trivial, fun k hk => memOf_base hk⟩
   ·replace h := bF hb8 h
    refine Tr.skip (toN (sr ((md rfl (nt ((Tr.ret ?_)))))))
    replace h := si h; subst h
    exact ⟨.inr rfl, (.d (.int .i64 0)), rfl, fun _ _ _ _ h => h, trivial, fun k hk => memOf_base hk⟩
theorem slices_BinarySearchFunc_int_walk {P : Program} {c : Nat} (hcf : compFn P c = some F_slices_BinarySearchFunc_int) (fuel : Nat) : K_slices_BinarySearchFunc_int P c (f_slices_BinarySearchFunc_int fuel) := by
 intro x1 target2 cmp3 g4 cp5 r h
 intro M nb hc6 ho8 hf7
 refine fn_trM hcf rfl M nb fun Γ hP hnt hn0 hM => ?_
 subst hP hn0
 refine Tr.init [(0, .d (.lst 3 (List.map e_api_Edge x1))), (1, .d (.int .i64 target2)), (2, .clo g4 cp5)] rfl ?_
 unfold f_slices_BinarySearchFunc_int at h
 unfold F_slices_BinarySearchFunc_int
 refine sr ((md rfl (md rfl (nt ((sr ((md rfl (Rn.lenD trivial rfl (md rfl (nt ((sr ((md rfl (md rfl (md rfl (Rn.nil (toN ?_)))))))))))))))))))
 refine Tr.cutB (fun (i20 : Int) => ⟨look [(0, .d (.lst 3 (List.map e_api_Edge x1))), (1, .d (.int .i64 target2)), (2, .clo g4 cp5), (8, .d (.int .i64 (x1.length : Int))), (9, .d (.int .i64 i20))], memOf Γ.n0 (bxs []) M, Γ.n0 + 49⟩) h (fun z h => ?_) (fun z h => ?_)
 ·refine Tr.block ?_
  refine Tr.loop (mk := fun ((i11, j12) : Int × Int) => ⟨look [(0, .d (.lst 3 (List.map e_api_Edge x1))), (1, .d (.int .i64 target2)), (2, .clo g4 cp5), (8, .d (.int .i64 (x1.length : Int))), (9, .d (.int .i64 i11)), (10, .d (.int .i64 j12))], memOf Γ.n0 (bxs []) M, Γ.n0 + 49⟩) h (by show WeakSt Γ (clean _ _ _) ⟨look _, memOf _ (bxs _) _, _⟩; exact weak_clean ⟨(.same rfl), ⟨(.same rfl), ⟨(kFun hM ho8), ⟨(.same rfl), ⟨(.same rfl), ⟨(.same rfl), trivial⟩⟩⟩⟩⟩⟩ trivial rfl) (fun k13 z h => ?_)
  ·obtain ⟨i11, j12⟩ := z
   replace h : _ = some _ := h
   refine Tr.seq (sr ((md rfl (md rfl (Rn.bin trivial rfl rfl rfl (Rn.nil (toN ?_)))))))
   refine Tr.cond rfl (fun hb14 => ?_) (fun hb14 => ?_)
   ·replace h := ifT hb14 h
    refine Tr.skip (toN (Tr.block (sr ((md rfl (md rfl (Rn.bin trivial rfl rfl rfl (Rn.conv trivial rfl (Rn.bin trivial rfl rfl rfl (Rn.conv trivial rfl (md rfl (nt ((sr ((Rn.mov (v := .clo g4 cp5) trivial rfl (md rfl (md rfl ?_))))))))))))))))))
    obtain ⟨x15, h16, h⟩ := bnd h
    refine Rn.idxD (e := e_api_Edge) trivial rfl rfl h16 (Rn.loadCA (vs := [.d (.int .i64 x15.From), .d (.int .i64 x15.Event), .d (.int .i64 x15.To)]) trivial rfl rfl rfl (md rfl ?_))
    obtain ⟨x18, h17, h⟩ := bnd h
    refine Rn.callvM (args := [.agg [.d (.int .i64 x15.From), .d (.int .i64 x15.Event), .d (.int .i64 x15.To)], .d (.int .i64 target2)] ++ cp5) trivial rfl (by rw [hc6]; rfl) (fun M2 nb2 hn hx => hf7 _ _ _ h17 M2 nb2 (by omega) ((extMem hM).trans hx)) rfl pc9 ?_
    refine Rn.bin trivial rfl rfl rfl (Rn.nil (toN ?_))
    refine Tr.cond rfl (fun hb19 => ?_) (fun hb19 => ?_)
    ·replace h := ifT hb19 h
     refine Tr.rgn (md rfl (Rn.bin trivial rfl rfl rfl (md rfl (Rn.nil ?_))))
     exact ⟨_, h, (by show WeakSt Γ (clean _ _ _) ⟨look _, memOf _ (bxs _) _, _⟩; exact weak_clean ⟨(.same rfl), ⟨(.same rfl), ⟨(kFun hM ho8), ⟨(.same rfl), ⟨(.same rfl), ⟨(.same rfl), trivial⟩⟩⟩⟩⟩⟩ trivial rfl)⟩
    ·replace h := ifF hb19 h
     refine Tr.rgn (md rfl (md rfl (Rn.nil ?_)))
     exact ⟨_, h, (by show WeakSt Γ (clean _ _ _) ⟨look _, memOf _ (bxs _) _, _⟩; exact weak_clean ⟨(.same rfl), ⟨(.same rfl), ⟨(kFun hM ho8), ⟨(.same rfl), ⟨(.same rfl), ⟨(.same rfl), trivial⟩⟩⟩⟩⟩⟩ trivial rfl)⟩
   ·replace h := ifF hb14 h
    refine Tr.exit ?_
    replace h := si h; subst h
    show WeakSt Γ _ ⟨look _, memOf _ (bxs _) _, _⟩; exact weak_cut [] ⟨(.same rfl), ⟨(.same rfl), ⟨(kFun hM ho8), ⟨(.same rfl), ⟨(.same rfl), trivial⟩⟩⟩⟩⟩ trivial rfl
 ·obtain ⟨i20, rfl⟩ : ∃ x, x = z := ⟨_, rfl⟩
  refine sr ((md rfl (md rfl (md rfl (Rn.bin trivial rfl rfl rfl (md rfl ?_))))))
  refine bsplit (decide (i20 < (x1.length : Int))) (fun hb21 => ?_) (fun hb21 => ?_)
  ·replace h := ifT hb21 h
   refine Rn.mov (v := .clo g4 cp5) (gw rfl hb21) rfl (Rn.movD (gw rfl hb21) rfl (Rn.movD (gw rfl hb21) rfl ?_))
   obtain ⟨x22, h23, h⟩ := bnd h
   refine Rn.idxD (e := e_api_Edge) (gw rfl hb21) rfl rfl h23 (Rn.loadCA (vs := [.d (.int .i64 x22.From), .d (.int .i64 x22.Event), .d (.int .i64 x22.To)]) (gw rfl hb21) rfl rfl rfl (Rn.movD (gw rfl hb21) rfl ?_))
   obtain ⟨x25, h24, h⟩ := bnd h
   refine Rn.callvM (args := [.agg [.d (.int .i64 x22.From), .d (.int .i64 x22.Event), .d (.int .i64 x22.To)], .d (.int .i64 target2)] ++ cp5) (gw rfl hb21) rfl (by rw [hc6]; rfl) (fun M2 nb2 hn hx => hf7 _ _ _ h24 M2 nb2 (by omega) ((extMem hM).trans hx)) rfl pc9 ?_
   refine Rn.bin (gw rfl hb21) rfl rfl rfl (Rn.pickT (v := .d (.bool (x25 == 0))) trivial rfl hb21 rfl (md rfl (md rfl (nt ((Tr.ret ?_))))))
   replace h := si h; subst h
   exact ⟨.inr rfl, .tup [.d (.int .i64 i20), .d (.bool (x25 == 0))], res2 rfl rfl, (WkV.tup (.cons (.same rfl) (.cons (.same rfl) .nil))).rd, ⟨trivial, trivial, trivial⟩, fun k hk => memOf_base hk⟩
  ·replace h := ifF hb21 h
   refine Rn.sk (nw rfl hb21) (Rn.sk (nw rfl hb21) (Rn.sk (nw rfl hb21) (Rn.sk (nw rfl hb21) (Rn.sk (nw rfl hb21) (Rn.sk (nw rfl hb21) (Rn.sk (nw rfl hb21) (Rn.sk (nw rfl hb21) (Rn.pickF (v := .d (.bool false)) trivial rfl hb21 rfl (md rfl (md rfl (nt ((Tr.ret ?_)))))))))))))
   replace h := si h; subst h
   exact ⟨.inr rfl, .tup [.d (.int .i64 i20), .d (.bool false)], res2 rfl rfl, (WkV.tup (.cons (.same rfl) (.cons (.same rfl) .nil))).rd, ⟨trivial, trivial, trivial⟩, fun k hk => memOf_base hk⟩
theorem automaton_out_1_walk {P : Program} {c : Nat} (hcf : compFn P c = some F_automaton_out_1) : K_automaton_out_1 P c (f_automaton_out_1) := by
 intro x1 s2 r h
 refine fn_trP hcf rfl fun Γ M hP hnt hM => ?_
 subst hP
 refine Tr.init [(0, .agg [.d (.int .i64 x1.From), .d (.int .i64 x1.Event), .d (.int .i64 x1.To)]), (1, .d (.int .i64 s2))] rfl ?_
 unfold f_automaton_out_1 at h
 unfold F_automaton_out_1
 refine sr ((Rn.box (v := .agg [.d (.int .i64 x1.From), .d (.int .i64 x1.Event), .d (.int .i64 x1.To)]) (cs := [.d (.int .i64 x1.From), .d (.int .i64 x1.Event), .d (.int .i64 x1.To)]) trivial rfl rfl rfl rfl rfl (md rfl (nt ((sr ((Rn.fldP (o' := 0) trivial rfl rfl (Rn.load (v := .d (.int .i64 x1.From)) trivial rfl (boxOwn rfl) rfl rfl (md rfl (Rn.bin trivial rfl rfl rfl (md rfl (nt ((Tr.ret ?_)))))))))))))))
 replace h := si h; subst h
 exact ⟨.inr rfl, (.d (.int .i64 (IntKind.wrap .i64 (x1.From - s2)))), rfl, fun _ _ _ _ h => h, trivial, fun k hk => memOf_base hk⟩
theorem automaton_out_2_walk {P : Program} {c : Nat} (hcf : compFn P c = some F_automaton_out_2) : K_automaton_out_2 P c (f_automaton_out_2) := by
 intro x1 s2 r h
 refine fn_trP hcf rfl fun Γ M hP hnt hM => ?_
 subst hP
 refine Tr.init [(0, .agg [.d (.int .i64 x1.From), .d (.int .i64 x1.Event), .d (.int .i64 x1.To)]), (1, .d (.int .i64 s2))] rfl ?_
 unfold f_automaton_out_2 at h
 unfold F_automaton_out_2
 refine sr ((Rn.box (v := .agg [.d (.int .i64 x1.From), .d (.int .i64 x1.Event), .d (.int .i64 x1.To)]) (cs := [.d (.int .i64 x1.From), .d (.int .i64 x1.Event), .d (.int .i64 x1.To)]) trivial rfl rfl rfl rfl rfl (md rfl (nt ((sr ((Rn.fldP (o' := 0) trivial rfl rfl (Rn.load (v := .d (.int .i64 x1.From)) trivial rfl (boxOwn rfl) rfl rfl (md rfl (Rn.bin trivial rfl rfl rfl (md rfl (nt ((Tr.ret ?_)))))))))))))))
 replace h := si h; subst h
 exact ⟨.inr rfl, (.d (.int .i64 (IntKind.wrap .i64 (x1.From - s2)))), rfl, fun _ _ _ _ h => h, trivial, fun k hk => memOf_base hk⟩
theorem automaton_out_walk {P : Program} {c : Nat} {f_slices_BinarySearchFunc_int : (List api_Edge) → Int → (api_Edge → Int → Option Int) → Option (Int × Bool)} {f_automaton_out_1 : api_Edge → Int → Option Int} {f_automaton_out_2 : api_Edge → Int → Option Int}
    (H_slices_BinarySearchFunc_int : K_slices_BinarySearchFunc_int P 116 f_slices_BinarySearchFunc_int)
    (H_automaton_out_1 : K_automaton_out_1 P 117 f_automaton_out_1)
    (H_automaton_out_2 : K_automaton_out_2 P 118 f_automaton_out_2) (hcf : compFn P c = some F_automaton_out) : K_automaton_out P c (f_automaton_out f_slices_BinarySearchFunc_int f_automaton_out_1 f_automaton_out_2) := by
 intro a1 state2 r h
 refine fn_trP hcf rfl fun Γ M hP hnt hM => ?_
 subst hP
 refine Tr.init [(0, .agg [.d (.lst 1 (List.map (eI .i64) a1.Alphabet)), .d (.int .i64 a1.States), .d (.lst 1 (List.map (eI .i64) a1.Marked)), .d (.lst 3 (List.map e_api_Edge a1.Edges))]), (1, .d (.int .i64 state2))] rfl ?_
 unfold f_automaton_out at h
 unfold F_automaton_out
 refine sr ((Rn.box (v := .agg [.d (.lst 1 (List.map (eI .i64) a1.Alphabet)), .d (.int .i64 a1.States), .d (.lst 1 (List.map (eI .i64) a1.Marked)), .d (.lst 3 (List.map e_api_Edge a1.Edges))]) (cs := [.d (.lst 1 (List.map (eI .i64) a1.Alphabet)), .d (.int .i64 a1.States), .d (.lst 1 (List.map (eI .i64) a1.Marked)), .d (.lst 3 (List.map e_api_Edge a1.Edges))]) trivial rfl rfl rfl rfl rfl (Rn.movTC (v := .nils 3) trivial (nt ((sr ((Rn.fldP (o' := 3) trivial rfl rfl (Rn.load (v := .d (.lst 3 (List.map e_api_Edge a1.Edges))) trivial rfl (boxOwn rfl) rfl rfl (md rfl ?_))))))))))
 obtain ⟨⟨r8, r9⟩, h7, h⟩ := bnd h
 refine Rn.callM (args := [.d (.lst 3 (List.map e_api_Edge a1.Edges)), .d (.int .i64 state2), .clo 117 []]) trivial rfl (fun M2 nb2 hn hx => H_slices_BinarySearchFunc_int _ _ _ 117 [] _ h7 M2 nb2 rfl trivial (fun a3 a4 r5 h6 M3 nb3 hn3 hx3 => H_automaton_out_1 a3 a4 r5 h6 M3 nb3 )) rfl pc9 ?_
 refine Rn.mov (v := .tup [.d (.int .i64 r8), .d (.bool r9)]) trivial rfl (Rn.ext (v := .d (.int .i64 r8)) (vs := [.d (.int .i64 r8), .d (.bool r9)]) trivial rfl rfl rfl (Rn.ext (v := .d (.bool r9)) (vs := [.d (.int .i64 r8), .d (.bool r9)]) trivial rfl rfl rfl (md rfl (md rfl (nt ((sr ((Rn.fldP (o' := 3) trivial rfl rfl (Rn.load (v := .d (.lst 3 (List.map e_api_Edge a1.Edges))) trivial rfl (boxOwn rfl) rfl rfl (md rfl (Rn.bin trivial rfl rfl rfl ?_))))))))))))
 obtain ⟨⟨r15, r16⟩, h14, h⟩ := bnd h
 refine Rn.callM (args := [.d (.lst 3 (List.map e_api_Edge a1.Edges)), .d (.int .i64 (IntKind.wrap .i64 (state2 + 1))), .clo 118 []]) trivial rfl (fun M2 nb2 hn hx => H_slices_BinarySearchFunc_int _ _ _ 118 [] _ h14 M2 nb2 rfl trivial (fun a10 a11 r12 h13 M3 nb3 hn3 hx3 => H_automaton_out_2 a10 a11 r12 h13 M3 nb3 )) rfl pc9 ?_
 refine Rn.mov (v := .tup [.d (.int .i64 r15), .d (.bool r16)]) trivial rfl (Rn.ext (v := .d (.int .i64 r15)) (vs := [.d (.int .i64 r15), .d (.bool r16)]) trivial rfl rfl rfl (Rn.ext (v := .d (.bool r16)) (vs := [.d (.int .i64 r15), .d (.bool r16)]) trivial rfl rfl rfl (md rfl (md rfl (nt ((sr ((Rn.fldP (o' := 3) trivial rfl rfl (Rn.load (v := .d (.lst 3 (List.map e_api_Edge a1.Edges))) trivial rfl (boxOwn rfl) rfl rfl (md rfl (md rfl ?_))))))))))))
 obtain ⟨x17, h18, h⟩ := bnd h
 refine Rn.slc2 (e := e_api_Edge) trivial rfl rfl rfl h18 (Rn.movTD trivial rfl (nt ((Tr.ret ?_))))
 replace h := si h; subst h
 exact ⟨.inr rfl, (.d (.lst 3 (List.map e_api_Edge x17))), rfl, fun _ _ _ _ h => h, trivial, fun k hk => memOf_base hk⟩
theorem automaton_Enabled_walk {P : Program} {c : Nat} {f_automaton_checkState : api_Automaton → Int → Option Int} {f_automaton_out : api_Automaton → Int → Option ((List api_Edge))}
    (H_automaton_checkState : K_automaton_checkState P 93 f_automaton_checkState)
    (H_automaton_out : K_automaton_out P 94 f_automaton_out) (hcf : compFn P c = some F_automaton_Enabled) (fuel : Nat) : K_automaton_Enabled P c (f_automaton_Enabled f_automaton_checkState f_automaton_out fuel) := by
 intro a1 state2 r h
 refine fn_trP hcf rfl fun Γ M hP hnt hM => ?_
 subst hP
 refine Tr.init [(0, .agg [.d (.lst 1 (List.map (eI .i64) a1.Alphabet)), .d (.int .i64 a1.States), .d (.lst 1 (List.map (eI .i64) a1.Marked)), .d (.lst 3 (List.map e_api_Edge a1.Edges))]), (1, .d (.int .i64 state2))] rfl ?_
 unfold f_automaton_Enabled at h
 unfold F_automaton_Enabled
 refine sr ((Rn.box (v := .agg [.d (.lst 1 (List.map (eI .i64) a1.Alphabet)), .d (.int .i64 a1.States), .d (.lst 1 (List.map (eI .i64) a1.Marked)), .d (.lst 3 (List.map e_api_Edge a1.Edges))]) (cs := [.d (.lst 1 (List.map (eI .i64) a1.Alphabet)), .d (.int .i64 a1.States), .d (.lst 1 (List.map (eI .i64) a1.Marked)), .d (.lst 3 (List.map e_api_Edge a1.Edges))]) trivial rfl rfl rfl rfl rfl (Rn.movTC (v := .nils 1) trivial (md rfl (nt ((Tr.seq (sr ((Rn.load (v := .agg [.d (.lst 1 (List.map (eI .i64) a1.Alphabet)), .d (.int .i64 a1.States), .d (.lst 1 (List.map (eI .i64) a1.Marked)), .d (.lst 3 (List.map e_api_Edge a1.Edges))]) trivial rfl (boxOwn rfl) rfl rfl (md rfl ?_)))))))))))
 obtain ⟨x4, h3, h⟩ := bnd h
 refine Rn.call (args := [.agg [.d (.lst 1 (List.map (eI .i64) a1.Alphabet)), .d (.int .i64 a1.States), .d (.lst 1 (List.map (eI .i64) a1.Marked)), .d (.lst 3 (List.map e_api_Edge a1.Edges))], .d (.int .i64 state2)]) trivial rfl (H_automaton_checkState _ _ _ h3) pc9 (md rfl (nt ((sr ((md rfl (Rn.bin trivial rfl rfl rfl (Rn.nil (toN ?_)))))))))
 refine Tr.cond rfl (fun hb5 => ?_) (fun hb5 => ?_)
 ·replace h := bT hb5 h
  refine sr ((md rfl (Rn.movTC (v := .nils 1) trivial (md rfl (nt ((Tr.ret ?_)))))))
  replace h := si h; subst h
  exact ⟨.inr rfl, .tup [.nils 1, .d (.int .i64 x4)], res2 rfl rfl, (WkV.tup (.cons (WkV.nilsO _) (.cons (.same rfl) .nil))).rd, ⟨trivial, trivial, trivial⟩, fun k hk => memOf_base hk⟩
 ·replace h := bF hb5 h
  refine Tr.skip (toN (sr ((Rn.movTC (v := .nils 1) trivial (Rn.nil (toN ?_))))))
  refine Tr.cutB (fun (l16 : List Int) => ⟨look [(7, .own 1 (List.map (eI .i64) l16))], memOf Γ.n0 (bxs [(2, .cells ([.d (.lst 1 (List.map (eI .i64) a1.Alphabet)), .d (.int .i64 a1.States), .d (.lst 1 (List.map (eI .i64) a1.Marked)), .d (.lst 3 (List.map e_api_Edge a1.Edges))]))]) M, Γ.n0 + 31⟩) h (fun z h => ?_) (fun z h => ?_)
  ·refine sr ((Rn.load (v := .agg [.d (.lst 1 (List.map (eI .i64) a1.Alphabet)), .d (.int .i64 a1.States), .d (.lst 1 (List.map (eI .i64) a1.Marked)), .d (.lst 3 (List.map e_api_Edge a1.Edges))]) trivial rfl (boxOwn rfl) rfl rfl (md rfl ?_)))
   obtain ⟨x7, h6, h⟩ := bnd h
   refine Rn.call (args := [.agg [.d (.lst 1 (List.map (eI .i64) a1.Alphabet)), .d (.int .i64 a1.States), .d (.lst 1 (List.map (eI .i64) a1.Marked)), .d (.lst 3 (List.map e_api_Edge a1.Edges))], .d (.int .i64 state2)]) trivial rfl (H_automaton_out _ _ _ h6) pc9 (Rn.lenD trivial rfl (md rfl (nt ((Tr.block ?_)))))
   refine Tr.loop (mk := fun ((l8, x9) : (List Int) × Int) => ⟨look [(7, .own 1 (List.map (eI .i64) l8)), (18, .d (.lst 3 (List.map e_api_Edge x7))), (19, .d (.int .i64 (x7.length : Int))), (20, .d (.int .i64 x9))], memOf Γ.n0 (bxs [(2, .cells ([.d (.lst 1 (List.map (eI .i64) a1.Alphabet)), .d (.int .i64 a1.States), .d (.lst 1 (List.map (eI .i64) a1.Marked)), .d (.lst 3 (List.map e_api_Edge a1.Edges))]))]) M, Γ.n0 + 31⟩) h (by show WeakSt Γ (clean _ _ _) ⟨look _, memOf _ (bxs _) _, _⟩; exact weak_clean ⟨(WkV.nilsO _), ⟨(.same rfl), ⟨(.same rfl), ⟨(.same rfl), trivial⟩⟩⟩⟩ ⟨⟨_, rfl, rfl, (.same rfl)⟩, trivial⟩ rfl) (fun k10 z h => ?_)
   ·obtain ⟨l8, x9⟩ := z
    replace h : _ = some _ := h
    refine sr ((Rn.bin trivial rfl rfl rfl (nt ((Tr.seq ?_)))))
    refine Tr.cond rfl (fun hb11 => ?_) (fun hb11 => ?_)
    ·replace h := ifT hb11 h
     refine Tr.skip (toN (Tr.seq (Tr.block (Tr.seq (Tr.rgn ?_)))))
     obtain ⟨x12, h13, h⟩ := bnd h
     refine Rn.idxD (e := e_api_Edge) trivial rfl rfl h13 (Rn.loadCA (vs := [.d (.int .i64 x12.From), .d (.int .i64 x12.Event), .d (.int .i64 x12.To)]) trivial rfl rfl rfl (Rn.alloc trivial rfl (Rn.store (v := .agg [.d (.int .i64 x12.From), .d (.int .i64 x12.Event), .d (.int .i64 x12.To)]) (cs' := [.d (.int .i64 x12.From), .d (.int .i64 x12.Event), .d (.int .i64 x12.To)]) trivial rfl rfl rfl rfl rfl rfl (nt ((Tr.rgn (Rn.movTO trivial rfl (Rn.fldP (o' := 1) trivial rfl rfl (Rn.load (v := .d (.int .i64 x12.Event)) trivial rfl (boxOwn rfl) rfl rfl (Rn.bslice (xs := [.d (.int .i64 x12.Event)]) (cs := [.d (.int .i64 x12.Event)]) trivial rfl rfl rfl rfl ?_))))))))))
     obtain ⟨x14, h15, h⟩ := bnd h
     refine Rn.app (e := (eI .i64)) trivial rfl rfl rfl (elems_box rfl rfl rfl) h15 rfl (Rn.movTO trivial rfl (nt ((Tr.rgn (Rn.bin trivial rfl rfl rfl (md rfl (Rn.nil ?_)))))))
     exact ⟨_, h, (by show WeakSt Γ (clean _ _ _) ⟨look _, memOf _ (bxs _) _, _⟩; exact weak_clean ⟨(.same rfl), ⟨(.same rfl), ⟨(.same rfl), ⟨(.same rfl), trivial⟩⟩⟩⟩ ⟨⟨_, rfl, rfl, (.same rfl)⟩, trivial⟩ rfl)⟩
    ·replace h := ifF hb11 h
     refine Tr.exit ?_
     replace h := si h; subst h
     show WeakSt Γ _ ⟨look _, memOf _ (bxs _) _, _⟩; exact weak_cut [] ⟨(.same rfl), trivial⟩ ⟨⟨_, rfl, rfl, (.same rfl)⟩, trivial⟩ rfl
  ·obtain ⟨l16, rfl⟩ : ∃ x, x = z := ⟨_, rfl⟩
   refine sr ((Rn.movTO trivial rfl (Rn.movTO trivial rfl (md rfl (nt ((Tr.ret ?_)))))))
   replace h := si h; subst h
   exact ⟨.inr rfl, .tup [.own 1 (List.map (eI .i64) l16), .d (.int .i64 0)], res2 rfl rfl, (WkV.tup (.cons (.same rfl) (.cons (.same rfl) .nil))).rd, ⟨trivial, trivial, trivial⟩, fun k hk => memOf_base hk⟩
theorem alphabet_Minus_1_walk {P : Program} {c : Nat} (hcf : compFn P c = some F_alphabet_Minus_1) : K_alphabet_Minus_1 P c (f_alphabet_Minus_1) := by
 intro inA1 inB2 r h
 refine fn_trP hcf rfl fun Γ M hP hnt hM => ?_
 subst hP
 refine Tr.init [(0, .d (.bool inA1)), (1, .d (.bool inB2))] rfl ?_
 unfold f_alphabet_Minus_1 at h
 unfold F_alphabet_Minus_1
 refine sr ((md rfl (nt ((sr ((md rfl (md rfl ?_))))))))
 refine bsplit inA1 (fun hb3 => ?_) (fun hb3 => ?_)
 ·replace h := bT hb3 h
  refine Rn.movD (gw rfl hb3) rfl (Rn.un (gw rfl hb3) rfl rfl (Rn.pickT (v := .d (.bool (!inB2))) trivial rfl hb3 rfl (md rfl (nt ((Tr.ret ?_))))))
  replace h := si h; subst h
  exact ⟨.inr rfl, (.d (.bool (!inB2))), rfl, fun _ _ _ _ h => h, trivial, fun k hk => memOf_base hk⟩
 ·replace h := bF hb3 h
  refine Rn.sk (nw rfl hb3) (Rn.sk (nw rfl hb3) (Rn.pickF (v := .d (.bool false)) trivial rfl hb3 rfl (md rfl (nt ((Tr.ret ?_))))))
  replace h := si h; subst h
  exact ⟨.inr rfl, (.d (.bool false)), rfl, fun _ _ _ _ h => h, trivial, fun k hk => memOf_base hk⟩
theorem alphabet_Minus_walk {P : Program} {c : Nat} {f_alphabet_merge : (List Int) → (List Int) → (Bool → Bool → Option Bool) → Option ((List Int))} {f_alphabet_Minus_1 : Bool → Bool → Option Bool}
    (H_alphabet_merge : K_alphabet_merge P 83 f_alphabet_merge)
    (H_alphabet_Minus_1 : K_alphabet_Minus_1 P 95 f_alphabet_Minus_1) (hcf : compFn P c = some F_alphabet_Minus) : K_alphabet_Minus P c (f_alphabet_Minus f_alphabet_merge f_alphabet_Minus_1) := by
 intro a1 b2 r h
 refine fn_trP hcf rfl fun Γ M hP hnt hM => ?_
 subst hP
 refine Tr.init [(0, .d (.lst 1 (List.map (eI .i64) a1))), (1, .d (.lst 1 (List.map (eI .i64) b2)))] rfl ?_
 unfold f_alphabet_Minus at h
 unfold F_alphabet_Minus
 refine sr ((Rn.movTC (v := .nils 1) trivial (nt ((sr ((md rfl (md rfl ?_))))))))
 obtain ⟨x8, h7, h⟩ := bnd h
 refine Rn.callM (args := [.d (.lst 1 (List.map (eI .i64) a1)), .d (.lst 1 (List.map (eI .i64) b2)), .clo 95 []]) trivial rfl (fun M2 nb2 hn hx => H_alphabet_merge _ _ _ 95 [] _ h7 M2 nb2 rfl trivial (fun a3 a4 r5 h6 M3 nb3 hn3 hx3 => H_alphabet_Minus_1 a3 a4 r5 h6 M3 nb3 )) rfl pc9 ?_
 refine Rn.movTO trivial rfl (nt ((Tr.ret ?_)))
 replace h := si h; subst h
 exact ⟨.inr rfl, (.own 1 (List.map (eI .i64) x8)), rfl, fun _ _ _ _ h => h, trivial, fun k hk => memOf_base hk⟩
theorem requirement_Refused_walk {P : Program} {c : Nat} {f_automaton_Enabled : api_Automaton → Int → Option ((List Int) × Int)} {f_alphabet_Minus : (List Int) → (List Int) → Option ((List Int))}
    (H_automaton_Enabled : K_automaton_Enabled P 72 f_automaton_Enabled)
    (H_alphabet_Minus : K_alphabet_Minus P 73 f_alphabet_Minus) (hcf : compFn P c = some F_requirement_Refused) : K_requirement_Refused P c (f_requirement_Refused f_automaton_Enabled f_alphabet_Minus) := by
 intro a1 state2 r h
 refine fn_trP hcf rfl fun Γ M hP hnt hM => ?_
 subst hP
 refine Tr.init [(0, .agg [.d (.lst 1 (List.map (eI .i64) a1.Alphabet)), .d (.int .i64 a1.States), .d (.lst 1 (List.map (eI .i64) a1.Marked)), .d (.lst 3 (List.map e_api_Edge a1.Edges))]), (1, .d (.int .i64 state2))] rfl ?_
 unfold f_requirement_Refused at h
 unfold F_requirement_Refused
 refine sr ((Rn.box (v := .agg [.d (.lst 1 (List.map (eI .i64) a1.Alphabet)), .d (.int .i64 a1.States), .d (.lst 1 (List.map (eI .i64) a1.Marked)), .d (.lst 3 (List.map e_api_Edge a1.Edges))]) (cs := [.d (.lst 1 (List.map (eI .i64) a1.Alphabet)), .d (.int .i64 a1.States), .d (.lst 1 (List.map (eI .i64) a1.Marked)), .d (.lst 3 (List.map e_api_Edge a1.Edges))]) trivial rfl rfl rfl rfl rfl (Rn.movTC (v := .nils 1) trivial (md rfl (nt ((sr ((Rn.load (v := .agg [.d (.lst 1 (List.map (eI .i64) a1.Alphabet)), .d (.int .i64 a1.States), .d (.lst 1 (List.map (eI .i64) a1.Marked)), .d (.lst 3 (List.map e_api_Edge a1.Edges))]) trivial rfl (boxOwn rfl) rfl rfl (md rfl ?_))))))))))
 obtain ⟨⟨r4, r5⟩, h3, h⟩ := bnd h
 refine Rn.call (args := [.agg [.d (.lst 1 (List.map (eI .i64) a1.Alphabet)), .d (.int .i64 a1.States), .d (.lst 1 (List.map (eI .i64) a1.Marked)), .d (.lst 3 (List.map e_api_Edge a1.Edges))], .d (.int .i64 state2)]) trivial rfl (H_automaton_Enabled _ _ _ h3) pc9 (Rn.mov (v := .tup [.d (.lst 1 (List.map (eI .i64) r4)), .d (.int .i64 r5)]) trivial rfl (Rn.extTD (vs := [.d (.lst 1 (List.map (eI .i64) r4)), .d (.int .i64 r5)]) trivial rfl rfl rfl (Rn.ext (v := .d (.int .i64 r5)) (vs := [.d (.lst 1 (List.map (eI .i64) r4)), .d (.int .i64 r5)]) trivial rfl rfl rfl (Rn.movTD trivial rfl (md rfl (nt ((Tr.seq (sr ((md rfl (Rn.bin trivial rfl rfl rfl (Rn.nil (toN ?_))))))))))))))
 refine Tr.cond rfl (fun hb6 => ?_) (fun hb6 => ?_)
 ·replace h := bT hb6 h
  refine sr ((md rfl (Rn.movTC (v := .nils 1) trivial (md rfl (nt ((Tr.ret ?_)))))))
  replace h := si h; subst h
  exact ⟨.inr rfl, .tup [.nils 1, .d (.int .i64 r5)], res2 rfl rfl, (WkV.tup (.cons (WkV.nilsO _) (.cons (.same rfl) .nil))).rd, ⟨trivial, trivial, trivial⟩, fun k hk => memOf_base hk⟩
 ·replace h := bF hb6 h
  refine Tr.skip (toN (sr ((Rn.fldP (o' := 0) trivial rfl rfl (Rn.load (v := .d (.lst 1 (List.map (eI .i64) a1.Alphabet))) trivial rfl (boxOwn rfl) rfl rfl (md rfl ?_))))))
  obtain ⟨x8, h7, h⟩ := bnd h
  refine Rn.call (args := [.d (.lst 1 (List.map (eI .i64) a1.Alphabet)), .d (.lst 1 (List.map (eI .i64) r4))]) trivial rfl (H_alphabet_Minus _ _ _ h7) pc9 (Rn.movTO trivial rfl (md rfl (nt ((Tr.ret ?_)))))
  replace h := si h; subst h
  exact ⟨.inr rfl, .tup [.own 1 (List.map (eI .i64) x8), .d (.int .i64 0)], res2 rfl rfl, (WkV.tup (.cons (.same rfl) (.cons (.same rfl) .nil))).rd, ⟨trivial, trivial, trivial⟩, fun k hk => memOf_base hk⟩
theorem slices_Equal_int_walk {P : Program} {c : Nat} (hcf : compFn P c = some F_slices_Equal_int) (fuel : Nat) : K_slices_Equal_int P c (f_slices_Equal_int fuel) := by
 intro s1 s2 r h
 refine fn_trP hcf rfl fun Γ M hP hnt hM => ?_
 subst hP
 refine Tr.init [(0, .d (.lst 1 (List.map (eI .i64) s1))), (1, .d (.lst 1 (List.map (eI .i64) s2)))] rfl ?_
 unfold f_slices_Equal_int at h
 unfold F_slices_Equal_int
 refine sr ((md rfl (nt ((Tr.seq (sr ((md rfl (Rn.lenD trivial rfl (md rfl (Rn.lenD trivial rfl (Rn.bin trivial rfl rfl rfl (Rn.nil (toN ?_))))))))))))))
 refine Tr.cond rfl (fun hb3 => ?_) (fun hb3 => ?_)
 ·replace h := bT hb3 h
  refine sr ((md rfl (nt ((Tr.ret ?_)))))
  replace h := si h; subst h
  exact ⟨.inr rfl, (.d (.bool false)), rfl, fun _ _ _ _ h => h, trivial, fun k hk => memOf_base hk⟩
 ·replace h := bF hb3 h
  refine Tr.skip (toN (Tr.seq (sr ((md rfl (Rn.lenD trivial rfl (md rfl (nt ((Tr.block ?_))))))))))
  refine Tr.loop (mk := fun (x4 : Int) => ⟨look [(0, .d (.lst 1 (List.map (eI .i64) s1))), (1, .d (.lst 1 (List.map (eI .i64) s2))), (12, .d (.int .i64 (s1.length : Int))), (13, .d (.int .i64 x4))], memOf Γ.n0 (bxs []) M, Γ.n0 + 26⟩) h (by show WeakSt Γ (clean _ _ _) ⟨look _, memOf _ (bxs _) _, _⟩; exact weak_clean ⟨(.same rfl), ⟨(.same rfl), ⟨(.same rfl), ⟨(.same rfl), trivial⟩⟩⟩⟩ trivial rfl) (fun k5 z h => ?_)
  ·obtain ⟨x4, rfl⟩ : ∃ x, x = z := ⟨_, rfl⟩
   replace h : _ = some _ := h
   refine sr ((Rn.bin trivial rfl rfl rfl (nt ((Tr.seq ?_)))))
   refine Tr.cond rfl (fun hb6 => ?_) (fun hb6 => ?_)
   ·replace h := ifT hb6 h
    refine Tr.skip (toN (Tr.seq (Tr.block (sr ((md rfl (md rfl (nt ((Tr.seq ?_))))))))))
    refine Tr.rgnD (by decide) ?_
    refine md rfl (md rfl ?_)
    obtain ⟨x7, h8, h⟩ := bnd h
    refine Rn.idxD (e := (eI .i64)) trivial rfl rfl h8 (Rn.loadC (x := .int .i64 x7) trivial rfl (md rfl (md rfl ?_)))
    obtain ⟨x9, h10, h⟩ := bnd h
    refine Rn.idxD (e := (eI .i64)) trivial rfl rfl h10 (Rn.loadC (x := .int .i64 x9) trivial rfl (Rn.bin trivial rfl rfl rfl ?_))
    refine Rn.nil ⟨rfl, ?_⟩
    refine toN ?_
    refine Tr.cond rfl (fun hb11 => ?_) (fun hb11 => ?_)
    ·replace h := bT hb11 h
     refine sr ((md rfl (nt ((Tr.ret ?_)))))
     replace h := si h; subst h
     exact ⟨.inr rfl, (.d (.bool false)), rfl, fun _ _ _ _ h => h, trivial, fun k hk => memOf_base hk⟩
    ·replace h := bF hb11 h
     refine Tr.skip (toN (Tr.rgn (Rn.bin trivial rfl rfl rfl (md rfl (Rn.nil ?_)))))
     exact ⟨_, h, (by show WeakSt Γ (clean _ _ _) ⟨look _, memOf _ (bxs _) _, _⟩; exact weak_clean ⟨(.same rfl), ⟨(.same rfl), ⟨(.same rfl), ⟨(.same rfl), trivial⟩⟩⟩⟩ trivial rfl)⟩
   ·replace h := ifF hb6 h
    refine Tr.exit (toN (sr ((md rfl (nt ((Tr.ret ?_)))))))
    replace h := si h; subst h
    exact ⟨.inr rfl, (.d (.bool true)), rfl, fun _ _ _ _ h => h, trivial, fun k hk => memOf_base hk⟩
theorem slices_Equal_Edge_walk {P : Program} {c : Nat} (hcf : compFn P c = some F_slices_Equal_Edge) (fuel : Nat) : K_slices_Equal_Edge P c (f_slices_Equal_Edge fuel) := by
 intro s1 s2 r h
 refine fn_trP hcf rfl fun Γ M hP hnt hM => ?_
 subst hP
 refine Tr.init [(0, .d (.lst 3 (List.map e_api_Edge s1))), (1, .d (.lst 3 (List.map e_api_Edge s2)))] rfl ?_
 unfold f_slices_Equal_Edge at h
 unfold F_slices_Equal_Edge
 refine sr ((md rfl (nt ((Tr.seq (sr ((md rfl (Rn.lenD trivial rfl (md rfl (Rn.lenD trivial rfl (Rn.bin trivial rfl rfl rfl (Rn.nil (toN ?_))))))))))))))
 refine Tr.cond rfl (fun hb3 => ?_) (fun hb3 => ?_)
 ·replace h := bT hb3 h
  refine sr ((md rfl (nt ((Tr.ret ?_)))))
  replace h := si h; subst h
  exact ⟨.inr rfl, (.d (.bool false)), rfl, fun _ _ _ _ h => h, trivial, fun k hk => memOf_base hk⟩
 ·replace h := bF hb3 h
  refine Tr.skip (toN (Tr.seq (sr ((md rfl (Rn.lenD trivial rfl (md rfl (nt ((Tr.block ?_))))))))))
  refine Tr.loop (mk := fun (x4 : Int) => ⟨look [(0, .d (.lst 3 (List.map e_api_Edge s1))), (1, .d (.lst 3 (List.map e_api_Edge s2))), (12, .d (.int .i64 (s1.length : Int))), (13, .d (.int .i64 x4))], memOf Γ.n0 (bxs []) M, Γ.n0 + 26⟩) h (by show WeakSt Γ (clean _ _ _) ⟨look _, memOf _ (bxs _) _, _⟩; exact weak_clean ⟨(.same rfl), ⟨(.same rfl), ⟨(.same rfl), ⟨(.same rfl), trivial⟩⟩⟩⟩ trivial rfl) (fun k5 z h => ?_)
  ·obtain ⟨x4, rfl⟩ : ∃ x, x = z := ⟨_, rfl⟩
   replace h : _ = some _ := h
   refine sr ((Rn.bin trivial rfl rfl rfl (nt ((Tr.seq ?_)))))
   refine Tr.cond rfl (fun hb6 => ?_) (fun hb6 => ?_)
   ·replace h := ifT hb6 h
    refine Tr.skip (toN (Tr.seq (Tr.block (sr ((md rfl (md rfl (nt ((Tr.seq ?_))))))))))
    refine Tr.rgnD (by decide) ?_
    refine md rfl (md rfl ?_)
    obtain ⟨x7, h8, h⟩ := bnd h
    refine Rn.idxD (e := e_api_Edge) trivial rfl rfl h8 (Rn.loadCA (vs := [.d (.int .i64 x7.From), .d (.int .i64 x7.Event), .d (.int .i64 x7.To)]) trivial rfl rfl rfl (md rfl (md rfl ?_)))
    obtain ⟨x9, h10, h⟩ := bnd h
    refine Rn.idxD (e := e_api_Edge) trivial rfl rfl h10 (Rn.loadCA (vs := [.d (.int .i64 x9.From), .d (.int .i64 x9.Event), .d (.int .i64 x9.To)]) trivial rfl rfl rfl (Rn.eqa (r := ((x7.From == x9.From) && ((x7.Event == x9.Event) && ((x7.To == x9.To) && true)))) trivial rfl rfl rfl ?_))
    refine Rn.nil ⟨rfl, ?_⟩
    refine toN ?_
    refine Tr.cond rfl (fun hb11 => ?_) (fun hb11 => ?_)
    ·have hb11 := nT' hb11
     replace h := bF hb11 h
     refine sr ((md rfl (nt ((Tr.ret ?_)))))
     replace h := si h; subst h
     exact ⟨.inr rfl, (.d (.bool false)), rfl, fun _ _ _ _ h => h, trivial, fun k hk => memOf_base hk⟩
    ·have hb11 := nF' hb11
     replace h := bT hb11 h
     refine Tr.skip (toN (Tr.rgn (Rn.bin trivial rfl rfl rfl (md rfl (Rn.nil ?_)))))
     exact ⟨_, h, (by show WeakSt Γ (clean _ _ _) ⟨look _, memOf _ (bxs _) _, _⟩; exact weak_clean ⟨(.same rfl), ⟨(.same rfl), ⟨(.same rfl), ⟨(.same rfl), trivial⟩⟩⟩⟩ trivial rfl)⟩
   ·replace h := ifF hb6 h
    refine Tr.exit (toN (sr ((md rfl (nt ((Tr.ret ?_)))))))
    replace h := si h; subst h
    exact ⟨.inr rfl, (.d (.bool true)), rfl, fun _ _ _ _ h => h, trivial, fun k hk => memOf_base hk⟩
theorem overseerlaw21_known_walk {P : Program} {c : Nat} {f_requirement_AtMost : (List requirement_Phase) → Int → Option (api_Automaton × Int)} {f_requirement_Buffer : (List Int) → (List Int) → Int → Option (api_Automaton × Int)} {f_requirement_Alternate : (List Int) → Option (api_Automaton × Int)} {f_requirement_Refused : api_Automaton → Int → Option ((List Int) × Int)} {f_slices_Equal_int : (List Int) → (List Int) → Option Bool} {f_slices_Equal_Edge : (List api_Edge) → (List api_Edge) → Option Bool}
    (H_requirement_AtMost : K_requirement_AtMost P 11 f_requirement_AtMost)
    (H_requirement_Buffer : K_requirement_Buffer P 19 f_requirement_Buffer)
    (H_requirement_Alternate : K_requirement_Alternate P 31 f_requirement_Alternate)
    (H_requirement_Refused : K_requirement_Refused P 36 f_requirement_Refused)
    (H_slices_Equal_int : K_slices_Equal_int P 40 f_slices_Equal_int)
    (H_slices_Equal_Edge : K_slices_Equal_Edge P 46 f_slices_Equal_Edge) (hcf : compFn P c = some F_overseerlaw21_known) : K_overseerlaw21_known P c (f_overseerlaw21_known f_requirement_AtMost f_requirement_Buffer f_requirement_Alternate f_requirement_Refused f_slices_Equal_int f_slices_Equal_Edge) := by
 intro  r h
 refine fn_trP hcf rfl fun Γ M hP hnt hM => ?_
 subst hP
 refine Tr.init [] rfl ?_
 unfold f_overseerlaw21_known at h
 unfold F_overseerlaw21_known
 refine sr ((md rfl (nt ((sr ((Rn.bslice (xs := [.d (.int .i64 3), .d (.int .i64 1)]) (cs := [.d (.int .i64 3), .d (.int .i64 1)]) trivial rfl rfl rfl rfl ?_)))))))
 refine Rn.weak (by show WeakSt Γ _ ⟨look [(0, .d (.bool false)), (10, .d (.lst 1 (List.map (eI .i64) [3, 1])))], memOf Γ.n0 (bxs []) M, Γ.n0 + 75⟩; exact weak_freeze 10 [.int .i64 3, .int .i64 1] rfl rfl ⟨(.same rfl), ⟨(fSl rfl rfl), trivial⟩⟩ trivial rfl) ?_
 obtain ⟨⟨r2, r3⟩, h1, h⟩ := bnd h
 refine Rn.call (args := [.d (.lst 1 (List.map (eI .i64) [3, 1]))]) trivial rfl (H_requirement_Alternate _ _ h1) pc9 (Rn.mov (v := .tup [.agg [.d (.lst 1 (List.map (eI .i64) r2.Alphabet)), .d (.int .i64 r2.States), .d (.lst 1 (List.map (eI .i64) r2.Marked)), .d (.lst 3 (List.map e_api_Edge r2.Edges))], .d (.int .i64 r3)]) trivial rfl (Rn.ext (v := .agg [.d (.lst 1 (List.map (eI .i64) r2.Alphabet)), .d (.int .i64 r2.States), .d (.lst 1 (List.map (eI .i64) r2.Marked)), .d (.lst 3 (List.map e_api_Edge r2.Edges))]) (vs := [.agg [.d (.lst 1 (List.map (eI .i64) r2.Alphabet)), .d (.int .i64 r2.States), .d (.lst 1 (List.map (eI .i64) r2.Marked)), .d (.lst 3 (List.map e_api_Edge r2.Edges))], .d (.int .i64 r3)]) trivial rfl rfl rfl (Rn.ext (v := .d (.int .i64 r3)) (vs := [.agg [.d (.lst 1 (List.map (eI .i64) r2.Alphabet)), .d (.int .i64 r2.States), .d (.lst 1 (List.map (eI .i64) r2.Marked)), .d (.lst 3 (List.map e_api_Edge r2.Edges))], .d (.int .i64 r3)]) trivial rfl rfl rfl (Rn.alloc trivial rfl (Rn.store (v := .agg [.d (.lst 1 (List.map (eI .i64) r2.Alphabet)), .d (.int .i64 r2.States), .d (.lst 1 (List.map (eI .i64) r2.Marked)), .d (.lst 3 (List.map e_api_Edge r2.Edges))]) (cs' := [.d (.lst 1 (List.map (eI .i64) r2.Alphabet)), .d (.int .i64 r2.States), .d (.lst 1 (List.map (eI .i64) r2.Marked)), .d (.lst 3 (List.map e_api_Edge r2.Edges))]) trivial rfl rfl rfl rfl rfl rfl (md rfl (nt ((sr ((Rn.bslice (xs := [.d (.int .i64 0)]) (cs := [.d (.int .i64 0)]) trivial rfl rfl rfl rfl (Rn.bslice (xs := [.d (.int .i64 1)]) (cs := [.d (.int .i64 1)]) trivial rfl rfl rfl rfl ?_))))))))))))
 refine Rn.weak (by show WeakSt Γ _ ⟨look [(0, .d (.bool false)), (1, .ptr (Γ.n0 + 1) 0), (2, .d (.int .i64 r3)), (9, .tup [.agg [.d (.lst 1 (List.map (eI .i64) r2.Alphabet)), .d (.int .i64 r2.States), .d (.lst 1 (List.map (eI .i64) r2.Marked)), .d (.lst 3 (List.map e_api_Edge r2.Edges))], .d (.int .i64 r3)]), (10, .d (.lst 1 (List.map (eI .i64) [3, 1]))), (11, .tup [.agg [.d (.lst 1 (List.map (eI .i64) r2.Alphabet)), .d (.int .i64 r2.States), .d (.lst 1 (List.map (eI .i64) r2.Marked)), .d (.lst 3 (List.map e_api_Edge r2.Edges))], .d (.int .i64 r3)]), (12, .agg [.d (.lst 1 (List.map (eI .i64) r2.Alphabet)), .d (.int .i64 r2.States), .d (.lst 1 (List.map (eI .i64) r2.Marked)), .d (.lst 3 (List.map e_api_Edge r2.Edges))]), (13, .d (.int .i64 r3)), (15, .d (.lst 1 (List.map (eI .i64) [0]))), (16, .sl 1 (Γ.n0 + 16) 0 1 1)], memOf Γ.n0 (bxs [(1, .cells ([.d (.lst 1 (List.map (eI .i64) r2.Alphabet)), .d (.int .i64 r2.States), .d (.lst 1 (List.map (eI .i64) r2.Marked)), .d (.lst 3 (List.map e_api_Edge r2.Edges))])), (16, .cells ([.d (.int .i64 1)]))]) M, Γ.n0 + 75⟩; exact weak_freeze 15 [.int .i64 0] rfl rfl ⟨(.same rfl), ⟨(fPtr rfl), ⟨(.same rfl), ⟨(.same rfl), ⟨(.same rfl), ⟨(.same rfl), ⟨(.same rfl), ⟨(.same rfl), ⟨(fSl rfl rfl), ⟨(fSlO rfl), trivial⟩⟩⟩⟩⟩⟩⟩⟩⟩⟩ ⟨⟨_, rfl, rfl, (.same rfl)⟩, ⟨⟨_, rfl, rfl, (.same rfl)⟩, trivial⟩⟩ rfl) ?_
 refine Rn.weak (by show WeakSt Γ _ ⟨look [(0, .d (.bool false)), (1, .ptr (Γ.n0 + 1) 0), (2, .d (.int .i64 r3)), (9, .tup [.agg [.d (.lst 1 (List.map (eI .i64) r2.Alphabet)), .d (.int .i64 r2.States), .d (.lst 1 (List.map (eI .i64) r2.Marked)), .d (.lst 3 (List.map e_api_Edge r2.Edges))], .d (.int .i64 r3)]), (10, .d (.lst 1 (List.map (eI .i64) [3, 1]))), (11, .tup [.agg [.d (.lst 1 (List.map (eI .i64) r2.Alphabet)), .d (.int .i64 r2.States), .d (.lst 1 (List.map (eI .i64) r2.Marked)), .d (.lst 3 (List.map e_api_Edge r2.Edges))], .d (.int .i64 r3)]), (12, .agg [.d (.lst 1 (List.map (eI .i64) r2.Alphabet)), .d (.int .i64 r2.States), .d (.lst 1 (List.map (eI .i64) r2.Marked)), .d (.lst 3 (List.map e_api_Edge r2.Edges))]), (13, .d (.int .i64 r3)), (15, .d (.lst 1 (List.map (eI .i64) [0]))), (16, .d (.lst 1 (List.map (eI .i64) [1])))], memOf Γ.n0 (bxs [(1, .cells ([.d (.lst 1 (List.map (eI .i64) r2.Alphabet)), .d (.int .i64 r2.States), .d (.lst 1 (List.map (eI .i64) r2.Marked)), .d (.lst 3 (List.map e_api_Edge r2.Edges))]))]) M, Γ.n0 + 75⟩; exact weak_freeze 16 [.int .i64 1] rfl rfl ⟨(.same rfl), ⟨(fPtr rfl), ⟨(.same rfl), ⟨(.same rfl), ⟨(.same rfl), ⟨(.same rfl), ⟨(.same rfl), ⟨(.same rfl), ⟨(.same rfl), ⟨(fSl rfl rfl), trivial⟩⟩⟩⟩⟩⟩⟩⟩⟩⟩ ⟨⟨_, rfl, rfl, (.same rfl)⟩, trivial⟩ rfl) ?_
 obtain ⟨⟨r5, r6⟩, h4, h⟩ := bnd h
 refine Rn.call (args := [.d (.lst 1 (List.map (eI .i64) [0])), .d (.lst 1 (List.map (eI .i64) [1])), .d (.int .i64 2)]) trivial rfl (H_requirement_Buffer _ _ _ _ h4) pc9 (Rn.mov (v := .tup [.agg [.d (.lst 1 (List.map (eI .i64) r5.Alphabet)), .d (.int .i64 r5.States), .d (.lst 1 (List.map (eI .i64) r5.Marked)), .d (.lst 3 (List.map e_api_Edge r5.Edges))], .d (.int .i64 r6)]) trivial rfl (Rn.ext (v := .agg [.d (.lst 1 (List.map (eI .i64) r5.Alphabet)), .d (.int .i64 r5.States), .d (.lst 1 (List.map (eI .i64) r5.Marked)), .d (.lst 3 (List.map e_api_Edge r5.Edges))]) (vs := [.agg [.d (.lst 1 (List.map (eI .i64) r5.Alphabet)), .d (.int .i64 r5.States), .d (.lst 1 (List.map (eI .i64) r5.Marked)), .d (.lst 3 (List.map e_api_Edge r5.Edges))], .d (.int .i64 r6)]) trivial rfl rfl rfl (Rn.ext (v := .d (.int .i64 r6)) (vs := [.agg [.d (.lst 1 (List.map (eI .i64) r5.Alphabet)), .d (.int .i64 r5.States), .d (.lst 1 (List.map (eI .i64) r5.Marked)), .d (.lst 3 (List.map e_api_Edge r5.Edges))], .d (.int .i64 r6)]) trivial rfl rfl rfl (Rn.alloc trivial rfl (Rn.store (v := .agg [.d (.lst 1 (List.map (eI .i64) r5.Alphabet)), .d (.int .i64 r5.States), .d (.lst 1 (List.map (eI .i64) r5.Marked)), .d (.lst 3 (List.map e_api_Edge r5.Edges))]) (cs' := [.d (.lst 1 (List.map (eI .i64) r5.Alphabet)), .d (.int .i64 r5.States), .d (.lst 1 (List.map (eI .i64) r5.Marked)), .d (.lst 3 (List.map e_api_Edge r5.Edges))]) trivial rfl rfl rfl rfl rfl rfl (md rfl (nt ((sr ((Rn.build (v := .agg [.d (.int .i64 0), .d (.int .i64 1)]) trivial rfl (Rn.build (v := .agg [.d (.int .i64 2), .d (.int .i64 3)]) trivial rfl (Rn.bslice (xs := [.agg [.d (.int .i64 0), .d (.int .i64 1)], .agg [.d (.int .i64 2), .d (.int .i64 3)]]) (cs := [.d (.int .i64 0), .d (.int .i64 1), .d (.int .i64 2), .d (.int .i64 3)]) trivial rfl rfl rfl rfl ?_)))))))))))))
 refine Rn.weak (by show WeakSt Γ _ ⟨look [(0, .d (.bool false)), (1, .ptr (Γ.n0 + 1) 0), (2, .d (.int .i64 r3)), (3, .ptr (Γ.n0 + 3) 0), (4, .d (.int .i64 r6)), (9, .tup [.agg [.d (.lst 1 (List.map (eI .i64) r2.Alphabet)), .d (.int .i64 r2.States), .d (.lst 1 (List.map (eI .i64) r2.Marked)), .d (.lst 3 (List.map e_api_Edge r2.Edges))], .d (.int .i64 r3)]), (10, .d (.lst 1 (List.map (eI .i64) [3, 1]))), (11, .tup [.agg [.d (.lst 1 (List.map (eI .i64) r2.Alphabet)), .d (.int .i64 r2.States), .d (.lst 1 (List.map (eI .i64) r2.Marked)), .d (.lst 3 (List.map e_api_Edge r2.Edges))], .d (.int .i64 r3)]), (12, .agg [.d (.lst 1 (List.map (eI .i64) r2.Alphabet)), .d (.int .i64 r2.States), .d (.lst 1 (List.map (eI .i64) r2.Marked)), .d (.lst 3 (List.map e_api_Edge r2.Edges))]), (13, .d (.int .i64 r3)), (14, .tup [.agg [.d (.lst 1 (List.map (eI .i64) r5.Alphabet)), .d (.int .i64 r5.States), .d (.lst 1 (List.map (eI .i64) r5.Marked)), .d (.lst 3 (List.map e_api_Edge r5.Edges))], .d (.int .i64 r6)]), (15, .d (.lst 1 (List.map (eI .i64) [0]))), (16, .d (.lst 1 (List.map (eI .i64) [1]))), (17, .tup [.agg [.d (.lst 1 (List.map (eI .i64) r5.Alphabet)), .d (.int .i64 r5.States), .d (.lst 1 (List.map (eI .i64) r5.Marked)), .d (.lst 3 (List.map e_api_Edge r5.Edges))], .d (.int .i64 r6)]), (18, .agg [.d (.lst 1 (List.map (eI .i64) r5.Alphabet)), .d (.int .i64 r5.States), .d (.lst 1 (List.map (eI .i64) r5.Marked)), .d (.lst 3 (List.map e_api_Edge r5.Edges))]), (19, .d (.int .i64 r6)), (21, .agg [.d (.int .i64 0), .d (.int .i64 1)]), (22, .agg [.d (.int .i64 2), .d (.int .i64 3)]), (23, .d (.lst 2 (List.map e_requirement_Phase [(requirement_Phase.mk 0 1), (requirement_Phase.mk 2 3)])))], memOf Γ.n0 (bxs [(1, .cells ([.d (.lst 1 (List.map (eI .i64) r2.Alphabet)), .d (.int .i64 r2.States), .d (.lst 1 (List.map (eI .i64) r2.Marked)), .d (.lst 3 (List.map e_api_Edge r2.Edges))])), (3, .cells ([.d (.lst 1 (List.map (eI .i64) r5.Alphabet)), .d (.int .i64 r5.States), .d (.lst 1 (List.map (eI .i64) r5.Marked)), .d (.lst 3 (List.map e_api_Edge r5.Edges))]))]) M, Γ.n0 + 75⟩; exact weak_freeze 23 [.int .i64 0, .int .i64 1, .int .i64 2, .int .i64 3] rfl rfl ⟨(.same rfl), ⟨(fPtr rfl), ⟨(.same rfl), ⟨(fPtr rfl), ⟨(.same rfl), ⟨(.same rfl), ⟨(.same rfl), ⟨(.same rfl), ⟨(.same rfl), ⟨(.same rfl), ⟨(.same rfl), ⟨(.same rfl), ⟨(.same rfl), ⟨(.same rfl), ⟨(.same rfl), ⟨(.same rfl), ⟨(.same rfl), ⟨(.same rfl), ⟨(fSl rfl rfl), trivial⟩⟩⟩⟩⟩⟩⟩⟩⟩⟩⟩⟩⟩⟩⟩⟩⟩⟩⟩ ⟨⟨_, rfl, rfl, (.same rfl)⟩, ⟨⟨_, rfl, rfl, (.same rfl)⟩, trivial⟩⟩ rfl) ?_
 obtain ⟨⟨r8, r9⟩, h7, h⟩ := bnd h
 refine Rn.call (args := [.d (.lst 2 (List.map e_requirement_Phase [(requirement_Phase.mk 0 1), (requirement_Phase.mk 2 3)])), .d (.int .i64 1)]) trivial rfl (H_requirement_AtMost _ _ _ h7) pc9 (Rn.mov (v := .tup [.agg [.d (.lst 1 (List.map (eI .i64) r8.Alphabet)), .d (.int .i64 r8.States), .d (.lst 1 (List.map (eI .i64) r8.Marked)), .d (.lst 3 (List.map e_api_Edge r8.Edges))], .d (.int .i64 r9)]) trivial rfl (Rn.ext (v := .agg [.d (.lst 1 (List.map (eI .i64) r8.Alphabet)), .d (.int .i64 r8.States), .d (.lst 1 (List.map (eI .i64) r8.Marked)), .d (.lst 3 (List.map e_api_Edge r8.Edges))]) (vs := [.agg [.d (.lst 1 (List.map (eI .i64) r8.Alphabet)), .d (.int .i64 r8.States), .d (.lst 1 (List.map (eI .i64) r8.Marked)), .d (.lst 3 (List.map e_api_Edge r8.Edges))], .d (.int .i64 r9)]) trivial rfl rfl rfl (Rn.ext (v := .d (.int .i64 r9)) (vs := [.agg [.d (.lst 1 (List.map (eI .i64) r8.Alphabet)), .d (.int .i64 r8.States), .d (.lst 1 (List.map (eI .i64) r8.Marked)), .d (.lst 3 (List.map e_api_Edge r8.Edges))], .d (.int .i64 r9)]) trivial rfl rfl rfl (Rn.alloc trivial rfl (Rn.store (v := .agg [.d (.lst 1 (List.map (eI .i64) r8.Alphabet)), .d (.int .i64 r8.States), .d (.lst 1 (List.map (eI .i64) r8.Marked)), .d (.lst 3 (List.map e_api_Edge r8.Edges))]) (cs' := [.d (.lst 1 (List.map (eI .i64) r8.Alphabet)), .d (.int .i64 r8.States), .d (.lst 1 (List.map (eI .i64) r8.Marked)), .d (.lst 3 (List.map e_api_Edge r8.Edges))]) trivial rfl rfl rfl rfl rfl rfl (md rfl (nt ((sr ((Rn.load (v := .agg [.d (.lst 1 (List.map (eI .i64) r8.Alphabet)), .d (.int .i64 r8.States), .d (.lst 1 (List.map (eI .i64) r8.Marked)), .d (.lst 3 (List.map e_api_Edge r8.Edges))]) trivial rfl (boxOwn rfl) rfl rfl ?_)))))))))))
 obtain ⟨⟨r11, r12⟩, h10, h⟩ := bnd h
 refine Rn.call (args := [.agg [.d (.lst 1 (List.map (eI .i64) r8.Alphabet)), .d (.int .i64 r8.States), .d (.lst 1 (List.map (eI .i64) r8.Marked)), .d (.lst 3 (List.map e_api_Edge r8.Edges))], .d (.int .i64 1)]) trivial rfl (H_requirement_Refused _ _ _ h10) pc9 (Rn.mov (v := .tup [.d (.lst 1 (List.map (eI .i64) r11)), .d (.int .i64 r12)]) trivial rfl (Rn.extTD (vs := [.d (.lst 1 (List.map (eI .i64) r11)), .d (.int .i64 r12)]) trivial rfl rfl rfl (Rn.ext (v := .d (.int .i64 r12)) (vs := [.d (.lst 1 (List.map (eI .i64) r11)), .d (.int .i64 r12)]) trivial rfl rfl rfl (Rn.movTD trivial rfl (md rfl (Rn.nil (toN ?_)))))))
 refine Tr.cutB (fun (x27 : Bool) => ⟨look [(0, .d (.bool x27))], memOf Γ.n0 (bxs [(1, .cells ([.d (.lst 1 (List.map (eI .i64) r2.Alphabet)), .d (.int .i64 r2.States), .d (.lst 1 (List.map (eI .i64) r2.Marked)), .d (.lst 3 (List.map e_api_Edge r2.Edges))])), (3, .cells ([.d (.lst 1 (List.map (eI .i64) r5.Alphabet)), .d (.int .i64 r5.States), .d (.lst 1 (List.map (eI .i64) r5.Marked)), .d (.lst 3 (List.map e_api_Edge r5.Edges))])), (5, .cells ([.d (.lst 1 (List.map (eI .i64) r8.Alphabet)), .d (.int .i64 r8.States), .d (.lst 1 (List.map (eI .i64) r8.Marked)), .d (.lst 3 (List.map e_api_Edge r8.Edges))]))]) M, Γ.n0 + 75⟩) h (fun z h => ?_) (fun z h => ?_)
 ·refine Tr.rgn (md rfl (Rn.bin trivial rfl rfl rfl (md rfl ?_)))
  refine bsplit (r3 == 0) (fun hb13 => ?_) (fun hb13 => ?_)
  ·replace h := bT hb13 h
   refine Rn.movD (gw rfl hb13) rfl (Rn.bin (gw rfl hb13) rfl rfl rfl (Rn.pickT (v := .d (.bool (r6 == 0))) trivial rfl hb13 rfl (md rfl ?_)))
   refine bsplit (r6 == 0) (fun hb14 => ?_) (fun hb14 => ?_)
   ·replace h := bT hb14 h
    refine Rn.movD (gw rfl hb14) rfl (Rn.bin (gw rfl hb14) rfl rfl rfl (Rn.pickT (v := .d (.bool (r9 == 0))) trivial rfl hb14 rfl (md rfl ?_)))
    refine bsplit (r9 == 0) (fun hb15 => ?_) (fun hb15 => ?_)
    ·replace h := bT hb15 h
     refine Rn.movD (gw rfl hb15) rfl (Rn.bin (gw rfl hb15) rfl rfl rfl (Rn.pickT (v := .d (.bool (r12 == 0))) trivial rfl hb15 rfl (md rfl ?_)))
     refine bsplit (r12 == 0) (fun hb16 => ?_) (fun hb16 => ?_)
     ·replace h := bT hb16 h
      refine Rn.fldP (o' := 0) (gw rfl hb16) rfl rfl (Rn.load (v := .d (.lst 1 (List.map (eI .i64) r2.Alphabet))) (gw rfl hb16) rfl (boxOwn rfl) rfl rfl (Rn.bslice (xs := [.d (.int .i64 1), .d (.int .i64 3)]) (cs := [.d (.int .i64 1), .d (.int .i64 3)]) (gw rfl hb16) rfl rfl rfl rfl ?_))
      refine Rn.weak (by show WeakSt Γ _ ⟨look [(0, .d (.bool false)), (1, .ptr (Γ.n0 + 1) 0), (2, .d (.int .i64 r3)), (3, .ptr (Γ.n0 + 3) 0), (4, .d (.int .i64 r6)), (5, .ptr (Γ.n0 + 5) 0), (6, .d (.int .i64 r9)), (7, .d (.lst 1 (List.map (eI .i64) r11))), (8, .d (.int .i64 r12)), (9, .tup [.agg [.d (.lst 1 (List.map (eI .i64) r2.Alphabet)), .d (.int .i64 r2.States), .d (.lst 1 (List.map (eI .i64) r2.Marked)), .d (.lst 3 (List.map e_api_Edge r2.Edges))], .d (.int .i64 r3)]), (10, .d (.lst 1 (List.map (eI .i64) [3, 1]))), (11, .tup [.agg [.d (.lst 1 (List.map (eI .i64) r2.Alphabet)), .d (.int .i64 r2.States), .d (.lst 1 (List.map (eI .i64) r2.Marked)), .d (.lst 3 (List.map e_api_Edge r2.Edges))], .d (.int .i64 r3)]), (12, .agg [.d (.lst 1 (List.map (eI .i64) r2.Alphabet)), .d (.int .i64 r2.States), .d (.lst 1 (List.map (eI .i64) r2.Marked)), .d (.lst 3 (List.map e_api_Edge r2.Edges))]), (13, .d (.int .i64 r3)), (14, .tup [.agg [.d (.lst 1 (List.map (eI .i64) r5.Alphabet)), .d (.int .i64 r5.States), .d (.lst 1 (List.map (eI .i64) r5.Marked)), .d (.lst 3 (List.map e_api_Edge r5.Edges))], .d (.int .i64 r6)]), (15, .d (.lst 1 (List.map (eI .i64) [0]))), (16, .d (.lst 1 (List.map (eI .i64) [1]))), (17, .tup [.agg [.d (.lst 1 (List.map (eI .i64) r5.Alphabet)), .d (.int .i64 r5.States), .d (.lst 1 (List.map (eI .i64) r5.Marked)), .d (.lst 3 (List.map e_api_Edge r5.Edges))], .d (.int .i64 r6)]), (18, .agg [.d (.lst 1 (List.map (eI .i64) r5.Alphabet)), .d (.int .i64 r5.States), .d (.lst 1 (List.map (eI .i64) r5.Marked)), .d (.lst 3 (List.map e_api_Edge r5.Edges))]), (19, .d (.int .i64 r6)), (20, .tup [.agg [.d (.lst 1 (List.map (eI .i64) r8.Alphabet)), .d (.int .i64 r8.States), .d (.lst 1 (List.map (eI .i64) r8.Marked)), .d (.lst 3 (List.map e_api_Edge r8.Edges))], .d (.int .i64 r9)]), (21, .agg [.d (.int .i64 0), .d (.int .i64 1)]), (22, .agg [.d (.int .i64 2), .d (.int .i64 3)]), (23, .d (.lst 2 (List.map e_requirement_Phase [(requirement_Phase.mk 0 1), (requirement_Phase.mk 2 3)]))), (24, .tup [.agg [.d (.lst 1 (List.map (eI .i64) r8.Alphabet)), .d (.int .i64 r8.States), .d (.lst 1 (List.map (eI .i64) r8.Marked)), .d (.lst 3 (List.map e_api_Edge r8.Edges))], .d (.int .i64 r9)]), (25, .agg [.d (.lst 1 (List.map (eI .i64) r8.Alphabet)), .d (.int .i64 r8.States), .d (.lst 1 (List.map (eI .i64) r8.Marked)), .d (.lst 3 (List.map e_api_Edge r8.Edges))]), (26, .d (.int .i64 r9)), (27, .tup [.d (.lst 1 (List.map (eI .i64) r11)), .d (.int .i64 r12)]), (28, .agg [.d (.lst 1 (List.map (eI .i64) r8.Alphabet)), .d (.int .i64 r8.States), .d (.lst 1 (List.map (eI .i64) r8.Marked)), .d (.lst 3 (List.map e_api_Edge r8.Edges))]), (29, .tup [.own 1 (List.map (eI .i64) r11), .d (.int .i64 r12)]), (30, .d (.lst 1 (List.map (eI .i64) r11))), (31, .d (.int .i64 r12)), (32, .d (.int .i64 r3)), (33, .d (.bool (r3 == 0))), (34, .d (.bool (r3 == 0))), (35, .d (.int .i64 r6)), (36, .d (.bool (r6 == 0))), (37, .d (.bool (r6 == 0))), (38, .d (.bool (r6 == 0))), (39, .d (.int .i64 r9)), (40, .d (.bool (r9 == 0))), (41, .d (.bool (r9 == 0))), (42, .d (.bool (r9 == 0))), (43, .d (.int .i64 r12)), (44, .d (.bool (r12 == 0))), (45, .d (.bool (r12 == 0))), (46, .d (.bool (r12 == 0))), (47, .ptr (Γ.n0 + 1) 0), (48, .d (.lst 1 (List.map (eI .i64) r2.Alphabet))), (49, .d (.lst 1 (List.map (eI .i64) [1, 3])))], memOf Γ.n0 (bxs [(1, .cells ([.d (.lst 1 (List.map (eI .i64) r2.Alphabet)), .d (.int .i64 r2.States), .d (.lst 1 (List.map (eI .i64) r2.Marked)), .d (.lst 3 (List.map e_api_Edge r2.Edges))])), (3, .cells ([.d (.lst 1 (List.map (eI .i64) r5.Alphabet)), .d (.int .i64 r5.States), .d (.lst 1 (List.map (eI .i64) r5.Marked)), .d (.lst 3 (List.map e_api_Edge r5.Edges))])), (5, .cells ([.d (.lst 1 (List.map (eI .i64) r8.Alphabet)), .d (.int .i64 r8.States), .d (.lst 1 (List.map (eI .i64) r8.Marked)), .d (.lst 3 (List.map e_api_Edge r8.Edges))]))]) M, Γ.n0 + 75⟩; exact weak_freeze 49 [.int .i64 1, .int .i64 3] rfl rfl ⟨(.same rfl), ⟨(fPtr rfl), ⟨(.same rfl), ⟨(fPtr rfl), ⟨(.same rfl), ⟨(fPtr rfl), ⟨(.same rfl), ⟨(.same rfl), ⟨(.same rfl), ⟨(.same rfl), ⟨(.same rfl), ⟨(.same rfl), ⟨(.same rfl), ⟨(.same rfl), ⟨(.same rfl), ⟨(.same rfl), ⟨(.same rfl), ⟨(.same rfl), ⟨(.same rfl), ⟨(.same rfl), ⟨(.same rfl), ⟨(.same rfl), ⟨(.same rfl), ⟨(.same rfl), ⟨(.same rfl), ⟨(.same rfl), ⟨(.same rfl), ⟨(.same rfl), ⟨(.same rfl), ⟨(.same rfl), ⟨(.same rfl), ⟨(.same rfl), ⟨(.same rfl), ⟨(.same rfl), ⟨(.same rfl), ⟨(.same rfl), ⟨(.same rfl), ⟨(.same rfl), ⟨(.same rfl), ⟨(.same rfl), ⟨(.same rfl), ⟨(.same rfl), ⟨(.same rfl), ⟨(.same rfl), ⟨(.same rfl), ⟨(.same rfl), ⟨(.same rfl), ⟨(fPtr rfl), ⟨(.same rfl), ⟨(fSl rfl rfl), trivial⟩⟩⟩⟩⟩⟩⟩⟩⟩⟩⟩⟩⟩⟩⟩⟩⟩⟩⟩⟩⟩⟩⟩⟩⟩⟩⟩⟩⟩⟩⟩⟩⟩⟩⟩⟩⟩⟩⟩⟩⟩⟩⟩⟩⟩⟩⟩⟩⟩⟩ ⟨⟨_, rfl, rfl, (.same rfl)⟩, ⟨⟨_, rfl, rfl, (.same rfl)⟩, ⟨⟨_, rfl, rfl, (.same rfl)⟩, trivial⟩⟩⟩ rfl) ?_
      obtain ⟨x18, h17, h⟩ := bnd h
      refine Rn.call (args := [.d (.lst 1 (List.map (eI .i64) r2.Alphabet)), .d (.lst 1 (List.map (eI .i64) [1, 3]))]) (gw rfl hb16) rfl (H_slices_Equal_int _ _ _ h17) pc9 (Rn.pickT (v := .d (.bool x18)) trivial rfl hb16 rfl (md rfl ?_))
      refine bsplit x18 (fun hb19 => ?_) (fun hb19 => ?_)
      ·replace h := bT hb19 h
       refine Rn.fldP (o' := 3) (gw rfl hb19) rfl rfl (Rn.load (v := .d (.lst 3 (List.map e_api_Edge r2.Edges))) (gw rfl hb19) rfl (boxOwn rfl) rfl rfl (Rn.build (v := .agg [.d (.int .i64 0), .d (.int .i64 3), .d (.int .i64 1)]) (gw rfl hb19) rfl (Rn.build (v := .agg [.d (.int .i64 1), .d (.int .i64 1), .d (.int .i64 0)]) (gw rfl hb19) rfl (Rn.bslice (xs := [.agg [.d (.int .i64 0), .d (.int .i64 3), .d (.int .i64 1)], .agg [.d (.int .i64 1), .d (.int .i64 1), .d (.int .i64 0)]]) (cs := [.d (.int .i64 0), .d (.int .i64 3), .d (.int .i64 1), .d (.int .i64 1), .d (.int .i64 1), .d (.int .i64 0)]) (gw rfl hb19) rfl rfl rfl rfl ?_))))
       refine Rn.weak (by show WeakSt Γ _ ⟨look [(0, .d (.bool false)), (1, .ptr (Γ.n0 + 1) 0), (2, .d (.int .i64 r3)), (3, .ptr (Γ.n0 + 3) 0), (4, .d (.int .i64 r6)), (5, .ptr (Γ.n0 + 5) 0), (6, .d (.int .i64 r9)), (7, .d (.lst 1 (List.map (eI .i64) r11))), (8, .d (.int .i64 r12)), (9, .tup [.agg [.d (.lst 1 (List.map (eI .i64) r2.Alphabet)), .d (.int .i64 r2.States), .d (.lst 1 (List.map (eI .i64) r2.Marked)), .d (.lst 3 (List.map e_api_Edge r2.Edges))], .d (.int .i64 r3)]), (10, .d (.lst 1 (List.map (eI .i64) [3, 1]))), (11, .tup [.agg [.d (.lst 1 (List.map (eI .i64) r2.Alphabet)), .d (.int .i64 r2.States), .d (.lst 1 (List.map (eI .i64) r2.Marked)), .d (.lst 3 (List.map e_api_Edge r2.Edges))], .d (.int .i64 r3)]), (12, .agg [.d (.lst 1 (List.map (eI .i64) r2.Alphabet)), .d (.int .i64 r2.States), .d (.lst 1 (List.map (eI .i64) r2.Marked)), .d (.lst 3 (List.map e_api_Edge r2.Edges))]), (13, .d (.int .i64 r3)), (14, .tup [.agg [.d (.lst 1 (List.map (eI .i64) r5.Alphabet)), .d (.int .i64 r5.States), .d (.lst 1 (List.map (eI .i64) r5.Marked)), .d (.lst 3 (List.map e_api_Edge r5.Edges))], .d (.int .i64 r6)]), (15, .d (.lst 1 (List.map (eI .i64) [0]))), (16, .d (.lst 1 (List.map (eI .i64) [1]))), (17, .tup [.agg [.d (.lst 1 (List.map (eI .i64) r5.Alphabet)), .d (.int .i64 r5.States), .d (.lst 1 (List.map (eI .i64) r5.Marked)), .d (.lst 3 (List.map e_api_Edge r5.Edges))], .d (.int .i64 r6)]), (18, .agg [.d (.lst 1 (List.map (eI .i64) r5.Alphabet)), .d (.int .i64 r5.States), .d (.lst 1 (List.map (eI .i64) r5.Marked)), .d (.lst 3 (List.map e_api_Edge r5.Edges))]), (19, .d (.int .i64 r6)), (20, .tup [.agg [.d (.lst 1 (List.map (eI .i64) r8.Alphabet)), .d (.int .i64 r8.States), .d (.lst 1 (List.map (eI .i64) r8.Marked)), .d (.lst 3 (List.map e_api_Edge r8.Edges))], .d (.int .i64 r9)]), (21, .agg [.d (.int .i64 0), .d (.int .i64 1)]), (22, .agg [.d (.int .i64 2), .d (.int .i64 3)]), (23, .d (.lst 2 (List.map e_requirement_Phase [(requirement_Phase.mk 0 1), (requirement_Phase.mk 2 3)]))), (24, .tup [.agg [.d (.lst 1 (List.map (eI .i64) r8.Alphabet)), .d (.int .i64 r8.States), .d (.lst 1 (List.map (eI .i64) r8.Marked)), .d (.lst 3 (List.map e_api_Edge r8.Edges))], .d (.int .i64 r9)]), (25, .agg [.d (.lst 1 (List.map (eI .i64) r8.Alphabet)), .d (.int .i64 r8.States), .d (.lst 1 (List.map (eI .i64) r8.Marked)), .d (.lst 3 (List.map e_api_Edge r8.Edges))]), (26, .d (.int .i64 r9)), (27, .tup [.d (.lst 1 (List.map (eI .i64) r11)), .d (.int .i64 r12)]), (28, .agg [.d (.lst 1 (List.map (eI .i64) r8.Alphabet)), .d (.int .i64 r8.States), .d (.lst 1 (List.map (eI .i64) r8.Marked)), .d (.lst 3 (List.map e_api_Edge r8.Edges))]), (29, .tup [.own 1 (List.map (eI .i64) r11), .d (.int .i64 r12)]), (30, .d (.lst 1 (List.map (eI .i64) r11))), (31, .d (.int .i64 r12)), (32, .d (.int .i64 r3)), (33, .d (.bool (r3 == 0))), (34, .d (.bool (r3 == 0))), (35, .d (.int .i64 r6)), (36, .d (.bool (r6 == 0))), (37, .d (.bool (r6 == 0))), (38, .d (.bool (r6 == 0))), (39, .d (.int .i64 r9)), (40, .d (.bool (r9 == 0))), (41, .d (.bool (r9 == 0))), (42, .d (.bool (r9 == 0))), (43, .d (.int .i64 r12)), (44, .d (.bool (r12 == 0))), (45, .d (.bool (r12 == 0))), (46, .d (.bool (r12 == 0))), (47, .ptr (Γ.n0 + 1) 0), (48, .d (.lst 1 (List.map (eI .i64) r2.Alphabet))), (49, .d (.lst 1 (List.map (eI .i64) [1, 3]))), (50, .d (.bool x18)), (51, .d (.bool x18)), (52, .d (.bool x18)), (53, .ptr (Γ.n0 + 1) 3), (54, .d (.lst 3 (List.map e_api_Edge r2.Edges))), (55, .agg [.d (.int .i64 0), .d (.int .i64 3), .d (.int .i64 1)]), (56, .agg [.d (.int .i64 1), .d (.int .i64 1), .d (.int .i64 0)]), (57, .d (.lst 3 (List.map e_api_Edge [(api_Edge.mk 0 3 1), (api_Edge.mk 1 1 0)])))], memOf Γ.n0 (bxs [(1, .cells ([.d (.lst 1 (List.map (eI .i64) r2.Alphabet)), .d (.int .i64 r2.States), .d (.lst 1 (List.map (eI .i64) r2.Marked)), .d (.lst 3 (List.map e_api_Edge r2.Edges))])), (3, .cells ([.d (.lst 1 (List.map (eI .i64) r5.Alphabet)), .d (.int .i64 r5.States), .d (.lst 1 (List.map (eI .i64) r5.Marked)), .d (.lst 3 (List.map e_api_Edge r5.Edges))])), (5, .cells ([.d (.lst 1 (List.map (eI .i64) r8.Alphabet)), .d (.int .i64 r8.States), .d (.lst 1 (List.map (eI .i64) r8.Marked)), .d (.lst 3 (List.map e_api_Edge r8.Edges))]))]) M, Γ.n0 + 75⟩; exact weak_freeze 57 [.int .i64 0, .int .i64 3, .int .i64 1, .int .i64 1, .int .i64 1, .int .i64 0] rfl rfl ⟨(.same rfl), ⟨(fPtr rfl), ⟨(.same rfl), ⟨(fPtr rfl), ⟨(.same rfl), ⟨(fPtr rfl), ⟨(.same rfl), ⟨(.same rfl), ⟨(.same rfl), ⟨(.same rfl), ⟨(.same rfl), ⟨(.same rfl), ⟨(.same rfl), ⟨(.same rfl), ⟨(.same rfl), ⟨(.same rfl), ⟨(.same rfl), ⟨(.same rfl), ⟨(.same rfl), ⟨(.same rfl), ⟨(.same rfl), ⟨(.same rfl), ⟨(.same rfl), ⟨(.same rfl), ⟨(.same rfl), ⟨(.same rfl), ⟨(.same rfl), ⟨(.same rfl), ⟨(.same rfl), ⟨(.same rfl), ⟨(.same rfl), ⟨(.same rfl), ⟨(.same rfl), ⟨(.same rfl), ⟨(.same rfl), ⟨(.same rfl), ⟨(.same rfl), ⟨(.same rfl), ⟨(.same rfl), ⟨(.same rfl), ⟨(.same rfl), ⟨(.same rfl), ⟨(.same rfl), ⟨(.same rfl), ⟨(.same rfl), ⟨(.same rfl), ⟨(.same rfl), ⟨(fPtr rfl), ⟨(.same rfl), ⟨(.same rfl), ⟨(.same rfl), ⟨(.same rfl), ⟨(.same rfl), ⟨(fPtr rfl), ⟨(.same rfl), ⟨(.same rfl), ⟨(.same rfl), ⟨(fSl rfl rfl), trivial⟩⟩⟩⟩⟩⟩⟩⟩⟩⟩⟩⟩⟩⟩⟩⟩⟩⟩⟩⟩⟩⟩⟩⟩⟩⟩⟩⟩⟩⟩⟩⟩⟩⟩⟩⟩⟩⟩⟩⟩⟩⟩⟩⟩⟩⟩⟩⟩⟩⟩⟩⟩⟩⟩⟩⟩⟩⟩ ⟨⟨_, rfl, rfl, (.same rfl)⟩, ⟨⟨_, rfl, rfl, (.same rfl)⟩, ⟨⟨_, rfl, rfl, (.same rfl)⟩, trivial⟩⟩⟩ rfl) ?_
       obtain ⟨x21, h20, h⟩ := bnd h
       refine Rn.call (args := [.d (.lst 3 (List.map e_api_Edge r2.Edges)), .d (.lst 3 (List.map e_api_Edge [(api_Edge.mk 0 3 1), (api_Edge.mk 1 1 0)]))]) (gw rfl hb19) rfl (H_slices_Equal_Edge _ _ _ h20) pc9 (Rn.pickT (v := .d (.bool x21)) trivial rfl hb19 rfl (md rfl ?_))
       refine bsplit x21 (fun hb22 => ?_) (fun hb22 => ?_)
       ·replace h := bT hb22 h
        refine Rn.fldP (o' := 1) (gw rfl hb22) rfl rfl (Rn.load (v := .d (.int .i64 r5.States)) (gw rfl hb22) rfl (boxOwn rfl) rfl rfl (Rn.bin (gw rfl hb22) rfl rfl rfl (Rn.pickT (v := .d (.bool (r5.States == 3))) trivial rfl hb22 rfl (md rfl ?_))))
        refine bsplit (r5.States == 3) (fun hb23 => ?_) (fun hb23 => ?_)
        ·replace h := bT hb23 h
         refine Rn.fldP (o' := 1) (gw rfl hb23) rfl rfl (Rn.load (v := .d (.int .i64 r8.States)) (gw rfl hb23) rfl (boxOwn rfl) rfl rfl (Rn.bin (gw rfl hb23) rfl rfl rfl (Rn.pickT (v := .d (.bool (r8.States == 3))) trivial rfl hb23 rfl (md rfl ?_))))
         refine bsplit (r8.States == 3) (fun hb24 => ?_) (fun hb24 => ?_)
         ·replace h := bT hb24 h
          refine Rn.movD (gw rfl hb24) rfl (Rn.bslice (xs := [.d (.int .i64 0), .d (.int .i64 2), .d (.int .i64 3)]) (cs := [.d (.int .i64 0), .d (.int .i64 2), .d (.int .i64 3)]) (gw rfl hb24) rfl rfl rfl rfl ?_)
          refine Rn.weak (by show WeakSt Γ _ ⟨look [(0, .d (.bool false)), (1, .ptr (Γ.n0 + 1) 0), (2, .d (.int .i64 r3)), (3, .ptr (Γ.n0 + 3) 0), (4, .d (.int .i64 r6)), (5, .ptr (Γ.n0 + 5) 0), (6, .d (.int .i64 r9)), (7, .d (.lst 1 (List.map (eI .i64) r11))), (8, .d (.int .i64 r12)), (9, .tup [.agg [.d (.lst 1 (List.map (eI .i64) r2.Alphabet)), .d (.int .i64 r2.States), .d (.lst 1 (List.map (eI .i64) r2.Marked)), .d (.lst 3 (List.map e_api_Edge r2.Edges))], .d (.int .i64 r3)]), (10, .d (.lst 1 (List.map (eI .i64) [3, 1]))), (11, .tup [.agg [.d (.lst 1 (List.map (eI .i64) r2.Alphabet)), .d (.int .i64 r2.States), .d (.lst 1 (List.map (eI .i64) r2.Marked)), .d (.lst 3 (List.map e_api_Edge r2.Edges))], .d (.int .i64 r3)]), (12, .agg [.d (.lst 1 (List.map (eI .i64) r2.Alphabet)), .d (.int .i64 r2.States), .d (.lst 1 (List.map (eI .i64) r2.Marked)), .d (.lst 3 (List.map e_api_Edge r2.Edges))]), (13, .d (.int .i64 r3)), (14, .tup [.agg [.d (.lst 1 (List.map (eI .i64) r5.Alphabet)), .d (.int .i64 r5.States), .d (.lst 1 (List.map (eI .i64) r5.Marked)), .d (.lst 3 (List.map e_api_Edge r5.Edges))], .d (.int .i64 r6)]), (15, .d (.lst 1 (List.map (eI .i64) [0]))), (16, .d (.lst 1 (List.map (eI .i64) [1]))), (17, .tup [.agg [.d (.lst 1 (List.map (eI .i64) r5.Alphabet)), .d (.int .i64 r5.States), .d (.lst 1 (List.map (eI .i64) r5.Marked)), .d (.lst 3 (List.map e_api_Edge r5.Edges))], .d (.int .i64 r6)]), (18, .agg [.d (.lst 1 (List.map (eI .i64) r5.Alphabet)), .d (.int .i64 r5.States), .d (.lst 1 (List.map (eI .i64) r5.Marked)), .d (.lst 3 (List.map e_api_Edge r5.Edges))]), (19, .d (.int .i64 r6)), (20, .tup [.agg [.d (.lst 1 (List.map (eI .i64) r8.Alphabet)), .d (.int .i64 r8.States), .d (.lst 1 (List.map (eI .i64) r8.Marked)), .d (.lst 3 (List.map e_api_Edge r8.Edges))], .d (.int .i64 r9)]), (21, .agg [.d (.int .i64 0), .d (.int .i64 1)]), (22, .agg [.d (.int .i64 2), .d (.int .i64 3)]), (23, .d (.lst 2 (List.map e_requirement_Phase [(requirement_Phase.mk 0 1), (requirement_Phase.mk 2 3)]))), (24, .tup [.agg [.d (.lst 1 (List.map (eI .i64) r8.Alphabet)), .d (.int .i64 r8.States), .d (.lst 1 (List.map (eI .i64) r8.Marked)), .d (.lst 3 (List.map e_api_Edge r8.Edges))], .d (.int .i64 r9)]), (25, .agg [.d (.lst 1 (List.map (eI .i64) r8.Alphabet)), .d (.int .i64 r8.States), .d (.lst 1 (List.map (eI .i64) r8.Marked)), .d (.lst 3 (List.map e_api_Edge r8.Edges))]), (26, .d (.int .i64 r9)), (27, .tup [.d (.lst 1 (List.map (eI .i64) r11)), .d (.int .i64 r12)]), (28, .agg [.d (.lst 1 (List.map (eI .i64) r8.Alphabet)), .d (.int .i64 r8.States), .d (.lst 1 (List.map (eI .i64) r8.Marked)), .d (.lst 3 (List.map e_api_Edge r8.Edges))]), (29, .tup [.own 1 (List.map (eI .i64) r11), .d (.int .i64 r12)]), (30, .d (.lst 1 (List.map (eI .i64) r11))), (31, .d (.int .i64 r12)), (32, .d (.int .i64 r3)), (33, .d (.bool (r3 == 0))), (34, .d (.bool (r3 == 0))), (35, .d (.int .i64 r6)), (36, .d (.bool (r6 == 0))), (37, .d (.bool (r6 == 0))), (38, .d (.bool (r6 == 0))), (39, .d (.int .i64 r9)), (40, .d (.bool (r9 == 0))), (41, .d (.bool (r9 == 0))), (42, .d (.bool (r9 == 0))), (43, .d (.int .i64 r12)), (44, .d (.bool (r12 == 0))), (45, .d (.bool (r12 == 0))), (46, .d (.bool (r12 == 0))), (47, .ptr (Γ.n0 + 1) 0), (48, .d (.lst 1 (List.map (eI .i64) r2.Alphabet))), (49, .d (.lst 1 (List.map (eI .i64) [1, 3]))), (50, .d (.bool x18)), (51, .d (.bool x18)), (52, .d (.bool x18)), (53, .ptr (Γ.n0 + 1) 3), (54, .d (.lst 3 (List.map e_api_Edge r2.Edges))), (55, .agg [.d (.int .i64 0), .d (.int .i64 3), .d (.int .i64 1)]), (56, .agg [.d (.int .i64 1), .d (.int .i64 1), .d (.int .i64 0)]), (57, .d (.lst 3 (List.map e_api_Edge [(api_Edge.mk 0 3 1), (api_Edge.mk 1 1 0)]))), (58, .d (.bool x21)), (59, .d (.bool x21)), (60, .d (.bool x21)), (61, .ptr (Γ.n0 + 3) 1), (62, .d (.int .i64 r5.States)), (63, .d (.bool (r5.States == 3))), (64, .d (.bool (r5.States == 3))), (65, .d (.bool (r5.States == 3))), (66, .ptr (Γ.n0 + 5) 1), (67, .d (.int .i64 r8.States)), (68, .d (.bool (r8.States == 3))), (69, .d (.bool (r8.States == 3))), (70, .d (.bool (r8.States == 3))), (71, .d (.lst 1 (List.map (eI .i64) r11))), (72, .d (.lst 1 (List.map (eI .i64) [0, 2, 3])))], memOf Γ.n0 (bxs [(1, .cells ([.d (.lst 1 (List.map (eI .i64) r2.Alphabet)), .d (.int .i64 r2.States), .d (.lst 1 (List.map (eI .i64) r2.Marked)), .d (.lst 3 (List.map e_api_Edge r2.Edges))])), (3, .cells ([.d (.lst 1 (List.map (eI .i64) r5.Alphabet)), .d (.int .i64 r5.States), .d (.lst 1 (List.map (eI .i64) r5.Marked)), .d (.lst 3 (List.map e_api_Edge r5.Edges))])), (5, .cells ([.d (.lst 1 (List.map (eI .i64) r8.Alphabet)), .d (.int .i64 r8.States), .d (.lst 1 (List.map (eI .i64) r8.Marked)), .d (.lst 3 (List.map e_api_Edge r8.Edges))]))]) M, Γ.n0 + 75⟩; exact weak_freeze 72 [.int .i64 0, .int .i64 2, .int .i64 3] rfl rfl ⟨(.same rfl), ⟨(fPtr rfl), ⟨(.same rfl), ⟨(fPtr rfl), ⟨(.same rfl), ⟨(fPtr rfl), ⟨(.same rfl), ⟨(.same rfl), ⟨(.same rfl), ⟨(.same rfl), ⟨(.same rfl), ⟨(.same rfl), ⟨(.same rfl), ⟨(.same rfl), ⟨(.same rfl), ⟨(.same rfl), ⟨(.same rfl), ⟨(.same rfl), ⟨(.same rfl), ⟨(.same rfl), ⟨(.same rfl), ⟨(.same rfl), ⟨(.same rfl), ⟨(.same rfl), ⟨(.same rfl), ⟨(.same rfl), ⟨(.same rfl), ⟨(.same rfl), ⟨(.same rfl), ⟨(.same rfl), ⟨(.same rfl), ⟨(.same rfl), ⟨(.same rfl), ⟨(.same rfl), ⟨(.same rfl), ⟨(.same rfl), ⟨(.same rfl), ⟨(.same rfl), ⟨(.same rfl), ⟨(.same rfl), ⟨(.same rfl), ⟨(.same rfl), ⟨(.same rfl), ⟨(.same rfl), ⟨(.same rfl), ⟨(.same rfl), ⟨(.same rfl), ⟨(fPtr rfl), ⟨(.same rfl), ⟨(.same rfl), ⟨(.same rfl), ⟨(.same rfl), ⟨(.same rfl), ⟨(fPtr rfl), ⟨(.same rfl), ⟨(.same rfl), ⟨(.same rfl), ⟨(.same rfl), ⟨(.same rfl), ⟨(.same rfl), ⟨(.same rfl), ⟨(fPtr rfl), ⟨(.same rfl), ⟨(.same rfl), ⟨(.same rfl), ⟨(.same rfl), ⟨(fPtr rfl), ⟨(.same rfl), ⟨(.same rfl), ⟨(.same rfl), ⟨(.same rfl), ⟨(.same rfl), ⟨(fSl rfl rfl), trivial⟩⟩⟩⟩⟩⟩⟩⟩⟩⟩⟩⟩⟩⟩⟩⟩⟩⟩⟩⟩⟩⟩⟩⟩⟩⟩⟩⟩⟩⟩⟩⟩⟩⟩⟩⟩⟩⟩⟩⟩⟩⟩⟩⟩⟩⟩⟩⟩⟩⟩⟩⟩⟩⟩⟩⟩⟩⟩⟩⟩⟩⟩⟩⟩⟩⟩⟩⟩⟩⟩⟩⟩⟩ ⟨⟨_, rfl, rfl, (.same rfl)⟩, ⟨⟨_, rfl, rfl, (.same rfl)⟩, ⟨⟨_, rfl, rfl, (.same rfl)⟩, trivial⟩⟩⟩ rfl) ?_
          obtain ⟨x26, h25, h⟩ := bnd h
          refine Rn.call (args := [.d (.lst 1 (List.map (eI .i64) r11)), .d (.lst 1 (List.map (eI .i64) [0, 2, 3]))]) (gw rfl hb24) rfl (H_slices_Equal_int _ _ _ h25) pc9 (Rn.pickT (v := .d (.bool x26)) trivial rfl hb24 rfl (md rfl (Rn.nil ?_)))
          replace h := si h; subst h
          show WeakSt Γ _ ⟨look _, memOf _ (bxs _) _, _⟩; exact weak_cut [] ⟨(.same rfl), trivial⟩ ⟨⟨_, rfl, rfl, (.same rfl)⟩, ⟨⟨_, rfl, rfl, (.same rfl)⟩, ⟨⟨_, rfl, rfl, (.same rfl)⟩, trivial⟩⟩⟩ rfl
         ·replace h := bF hb24 h
          refine Rn.sk (nw rfl hb24) (Rn.sk (nw rfl hb24) (Rn.sk (nw rfl hb24) (Rn.pickF (v := .d (.bool false)) trivial rfl hb24 rfl (md rfl (Rn.nil ?_)))))
          replace h := si h; subst h
          show WeakSt Γ _ ⟨look _, memOf _ (bxs _) _, _⟩; exact weak_cut [] ⟨(.same rfl), trivial⟩ ⟨⟨_, rfl, rfl, (.same rfl)⟩, ⟨⟨_, rfl, rfl, (.same rfl)⟩, ⟨⟨_, rfl, rfl, (.same rfl)⟩, trivial⟩⟩⟩ rfl
        ·replace h := bF hb23 h
         refine Rn.sk (nw rfl hb23) (Rn.sk (nw rfl hb23) (Rn.sk (nw rfl hb23) (Rn.pickF (v := .d (.bool false)) trivial rfl hb23 rfl (md rfl (Rn.sk (nw (b := false) rfl rfl) (Rn.sk (nw (b := false) rfl rfl) (Rn.sk (nw (b := false) rfl rfl) (Rn.pickF (v := .d (.bool false)) trivial rfl rfl rfl (md rfl (Rn.nil ?_))))))))))
         replace h := si h; subst h
         show WeakSt Γ _ ⟨look _, memOf _ (bxs _) _, _⟩; exact weak_cut [] ⟨(.same rfl), trivial⟩ ⟨⟨_, rfl, rfl, (.same rfl)⟩, ⟨⟨_, rfl, rfl, (.same rfl)⟩, ⟨⟨_, rfl, rfl, (.same rfl)⟩, trivial⟩⟩⟩ rfl
       ·replace h := bF hb22 h
        refine Rn.sk (nw rfl hb22) (Rn.sk (nw rfl hb22) (Rn.sk (nw rfl hb22) (Rn.pickF (v := .d (.bool false)) trivial rfl hb22 rfl (md rfl (Rn.sk (nw (b := false) rfl rfl) (Rn.sk (nw (b := false) rfl rfl) (Rn.sk (nw (b := false) rfl rfl) (Rn.pickF (v := .d (.bool false)) trivial rfl rfl rfl (md rfl (Rn.sk (nw (b := false) rfl rfl) (Rn.sk (nw (b := false) rfl rfl) (Rn.sk (nw (b := false) rfl rfl) (Rn.pickF (v := .d (.bool false)) trivial rfl rfl rfl (md rfl (Rn.nil ?_)))))))))))))))
        replace h := si h; subst h
        show WeakSt Γ _ ⟨look _, memOf _ (bxs _) _, _⟩; exact weak_cut [] ⟨(.same rfl), trivial⟩ ⟨⟨_, rfl, rfl, (.same rfl)⟩, ⟨⟨_, rfl, rfl, (.same rfl)⟩, ⟨⟨_, rfl, rfl, (.same rfl)⟩, trivial⟩⟩⟩ rfl
      ·replace h := bF hb19 h
       refine Rn.sk (nw rfl hb19) (Rn.sk (nw rfl hb19) (Rn.sk (nw rfl hb19) (Rn.sk (nw rfl hb19) (Rn.sk (nw rfl hb19) (Rn.sk (nw rfl hb19) (Rn.pickF (v := .d (.bool false)) trivial rfl hb19 rfl (md rfl (Rn.sk (nw (b := false) rfl rfl) (Rn.sk (nw (b := false) rfl rfl) (Rn.sk (nw (b := false) rfl rfl) (Rn.pickF (v := .d (.bool false)) trivial rfl rfl rfl (md rfl (Rn.sk (nw (b := false) rfl rfl) (Rn.sk (nw (b := false) rfl rfl) (Rn.sk (nw (b := false) rfl rfl) (Rn.pickF (v := .d (.bool false)) trivial rfl rfl rfl (md rfl (Rn.sk (nw (b := false) rfl rfl) (Rn.sk (nw (b := false) rfl rfl) (Rn.sk (nw (b := false) rfl rfl) (Rn.pickF (v := .d (.bool false)) trivial rfl rfl rfl (md rfl (Rn.nil ?_)))))))))))))))))))))))
       replace h := si h; subst h
       show WeakSt Γ _ ⟨look _, memOf _ (bxs _) _, _⟩; exact weak_cut [] ⟨(.same rfl), trivial⟩ ⟨⟨_, rfl, rfl, (.same rfl)⟩, ⟨⟨_, rfl, rfl, (.same rfl)⟩, ⟨⟨_, rfl, rfl, (.same rfl)⟩, trivial⟩⟩⟩ rfl
     ·replace h := bF hb16 h
      refine Rn.sk (nw rfl hb16) (Rn.sk (nw rfl hb16) (Rn.sk (nw rfl hb16) (Rn.sk (nw rfl hb16) (Rn.pickF (v := .d (.bool false)) trivial rfl hb16 rfl (md rfl (Rn.sk (nw (b := false) rfl rfl) (Rn.sk (nw (b := false) rfl rfl) (Rn.sk (nw (b := false) rfl rfl) (Rn.sk (nw (b := false) rfl rfl) (Rn.sk (nw (b := false) rfl rfl) (Rn.sk (nw (b := false) rfl rfl) (Rn.pickF (v := .d (.bool false)) trivial rfl rfl rfl (md rfl (Rn.sk (nw (b := false) rfl rfl) (Rn.sk (nw (b := false) rfl rfl) (Rn.sk (nw (b := false) rfl rfl) (Rn.pickF (v := .d (.bool false)) trivial rfl rfl rfl (md rfl (Rn.sk (nw (b := false) rfl rfl) (Rn.sk (nw (b := false) rfl rfl) (Rn.sk (nw (b := false) rfl rfl) (Rn.pickF (v := .d (.bool false)) trivial rfl rfl rfl (md rfl (Rn.sk (nw (b := false) rfl rfl) (Rn.sk (nw (b := false) rfl rfl) (Rn.sk (nw (b := false) rfl rfl) (Rn.pickF (v := .d (.bool false)) trivial rfl rfl rfl (md rfl (Rn.nil ?_)))))))))))))))))))))))))))))
      replace h := si h; subst h
      show WeakSt Γ _ ⟨look _, memOf _ (bxs _) _, _⟩; exact weak_cut [] ⟨(.same rfl), trivial⟩ ⟨⟨_, rfl, rfl, (.same rfl)⟩, ⟨⟨_, rfl, rfl, (.same rfl)⟩, ⟨⟨_, rfl, rfl, (.same rfl)⟩, trivial⟩⟩⟩ rfl
    ·replace h := bF hb15 h
     refine Rn.sk (nw rfl hb15) (Rn.sk (nw rfl hb15) (Rn.pickF (v := .d (.bool false)) trivial rfl hb15 rfl (md rfl (Rn.sk (nw (b := false) rfl rfl) (Rn.sk (nw (b := false) rfl rfl) (Rn.sk (nw (b := false) rfl rfl) (Rn.sk (nw (b := false) rfl rfl) (Rn.pickF (v := .d (.bool false)) trivial rfl rfl rfl (md rfl (Rn.sk (nw (b := false) rfl rfl) (Rn.sk (nw (b := false) rfl rfl) (Rn.sk (nw (b := false) rfl rfl) (Rn.sk (nw (b := false) rfl rfl) (Rn.sk (nw (b := false) rfl rfl) (Rn.sk (nw (b := false) rfl rfl) (Rn.pickF (v := .d (.bool false)) trivial rfl rfl rfl (md rfl (Rn.sk (nw (b := false) rfl rfl) (Rn.sk (nw (b := false) rfl rfl) (Rn.sk (nw (b := false) rfl rfl) (Rn.pickF (v := .d (.bool false)) trivial rfl rfl rfl (md rfl (Rn.sk (nw (b := false) rfl rfl) (Rn.sk (nw (b := false) rfl rfl) (Rn.sk (nw (b := false) rfl rfl) (Rn.pickF (v := .d (.bool false)) trivial rfl rfl rfl (md rfl (Rn.sk (nw (b := false) rfl rfl) (Rn.sk (nw (b := false) rfl rfl) (Rn.sk (nw (b := false) rfl rfl) (Rn.pickF (v := .d (.bool false)) trivial rfl rfl rfl (md rfl (Rn.nil ?_)))))))))))))))))))))))))))))))))
     replace h := si h; subst h
     show WeakSt Γ _ ⟨look _, memOf _ (bxs _) _, _⟩; exact weak_cut [] ⟨(.same rfl), trivial⟩ ⟨⟨_, rfl, rfl, (.same rfl)⟩, ⟨⟨_, rfl, rfl, (.same rfl)⟩, ⟨⟨_, rfl, rfl, (.same rfl)⟩, trivial⟩⟩⟩ rfl
   ·replace h := bF hb14 h
    refine Rn.sk (nw rfl hb14) (Rn.sk (nw rfl hb14) (Rn.pickF (v := .d (.bool false)) trivial rfl hb14 rfl (md rfl (Rn.sk (nw (b := false) rfl rfl) (Rn.sk (nw (b := false) rfl rfl) (Rn.pickF (v := .d (.bool false)) trivial rfl rfl rfl (md rfl (Rn.sk (nw (b := false) rfl rfl) (Rn.sk (nw (b := false) rfl rfl) (Rn.sk (nw (b := false) rfl rfl) (Rn.sk (nw (b := false) rfl rfl) (Rn.pickF (v := .d (.bool false)) trivial rfl rfl rfl (md rfl (Rn.sk (nw (b := false) rfl rfl) (Rn.sk (nw (b := false) rfl rfl) (Rn.sk (nw (b := false) rfl rfl) (Rn.sk (nw (b := false) rfl rfl) (Rn.sk (nw (b := false) rfl rfl) (Rn.sk (nw (b := false) rfl rfl) (Rn.pickF (v := .d (.bool false)) trivial rfl rfl rfl (md rfl (Rn.sk (nw (b := false) rfl rfl) (Rn.sk (nw (b := false) rfl rfl) (Rn.sk (nw (b := false) rfl rfl) (Rn.pickF (v := .d (.bool false)) trivial rfl rfl rfl (md rfl (Rn.sk (nw (b := false) rfl rfl) (Rn.sk (nw (b := false) rfl rfl) (Rn.sk (nw (b := false) rfl rfl) (Rn.pickF (v := .d (.bool false)) trivial rfl rfl rfl (md rfl (Rn.sk (nw (b := false) rfl rfl) (Rn.sk (nw (b := false) rfl rfl) (Rn.sk (nw (b := false) rfl rfl) (Rn.pickF (v := .d (.bool false)) trivial rfl rfl rfl (md rfl (Rn.nil ?_)))))))))))))))))))))))))))))))))))))
    replace h := si h; subst h
    show WeakSt Γ _ ⟨look _, memOf _ (bxs _) _, _⟩; exact weak_cut [] ⟨(.same rfl), trivial⟩ ⟨⟨_, rfl, rfl, (.same rfl)⟩, ⟨⟨_, rfl, rfl, (.same rfl)⟩, ⟨⟨_, rfl, rfl, (.same rfl)⟩, trivial⟩⟩⟩ rfl
  ·replace h := bF hb13 h
   refine Rn.sk (nw rfl hb13) (Rn.sk (nw rfl hb13) (Rn.pickF (v := .d (.bool false)) trivial rfl hb13 rfl (md rfl (Rn.sk (nw (b := false) rfl rfl) (Rn.sk (nw (b := false) rfl rfl) (Rn.pickF (v := .d (.bool false)) trivial rfl rfl rfl (md rfl (Rn.sk (nw (b := false) rfl rfl) (Rn.sk (nw (b := false) rfl rfl) (Rn.pickF (v := .d (.bool false)) trivial rfl rfl rfl (md rfl (Rn.sk (nw (b := false) rfl rfl) (Rn.sk (nw (b := false) rfl rfl) (Rn.sk (nw (b := false) rfl rfl) (Rn.sk (nw (b := false) rfl rfl) (Rn.pickF (v := .d (.bool false)) trivial rfl rfl rfl (md rfl (Rn.sk (nw (b := false) rfl rfl) (Rn.sk (nw (b := false) rfl rfl) (Rn.sk (nw (b := false) rfl rfl) (Rn.sk (nw (b := false) rfl rfl) (Rn.sk (nw (b := false) rfl rfl) (Rn.sk (nw (b := false) rfl rfl) (Rn.pickF (v := .d (.bool false)) trivial rfl rfl rfl (md rfl (Rn.sk (nw (b := false) rfl rfl) (Rn.sk (nw (b := false) rfl rfl) (Rn.sk (nw (b := false) rfl rfl) (Rn.pickF (v := .d (.bool false)) trivial rfl rfl rfl (md rfl (Rn.sk (nw (b := false) rfl rfl) (Rn.sk (nw (b := false) rfl rfl) (Rn.sk (nw (b := false) rfl rfl) (Rn.pickF (v := .d (.bool false)) trivial rfl rfl rfl (md rfl (Rn.sk (nw (b := false) rfl rfl) (Rn.sk (nw (b := false) rfl rfl) (Rn.sk (nw (b := false) rfl rfl) (Rn.pickF (v := .d (.bool false)) trivial rfl rfl rfl ?_)))))))))))))))))))))))))))))))))))))))
   refine md rfl (Rn.nil ?_)
   replace h := si h; subst h
   show WeakSt Γ _ ⟨look _, memOf _ (bxs _) _, _⟩; exact weak_cut [] ⟨(.same rfl), trivial⟩ ⟨⟨_, rfl, rfl, (.same rfl)⟩, ⟨⟨_, rfl, rfl, (.same rfl)⟩, ⟨⟨_, rfl, rfl, (.same rfl)⟩, trivial⟩⟩⟩ rfl
 ·obtain ⟨x27, rfl⟩ : ∃ x, x = z := ⟨_, rfl⟩
  refine Tr.ret ?_
  replace h := si h; subst h
  exact ⟨.inr rfl, (.d (.bool x27)), rfl, fun _ _ _ _ h => h, trivial, fun k hk => memOf_base hk⟩
theorem overseerlaw21_in_walk {P : Program} {c : Nat} (hcf : compFn P c = some F_overseerlaw21_in) : K_overseerlaw21_in P c (f_overseerlaw21_in) := by
 intro e1 r h
 refine fn_trP hcf rfl fun Γ M hP hnt hM => ?_
 subst hP
 refine Tr.init [(0, .d (.int .i64 e1))] rfl ?_
 unfold f_overseerlaw21_in at h
 unfold F_overseerlaw21_in
 refine sr ((md rfl (nt ((sr ((md rfl (Rn.bin trivial rfl rfl rfl (md rfl ?_)))))))))
 refine bsplit (decide (e1 ≥ 0)) (fun hb2 => ?_) (fun hb2 => ?_)
 ·replace h := ifT hb2 h
  refine Rn.movD (gw rfl hb2) rfl (Rn.bin (gw rfl hb2) rfl rfl rfl (Rn.pickT (v := .d (.bool (decide (e1 < 32)))) trivial rfl hb2 rfl (md rfl (nt ((Tr.ret ?_))))))
  replace h := si h; subst h
  exact ⟨.inr rfl, (.d (.bool (decide (e1 < 32)))), rfl, fun _ _ _ _ h => h, trivial, fun k hk => memOf_base hk⟩
 ·replace h := ifF hb2 h
  refine Rn.sk (nw rfl hb2) (Rn.sk (nw rfl hb2) (Rn.pickF (v := .d (.bool false)) trivial rfl hb2 rfl (md rfl (nt ((Tr.ret ?_))))))
  replace h := si h; subst h
  exact ⟨.inr rfl, (.d (.bool false)), rfl, fun _ _ _ _ h => h, trivial, fun k hk => memOf_base hk⟩
theorem automaton_Equal_walk {P : Program} {c : Nat} {f_slices_Equal_int : (List Int) → (List Int) → Option Bool} {f_slices_Equal_Edge : (List api_Edge) → (List api_Edge) → Option Bool}
    (H_slices_Equal_int : K_slices_Equal_int P 40 f_slices_Equal_int)
    (H_slices_Equal_Edge : K_slices_Equal_Edge P 46 f_slices_Equal_Edge) (hcf : compFn P c = some F_automaton_Equal) : K_automaton_Equal P c (f_automaton_Equal f_slices_Equal_int f_slices_Equal_Edge) := by
 intro a1 b2 r h
 refine fn_trP hcf rfl fun Γ M hP hnt hM => ?_
 subst hP
 refine Tr.init [(0, .agg [.d (.lst 1 (List.map (eI .i64) a1.Alphabet)), .d (.int .i64 a1.States), .d (.lst 1 (List.map (eI .i64) a1.Marked)), .d (.lst 3 (List.map e_api_Edge a1.Edges))]), (1, .agg [.d (.lst 1 (List.map (eI .i64) b2.Alphabet)), .d (.int .i64 b2.States), .d (.lst 1 (List.map (eI .i64) b2.Marked)), .d (.lst 3 (List.map e_api_Edge b2.Edges))])] rfl ?_
 unfold f_automaton_Equal at h
 unfold F_automaton_Equal
 refine sr ((Rn.box (v := .agg [.d (.lst 1 (List.map (eI .i64) a1.Alphabet)), .d (.int .i64 a1.States), .d (.lst 1 (List.map (eI .i64) a1.Marked)), .d (.lst 3 (List.map e_api_Edge a1.Edges))]) (cs := [.d (.lst 1 (List.map (eI .i64) a1.Alphabet)), .d (.int .i64 a1.States), .d (.lst 1 (List.map (eI .i64) a1.Marked)), .d (.lst 3 (List.map e_api_Edge a1.Edges))]) trivial rfl rfl rfl rfl rfl (Rn.box (v := .agg [.d (.lst 1 (List.map (eI .i64) b2.Alphabet)), .d (.int .i64 b2.States), .d (.lst 1 (List.map (eI .i64) b2.Marked)), .d (.lst 3 (List.map e_api_Edge b2.Edges))]) (cs := [.d (.lst 1 (List.map (eI .i64) b2.Alphabet)), .d (.int .i64 b2.States), .d (.lst 1 (List.map (eI .i64) b2.Marked)), .d (.lst 3 (List.map e_api_Edge b2.Edges))]) trivial rfl rfl rfl rfl rfl (md rfl (nt ((sr ((Rn.fldP (o' := 1) trivial rfl rfl (Rn.load (v := .d (.int .i64 a1.States)) trivial rfl (boxOwn rfl) rfl rfl (Rn.fldP (o' := 1) trivial rfl rfl (Rn.load (v := .d (.int .i64 b2.States)) trivial rfl (boxOwn rfl) rfl rfl (Rn.bin trivial rfl rfl rfl (md rfl ?_))))))))))))))
 refine bsplit (a1.States == b2.States) (fun hb3 => ?_) (fun hb3 => ?_)
 ·replace h := bT hb3 h
  refine Rn.fldP (o' := 0) (gw rfl hb3) rfl rfl (Rn.load (v := .d (.lst 1 (List.map (eI .i64) a1.Alphabet))) (gw rfl hb3) rfl (boxOwn rfl) rfl rfl (Rn.fldP (o' := 0) (gw rfl hb3) rfl rfl (Rn.load (v := .d (.lst 1 (List.map (eI .i64) b2.Alphabet))) (gw rfl hb3) rfl (boxOwn rfl) rfl rfl ?_)))
  obtain ⟨x5, h4, h⟩ := bnd h
  refine Rn.call (args := [.d (.lst 1 (List.map (eI .i64) a1.Alphabet)), .d (.lst 1 (List.map (eI .i64) b2.Alphabet))]) (gw rfl hb3) rfl (H_slices_Equal_int _ _ _ h4) pc9 (Rn.pickT (v := .d (.bool x5)) trivial rfl hb3 rfl (md rfl ?_))
  refine bsplit x5 (fun hb6 => ?_) (fun hb6 => ?_)
  ·replace h := bT hb6 h
   refine Rn.fldP (o' := 2) (gw rfl hb6) rfl rfl (Rn.load (v := .d (.lst 1 (List.map (eI .i64) a1.Marked))) (gw rfl hb6) rfl (boxOwn rfl) rfl rfl (Rn.fldP (o' := 2) (gw rfl hb6) rfl rfl (Rn.load (v := .d (.lst 1 (List.map (eI .i64) b2.Marked))) (gw rfl hb6) rfl (boxOwn rfl) rfl rfl ?_)))
   obtain ⟨x8, h7, h⟩ := bnd h
   refine Rn.call (args := [.d (.lst 1 (List.map (eI .i64) a1.Marked)), .d (.lst 1 (List.map (eI .i64) b2.Marked))]) (gw rfl hb6) rfl (H_slices_Equal_int _ _ _ h7) pc9 (Rn.pickT (v := .d (.bool x8)) trivial rfl hb6 rfl (md rfl ?_))
   refine bsplit x8 (fun hb9 => ?_) (fun hb9 => ?_)
   ·replace h := bT hb9 h
    refine Rn.fldP (o' := 3) (gw rfl hb9) rfl rfl (Rn.load (v := .d (.lst 3 (List.map e_api_Edge a1.Edges))) (gw rfl hb9) rfl (boxOwn rfl) rfl rfl (Rn.fldP (o' := 3) (gw rfl hb9) rfl rfl (Rn.load (v := .d (.lst 3 (List.map e_api_Edge b2.Edges))) (gw rfl hb9) rfl (boxOwn rfl) rfl rfl ?_)))
    obtain ⟨x11, h10, h⟩ := bnd h
    refine Rn.call (args := [.d (.lst 3 (List.map e_api_Edge a1.Edges)), .d (.lst 3 (List.map e_api_Edge b2.Edges))]) (gw rfl hb9) rfl (H_slices_Equal_Edge _ _ _ h10) pc9 (Rn.pickT (v := .d (.bool x11)) trivial rfl hb9 rfl (md rfl (nt ((Tr.ret ?_)))))
    replace h := si h; subst h
    exact ⟨.inr rfl, (.d (.bool x11)), rfl, fun _ _ _ _ h => h, trivial, fun k hk => memOf_base hk⟩
   ·replace h := bF hb9 h
    refine Rn.sk (nw rfl hb9) (Rn.sk (nw rfl hb9) (Rn.sk (nw rfl hb9) (Rn.sk (nw rfl hb9) (Rn.sk (nw rfl hb9) (Rn.pickF (v := .d (.bool false)) trivial rfl hb9 rfl (md rfl (nt ((Tr.ret ?_)))))))))
    replace h := si h; subst h
    exact ⟨.inr rfl, (.d (.bool false)), rfl, fun _ _ _ _ h => h, trivial, fun k hk => memOf_base hk⟩
  ·replace h := bF hb6 h
   refine Rn.sk (nw rfl hb6) (Rn.sk (nw rfl hb6) (Rn.sk (nw rfl hb6) (Rn.sk (nw rfl hb6) (Rn.sk (nw rfl hb6) (Rn.pickF (v := .d (.bool false)) trivial rfl hb6 rfl (md rfl (Rn.sk (nw (b := false) rfl rfl) (Rn.sk (nw (b := false) rfl rfl) (Rn.sk (nw (b := false) rfl rfl) (Rn.sk (nw (b := false) rfl rfl) (Rn.sk (nw (b := false) rfl rfl) (Rn.pickF (v := .d (.bool false)) trivial rfl rfl rfl (md rfl (nt ((Tr.ret ?_))))))))))))))))
   replace h := si h; subst h
   exact ⟨.inr rfl, (.d (.bool false)), rfl, fun _ _ _ _ h => h, trivial, fun k hk => memOf_base hk⟩
 ·replace h := bF hb3 h
  refine Rn.sk (nw rfl hb3) (Rn.sk (nw rfl hb3) (Rn.sk (nw rfl hb3) (Rn.sk (nw rfl hb3) (Rn.sk (nw rfl hb3) (Rn.pickF (v := .d (.bool false)) trivial rfl hb3 rfl (md rfl (Rn.sk (nw (b := false) rfl rfl) (Rn.sk (nw (b := false) rfl rfl) (Rn.sk (nw (b := false) rfl rfl) (Rn.sk (nw (b := false) rfl rfl) (Rn.sk (nw (b := false) rfl rfl) (Rn.pickF (v := .d (.bool false)) trivial rfl rfl rfl (md rfl (Rn.sk (nw (b := false) rfl rfl) (Rn.sk (nw (b := false) rfl rfl) (Rn.sk (nw (b := false) rfl rfl) (Rn.sk (nw (b := false) rfl rfl) (Rn.sk (nw (b := false) rfl rfl) (Rn.pickF (v := .d (.bool false)) trivial rfl rfl rfl (md rfl (nt ((Tr.ret ?_)))))))))))))))))))))))
  replace h := si h; subst h
  exact ⟨.inr rfl, (.d (.bool false)), rfl, fun _ _ _ _ h => h, trivial, fun k hk => memOf_base hk⟩
end Go.Abs
