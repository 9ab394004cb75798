/-
  Part 5 of the proof: see the last text.
-/
import Derived.Test.YtnmmhhnhjdglhaaP4
import Derived.Test.YtnmmhhnhjdglhaaProg
import Derived.KernelRfl
import Derived.Sort.Statements
import Derived.Lib.SlicesCompact
import Derived.Ground.SlgmProg
import Derived.Shelf.SortM.Plain
import Derived.Shelf.SortM.SortNone
import Derived.Ground.Names2Prog
import Derived.Shelf.Slices.CompactI
import Derived.OpenShut
import Derived.ProofKit
import Derived.Carry
import GoSem.Claim
import GoSem.ClaimJoined
import Derived.JoinedTies
set_option linter.unusedVariables false
set_option linter.unusedSimpArgs false
set_option linter.unusedSectionVars false
section
namespace Go.Abs
open Go
set_option linter.unusedVariables false
set_option maxRecDepth 10000
set_option maxHeartbeats 4000000
theorem overseerlaw21_sorted_walk {P : Program} {c : Nat} {f_slices_Clone_int : (List Int) → Option ((List Int))} {f_slices_Sort_int : List Int → Option (List Int)} {f_slices_Compact_int : List Int → Option (List Int)}
    (H_slices_Clone_int : K_slices_Clone_int P 23 f_slices_Clone_int)
    (H_slices_Sort_int : RowK P 56 (eI .i64) 1 [] f_slices_Sort_int)
    (H_slices_Compact_int : CompK P 57 f_slices_Compact_int) (hcf : compFn P c = some F_overseerlaw21_sorted) : K_overseerlaw21_sorted P c (f_overseerlaw21_sorted f_slices_Clone_int f_slices_Sort_int f_slices_Compact_int) := by
 intro l1 r h
 refine fn_trT hcf (args' := [.f (.lst 1 (List.map (eI .i64) l1))]) rfl rfl rfl rfl rfl rfl fun Γ M hP hnt hG hM0 hM => ?_
 subst hP
 refine Tr.init [(0, .f (.lst 1 (List.map (eI .i64) l1)))] rfl ?_
 unfold f_overseerlaw21_sorted at h
 unfold F_overseerlaw21_sorted
 refine sr ((Rn.movTC (v := .nils 1) trivial (nt ((sr ((Rn.mov (v := .f (.lst 1 (List.map (eI .i64) l1))) trivial rfl ?_)))))))
 refine Rn.weak (by show WeakSt Γ _ ⟨look [(0, .f (.lst 1 (List.map (eI .i64) l1))), (2, .nils 1), (4, .d (.lst 1 (List.map (eI .i64) l1)))], memOf Γ.n0 (bxs []) M, Γ.n0 + 10⟩; exact weak_cut [] ⟨(.same rfl), ⟨(.same rfl), ⟨fToD, trivial⟩⟩⟩ trivial rfl) ?_
 obtain ⟨x3, h2, h⟩ := bnd h
 refine Rn.call (args := [.d (.lst 1 (List.map (eI .i64) l1))]) trivial rfl (H_slices_Clone_int _ _ h2) pc9 (Rn.movTO trivial rfl (Rn.nil (toN ?_)))
 obtain ⟨out4, hs5, h⟩ := bnd h
 obtain ⟨hl6, hn7, hr8⟩ := H_slices_Sort_int _ _ hs5
 obtain ⟨out10, hs11, h⟩ := bnd h
 obtain ⟨hl12, hn13, hr14⟩ := H_slices_Compact_int _ _ hs11
 refine Tr.seqW2 ⟨look [(2, .d (.lst 1 (List.map (eI .i64) out10)))], memOf Γ.n0 (bxs []) M, Γ.n0 + 10⟩ ?_ ?_
 ·by_cases hx9 : x3 = []
  ·obtain ⟨hyx, hn7b⟩ := hn7 hx9
   replace hyx := hyx.symm
   subst hyx
   replace hn7 := And.intro trivial hn7b
   obtain ⟨hyx2, hn13b⟩ := hn13 hx9
   replace hyx2 := hyx2.symm
   subst hyx2
   replace hn13 := And.intro trivial hn13b
   refine Tr.rgn (Rn.mov (v := .d (.lst 1 (List.map (eI .i64) x3))) trivial rfl (Rn.call (args := [.d (.lst 1 (List.map (eI .i64) x3))]) trivial rfl (hn7.2) pc9 (nt ((Tr.rgn (Rn.mov (v := .d (.lst 1 (List.map (eI .i64) x3))) trivial rfl (Rn.call (args := [.d (.lst 1 (List.map (eI .i64) x3))]) (r := .d (.lst 1 (List.map (eI .i64) x3))) trivial rfl (hn13.2) pc9 (Rn.movTD trivial rfl ?_))))))))
   refine Rn.nil ⟨rfl, (by show WeakSt Γ _ ⟨look _, memOf _ (bxs _) _, _⟩; exact weak_cut [] ⟨(.same rfl), trivial⟩ trivial rfl)⟩
  ·refine Tr.weak (by show WeakSt Γ _ ⟨look [(2, .nils 1), (3, .own 1 (List.map (eI .i64) x3))], memOf Γ.n0 (bxs []) M, Γ.n0 + 10⟩; exact weak_cut [] ⟨(.same rfl), ⟨(.same rfl), trivial⟩⟩ trivial rfl) ?_
   refine thawSL hG hM0 3 7 hx9 (fun _ => rfl) rfl rfl rfl ⟨rfl, ⟨rfl, ⟨(plainOwn (fun _ => rfl)), trivial⟩⟩⟩ trivial (fun c15 hc16 hc17 => ?_)
   refine Tr.rgn (Rn.mov (v := .sl 1 (Γ.n0 + 7) 0 x3.length c15) trivial rfl ?_)
   refine Rn.callRow (t := 7) (cs := thCells (List.map (eI .i64) x3) ((c15 - x3.length) * 1)) (cs' := thCells (List.map (eI .i64) out4) ((c15 - x3.length) * 1)) trivial rfl rfl (fun M2 hM2 => hr8 hc17 _ _ _ _ hM2) rfl ?_
   refine nt ((Tr.rgn (Rn.mov (v := .sl 1 (Γ.n0 + 7) 0 x3.length c15) trivial rfl ?_)))
   refine Rn.callRow (t := 7) (cs := thCells (List.map (eI .i64) out4) ((c15 - x3.length) * 1)) (cs' := thCells (List.map (eI .i64) out10) ((c15 - out10.length) * 1)) trivial rfl rfl (fun M2 hM2 => compK_at hr14 hl6 hc16 hM2) rfl ?_
   refine Rn.movTF (v := .sl 1 (Γ.n0 + 7) 0 out10.length c15) trivial rfl rfl ?_
   refine Rn.weak (by show WeakSt Γ _ ⟨look [(2, .d (.lst 1 (List.map (eI .i64) out10))), (7, .tup []), (9, .d (.lst 1 (List.map (eI .i64) out10)))], memOf Γ.n0 (bxs []) M, Γ.n0 + 10⟩; exact weak_freezeG 7 _ rfl preTh ⟨(fSlT (fun _ => rfl) rfl (Nat.le_trans (Nat.le_trans hl12 (Nat.le_of_eq hl6)) hc16)), ⟨(.same rfl), ⟨(fSlT (fun _ => rfl) rfl (Nat.le_trans (Nat.le_trans hl12 (Nat.le_of_eq hl6)) hc16)), trivial⟩⟩⟩ trivial rfl) ?_
   refine Rn.nil ⟨rfl, (by show WeakSt Γ _ ⟨look _, memOf _ (bxs _) _, _⟩; exact weak_cut [] ⟨(.same rfl), trivial⟩ trivial rfl)⟩
 ·refine Tr.ret ?_
  replace h := si h; subst h
  exact ⟨.inr rfl, (.d (.lst 1 (List.map (eI .i64) out10))), rfl, fun _ _ _ _ h => h, trivial, fun k hk => memOf_base hk⟩
theorem overseerlaw21_RequirementPhases_1_walk {P : Program} {c : Nat} (hcf : compFn P c = some F_overseerlaw21_RequirementPhases_1) (fuel : Nat) : K_overseerlaw21_RequirementPhases_1 P c (f_overseerlaw21_RequirementPhases_1 fuel) := by
 intro n1 event2 x3 x6 k4 k7 r h
 intro M nb hk5 hk8
 refine fn_trM hcf rfl M nb fun Γ hP hnt hn0 hM => ?_
 subst hP hn0
 refine Tr.init [(0, .d (.int .i64 n1)), (1, .d (.int .i64 event2)), (2, .ptr k4 0), (3, .ptr k7 0)] rfl ?_
 unfold f_overseerlaw21_RequirementPhases_1 at h
 unfold F_overseerlaw21_RequirementPhases_1
 refine sr ((md rfl (md rfl (nt ((sr ((md rfl (Rn.nil (toN ?_))))))))))
 refine Tr.cutB (fun (entered15 : Int) => ⟨look [(0, .d (.int .i64 n1)), (1, .d (.int .i64 event2)), (2, .ptr k4 0), (3, .ptr k7 0), (8, .d (.int .i64 entered15))], memOf Γ.n0 (bxs []) M, Γ.n0 + 64⟩) h (fun z h => ?_) (fun z h => ?_)
 ·refine sr ((Rn.load (v := .d (.lst 2 (List.map e_requirement_Phase x3))) trivial rfl (baseMem hM hk5) rfl rfl (Rn.lenD trivial rfl (md rfl (nt ((Tr.block ?_)))))))
  refine Tr.loop (mk := fun ((entered9, x10) : Int × Int) => ⟨look [(0, .d (.int .i64 n1)), (1, .d (.int .i64 event2)), (2, .ptr k4 0), (3, .ptr k7 0), (8, .d (.int .i64 entered9)), (13, .d (.int .i64 (x3.length : Int))), (14, .d (.int .i64 x10))], memOf Γ.n0 (bxs []) M, Γ.n0 + 64⟩) h (by show WeakSt Γ (clean _ _ _) ⟨look _, memOf _ (bxs _) _, _⟩; exact weak_clean ⟨(.same rfl), ⟨(.same rfl), ⟨(kPtrB (ltB hM hk5)), ⟨(kPtrB (ltB hM hk8)), ⟨(.same rfl), ⟨(.same rfl), ⟨(.same rfl), trivial⟩⟩⟩⟩⟩⟩⟩ trivial rfl) (fun k11 z h => ?_)
  ·obtain ⟨entered9, x10⟩ := z
   replace h : _ = some _ := h
   refine sr ((Rn.bin trivial rfl rfl rfl (nt ((Tr.seq ?_)))))
   refine Tr.cond rfl (fun hb12 => ?_) (fun hb12 => ?_)
   ·replace h := ifT hb12 h
    refine Tr.skip (toN (Tr.seq (Tr.block (sr ((md rfl (md rfl (nt ((Tr.rgn (md rfl (md rfl (md rfl ?_)))))))))))))
    obtain ⟨s13, h14, h⟩ := bnd h
    refine Rn.bin trivial rfl rfl (shr_bin h14) (Rn.bin trivial rfl rfl rfl (Rn.bin trivial rfl rfl rfl (md rfl (nt ((Tr.rgn (Rn.bin trivial rfl rfl rfl (md rfl (Rn.nil ?_)))))))))
    exact ⟨_, h, (by show WeakSt Γ (clean _ _ _) ⟨look _, memOf _ (bxs _) _, _⟩; exact weak_clean ⟨(.same rfl), ⟨(.same rfl), ⟨(kPtrB (ltB hM hk5)), ⟨(kPtrB (ltB hM hk8)), ⟨(.same rfl), ⟨(.same rfl), ⟨(.same rfl), trivial⟩⟩⟩⟩⟩⟩⟩ trivial rfl)⟩
   ·replace h := ifF hb12 h
    refine Tr.exit ?_
    replace h := si h; subst h
    show WeakSt Γ _ ⟨look _, memOf _ (bxs _) _, _⟩; exact weak_cut [] ⟨(.same rfl), ⟨(.same rfl), ⟨(kPtrB (ltB hM hk5)), ⟨(kPtrB (ltB hM hk8)), ⟨(.same rfl), trivial⟩⟩⟩⟩⟩ trivial rfl
 ·obtain ⟨entered15, rfl⟩ : ∃ x, x = z := ⟨_, rfl⟩
  refine Tr.seq (sr ((Rn.load (v := .d (.lst 2 (List.map e_requirement_Phase x3))) trivial rfl (baseMem hM hk5) rfl rfl (Rn.lenD trivial rfl (md rfl (nt ((Tr.block ?_))))))))
  refine Tr.loop (mk := fun (x16 : Int) => ⟨look [(0, .d (.int .i64 n1)), (1, .d (.int .i64 event2)), (3, .ptr k7 0), (8, .d (.int .i64 entered15)), (24, .d (.lst 2 (List.map e_requirement_Phase x3))), (25, .d (.int .i64 (x3.length : Int))), (26, .d (.int .i64 x16))], memOf Γ.n0 (bxs []) M, Γ.n0 + 64⟩) h (by show WeakSt Γ (clean _ _ _) ⟨look _, memOf _ (bxs _) _, _⟩; exact weak_clean ⟨(.same rfl), ⟨(.same rfl), ⟨(kPtrB (ltB hM hk8)), ⟨(.same rfl), ⟨(.same rfl), ⟨(.same rfl), ⟨(.same rfl), trivial⟩⟩⟩⟩⟩⟩⟩ trivial rfl) (fun k17 z h => ?_)
  ·obtain ⟨x16, rfl⟩ : ∃ x, x = z := ⟨_, rfl⟩
   replace h : _ = some _ := h
   refine sr ((Rn.bin trivial rfl rfl rfl (nt ((Tr.seq ?_)))))
   refine Tr.cond rfl (fun hb18 => ?_) (fun hb18 => ?_)
   ·replace h := ifT hb18 h
    refine Tr.skip (toN (Tr.seq (Tr.block (sr ((md rfl ?_))))))
    obtain ⟨x19, h20, h⟩ := bnd h
    refine Rn.idxD (e := e_requirement_Phase) trivial rfl rfl h20 (Rn.loadCA (vs := [.d (.int .i64 x19.Enter), .d (.int .i64 x19.Leave)]) trivial rfl rfl rfl (Rn.alloc trivial rfl (md rfl (Rn.store (v := .agg [.d (.int .i64 x19.Enter), .d (.int .i64 x19.Leave)]) (cs' := [.d (.int .i64 x19.Enter), .d (.int .i64 x19.Leave)]) trivial rfl rfl rfl rfl rfl rfl (nt ((Tr.seq (sr ((md rfl (Rn.fldP (o' := 0) trivial rfl rfl (Rn.load (v := .d (.int .i64 x19.Enter)) trivial rfl (boxOwn rfl) rfl rfl (Rn.bin trivial rfl rfl rfl (Rn.nil (toN ?_)))))))))))))))
    refine Tr.cond rfl (fun hb21 => ?_) (fun hb21 => ?_)
    ·replace h := bT hb21 h
     refine Tr.seq ?_
     refine Tr.rgnD (by decide) ?_
     refine md rfl (md rfl ?_)
     obtain ⟨s22, h23, h⟩ := bnd h
     refine Rn.bin trivial rfl rfl (shl_bin h23) (Rn.bin trivial rfl rfl rfl (md rfl (md rfl ?_)))
     obtain ⟨s24, h25, h⟩ := bnd h
     refine Rn.bin trivial rfl rfl (shr_bin h25) (Rn.bin trivial rfl rfl rfl (Rn.bin trivial rfl rfl rfl (md rfl ?_)))
     refine bsplit ((andI .i64 s24 1) == 0) (fun hb26 => ?_) (fun hb26 => ?_)
     ·replace h := bT hb26 h
      refine Rn.movD (gw rfl hb26) rfl (Rn.load (v := .d (.int .i64 x6)) (gw rfl hb26) rfl (baseMem hM hk8) rfl rfl (Rn.bin (gw rfl hb26) rfl rfl rfl (Rn.pickT (v := .d (.bool (decide (entered15 < x6)))) trivial rfl hb26 rfl (md rfl (md rfl ?_)))))
      refine Rn.nil ⟨rfl, ?_⟩
      refine toN (Tr.ret ?_)
      replace h := si h; subst h
      exact ⟨.inr rfl, .tup [.d (.int .i64 (orI .i64 n1 s22)), .d (.bool (decide (entered15 < x6)))], res2 rfl rfl, (WkV.tup (.cons (.same rfl) (.cons (.same rfl) .nil))).rd, ⟨trivial, trivial, trivial⟩, fun k hk => memOf_base hk⟩
     ·replace h := bF hb26 h
      refine Rn.sk (nw rfl hb26) (Rn.sk (nw rfl hb26) (Rn.sk (nw rfl hb26) (Rn.pickF (v := .d (.bool false)) trivial rfl hb26 rfl (md rfl (md rfl ?_)))))
      refine Rn.nil ⟨rfl, ?_⟩
      refine toN (Tr.ret ?_)
      replace h := si h; subst h
      exact ⟨.inr rfl, .tup [.d (.int .i64 (orI .i64 n1 s22)), .d (.bool false)], res2 rfl rfl, (WkV.tup (.cons (.same rfl) (.cons (.same rfl) .nil))).rd, ⟨trivial, trivial, trivial⟩, fun k hk => memOf_base hk⟩
    ·replace h := bF hb21 h
     refine Tr.skip (toN (sr ((md rfl (Rn.fldP (o' := 1) trivial rfl rfl (Rn.load (v := .d (.int .i64 x19.Leave)) trivial rfl (boxOwn rfl) rfl rfl (Rn.bin trivial rfl rfl rfl (Rn.nil (toN ?_)))))))))
     refine Tr.cond rfl (fun hb27 => ?_) (fun hb27 => ?_)
     ·replace h := bT hb27 h
      refine Tr.seq ?_
      refine Tr.rgnD (by decide) ?_
      refine md rfl (md rfl ?_)
      obtain ⟨s28, h29, h⟩ := bnd h
      refine Rn.bin trivial rfl rfl (shl_bin h29) (Rn.bin trivial rfl rfl rfl (md rfl (md rfl ?_)))
      obtain ⟨s30, h31, h⟩ := bnd h
      refine Rn.bin trivial rfl rfl (shr_bin h31) (Rn.bin trivial rfl rfl rfl (Rn.bin trivial rfl rfl rfl (md rfl (md rfl ?_))))
      refine Rn.nil ⟨rfl, ?_⟩
      refine toN (Tr.ret ?_)
      replace h := si h; subst h
      exact ⟨.inr rfl, .tup [.d (.int .i64 (andNotI .i64 n1 s28)), .d (.bool ((andI .i64 s30 1) == 1))], res2 rfl rfl, (WkV.tup (.cons (.same rfl) (.cons (.same rfl) .nil))).rd, ⟨trivial, trivial, trivial⟩, fun k hk => memOf_base hk⟩
     ·replace h := bF hb27 h
      refine Tr.skip (toN (Tr.rgn (Rn.bin trivial rfl rfl rfl (md rfl (Rn.nil ?_)))))
      exact ⟨_, h, (by show WeakSt Γ (clean _ _ _) ⟨look _, memOf _ (bxs _) _, _⟩; exact weak_clean ⟨(.same rfl), ⟨(.same rfl), ⟨(kPtrB (ltB hM hk8)), ⟨(.same rfl), ⟨(.same rfl), ⟨(.same rfl), ⟨(.same rfl), trivial⟩⟩⟩⟩⟩⟩⟩ trivial rfl)⟩
   ·replace h := ifF hb18 h
    refine Tr.exit (toN (sr ((md rfl (md rfl (md rfl (nt ((Tr.ret ?_)))))))))
    replace h := si h; subst h
    exact ⟨.inr rfl, .tup [.d (.int .i64 n1), .d (.bool false)], res2 rfl rfl, (WkV.tup (.cons (.same rfl) (.cons (.same rfl) .nil))).rd, ⟨trivial, trivial, trivial⟩, fun k hk => memOf_base hk⟩
theorem overseerlaw21_build_int_1_walk {P : Program} {c : Nat} (hcf : compFn P c = some F_overseerlaw21_build_int_1) : K_overseerlaw21_build_int_1 P c (f_overseerlaw21_build_int_1) := by
 intro s1 x2 x12 k3 g5 cp6 k13 r h
 intro M nb hk4 hc7 ho9 hf8 hk14
 refine fn_trM hcf rfl M nb fun Γ hP hnt hn0 hM => ?_
 subst hP hn0
 refine Tr.init [(0, .d (.int .i64 s1)), (1, .ptr k3 0), (2, .ptr k13 0)] rfl ?_
 unfold f_overseerlaw21_build_int_1 at h
 unfold F_overseerlaw21_build_int_1
 refine sr ((md rfl (nt ((sr ((Rn.load (v := .clo g5 cp6) trivial rfl (baseMem hM hk4) rfl rfl (md rfl (Rn.load (v := .d (.int .i64 x12)) trivial rfl (baseMem hM hk14) rfl rfl ?_)))))))))
 obtain ⟨x16, h15, h⟩ := bnd h
 refine Rn.callvM (args := [.d (.int .i64 s1), .d (.int .i64 x12)] ++ cp6) trivial rfl (by rw [hc7]; rfl) (fun M2 nb2 hn hx => hf8 _ _ _ h15 M2 nb2 (by omega) ((extMem hM).trans hx)) rfl pc9 ?_
 refine md rfl (nt ((Tr.ret ?_)))
 replace h := si h; subst h
 exact ⟨.inr rfl, (.d (.bool x16)), rfl, fun _ _ _ _ h => h, trivial, fun k hk => memOf_base hk⟩
theorem slices_IndexFunc_int_walk {P : Program} {c : Nat} (hcf : compFn P c = some F_slices_IndexFunc_int) (fuel : Nat) : K_slices_IndexFunc_int P c (f_slices_IndexFunc_int fuel) := by
 intro s1 f2 g3 cp4 r h
 intro M nb hc5 ho7 hf6
 refine fn_trM hcf rfl M nb fun Γ hP hnt hn0 hM => ?_
 subst hP hn0
 refine Tr.init [(0, .d (.lst 1 (List.map (eI .i64) s1))), (1, .clo g3 cp4)] rfl ?_
 unfold f_slices_IndexFunc_int at h
 unfold F_slices_IndexFunc_int
 refine sr ((md rfl (nt ((Tr.seq (sr ((md rfl (Rn.lenD trivial rfl (md rfl (nt ((Tr.block ?_)))))))))))))
 refine Tr.loop (mk := fun (x9 : Int) => ⟨look [(0, .d (.lst 1 (List.map (eI .i64) s1))), (1, .clo g3 cp4), (7, .d (.int .i64 (s1.length : Int))), (8, .d (.int .i64 x9))], memOf Γ.n0 (bxs []) M, Γ.n0 + 19⟩) h (by show WeakSt Γ (clean _ _ _) ⟨look _, memOf _ (bxs _) _, _⟩; exact weak_clean ⟨(.same rfl), ⟨(kFun hM ho7), ⟨(.same rfl), ⟨(.same rfl), trivial⟩⟩⟩⟩ trivial rfl) (fun k10 z h => ?_)
 ·obtain ⟨x9, rfl⟩ : ∃ x, x = z := ⟨_, rfl⟩
  replace h : _ = some _ := h
  refine sr ((Rn.bin trivial rfl rfl rfl (nt ((Tr.seq ?_)))))
  refine Tr.cond rfl (fun hb11 => ?_) (fun hb11 => ?_)
  ·replace h := ifT hb11 h
   refine Tr.skip (toN (Tr.seq (Tr.block (sr ((md rfl (md rfl (nt ((sr ((Rn.mov (v := .clo g3 cp4) trivial rfl (md rfl (md rfl ?_))))))))))))))
   obtain ⟨x12, h13, h⟩ := bnd h
   refine Rn.idxD (e := (eI .i64)) trivial rfl rfl h13 (Rn.loadC (x := .int .i64 x12) trivial rfl ?_)
   obtain ⟨x15, h14, h⟩ := bnd h
   refine Rn.callvM (args := [.d (.int .i64 x12)] ++ cp4) trivial rfl (by rw [hc5]; rfl) (fun M2 nb2 hn hx => hf6 _ _ h14 M2 nb2 (by omega) ((extMem hM).trans hx)) rfl pc9 ?_
   refine Rn.nil (toN ?_)
   refine Tr.cond rfl (fun hb16 => ?_) (fun hb16 => ?_)
   ·replace h := bT hb16 h
    refine sr ((md rfl (md rfl (nt ((Tr.ret ?_))))))
    replace h := si h; subst h
    exact ⟨.inr rfl, (.d (.int .i64 x9)), rfl, fun _ _ _ _ h => h, trivial, fun k hk => memOf_base hk⟩
   ·replace h := bF hb16 h
    refine Tr.skip (toN (Tr.rgn (Rn.bin trivial rfl rfl rfl (md rfl (Rn.nil ?_)))))
    exact ⟨_, h, (by show WeakSt Γ (clean _ _ _) ⟨look _, memOf _ (bxs _) _, _⟩; exact weak_clean ⟨(.same rfl), ⟨(kFun hM ho7), ⟨(.same rfl), ⟨(.same rfl), trivial⟩⟩⟩⟩ trivial rfl)⟩
  ·replace h := ifF hb11 h
   refine Tr.exit (toN (sr ((md rfl (nt ((Tr.ret ?_)))))))
   replace h := si h; subst h
   exact ⟨.inr rfl, (.d (.int .i64 (-1))), rfl, fun _ _ _ _ h => h, trivial, fun k hk => memOf_base hk⟩
theorem overseerlaw21_build_int_walk {P : Program} {c : Nat} {f_slices_IndexFunc_int : (List Int) → (Int → Option Bool) → Option Int} {f_overseerlaw21_build_int_1 : Int → (Int → Int → Option Bool) → Int → Option Bool}
    (H_slices_IndexFunc_int : K_slices_IndexFunc_int P 63 f_slices_IndexFunc_int)
    (H_overseerlaw21_build_int_1 : K_overseerlaw21_build_int_1 P 79 f_overseerlaw21_build_int_1) (hcf : compFn P c = some F_overseerlaw21_build_int) (fuel : Nat) : K_overseerlaw21_build_int P c (f_overseerlaw21_build_int f_slices_IndexFunc_int f_overseerlaw21_build_int_1 fuel) := by
 intro start1 events2 same3 step11 marked19 g4 cp5 g12 cp13 g20 cp21 r h
 intro M nb hc6 ho8 hf7 hc14 ho16 hf15 hc22 ho24 hf23
 refine fn_trM hcf rfl M nb fun Γ hP hnt hn0 hM => ?_
 subst hP hn0
 refine Tr.init [(0, .d (.int .i64 start1)), (1, .d (.lst 1 (List.map (eI .i64) events2))), (2, .clo g4 cp5), (3, .clo g12 cp13), (4, .clo g20 cp21)] rfl ?_
 unfold f_overseerlaw21_build_int at h
 unfold F_overseerlaw21_build_int
 refine sr ((Rn.box (v := .clo g4 cp5) (cs := [.clo g4 cp5]) trivial rfl rfl rfl rfl rfl (Rn.alloc trivial rfl (nt ((sr ((md rfl (Rn.build (v := .agg [.d (.lst 1 (List.map (eI .i64) events2)), .d (.int .i64 0), .nils 1, .nils 3]) trivial rfl (Rn.alloc trivial rfl (Rn.store (v := .agg [.d (.lst 1 (List.map (eI .i64) events2)), .d (.int .i64 0), .nils 1, .nils 3]) (cs' := [.d (.lst 1 (List.map (eI .i64) events2)), .d (.int .i64 0), .nils 1, .nils 3]) trivial rfl rfl rfl rfl rfl rfl (nt ((sr ((md rfl (Rn.bslice (xs := [.d (.int .i64 start1)]) (cs := [.d (.int .i64 start1)]) trivial rfl rfl rfl rfl (Rn.movTF (v := .sl 1 (Γ.n0 + 22) 0 1 1) trivial rfl rfl (Rn.nil (toN ?_))))))))))))))))))))
 refine Tr.cutB (fun ((l79, c80, c81, c82, a83, a84) : (List Int) × (List Int) × (List Int) × (List api_Edge) × (List Int) × (List api_Edge)) => ⟨look [(10, .ptr (Γ.n0 + 10) 0), (11, .ptr (Γ.n0 + 11) 0), (12, .own 1 (List.map (eI .i64) l79))], memOf Γ.n0 (bxs [(7, .cells ([.clo g4 cp5])), (10, .cells ([.own 1 (List.map (eI .i64) c80), .d (.int .i64 0), .own 1 (List.map (eI .i64) c81), .own 3 (List.map e_api_Edge c82)])), (11, .cells ([.d (.lst 1 (List.map (eI .i64) events2)), .d (.int .i64 0), .own 1 (List.map (eI .i64) a83), .own 3 (List.map e_api_Edge a84)]))]) M, Γ.n0 + 84⟩) h (fun z h => ?_) (fun z h => ?_)
 ·refine sr ((md rfl (nt ((Tr.block ?_)))))
  refine Tr.weak (by show WeakSt Γ _ ⟨look ((12, .own 1 (List.map (eI .i64) [start1])) :: [(0, .d (.int .i64 start1)), (1, .d (.lst 1 (List.map (eI .i64) events2))), (2, .clo g4 cp5), (3, .clo g12 cp13), (4, .clo g20 cp21), (7, .ptr (Γ.n0 + 7) 0), (10, .ptr (Γ.n0 + 10) 0), (11, .ptr (Γ.n0 + 11) 0), (13, .d (.int .i64 0)), (19, .d (.lst 1 (List.map (eI .i64) events2))), (20, .agg [.d (.lst 1 (List.map (eI .i64) events2)), .d (.int .i64 0), .nils 1, .nils 3]), (21, .d (.int .i64 start1))] ), memOf Γ.n0 (bxs [(7, .cells ([.clo g4 cp5])), (10, .cells ([.nils 1, .d (.int .i64 0), .nils 1, .nils 3])), (11, .cells ([.d (.lst 1 (List.map (eI .i64) events2)), .d (.int .i64 0), .nils 1, .nils 3]))]) M, Γ.n0 + 84⟩; exact weak_ownL 22 12 [.int .i64 start1] rfl rfl rfl rfl rfl ⟨(.same rfl), ⟨(.same rfl), ⟨(kFun hM ho8), ⟨(kFun hM ho16), ⟨(kFun hM ho24), ⟨(kPtr rfl), ⟨(kPtr rfl), ⟨(kPtr rfl), ⟨(.same rfl), ⟨(.same rfl), ⟨(.same rfl), ⟨(.same rfl), trivial⟩⟩⟩⟩⟩⟩⟩⟩⟩⟩⟩⟩ ⟨⟨_, rfl, rfl, (.cons (kFun hM ho8) .nil)⟩, ⟨⟨_, rfl, rfl, (.same rfl)⟩, ⟨⟨_, rfl, rfl, (.same rfl)⟩, trivial⟩⟩⟩ rfl) ?_
  refine Tr.loop (mk := fun ((l26, i27, c28, c29, c30, a31, a32) : (List Int) × Int × (List Int) × (List Int) × (List api_Edge) × (List Int) × (List api_Edge)) => ⟨look [(1, .d (.lst 1 (List.map (eI .i64) events2))), (3, .clo g12 cp13), (4, .clo g20 cp21), (7, .ptr (Γ.n0 + 7) 0), (10, .ptr (Γ.n0 + 10) 0), (11, .ptr (Γ.n0 + 11) 0), (12, .own 1 (List.map (eI .i64) l26)), (13, .d (.int .i64 i27))], memOf Γ.n0 (bxs [(7, .cells ([.clo g4 cp5])), (10, .cells ([.own 1 (List.map (eI .i64) c28), .d (.int .i64 0), .own 1 (List.map (eI .i64) c29), .own 3 (List.map e_api_Edge c30)])), (11, .cells ([.d (.lst 1 (List.map (eI .i64) events2)), .d (.int .i64 0), .own 1 (List.map (eI .i64) a31), .own 3 (List.map e_api_Edge a32)]))]) M, Γ.n0 + 84⟩) h (by show WeakSt Γ (clean _ _ _) ⟨look _, memOf _ (bxs _) _, _⟩; exact weak_clean ⟨(.same rfl), ⟨(kFun hM ho16), ⟨(kFun hM ho24), ⟨(kPtr rfl), ⟨(kPtr rfl), ⟨(kPtr rfl), ⟨(.same rfl), ⟨(.same rfl), trivial⟩⟩⟩⟩⟩⟩⟩⟩ ⟨⟨_, rfl, rfl, (.cons (kFun hM ho8) .nil)⟩, ⟨⟨_, rfl, rfl, (.cons (WkV.nilsO _) (.cons (.same rfl) (.cons (WkV.nilsO _) (.cons (WkV.nilsO _) .nil))))⟩, ⟨⟨_, rfl, rfl, (.cons (.same rfl) (.cons (.same rfl) (.cons (WkV.nilsO _) (.cons (WkV.nilsO _) .nil))))⟩, trivial⟩⟩⟩ rfl) (fun k33 z h => ?_)
  ·obtain ⟨l26, i27, c28, c29, c30, a31, a32⟩ := z
   replace h : _ = some _ := h
   refine Tr.seq (sr ((md rfl (Rn.mov (v := .d (.lst 1 (List.map (eI .i64) l26))) trivial rfl (Rn.lenD trivial rfl (Rn.bin trivial rfl rfl rfl (Rn.nil (toN ?_))))))))
   refine Tr.cond rfl (fun hb34 => ?_) (fun hb34 => ?_)
   ·replace h := ifT hb34 h
    refine Tr.skip (toN ?_)
    refine Tr.cutB (fun ((l76, a77, a78) : (List Int) × (List Int) × (List api_Edge)) => ⟨look [(1, .d (.lst 1 (List.map (eI .i64) events2))), (3, .clo g12 cp13), (4, .clo g20 cp21), (7, .ptr (Γ.n0 + 7) 0), (10, .ptr (Γ.n0 + 10) 0), (11, .ptr (Γ.n0 + 11) 0), (12, .own 1 (List.map (eI .i64) l76)), (13, .d (.int .i64 i27))], memOf Γ.n0 (bxs [(7, .cells ([.clo g4 cp5])), (10, .cells ([.own 1 (List.map (eI .i64) c28), .d (.int .i64 0), .own 1 (List.map (eI .i64) c29), .own 3 (List.map e_api_Edge c30)])), (11, .cells ([.d (.lst 1 (List.map (eI .i64) events2)), .d (.int .i64 0), .own 1 (List.map (eI .i64) a77), .own 3 (List.map e_api_Edge a78)]))]) M, Γ.n0 + 84⟩) h (fun z h => ?_) (fun z h => ?_)
    ·refine Tr.block ?_
     refine Tr.cutB (fun (a42 : List Int) => ⟨look [(1, .d (.lst 1 (List.map (eI .i64) events2))), (3, .clo g12 cp13), (4, .clo g20 cp21), (7, .ptr (Γ.n0 + 7) 0), (10, .ptr (Γ.n0 + 10) 0), (11, .ptr (Γ.n0 + 11) 0), (12, .own 1 (List.map (eI .i64) l26)), (13, .d (.int .i64 i27))], memOf Γ.n0 (bxs [(7, .cells ([.clo g4 cp5])), (10, .cells ([.own 1 (List.map (eI .i64) c28), .d (.int .i64 0), .own 1 (List.map (eI .i64) c29), .own 3 (List.map e_api_Edge c30)])), (11, .cells ([.d (.lst 1 (List.map (eI .i64) events2)), .d (.int .i64 0), .own 1 (List.map (eI .i64) a42), .own 3 (List.map e_api_Edge a32)]))]) M, Γ.n0 + 84⟩) h (fun z h => ?_) (fun z h => ?_)
     ·refine sr ((Rn.mov (v := .clo g20 cp21) trivial rfl (Rn.mov (v := .d (.lst 1 (List.map (eI .i64) l26))) trivial rfl (md rfl ?_))))
      obtain ⟨x35, h36, h⟩ := bnd h
      refine Rn.idxD (e := (eI .i64)) trivial rfl rfl h36 (Rn.loadC (x := .int .i64 x35) trivial rfl ?_)
      obtain ⟨x38, h37, h⟩ := bnd h
      refine Rn.callvM (args := [.d (.int .i64 x35)] ++ cp21) trivial rfl (by rw [hc22]; rfl) (fun M2 nb2 hn hx => hf23 _ _ h37 M2 nb2 (by omega) ((extMem hM).trans hx)) rfl pc9 ?_
      refine Rn.nil (toN ?_)
      refine Tr.cond rfl (fun hb39 => ?_) (fun hb39 => ?_)
      ·replace h := bT hb39 h
       refine Tr.rgn (Rn.fldP (o' := 2) trivial rfl rfl (Rn.loadT (cs' := [.d (.lst 1 (List.map (eI .i64) events2)), .d (.int .i64 0), .d (.lst 1 (List.map (eI .i64) a31)), .own 3 (List.map e_api_Edge a32)]) trivial rfl rfl rfl rfl (md rfl (Rn.bslice (xs := [.d (.int .i64 i27)]) (cs := [.d (.int .i64 i27)]) trivial rfl rfl rfl rfl ?_))))
       obtain ⟨x40, h41, h⟩ := bnd h
       refine Rn.app (e := (eI .i64)) trivial rfl rfl rfl (elems_box rfl rfl rfl) h41 rfl (Rn.fldP (o' := 2) trivial rfl rfl (Rn.storeO (cs' := [.d (.lst 1 (List.map (eI .i64) events2)), .d (.int .i64 0), .own 1 (List.map (eI .i64) x40), .own 3 (List.map e_api_Edge a32)]) trivial rfl rfl rfl rfl rfl (Rn.nil ?_)))
       replace h := si h; subst h
       show WeakSt Γ _ ⟨look _, memOf _ (bxs _) _, _⟩; exact weak_cut [38] ⟨(.same rfl), ⟨(kFun hM ho16), ⟨(kFun hM ho24), ⟨(kPtr rfl), ⟨(kPtr rfl), ⟨(kPtr rfl), ⟨(.same rfl), ⟨(.same rfl), trivial⟩⟩⟩⟩⟩⟩⟩⟩ ⟨⟨_, rfl, rfl, (.cons (kFun hM ho8) .nil)⟩, ⟨⟨_, rfl, rfl, (.same rfl)⟩, ⟨⟨_, rfl, rfl, (.same rfl)⟩, trivial⟩⟩⟩ rfl
      ·replace h := bF hb39 h
       refine Tr.skip ?_
       replace h := si h; subst h
       show WeakSt Γ _ ⟨look _, memOf _ (bxs _) _, _⟩; exact weak_cut [] ⟨(.same rfl), ⟨(kFun hM ho16), ⟨(kFun hM ho24), ⟨(kPtr rfl), ⟨(kPtr rfl), ⟨(kPtr rfl), ⟨(.same rfl), ⟨(.same rfl), trivial⟩⟩⟩⟩⟩⟩⟩⟩ ⟨⟨_, rfl, rfl, (.cons (kFun hM ho8) .nil)⟩, ⟨⟨_, rfl, rfl, (.same rfl)⟩, ⟨⟨_, rfl, rfl, (.same rfl)⟩, trivial⟩⟩⟩ rfl
     ·obtain ⟨a42, rfl⟩ : ∃ x, x = z := ⟨_, rfl⟩
      refine sr ((md rfl (Rn.lenD trivial rfl (md rfl (nt ((Tr.block ?_)))))))
      refine Tr.loop (mk := fun ((l43, x44, a45) : (List Int) × Int × (List api_Edge)) => ⟨look [(1, .d (.lst 1 (List.map (eI .i64) events2))), (3, .clo g12 cp13), (4, .clo g20 cp21), (7, .ptr (Γ.n0 + 7) 0), (10, .ptr (Γ.n0 + 10) 0), (11, .ptr (Γ.n0 + 11) 0), (12, .own 1 (List.map (eI .i64) l43)), (13, .d (.int .i64 i27)), (41, .d (.lst 1 (List.map (eI .i64) events2))), (42, .d (.int .i64 (events2.length : Int))), (43, .d (.int .i64 x44))], memOf Γ.n0 (bxs [(7, .cells ([.clo g4 cp5])), (10, .cells ([.own 1 (List.map (eI .i64) c28), .d (.int .i64 0), .own 1 (List.map (eI .i64) c29), .own 3 (List.map e_api_Edge c30)])), (11, .cells ([.d (.lst 1 (List.map (eI .i64) events2)), .d (.int .i64 0), .own 1 (List.map (eI .i64) a42), .own 3 (List.map e_api_Edge a45)]))]) M, Γ.n0 + 84⟩) h (by show WeakSt Γ (clean _ _ _) ⟨look _, memOf _ (bxs _) _, _⟩; exact weak_clean ⟨(.same rfl), ⟨(kFun hM ho16), ⟨(kFun hM ho24), ⟨(kPtr rfl), ⟨(kPtr rfl), ⟨(kPtr rfl), ⟨(.same rfl), ⟨(.same rfl), ⟨(.same rfl), ⟨(.same rfl), ⟨(.same rfl), trivial⟩⟩⟩⟩⟩⟩⟩⟩⟩⟩⟩ ⟨⟨_, rfl, rfl, (.cons (kFun hM ho8) .nil)⟩, ⟨⟨_, rfl, rfl, (.same rfl)⟩, ⟨⟨_, rfl, rfl, (.same rfl)⟩, trivial⟩⟩⟩ rfl) (fun k46 z h => ?_)
      ·obtain ⟨l43, x44, a45⟩ := z
       replace h : _ = some _ := h
       refine sr ((Rn.bin trivial rfl rfl rfl (nt ((Tr.seq ?_)))))
       refine Tr.cond rfl (fun hb47 => ?_) (fun hb47 => ?_)
       ·replace h := ifT hb47 h
        refine Tr.skip (toN ?_)
        refine Tr.cutB (fun ((l73, a74, next75) : (List Int) × (List api_Edge) × Int) => ⟨look [(1, .d (.lst 1 (List.map (eI .i64) events2))), (3, .clo g12 cp13), (4, .clo g20 cp21), (7, .ptr (Γ.n0 + 7) 0), (10, .ptr (Γ.n0 + 10) 0), (11, .ptr (Γ.n0 + 11) 0), (12, .own 1 (List.map (eI .i64) l73)), (13, .d (.int .i64 i27)), (41, .d (.lst 1 (List.map (eI .i64) events2))), (42, .d (.int .i64 (events2.length : Int))), (43, .d (.int .i64 x44))], memOf Γ.n0 (bxs [(7, .cells ([.clo g4 cp5])), (10, .cells ([.own 1 (List.map (eI .i64) c28), .d (.int .i64 0), .own 1 (List.map (eI .i64) c29), .own 3 (List.map e_api_Edge c30)])), (11, .cells ([.d (.lst 1 (List.map (eI .i64) events2)), .d (.int .i64 0), .own 1 (List.map (eI .i64) a42), .own 3 (List.map e_api_Edge a74)])), (16, .cells ([.d (.int .i64 next75)]))]) M, Γ.n0 + 84⟩) h (fun z h => ?_) (fun z h => ?_)
        ·refine Tr.block (Tr.seq (Tr.rgn ?_))
         obtain ⟨x48, h49, h⟩ := bnd h
         refine Rn.idxD (e := (eI .i64)) trivial rfl rfl h49 (Rn.loadC (x := .int .i64 x48) trivial rfl (md rfl (nt ((sr ((Rn.mov (v := .clo g12 cp13) trivial rfl (Rn.mov (v := .d (.lst 1 (List.map (eI .i64) l43))) trivial rfl (md rfl ?_)))))))))
         obtain ⟨x50, h51, h⟩ := bnd h
         refine Rn.idxD (e := (eI .i64)) trivial rfl rfl h51 (Rn.loadC (x := .int .i64 x50) trivial rfl (md rfl ?_))
         obtain ⟨⟨r54, r55⟩, h52, h⟩ := bnd h
         refine Rn.callvM (args := [.d (.int .i64 x50), .d (.int .i64 x48)] ++ cp13) trivial rfl (by rw [hc14]; rfl) (fun M2 nb2 hn hx => hf15 _ _ _ h52 M2 nb2 (by omega) ((extMem hM).trans hx)) rfl pc9 ?_
         refine Rn.mov (v := .tup [.d (.int .i64 r54), .d (.bool r55)]) trivial rfl (Rn.ext (v := .d (.int .i64 r54)) (vs := [.d (.int .i64 r54), .d (.bool r55)]) trivial rfl rfl rfl (Rn.ext (v := .d (.bool r55)) (vs := [.d (.int .i64 r54), .d (.bool r55)]) trivial rfl rfl rfl (Rn.alloc trivial rfl (Rn.store (v := .d (.int .i64 r54)) (cs' := [.d (.int .i64 r54)]) trivial rfl rfl rfl rfl rfl rfl (md rfl (nt ((Tr.seq (sr ((md rfl (Rn.un trivial rfl rfl (Rn.nil (toN ?_))))))))))))))
         refine Tr.cond rfl (fun hb56 => ?_) (fun hb56 => ?_)
         ·have hb56 := nT' hb56
          replace h := bF hb56 h
          refine Tr.exit ?_
          replace h := si h; subst h
          show WeakSt Γ _ ⟨look _, memOf _ (bxs _) _, _⟩; exact weak_cut [] ⟨(.same rfl), ⟨(kFun hM ho16), ⟨(kFun hM ho24), ⟨(kPtr rfl), ⟨(kPtr rfl), ⟨(kPtr rfl), ⟨(.same rfl), ⟨(.same rfl), ⟨(.same rfl), ⟨(.same rfl), ⟨(.same rfl), trivial⟩⟩⟩⟩⟩⟩⟩⟩⟩⟩⟩ ⟨⟨_, rfl, rfl, (.cons (kFun hM ho8) .nil)⟩, ⟨⟨_, rfl, rfl, (.same rfl)⟩, ⟨⟨_, rfl, rfl, (.same rfl)⟩, ⟨⟨_, rfl, rfl, (.same rfl)⟩, trivial⟩⟩⟩⟩ rfl
         ·have hb56 := nF' hb56
          replace h := bT hb56 h
          refine Tr.skip (toN (sr ((Rn.mov (v := .d (.lst 1 (List.map (eI .i64) l43))) trivial rfl (Rn.k (v := .clo 79 [.ptr (Γ.n0 + 7) 0, .ptr (Γ.n0 + 16) 0]) trivial rfl rfl rfl ?_)))))
          obtain ⟨x65, h64, h⟩ := bnd h
          refine Rn.callM (args := [.d (.lst 1 (List.map (eI .i64) l43)), .clo 79 [.ptr (Γ.n0 + 7) 0, .ptr (Γ.n0 + 16) 0]]) trivial rfl (fun M2 nb2 hn hx => H_slices_IndexFunc_int _ _ 79 [.ptr (Γ.n0 + 7) 0, .ptr (Γ.n0 + 16) 0] _ h64 M2 nb2 rfl ⟨thereOf (hx _ _ (boxOwn rfl)), thereOf (hx _ _ (boxOwn rfl)), trivial⟩ (fun a57 r58 h59 M3 nb3 hn3 hx3 => H_overseerlaw21_build_int_1 a57 same3 r54 (Γ.n0 + 7) g4 cp5 (Γ.n0 + 16) r58 h59 M3 nb3 ((hx.trans hx3) _ _ (boxOwn rfl)) hc6 (onsExt ((extMem hM).trans (hx.trans hx3)) ho8) (fun a60 a61 r62 h63 M4 nb4 hn4 hx4 => hf7 a60 a61 r62 h63 M4 nb4 (by omega) ((extMem hM).trans ((hx.trans hx3).trans hx4))) ((hx.trans hx3) _ _ (boxOwn rfl)))) rfl pc9 ?_
          refine md rfl (Rn.nil (toN ?_))
          refine Tr.cutB (fun ((l69, to70) : (List Int) × Int) => ⟨look [(1, .d (.lst 1 (List.map (eI .i64) events2))), (3, .clo g12 cp13), (4, .clo g20 cp21), (7, .ptr (Γ.n0 + 7) 0), (10, .ptr (Γ.n0 + 10) 0), (11, .ptr (Γ.n0 + 11) 0), (12, .own 1 (List.map (eI .i64) l69)), (13, .d (.int .i64 i27)), (15, .d (.int .i64 x48)), (18, .d (.int .i64 to70)), (41, .d (.lst 1 (List.map (eI .i64) events2))), (42, .d (.int .i64 (events2.length : Int))), (43, .d (.int .i64 x44))], memOf Γ.n0 (bxs [(7, .cells ([.clo g4 cp5])), (10, .cells ([.own 1 (List.map (eI .i64) c28), .d (.int .i64 0), .own 1 (List.map (eI .i64) c29), .own 3 (List.map e_api_Edge c30)])), (11, .cells ([.d (.lst 1 (List.map (eI .i64) events2)), .d (.int .i64 0), .own 1 (List.map (eI .i64) a42), .own 3 (List.map e_api_Edge a45)])), (16, .cells ([.d (.int .i64 r54)]))]) M, Γ.n0 + 84⟩) h (fun z h => ?_) (fun z h => ?_)
          ·refine sr ((md rfl (Rn.bin trivial rfl rfl rfl (Rn.nil (toN ?_)))))
           refine Tr.cond rfl (fun hb66 => ?_) (fun hb66 => ?_)
           ·replace h := ifT hb66 h
            refine sr ((Rn.mov (v := .d (.lst 1 (List.map (eI .i64) l43))) trivial rfl (Rn.lenD trivial rfl (md rfl (nt ((Tr.rgn (Rn.movTO trivial rfl (Rn.load (v := .d (.int .i64 r54)) trivial rfl (boxOwn rfl) rfl rfl (Rn.bslice (xs := [.d (.int .i64 r54)]) (cs := [.d (.int .i64 r54)]) trivial rfl rfl rfl rfl ?_))))))))))
            obtain ⟨x67, h68, h⟩ := bnd h
            refine Rn.app (e := (eI .i64)) trivial rfl rfl rfl (elems_box rfl rfl rfl) h68 rfl (Rn.movTO trivial rfl (Rn.nil ?_))
            replace h := si h; subst h
            show WeakSt Γ _ ⟨look _, memOf _ (bxs _) _, _⟩; exact weak_cut [68] ⟨(.same rfl), ⟨(kFun hM ho16), ⟨(kFun hM ho24), ⟨(kPtr rfl), ⟨(kPtr rfl), ⟨(kPtr rfl), ⟨(.same rfl), ⟨(.same rfl), ⟨(.same rfl), ⟨(.same rfl), ⟨(.same rfl), ⟨(.same rfl), ⟨(.same rfl), trivial⟩⟩⟩⟩⟩⟩⟩⟩⟩⟩⟩⟩⟩ ⟨⟨_, rfl, rfl, (.cons (kFun hM ho8) .nil)⟩, ⟨⟨_, rfl, rfl, (.same rfl)⟩, ⟨⟨_, rfl, rfl, (.same rfl)⟩, ⟨⟨_, rfl, rfl, (.same rfl)⟩, trivial⟩⟩⟩⟩ rfl
           ·replace h := ifF hb66 h
            refine Tr.skip ?_
            replace h := si h; subst h
            show WeakSt Γ _ ⟨look _, memOf _ (bxs _) _, _⟩; exact weak_cut [] ⟨(.same rfl), ⟨(kFun hM ho16), ⟨(kFun hM ho24), ⟨(kPtr rfl), ⟨(kPtr rfl), ⟨(kPtr rfl), ⟨(.same rfl), ⟨(.same rfl), ⟨(.same rfl), ⟨(.same rfl), ⟨(.same rfl), ⟨(.same rfl), ⟨(.same rfl), trivial⟩⟩⟩⟩⟩⟩⟩⟩⟩⟩⟩⟩⟩ ⟨⟨_, rfl, rfl, (.cons (kFun hM ho8) .nil)⟩, ⟨⟨_, rfl, rfl, (.same rfl)⟩, ⟨⟨_, rfl, rfl, (.same rfl)⟩, ⟨⟨_, rfl, rfl, (.same rfl)⟩, trivial⟩⟩⟩⟩ rfl
          ·obtain ⟨l69, to70⟩ := z
           refine Tr.rgn (Rn.fldP (o' := 3) trivial rfl rfl (Rn.loadT (cs' := [.d (.lst 1 (List.map (eI .i64) events2)), .d (.int .i64 0), .own 1 (List.map (eI .i64) a42), .d (.lst 3 (List.map e_api_Edge a45))]) trivial rfl rfl rfl rfl (md rfl (md rfl (md rfl (Rn.build (v := .agg [.d (.int .i64 i27), .d (.int .i64 x48), .d (.int .i64 to70)]) trivial rfl (Rn.bslice (xs := [.agg [.d (.int .i64 i27), .d (.int .i64 x48), .d (.int .i64 to70)]]) (cs := [.d (.int .i64 i27), .d (.int .i64 x48), .d (.int .i64 to70)]) trivial rfl rfl rfl rfl ?_)))))))
           obtain ⟨x71, h72, h⟩ := bnd h
           refine Rn.app (e := e_api_Edge) trivial rfl rfl rfl (elems_box rfl rfl rfl) h72 rfl (Rn.fldP (o' := 3) trivial rfl rfl (Rn.storeO (cs' := [.d (.lst 1 (List.map (eI .i64) events2)), .d (.int .i64 0), .own 1 (List.map (eI .i64) a42), .own 3 (List.map e_api_Edge x71)]) trivial rfl rfl rfl rfl rfl (Rn.nil ?_)))
           replace h := si h; subst h
           show WeakSt Γ _ ⟨look _, memOf _ (bxs _) _, _⟩; exact weak_cut [76] ⟨(.same rfl), ⟨(kFun hM ho16), ⟨(kFun hM ho24), ⟨(kPtr rfl), ⟨(kPtr rfl), ⟨(kPtr rfl), ⟨(.same rfl), ⟨(.same rfl), ⟨(.same rfl), ⟨(.same rfl), ⟨(.same rfl), trivial⟩⟩⟩⟩⟩⟩⟩⟩⟩⟩⟩ ⟨⟨_, rfl, rfl, (.cons (kFun hM ho8) .nil)⟩, ⟨⟨_, rfl, rfl, (.same rfl)⟩, ⟨⟨_, rfl, rfl, (.same rfl)⟩, ⟨⟨_, rfl, rfl, (.same rfl)⟩, trivial⟩⟩⟩⟩ rfl
        ·obtain ⟨l73, a74, next75⟩ := z
         refine Tr.rgn (Rn.bin trivial rfl rfl rfl (md rfl (Rn.nil ?_)))
         exact ⟨_, h, (by show WeakSt Γ (clean _ _ _) ⟨look _, memOf _ (bxs _) _, _⟩; exact weak_clean ⟨(.same rfl), ⟨(kFun hM ho16), ⟨(kFun hM ho24), ⟨(kPtr rfl), ⟨(kPtr rfl), ⟨(kPtr rfl), ⟨(.same rfl), ⟨(.same rfl), ⟨(.same rfl), ⟨(.same rfl), ⟨(.same rfl), trivial⟩⟩⟩⟩⟩⟩⟩⟩⟩⟩⟩ ⟨⟨_, rfl, rfl, (.cons (kFun hM ho8) .nil)⟩, ⟨⟨_, rfl, rfl, (.same rfl)⟩, ⟨⟨_, rfl, rfl, (.same rfl)⟩, trivial⟩⟩⟩ rfl)⟩
       ·replace h := ifF hb47 h
        refine Tr.exit ?_
        replace h := si h; subst h
        show WeakSt Γ _ ⟨look _, memOf _ (bxs _) _, _⟩; exact weak_cut [] ⟨(.same rfl), ⟨(kFun hM ho16), ⟨(kFun hM ho24), ⟨(kPtr rfl), ⟨(kPtr rfl), ⟨(kPtr rfl), ⟨(.same rfl), ⟨(.same rfl), trivial⟩⟩⟩⟩⟩⟩⟩⟩ ⟨⟨_, rfl, rfl, (.cons (kFun hM ho8) .nil)⟩, ⟨⟨_, rfl, rfl, (.same rfl)⟩, ⟨⟨_, rfl, rfl, (.same rfl)⟩, trivial⟩⟩⟩ rfl
    ·obtain ⟨l76, a77, a78⟩ := z
     refine Tr.rgn (md rfl (Rn.bin trivial rfl rfl rfl (md rfl (Rn.nil ?_))))
     exact ⟨_, h, (by show WeakSt Γ (clean _ _ _) ⟨look _, memOf _ (bxs _) _, _⟩; exact weak_clean ⟨(.same rfl), ⟨(kFun hM ho16), ⟨(kFun hM ho24), ⟨(kPtr rfl), ⟨(kPtr rfl), ⟨(kPtr rfl), ⟨(.same rfl), ⟨(.same rfl), trivial⟩⟩⟩⟩⟩⟩⟩⟩ ⟨⟨_, rfl, rfl, (.cons (kFun hM ho8) .nil)⟩, ⟨⟨_, rfl, rfl, (.same rfl)⟩, ⟨⟨_, rfl, rfl, (.same rfl)⟩, trivial⟩⟩⟩ rfl)⟩
   ·replace h := ifF hb34 h
    refine Tr.exit ?_
    replace h := si h; subst h
    show WeakSt Γ _ ⟨look _, memOf _ (bxs _) _, _⟩; exact weak_cut [] ⟨(kPtr rfl), ⟨(kPtr rfl), ⟨(.same rfl), trivial⟩⟩⟩ ⟨⟨_, rfl, rfl, (.cons (kFun hM ho8) .nil)⟩, ⟨⟨_, rfl, rfl, (.same rfl)⟩, ⟨⟨_, rfl, rfl, (.same rfl)⟩, trivial⟩⟩⟩ rfl
 ·obtain ⟨l79, c80, c81, c82, a83, a84⟩ := z
  refine sr ((Rn.mov (v := .d (.lst 1 (List.map (eI .i64) l79))) trivial rfl (Rn.lenD trivial rfl (Rn.fldP (o' := 1) trivial rfl rfl (Rn.store (v := .d (.int .i64 (l79.length : Int))) (cs' := [.d (.lst 1 (List.map (eI .i64) events2)), .d (.int .i64 (l79.length : Int)), .own 1 (List.map (eI .i64) a83), .own 3 (List.map e_api_Edge a84)]) trivial rfl rfl rfl rfl rfl rfl (nt ((sr ((Rn.load (v := .agg [.d (.lst 1 (List.map (eI .i64) events2)), .d (.int .i64 (l79.length : Int)), .d (.lst 1 (List.map (eI .i64) a83)), .d (.lst 3 (List.map e_api_Edge a84))]) trivial rfl (boxOwn rfl) rfl rfl (Rn.store (v := .agg [.d (.lst 1 (List.map (eI .i64) events2)), .d (.int .i64 (l79.length : Int)), .d (.lst 1 (List.map (eI .i64) a83)), .d (.lst 3 (List.map e_api_Edge a84))]) (cs' := [.d (.lst 1 (List.map (eI .i64) events2)), .d (.int .i64 (l79.length : Int)), .d (.lst 1 (List.map (eI .i64) a83)), .d (.lst 3 (List.map e_api_Edge a84))]) trivial rfl rfl rfl rfl rfl rfl (nt ((Tr.ret ?_))))))))))))))
  replace h := si h; subst h
  exact ⟨.inr rfl, (.agg [.d (.lst 1 (List.map (eI .i64) events2)), .d (.int .i64 (l79.length : Int)), .d (.lst 1 (List.map (eI .i64) a83)), .d (.lst 3 (List.map e_api_Edge a84))]), resCell rfl rfl rfl rfl, fun _ _ _ _ h => h, ⟨trivial, trivial, trivial, trivial, trivial⟩, fun k hk => memOf_base hk⟩
theorem overseerlaw21_counter_1_walk {P : Program} {c : Nat} (hcf : compFn P c = some F_overseerlaw21_counter_1) : K_overseerlaw21_counter_1 P c (f_overseerlaw21_counter_1) := by
 intro a1 b2 r h
 refine fn_trP hcf rfl fun Γ M hP hnt hM => ?_
 subst hP
 refine Tr.init [(0, .d (.int .i64 a1)), (1, .d (.int .i64 b2))] rfl ?_
 unfold f_overseerlaw21_counter_1 at h
 unfold F_overseerlaw21_counter_1
 refine sr ((md rfl (nt ((sr ((md rfl (md rfl (Rn.bin trivial rfl rfl rfl (md rfl (nt ((Tr.ret ?_)))))))))))))
 replace h := si h; subst h
 exact ⟨.inr rfl, (.d (.bool (a1 == b2))), rfl, fun _ _ _ _ h => h, trivial, fun k hk => memOf_base hk⟩
theorem overseerlaw21_counter_walk {P : Program} {c : Nat} {f_overseerlaw21_build_int : Int → (List Int) → (Int → Int → Option Bool) → (Int → Int → Option (Int × Bool)) → (Int → Option Bool) → Option api_Automaton} {f_overseerlaw21_counter_1 : Int → Int → Option Bool}
    (H_overseerlaw21_build_int : K_overseerlaw21_build_int P 54 f_overseerlaw21_build_int)
    (H_overseerlaw21_counter_1 : K_overseerlaw21_counter_1 P 55 f_overseerlaw21_counter_1) (hcf : compFn P c = some F_overseerlaw21_counter) : K_overseerlaw21_counter P c (f_overseerlaw21_counter f_overseerlaw21_build_int f_overseerlaw21_counter_1) := by
 intro events1 step2 marked10 g3 cp4 g11 cp12 r h
 intro M nb hc5 ho7 hf6 hc13 ho15 hf14
 refine fn_trM hcf rfl M nb fun Γ hP hnt hn0 hM => ?_
 subst hP hn0
 refine Tr.init [(0, .d (.lst 1 (List.map (eI .i64) events1))), (1, .clo g3 cp4), (2, .clo g11 cp12)] rfl ?_
 unfold f_overseerlaw21_counter at h
 unfold F_overseerlaw21_counter
 refine sr ((Rn.alloc trivial rfl (nt ((sr ((md rfl (Rn.mov (v := .clo g3 cp4) trivial rfl (Rn.mov (v := .clo g11 cp12) trivial rfl ?_)))))))))
 obtain ⟨x29, h28, h⟩ := bnd h
 refine Rn.callM (args := [.d (.int .i64 0), .d (.lst 1 (List.map (eI .i64) events1)), .clo 55 [], .clo g3 cp4, .clo g11 cp12]) trivial rfl (fun M2 nb2 hn hx => H_overseerlaw21_build_int _ _ _ _ _ 55 [] g3 cp4 g11 cp12 _ h28 M2 nb2 rfl trivial (fun a17 a18 r19 h20 M3 nb3 hn3 hx3 => H_overseerlaw21_counter_1 a17 a18 r19 h20 M3 nb3 ) hc5 (onsExt ((extMem hM).trans hx) ho7) (fun a21 a22 r23 h24 M3 nb3 hn3 hx3 => hf6 a21 a22 r23 h24 M3 nb3 (by omega) ((extMem hM).trans (hx.trans hx3))) hc13 (onsExt ((extMem hM).trans hx) ho15) (fun a25 r26 h27 M3 nb3 hn3 hx3 => hf14 a25 r26 h27 M3 nb3 (by omega) ((extMem hM).trans (hx.trans hx3)))) rfl pc9 ?_
 refine Rn.store (v := .agg [.d (.lst 1 (List.map (eI .i64) x29.Alphabet)), .d (.int .i64 x29.States), .d (.lst 1 (List.map (eI .i64) x29.Marked)), .d (.lst 3 (List.map e_api_Edge x29.Edges))]) (cs' := [.d (.lst 1 (List.map (eI .i64) x29.Alphabet)), .d (.int .i64 x29.States), .d (.lst 1 (List.map (eI .i64) x29.Marked)), .d (.lst 3 (List.map e_api_Edge x29.Edges))]) trivial rfl rfl rfl rfl rfl rfl (nt ((Tr.ret ?_)))
 replace h := si h; subst h
 exact ⟨.inr rfl, (.agg [.d (.lst 1 (List.map (eI .i64) x29.Alphabet)), .d (.int .i64 x29.States), .d (.lst 1 (List.map (eI .i64) x29.Marked)), .d (.lst 3 (List.map e_api_Edge x29.Edges))]), resCell rfl rfl rfl rfl, fun _ _ _ _ h => h, ⟨trivial, trivial, trivial, trivial, trivial⟩, fun k hk => memOf_base hk⟩
theorem overseerlaw21_always_int_walk {P : Program} {c : Nat} (hcf : compFn P c = some F_overseerlaw21_always_int) : K_overseerlaw21_always_int P c (f_overseerlaw21_always_int) := by
 intro x1 r h
 refine fn_trP hcf rfl fun Γ M hP hnt hM => ?_
 subst hP
 refine Tr.init [(0, .d (.int .i64 x1))] rfl ?_
 unfold f_overseerlaw21_always_int at h
 unfold F_overseerlaw21_always_int
 refine sr ((md rfl (nt ((sr ((md rfl (nt ((Tr.ret ?_))))))))))
 replace h := si h; subst h
 exact ⟨.inr rfl, (.d (.bool true)), rfl, fun _ _ _ _ h => h, trivial, fun k hk => memOf_base hk⟩
theorem overseerlaw21_RequirementPhases_walk {P : Program} {c : Nat} {f_overseerlaw21_known : Option Bool} {f_requirement_AtMost : (List requirement_Phase) → Int → Option (api_Automaton × Int)} {f_overseerlaw21_in : Int → Option Bool} {f_slices_Contains_int : (List Int) → Int → Option Bool} {f_automaton_Equal : api_Automaton → api_Automaton → Option Bool} {f_overseerlaw21_counter : (List Int) → (Int → Int → Option (Int × Bool)) → (Int → Option Bool) → Option api_Automaton} {f_overseerlaw21_sorted : (List Int) → Option ((List Int))} {f_overseerlaw21_RequirementPhases_1 : Int → Int → (List requirement_Phase) → Int → Option (Int × Bool)} {f_overseerlaw21_always_int : Int → Option Bool}
    (H_overseerlaw21_known : K_overseerlaw21_known P 10 f_overseerlaw21_known)
    (H_requirement_AtMost : K_requirement_AtMost P 11 f_requirement_AtMost)
    (H_overseerlaw21_in : K_overseerlaw21_in P 12 f_overseerlaw21_in)
    (H_slices_Contains_int : K_slices_Contains_int P 13 f_slices_Contains_int)
    (H_automaton_Equal : K_automaton_Equal P 14 f_automaton_Equal)
    (H_overseerlaw21_counter : K_overseerlaw21_counter P 15 f_overseerlaw21_counter)
    (H_overseerlaw21_sorted : K_overseerlaw21_sorted P 16 f_overseerlaw21_sorted)
    (H_overseerlaw21_RequirementPhases_1 : K_overseerlaw21_RequirementPhases_1 P 17 f_overseerlaw21_RequirementPhases_1)
    (H_overseerlaw21_always_int : K_overseerlaw21_always_int P 18 f_overseerlaw21_always_int) (hcf : compFn P c = some F_overseerlaw21_RequirementPhases) (fuel : Nat) : K_overseerlaw21_RequirementPhases P c (f_overseerlaw21_RequirementPhases f_overseerlaw21_known f_requirement_AtMost f_overseerlaw21_in f_slices_Contains_int f_automaton_Equal f_overseerlaw21_counter f_overseerlaw21_sorted f_overseerlaw21_RequirementPhases_1 f_overseerlaw21_always_int fuel) := by
 intro l1 most2 r h
 refine fn_trP hcf rfl fun Γ M hP hnt hM => ?_
 subst hP
 refine Tr.init [(0, .d (.lst 2 (List.map e_requirement_Phase l1))), (1, .d (.int .i64 most2))] rfl ?_
 unfold f_overseerlaw21_RequirementPhases at h
 unfold F_overseerlaw21_RequirementPhases
 refine sr ((Rn.box (v := .d (.lst 2 (List.map e_requirement_Phase l1))) (cs := [.d (.lst 2 (List.map e_requirement_Phase l1))]) trivial rfl rfl rfl rfl rfl (Rn.box (v := .d (.int .i64 most2)) (cs := [.d (.int .i64 most2)]) trivial rfl rfl rfl rfl rfl (md rfl (nt ((Tr.seq ?_)))))))
 refine Tr.cutB (fun (x7 : Bool) => ⟨look [(2, .ptr (Γ.n0 + 2) 0), (3, .ptr (Γ.n0 + 3) 0), (25, .d (.bool x7))], memOf Γ.n0 (bxs [(2, .cells ([.d (.lst 2 (List.map e_requirement_Phase l1))])), (3, .cells ([.d (.int .i64 most2)]))]) M, Γ.n0 + 105⟩) h (fun z h => ?_) (fun z h => ?_)
 ·refine Tr.rgn ?_
  obtain ⟨x4, h3, h⟩ := bnd h
  refine Rn.call (args := []) trivial rfl (H_overseerlaw21_known _ h3) pc9 (Rn.un trivial rfl rfl (md rfl ?_))
  refine bsplit x4 (fun hb5 => ?_) (fun hb5 => ?_)
  ·replace h := bT hb5 h
   refine Rn.load (v := .d (.lst 2 (List.map e_requirement_Phase l1))) (gw rfl (nT hb5)) rfl (boxOwn rfl) rfl rfl (Rn.lenD (gw rfl (nT hb5)) rfl (Rn.bin (gw rfl (nT hb5)) rfl rfl rfl (Rn.movD (gw rfl (nT hb5)) rfl ?_)))
   refine bsplit (decide ((l1.length : Int) > 6)) (fun hb6 => ?_) (fun hb6 => ?_)
   ·replace h := ifT hb6 h
    refine Rn.load (v := .d (.lst 2 (List.map e_requirement_Phase l1))) (gw rfl hb6) rfl (boxOwn rfl) rfl rfl (Rn.lenD (gw rfl hb6) rfl (Rn.bin (gw rfl hb6) rfl rfl rfl (Rn.pickT (v := .d (.bool ((l1.length : Int) != 11))) (gw rfl (nT hb5)) rfl hb6 rfl (Rn.pickF (v := .d (.bool ((l1.length : Int) != 11))) trivial rfl (nT hb5) rfl (Rn.nil ?_)))))
    replace h := si h; subst h
    show WeakSt Γ _ ⟨look _, memOf _ (bxs _) _, _⟩; exact weak_cut [] ⟨(kPtr rfl), ⟨(kPtr rfl), ⟨(.same rfl), trivial⟩⟩⟩ ⟨⟨_, rfl, rfl, (.same rfl)⟩, ⟨⟨_, rfl, rfl, (.same rfl)⟩, trivial⟩⟩ rfl
   ·replace h := ifF hb6 h
    refine Rn.sk (nw rfl hb6) (Rn.sk (nw rfl hb6) (Rn.sk (nw rfl hb6) (Rn.pickF (v := .d (.bool false)) (gw rfl (nT hb5)) rfl hb6 rfl (Rn.pickF (v := .d (.bool false)) trivial rfl (nT hb5) rfl (Rn.nil ?_)))))
    replace h := si h; subst h
    show WeakSt Γ _ ⟨look _, memOf _ (bxs _) _, _⟩; exact weak_cut [] ⟨(kPtr rfl), ⟨(kPtr rfl), ⟨(.same rfl), trivial⟩⟩⟩ ⟨⟨_, rfl, rfl, (.same rfl)⟩, ⟨⟨_, rfl, rfl, (.same rfl)⟩, trivial⟩⟩ rfl
  ·replace h := bF hb5 h
   refine Rn.sk (nw rfl (nF hb5)) (Rn.sk (nw rfl (nF hb5)) (Rn.sk (nw rfl (nF hb5)) (Rn.sk (nw rfl (nF hb5)) (Rn.sk (nu rfl) (Rn.sk (nu rfl) (Rn.sk (nu rfl) (Rn.sk (nw rfl (nF hb5)) (Rn.pickT (v := .d (.bool true)) trivial rfl (nF hb5) rfl (Rn.nil ?_)))))))))
   replace h := si h; subst h
   show WeakSt Γ _ ⟨look _, memOf _ (bxs _) _, _⟩; exact weak_cut [] ⟨(kPtr rfl), ⟨(kPtr rfl), ⟨(.same rfl), trivial⟩⟩⟩ ⟨⟨_, rfl, rfl, (.same rfl)⟩, ⟨⟨_, rfl, rfl, (.same rfl)⟩, trivial⟩⟩ rfl
 ·obtain ⟨x7, rfl⟩ : ∃ x, x = z := ⟨_, rfl⟩
  refine Tr.cond rfl (fun hb8 => ?_) (fun hb8 => ?_)
  ·replace h := bT hb8 h
   refine Tr.seq (Tr.rgn ?_)
   obtain ⟨x10, h9, h⟩ := bnd h
   refine Rn.call (args := []) trivial rfl (H_overseerlaw21_known _ h9) pc9 (md rfl (nt ((Tr.ret ?_))))
   replace h := si h; subst h
   exact ⟨.inr rfl, (.d (.bool x10)), rfl, fun _ _ _ _ h => h, trivial, fun k hk => memOf_base hk⟩
  ·replace h := bF hb8 h
   refine Tr.skip (toN (sr ((Rn.load (v := .d (.lst 2 (List.map e_requirement_Phase l1))) trivial rfl (boxOwn rfl) rfl rfl (Rn.load (v := .d (.int .i64 most2)) trivial rfl (boxOwn rfl) rfl rfl ?_)))))
   obtain ⟨⟨r12, r13⟩, h11, h⟩ := bnd h
   refine Rn.call (args := [.d (.lst 2 (List.map e_requirement_Phase l1)), .d (.int .i64 most2)]) trivial rfl (H_requirement_AtMost _ _ _ h11) pc9 (Rn.mov (v := .tup [.agg [.d (.lst 1 (List.map (eI .i64) r12.Alphabet)), .d (.int .i64 r12.States), .d (.lst 1 (List.map (eI .i64) r12.Marked)), .d (.lst 3 (List.map e_api_Edge r12.Edges))], .d (.int .i64 r13)]) trivial rfl (Rn.ext (v := .agg [.d (.lst 1 (List.map (eI .i64) r12.Alphabet)), .d (.int .i64 r12.States), .d (.lst 1 (List.map (eI .i64) r12.Marked)), .d (.lst 3 (List.map e_api_Edge r12.Edges))]) (vs := [.agg [.d (.lst 1 (List.map (eI .i64) r12.Alphabet)), .d (.int .i64 r12.States), .d (.lst 1 (List.map (eI .i64) r12.Marked)), .d (.lst 3 (List.map e_api_Edge r12.Edges))], .d (.int .i64 r13)]) trivial rfl rfl rfl (Rn.ext (v := .d (.int .i64 r13)) (vs := [.agg [.d (.lst 1 (List.map (eI .i64) r12.Alphabet)), .d (.int .i64 r12.States), .d (.lst 1 (List.map (eI .i64) r12.Marked)), .d (.lst 3 (List.map e_api_Edge r12.Edges))], .d (.int .i64 r13)]) trivial rfl rfl rfl (Rn.alloc trivial rfl (Rn.store (v := .agg [.d (.lst 1 (List.map (eI .i64) r12.Alphabet)), .d (.int .i64 r12.States), .d (.lst 1 (List.map (eI .i64) r12.Marked)), .d (.lst 3 (List.map e_api_Edge r12.Edges))]) (cs' := [.d (.lst 1 (List.map (eI .i64) r12.Alphabet)), .d (.int .i64 r12.States), .d (.lst 1 (List.map (eI .i64) r12.Marked)), .d (.lst 3 (List.map e_api_Edge r12.Edges))]) trivial rfl rfl rfl rfl rfl rfl (md rfl (nt ((sr ((md rfl (Rn.nil (toN ?_)))))))))))))
   refine Tr.cutB (fun (want15 : Int) => ⟨look [(2, .ptr (Γ.n0 + 2) 0), (3, .ptr (Γ.n0 + 3) 0), (5, .ptr (Γ.n0 + 5) 0), (6, .d (.int .i64 r13)), (7, .d (.int .i64 want15))], memOf Γ.n0 (bxs [(2, .cells ([.d (.lst 2 (List.map e_requirement_Phase l1))])), (3, .cells ([.d (.int .i64 most2)])), (5, .cells ([.d (.lst 1 (List.map (eI .i64) r12.Alphabet)), .d (.int .i64 r12.States), .d (.lst 1 (List.map (eI .i64) r12.Marked)), .d (.lst 3 (List.map e_api_Edge r12.Edges))]))]) M, Γ.n0 + 105⟩) h (fun z h => ?_) (fun z h => ?_)
   ·refine sr ((Rn.load (v := .d (.lst 2 (List.map e_requirement_Phase l1))) trivial rfl (boxOwn rfl) rfl rfl (Rn.lenD trivial rfl (Rn.bin trivial rfl rfl rfl (Rn.nil (toN ?_))))))
    refine Tr.cond rfl (fun hb14 => ?_) (fun hb14 => ?_)
    ·replace h := ifT hb14 h
     refine Tr.rgn (md rfl (Rn.nil ?_))
     replace h := si h; subst h
     show WeakSt Γ _ ⟨look _, memOf _ (bxs _) _, _⟩; exact weak_cut [] ⟨(kPtr rfl), ⟨(kPtr rfl), ⟨(kPtr rfl), ⟨(.same rfl), ⟨(.same rfl), trivial⟩⟩⟩⟩⟩ ⟨⟨_, rfl, rfl, (.same rfl)⟩, ⟨⟨_, rfl, rfl, (.same rfl)⟩, ⟨⟨_, rfl, rfl, (.same rfl)⟩, trivial⟩⟩⟩ rfl
    ·replace h := ifF hb14 h
     refine Tr.skip ?_
     replace h := si h; subst h
     show WeakSt Γ _ ⟨look _, memOf _ (bxs _) _, _⟩; exact weak_cut [] ⟨(kPtr rfl), ⟨(kPtr rfl), ⟨(kPtr rfl), ⟨(.same rfl), ⟨(.same rfl), trivial⟩⟩⟩⟩⟩ ⟨⟨_, rfl, rfl, (.same rfl)⟩, ⟨⟨_, rfl, rfl, (.same rfl)⟩, ⟨⟨_, rfl, rfl, (.same rfl)⟩, trivial⟩⟩⟩ rfl
   ·obtain ⟨want15, rfl⟩ : ∃ x, x = z := ⟨_, rfl⟩
    refine sr ((Rn.movTC (v := .nils 1) trivial (Rn.nil (toN ?_))))
    refine Tr.cutB (fun ((want48, all49) : Int × (List Int)) => ⟨look [(2, .ptr (Γ.n0 + 2) 0), (3, .ptr (Γ.n0 + 3) 0), (5, .ptr (Γ.n0 + 5) 0), (6, .d (.int .i64 r13)), (7, .d (.int .i64 want48)), (8, .own 1 (List.map (eI .i64) all49))], memOf Γ.n0 (bxs [(2, .cells ([.d (.lst 2 (List.map e_requirement_Phase l1))])), (3, .cells ([.d (.int .i64 most2)])), (5, .cells ([.d (.lst 1 (List.map (eI .i64) r12.Alphabet)), .d (.int .i64 r12.States), .d (.lst 1 (List.map (eI .i64) r12.Marked)), .d (.lst 3 (List.map e_api_Edge r12.Edges))]))]) M, Γ.n0 + 105⟩) h (fun z h => ?_) (fun z h => ?_)
    ·refine sr ((Rn.load (v := .d (.lst 2 (List.map e_requirement_Phase l1))) trivial rfl (boxOwn rfl) rfl rfl (Rn.lenD trivial rfl (md rfl (nt ((Tr.block ?_)))))))
     refine Tr.loop (mk := fun ((want16, all17, x18) : Int × (List Int) × Int) => ⟨look [(2, .ptr (Γ.n0 + 2) 0), (3, .ptr (Γ.n0 + 3) 0), (5, .ptr (Γ.n0 + 5) 0), (6, .d (.int .i64 r13)), (7, .d (.int .i64 want16)), (8, .own 1 (List.map (eI .i64) all17)), (36, .d (.lst 2 (List.map e_requirement_Phase l1))), (37, .d (.int .i64 (l1.length : Int))), (38, .d (.int .i64 x18))], memOf Γ.n0 (bxs [(2, .cells ([.d (.lst 2 (List.map e_requirement_Phase l1))])), (3, .cells ([.d (.int .i64 most2)])), (5, .cells ([.d (.lst 1 (List.map (eI .i64) r12.Alphabet)), .d (.int .i64 r12.States), .d (.lst 1 (List.map (eI .i64) r12.Marked)), .d (.lst 3 (List.map e_api_Edge r12.Edges))]))]) M, Γ.n0 + 105⟩) h (by show WeakSt Γ (clean _ _ _) ⟨look _, memOf _ (bxs _) _, _⟩; exact weak_clean ⟨(kPtr rfl), ⟨(kPtr rfl), ⟨(kPtr rfl), ⟨(.same rfl), ⟨(.same rfl), ⟨(WkV.nilsO _), ⟨(.same rfl), ⟨(.same rfl), ⟨(.same rfl), trivial⟩⟩⟩⟩⟩⟩⟩⟩⟩ ⟨⟨_, rfl, rfl, (.same rfl)⟩, ⟨⟨_, rfl, rfl, (.same rfl)⟩, ⟨⟨_, rfl, rfl, (.same rfl)⟩, trivial⟩⟩⟩ rfl) (fun k19 z h => ?_)
     ·obtain ⟨want16, all17, x18⟩ := z
      replace h : _ = some _ := h
      refine sr ((Rn.bin trivial rfl rfl rfl (nt ((Tr.seq ?_)))))
      refine Tr.cond rfl (fun hb20 => ?_) (fun hb20 => ?_)
      ·replace h := ifT hb20 h
       refine Tr.skip (toN ?_)
       refine Tr.cutB (fun ((want44, all45, c46, c47) : Int × (List Int) × Int × Int) => ⟨look [(2, .ptr (Γ.n0 + 2) 0), (3, .ptr (Γ.n0 + 3) 0), (5, .ptr (Γ.n0 + 5) 0), (6, .d (.int .i64 r13)), (7, .d (.int .i64 want44)), (8, .own 1 (List.map (eI .i64) all45)), (36, .d (.lst 2 (List.map e_requirement_Phase l1))), (37, .d (.int .i64 (l1.length : Int))), (38, .d (.int .i64 x18))], memOf Γ.n0 (bxs [(2, .cells ([.d (.lst 2 (List.map e_requirement_Phase l1))])), (3, .cells ([.d (.int .i64 most2)])), (5, .cells ([.d (.lst 1 (List.map (eI .i64) r12.Alphabet)), .d (.int .i64 r12.States), .d (.lst 1 (List.map (eI .i64) r12.Marked)), .d (.lst 3 (List.map e_api_Edge r12.Edges))])), (10, .cells ([.d (.int .i64 c46), .d (.int .i64 c47)]))]) M, Γ.n0 + 105⟩) h (fun z h => ?_) (fun z h => ?_)
       ·refine Tr.block (Tr.seq (Tr.rgn ?_))
        obtain ⟨x21, h22, h⟩ := bnd h
        refine Rn.idxD (e := e_requirement_Phase) trivial rfl rfl h22 (Rn.loadCA (vs := [.d (.int .i64 x21.Enter), .d (.int .i64 x21.Leave)]) trivial rfl rfl rfl (Rn.alloc trivial rfl (Rn.store (v := .agg [.d (.int .i64 x21.Enter), .d (.int .i64 x21.Leave)]) (cs' := [.d (.int .i64 x21.Enter), .d (.int .i64 x21.Leave)]) trivial rfl rfl rfl rfl rfl rfl (nt ((sr ((Rn.fldP (o' := 0) trivial rfl rfl (Rn.load (v := .d (.int .i64 x21.Enter)) trivial rfl (boxOwn rfl) rfl rfl (Rn.fldP (o' := 1) trivial rfl rfl (Rn.load (v := .d (.int .i64 x21.Leave)) trivial rfl (boxOwn rfl) rfl rfl (Rn.bslice (xs := [.d (.int .i64 x21.Enter), .d (.int .i64 x21.Leave)]) (cs := [.d (.int .i64 x21.Enter), .d (.int .i64 x21.Leave)]) trivial rfl rfl rfl rfl (Rn.k (v := .d (.int .i64 2)) trivial rfl rfl rfl (md rfl (nt ((Tr.block ?_)))))))))))))))))
        refine Tr.weak (by show WeakSt Γ _ ⟨look [(2, .ptr (Γ.n0 + 2) 0), (3, .ptr (Γ.n0 + 3) 0), (5, .ptr (Γ.n0 + 5) 0), (6, .d (.int .i64 r13)), (7, .d (.int .i64 want16)), (8, .own 1 (List.map (eI .i64) all17)), (10, .ptr (Γ.n0 + 10) 0), (36, .d (.lst 2 (List.map e_requirement_Phase l1))), (37, .d (.int .i64 (l1.length : Int))), (38, .d (.int .i64 x18)), (39, .d (.bool (decide (x18 < (l1.length : Int))))), (40, .cref (e_requirement_Phase x21)), (41, .agg [.d (.int .i64 x21.Enter), .d (.int .i64 x21.Leave)]), (42, .ptr (Γ.n0 + 10) 0), (43, .d (.int .i64 x21.Enter)), (44, .ptr (Γ.n0 + 10) 1), (45, .d (.int .i64 x21.Leave)), (46, .d (.lst 1 (List.map (eI .i64) [x21.Enter, x21.Leave]))), (47, .d (.int .i64 2)), (48, .d (.int .i64 0))], memOf Γ.n0 (bxs [(2, .cells ([.d (.lst 2 (List.map e_requirement_Phase l1))])), (3, .cells ([.d (.int .i64 most2)])), (5, .cells ([.d (.lst 1 (List.map (eI .i64) r12.Alphabet)), .d (.int .i64 r12.States), .d (.lst 1 (List.map (eI .i64) r12.Marked)), .d (.lst 3 (List.map e_api_Edge r12.Edges))])), (10, .cells ([.d (.int .i64 x21.Enter), .d (.int .i64 x21.Leave)]))]) M, Γ.n0 + 105⟩; exact weak_freeze 46 [.int .i64 x21.Enter, .int .i64 x21.Leave] rfl rfl ⟨(fPtr rfl), ⟨(fPtr rfl), ⟨(fPtr rfl), ⟨(.same rfl), ⟨(.same rfl), ⟨(.same rfl), ⟨(fPtr rfl), ⟨(.same rfl), ⟨(.same rfl), ⟨(.same rfl), ⟨(.same rfl), ⟨(.same rfl), ⟨(.same rfl), ⟨(fPtr rfl), ⟨(.same rfl), ⟨(fPtr rfl), ⟨(.same rfl), ⟨(fSl rfl rfl), ⟨(.same rfl), ⟨(.same rfl), trivial⟩⟩⟩⟩⟩⟩⟩⟩⟩⟩⟩⟩⟩⟩⟩⟩⟩⟩⟩⟩ ⟨⟨_, rfl, rfl, (.same rfl)⟩, ⟨⟨_, rfl, rfl, (.same rfl)⟩, ⟨⟨_, rfl, rfl, (.same rfl)⟩, ⟨⟨_, rfl, rfl, (.same rfl)⟩, trivial⟩⟩⟩⟩ rfl) ?_
        refine Tr.loop (mk := fun ((want23, all24, x25) : Int × (List Int) × Int) => ⟨look [(2, .ptr (Γ.n0 + 2) 0), (3, .ptr (Γ.n0 + 3) 0), (5, .ptr (Γ.n0 + 5) 0), (6, .d (.int .i64 r13)), (7, .d (.int .i64 want23)), (8, .own 1 (List.map (eI .i64) all24)), (36, .d (.lst 2 (List.map e_requirement_Phase l1))), (37, .d (.int .i64 (l1.length : Int))), (38, .d (.int .i64 x18)), (46, .d (.lst 1 (List.map (eI .i64) [x21.Enter, x21.Leave]))), (47, .d (.int .i64 2)), (48, .d (.int .i64 x25))], memOf Γ.n0 (bxs [(2, .cells ([.d (.lst 2 (List.map e_requirement_Phase l1))])), (3, .cells ([.d (.int .i64 most2)])), (5, .cells ([.d (.lst 1 (List.map (eI .i64) r12.Alphabet)), .d (.int .i64 r12.States), .d (.lst 1 (List.map (eI .i64) r12.Marked)), .d (.lst 3 (List.map e_api_Edge r12.Edges))])), (10, .cells ([.d (.int .i64 x21.Enter), .d (.int .i64 x21.Leave)]))]) M, Γ.n0 + 105⟩) h (by show WeakSt Γ (clean _ _ _) ⟨look _, memOf _ (bxs _) _, _⟩; exact weak_clean ⟨(kPtr rfl), ⟨(kPtr rfl), ⟨(kPtr rfl), ⟨(.same rfl), ⟨(.same rfl), ⟨(.same rfl), ⟨(.same rfl), ⟨(.same rfl), ⟨(.same rfl), ⟨(.same rfl), ⟨(.same rfl), ⟨(.same rfl), trivial⟩⟩⟩⟩⟩⟩⟩⟩⟩⟩⟩⟩ ⟨⟨_, rfl, rfl, (.same rfl)⟩, ⟨⟨_, rfl, rfl, (.same rfl)⟩, ⟨⟨_, rfl, rfl, (.same rfl)⟩, ⟨⟨_, rfl, rfl, (.same rfl)⟩, trivial⟩⟩⟩⟩ rfl) (fun k26 z h => ?_)
        ·obtain ⟨want23, all24, x25⟩ := z
         replace h : _ = some _ := h
         refine sr ((Rn.bin trivial rfl rfl rfl (nt ((Tr.seq ?_)))))
         refine Tr.cond rfl (fun hb27 => ?_) (fun hb27 => ?_)
         ·replace h := ifT hb27 h
          refine Tr.skip (toN (Tr.seq (Tr.block (Tr.seq (Tr.rgn ?_)))))
          obtain ⟨x28, h29, h⟩ := bnd h
          refine Rn.idxD (e := (eI .i64)) trivial rfl rfl h29 (Rn.loadC (x := .int .i64 x28) trivial rfl (md rfl (Rn.nil (toN ?_))))
          refine Tr.cutB (fun (want35 : Int) => ⟨look [(2, .ptr (Γ.n0 + 2) 0), (3, .ptr (Γ.n0 + 3) 0), (5, .ptr (Γ.n0 + 5) 0), (6, .d (.int .i64 r13)), (7, .d (.int .i64 want35)), (8, .own 1 (List.map (eI .i64) all24)), (12, .d (.int .i64 x28)), (36, .d (.lst 2 (List.map e_requirement_Phase l1))), (37, .d (.int .i64 (l1.length : Int))), (38, .d (.int .i64 x18)), (46, .d (.lst 1 (List.map (eI .i64) [x21.Enter, x21.Leave]))), (47, .d (.int .i64 2)), (48, .d (.int .i64 x25))], memOf Γ.n0 (bxs [(2, .cells ([.d (.lst 2 (List.map e_requirement_Phase l1))])), (3, .cells ([.d (.int .i64 most2)])), (5, .cells ([.d (.lst 1 (List.map (eI .i64) r12.Alphabet)), .d (.int .i64 r12.States), .d (.lst 1 (List.map (eI .i64) r12.Marked)), .d (.lst 3 (List.map e_api_Edge r12.Edges))])), (10, .cells ([.d (.int .i64 x21.Enter), .d (.int .i64 x21.Leave)]))]) M, Γ.n0 + 105⟩) h (fun z h => ?_) (fun z h => ?_)
          ·refine Tr.cutB (fun (x33 : Bool) => ⟨look [(2, .ptr (Γ.n0 + 2) 0), (3, .ptr (Γ.n0 + 3) 0), (5, .ptr (Γ.n0 + 5) 0), (6, .d (.int .i64 r13)), (7, .d (.int .i64 want23)), (8, .own 1 (List.map (eI .i64) all24)), (12, .d (.int .i64 x28)), (36, .d (.lst 2 (List.map e_requirement_Phase l1))), (37, .d (.int .i64 (l1.length : Int))), (38, .d (.int .i64 x18)), (46, .d (.lst 1 (List.map (eI .i64) [x21.Enter, x21.Leave]))), (47, .d (.int .i64 2)), (48, .d (.int .i64 x25)), (58, .d (.bool x33))], memOf Γ.n0 (bxs [(2, .cells ([.d (.lst 2 (List.map e_requirement_Phase l1))])), (3, .cells ([.d (.int .i64 most2)])), (5, .cells ([.d (.lst 1 (List.map (eI .i64) r12.Alphabet)), .d (.int .i64 r12.States), .d (.lst 1 (List.map (eI .i64) r12.Marked)), .d (.lst 3 (List.map e_api_Edge r12.Edges))])), (10, .cells ([.d (.int .i64 x21.Enter), .d (.int .i64 x21.Leave)]))]) M, Γ.n0 + 105⟩) h (fun z h => ?_) (fun z h => ?_)
           ·refine Tr.rgn (md rfl (Rn.bin trivial rfl rfl rfl (md rfl ?_)))
            refine bsplit (want23 == 0) (fun hb30 => ?_) (fun hb30 => ?_)
            ·replace h := bT hb30 h
             refine Rn.movD (gw rfl hb30) rfl ?_
             obtain ⟨x32, h31, h⟩ := bnd h
             refine Rn.call (args := [.d (.int .i64 x28)]) (gw rfl hb30) rfl (H_overseerlaw21_in _ _ h31) pc9 (Rn.un (gw rfl hb30) rfl rfl (Rn.pickT (v := .d (.bool (!x32))) trivial rfl hb30 rfl (Rn.nil ?_)))
             replace h := si h; subst h
             show WeakSt Γ _ ⟨look _, memOf _ (bxs _) _, _⟩; exact weak_cut [] ⟨(kPtr rfl), ⟨(kPtr rfl), ⟨(kPtr rfl), ⟨(.same rfl), ⟨(.same rfl), ⟨(.same rfl), ⟨(.same rfl), ⟨(.same rfl), ⟨(.same rfl), ⟨(.same rfl), ⟨(.same rfl), ⟨(.same rfl), ⟨(.same rfl), ⟨(.same rfl), trivial⟩⟩⟩⟩⟩⟩⟩⟩⟩⟩⟩⟩⟩⟩ ⟨⟨_, rfl, rfl, (.same rfl)⟩, ⟨⟨_, rfl, rfl, (.same rfl)⟩, ⟨⟨_, rfl, rfl, (.same rfl)⟩, ⟨⟨_, rfl, rfl, (.same rfl)⟩, trivial⟩⟩⟩⟩ rfl
            ·replace h := bF hb30 h
             refine Rn.sk (nw rfl hb30) (Rn.sk (nw rfl hb30) (Rn.sk (nw rfl hb30) (Rn.pickF (v := .d (.bool false)) trivial rfl hb30 rfl (Rn.nil ?_))))
             replace h := si h; subst h
             show WeakSt Γ _ ⟨look _, memOf _ (bxs _) _, _⟩; exact weak_cut [] ⟨(kPtr rfl), ⟨(kPtr rfl), ⟨(kPtr rfl), ⟨(.same rfl), ⟨(.same rfl), ⟨(.same rfl), ⟨(.same rfl), ⟨(.same rfl), ⟨(.same rfl), ⟨(.same rfl), ⟨(.same rfl), ⟨(.same rfl), ⟨(.same rfl), ⟨(.same rfl), trivial⟩⟩⟩⟩⟩⟩⟩⟩⟩⟩⟩⟩⟩⟩ ⟨⟨_, rfl, rfl, (.same rfl)⟩, ⟨⟨_, rfl, rfl, (.same rfl)⟩, ⟨⟨_, rfl, rfl, (.same rfl)⟩, ⟨⟨_, rfl, rfl, (.same rfl)⟩, trivial⟩⟩⟩⟩ rfl
           ·obtain ⟨x33, rfl⟩ : ∃ x, x = z := ⟨_, rfl⟩
            refine Tr.cond rfl (fun hb34 => ?_) (fun hb34 => ?_)
            ·replace h := bT hb34 h
             refine Tr.rgn (md rfl (Rn.nil ?_))
             replace h := si h; subst h
             show WeakSt Γ _ ⟨look _, memOf _ (bxs _) _, _⟩; exact weak_cut [] ⟨(kPtr rfl), ⟨(kPtr rfl), ⟨(kPtr rfl), ⟨(.same rfl), ⟨(.same rfl), ⟨(.same rfl), ⟨(.same rfl), ⟨(.same rfl), ⟨(.same rfl), ⟨(.same rfl), ⟨(.same rfl), ⟨(.same rfl), ⟨(.same rfl), trivial⟩⟩⟩⟩⟩⟩⟩⟩⟩⟩⟩⟩⟩ ⟨⟨_, rfl, rfl, (.same rfl)⟩, ⟨⟨_, rfl, rfl, (.same rfl)⟩, ⟨⟨_, rfl, rfl, (.same rfl)⟩, ⟨⟨_, rfl, rfl, (.same rfl)⟩, trivial⟩⟩⟩⟩ rfl
            ·replace h := bF hb34 h
             refine Tr.skip ?_
             replace h := si h; subst h
             show WeakSt Γ _ ⟨look _, memOf _ (bxs _) _, _⟩; exact weak_cut [] ⟨(kPtr rfl), ⟨(kPtr rfl), ⟨(kPtr rfl), ⟨(.same rfl), ⟨(.same rfl), ⟨(.same rfl), ⟨(.same rfl), ⟨(.same rfl), ⟨(.same rfl), ⟨(.same rfl), ⟨(.same rfl), ⟨(.same rfl), ⟨(.same rfl), trivial⟩⟩⟩⟩⟩⟩⟩⟩⟩⟩⟩⟩⟩ ⟨⟨_, rfl, rfl, (.same rfl)⟩, ⟨⟨_, rfl, rfl, (.same rfl)⟩, ⟨⟨_, rfl, rfl, (.same rfl)⟩, ⟨⟨_, rfl, rfl, (.same rfl)⟩, trivial⟩⟩⟩⟩ rfl
          ·obtain ⟨want35, rfl⟩ : ∃ x, x = z := ⟨_, rfl⟩
           refine Tr.cutB (fun (want41 : Int) => ⟨look [(2, .ptr (Γ.n0 + 2) 0), (3, .ptr (Γ.n0 + 3) 0), (5, .ptr (Γ.n0 + 5) 0), (6, .d (.int .i64 r13)), (7, .d (.int .i64 want41)), (8, .own 1 (List.map (eI .i64) all24)), (12, .d (.int .i64 x28)), (36, .d (.lst 2 (List.map e_requirement_Phase l1))), (37, .d (.int .i64 (l1.length : Int))), (38, .d (.int .i64 x18)), (46, .d (.lst 1 (List.map (eI .i64) [x21.Enter, x21.Leave]))), (47, .d (.int .i64 2)), (48, .d (.int .i64 x25))], memOf Γ.n0 (bxs [(2, .cells ([.d (.lst 2 (List.map e_requirement_Phase l1))])), (3, .cells ([.d (.int .i64 most2)])), (5, .cells ([.d (.lst 1 (List.map (eI .i64) r12.Alphabet)), .d (.int .i64 r12.States), .d (.lst 1 (List.map (eI .i64) r12.Marked)), .d (.lst 3 (List.map e_api_Edge r12.Edges))])), (10, .cells ([.d (.int .i64 x21.Enter), .d (.int .i64 x21.Leave)]))]) M, Γ.n0 + 105⟩) h (fun z h => ?_) (fun z h => ?_)
           ·refine Tr.cutB (fun (x39 : Bool) => ⟨look [(2, .ptr (Γ.n0 + 2) 0), (3, .ptr (Γ.n0 + 3) 0), (5, .ptr (Γ.n0 + 5) 0), (6, .d (.int .i64 r13)), (7, .d (.int .i64 want35)), (8, .own 1 (List.map (eI .i64) all24)), (12, .d (.int .i64 x28)), (36, .d (.lst 2 (List.map e_requirement_Phase l1))), (37, .d (.int .i64 (l1.length : Int))), (38, .d (.int .i64 x18)), (46, .d (.lst 1 (List.map (eI .i64) [x21.Enter, x21.Leave]))), (47, .d (.int .i64 2)), (48, .d (.int .i64 x25)), (65, .d (.bool x39))], memOf Γ.n0 (bxs [(2, .cells ([.d (.lst 2 (List.map e_requirement_Phase l1))])), (3, .cells ([.d (.int .i64 most2)])), (5, .cells ([.d (.lst 1 (List.map (eI .i64) r12.Alphabet)), .d (.int .i64 r12.States), .d (.lst 1 (List.map (eI .i64) r12.Marked)), .d (.lst 3 (List.map e_api_Edge r12.Edges))])), (10, .cells ([.d (.int .i64 x21.Enter), .d (.int .i64 x21.Leave)]))]) M, Γ.n0 + 105⟩) h (fun z h => ?_) (fun z h => ?_)
            ·refine Tr.rgn (md rfl (Rn.bin trivial rfl rfl rfl (md rfl ?_)))
             refine bsplit (want35 == 0) (fun hb36 => ?_) (fun hb36 => ?_)
             ·replace h := bT hb36 h
              refine Rn.mov (v := .d (.lst 1 (List.map (eI .i64) all24))) (gw rfl hb36) rfl (Rn.movD (gw rfl hb36) rfl ?_)
              obtain ⟨x38, h37, h⟩ := bnd h
              refine Rn.call (args := [.d (.lst 1 (List.map (eI .i64) all24)), .d (.int .i64 x28)]) (gw rfl hb36) rfl (H_slices_Contains_int _ _ _ h37) pc9 (Rn.pickT (v := .d (.bool x38)) trivial rfl hb36 rfl (Rn.nil ?_))
              replace h := si h; subst h
              show WeakSt Γ _ ⟨look _, memOf _ (bxs _) _, _⟩; exact weak_cut [] ⟨(kPtr rfl), ⟨(kPtr rfl), ⟨(kPtr rfl), ⟨(.same rfl), ⟨(.same rfl), ⟨(.same rfl), ⟨(.same rfl), ⟨(.same rfl), ⟨(.same rfl), ⟨(.same rfl), ⟨(.same rfl), ⟨(.same rfl), ⟨(.same rfl), ⟨(.same rfl), trivial⟩⟩⟩⟩⟩⟩⟩⟩⟩⟩⟩⟩⟩⟩ ⟨⟨_, rfl, rfl, (.same rfl)⟩, ⟨⟨_, rfl, rfl, (.same rfl)⟩, ⟨⟨_, rfl, rfl, (.same rfl)⟩, ⟨⟨_, rfl, rfl, (.same rfl)⟩, trivial⟩⟩⟩⟩ rfl
             ·replace h := bF hb36 h
              refine Rn.sk (nw rfl hb36) (Rn.sk (nw rfl hb36) (Rn.sk (nw rfl hb36) (Rn.pickF (v := .d (.bool false)) trivial rfl hb36 rfl (Rn.nil ?_))))
              replace h := si h; subst h
              show WeakSt Γ _ ⟨look _, memOf _ (bxs _) _, _⟩; exact weak_cut [] ⟨(kPtr rfl), ⟨(kPtr rfl), ⟨(kPtr rfl), ⟨(.same rfl), ⟨(.same rfl), ⟨(.same rfl), ⟨(.same rfl), ⟨(.same rfl), ⟨(.same rfl), ⟨(.same rfl), ⟨(.same rfl), ⟨(.same rfl), ⟨(.same rfl), ⟨(.same rfl), trivial⟩⟩⟩⟩⟩⟩⟩⟩⟩⟩⟩⟩⟩⟩ ⟨⟨_, rfl, rfl, (.same rfl)⟩, ⟨⟨_, rfl, rfl, (.same rfl)⟩, ⟨⟨_, rfl, rfl, (.same rfl)⟩, ⟨⟨_, rfl, rfl, (.same rfl)⟩, trivial⟩⟩⟩⟩ rfl
            ·obtain ⟨x39, rfl⟩ : ∃ x, x = z := ⟨_, rfl⟩
             refine Tr.cond rfl (fun hb40 => ?_) (fun hb40 => ?_)
             ·replace h := bT hb40 h
              refine Tr.rgn (md rfl (Rn.nil ?_))
              replace h := si h; subst h
              show WeakSt Γ _ ⟨look _, memOf _ (bxs _) _, _⟩; exact weak_cut [] ⟨(kPtr rfl), ⟨(kPtr rfl), ⟨(kPtr rfl), ⟨(.same rfl), ⟨(.same rfl), ⟨(.same rfl), ⟨(.same rfl), ⟨(.same rfl), ⟨(.same rfl), ⟨(.same rfl), ⟨(.same rfl), ⟨(.same rfl), ⟨(.same rfl), trivial⟩⟩⟩⟩⟩⟩⟩⟩⟩⟩⟩⟩⟩ ⟨⟨_, rfl, rfl, (.same rfl)⟩, ⟨⟨_, rfl, rfl, (.same rfl)⟩, ⟨⟨_, rfl, rfl, (.same rfl)⟩, ⟨⟨_, rfl, rfl, (.same rfl)⟩, trivial⟩⟩⟩⟩ rfl
             ·replace h := bF hb40 h
              refine Tr.skip ?_
              replace h := si h; subst h
              show WeakSt Γ _ ⟨look _, memOf _ (bxs _) _, _⟩; exact weak_cut [] ⟨(kPtr rfl), ⟨(kPtr rfl), ⟨(kPtr rfl), ⟨(.same rfl), ⟨(.same rfl), ⟨(.same rfl), ⟨(.same rfl), ⟨(.same rfl), ⟨(.same rfl), ⟨(.same rfl), ⟨(.same rfl), ⟨(.same rfl), ⟨(.same rfl), trivial⟩⟩⟩⟩⟩⟩⟩⟩⟩⟩⟩⟩⟩ ⟨⟨_, rfl, rfl, (.same rfl)⟩, ⟨⟨_, rfl, rfl, (.same rfl)⟩, ⟨⟨_, rfl, rfl, (.same rfl)⟩, ⟨⟨_, rfl, rfl, (.same rfl)⟩, trivial⟩⟩⟩⟩ rfl
           ·obtain ⟨want41, rfl⟩ : ∃ x, x = z := ⟨_, rfl⟩
            refine Tr.rgn (Rn.movTO trivial rfl (md rfl (Rn.bslice (xs := [.d (.int .i64 x28)]) (cs := [.d (.int .i64 x28)]) trivial rfl rfl rfl rfl ?_)))
            obtain ⟨x42, h43, h⟩ := bnd h
            refine Rn.app (e := (eI .i64)) trivial rfl rfl rfl (elems_box rfl rfl rfl) h43 rfl (Rn.movTO trivial rfl (nt ((Tr.rgn (Rn.bin trivial rfl rfl rfl (md rfl (Rn.nil ?_)))))))
            exact ⟨_, h, (by show WeakSt Γ (clean _ _ _) ⟨look _, memOf _ (bxs _) _, _⟩; exact weak_clean ⟨(kPtr rfl), ⟨(kPtr rfl), ⟨(kPtr rfl), ⟨(.same rfl), ⟨(.same rfl), ⟨(.same rfl), ⟨(.same rfl), ⟨(.same rfl), ⟨(.same rfl), ⟨(.same rfl), ⟨(.same rfl), ⟨(.same rfl), trivial⟩⟩⟩⟩⟩⟩⟩⟩⟩⟩⟩⟩ ⟨⟨_, rfl, rfl, (.same rfl)⟩, ⟨⟨_, rfl, rfl, (.same rfl)⟩, ⟨⟨_, rfl, rfl, (.same rfl)⟩, ⟨⟨_, rfl, rfl, (.same rfl)⟩, trivial⟩⟩⟩⟩ rfl)⟩
         ·replace h := ifF hb27 h
          refine Tr.exit ?_
          replace h := si h; subst h
          show WeakSt Γ _ ⟨look _, memOf _ (bxs _) _, _⟩; exact weak_cut [] ⟨(kPtr rfl), ⟨(kPtr rfl), ⟨(kPtr rfl), ⟨(.same rfl), ⟨(.same rfl), ⟨(.same rfl), ⟨(.same rfl), ⟨(.same rfl), ⟨(.same rfl), trivial⟩⟩⟩⟩⟩⟩⟩⟩⟩ ⟨⟨_, rfl, rfl, (.same rfl)⟩, ⟨⟨_, rfl, rfl, (.same rfl)⟩, ⟨⟨_, rfl, rfl, (.same rfl)⟩, ⟨⟨_, rfl, rfl, (.same rfl)⟩, trivial⟩⟩⟩⟩ rfl
       ·obtain ⟨want44, all45, c46, c47⟩ := z
        refine Tr.rgn (Rn.bin trivial rfl rfl rfl (md rfl (Rn.nil ?_)))
        exact ⟨_, h, (by show WeakSt Γ (clean _ _ _) ⟨look _, memOf _ (bxs _) _, _⟩; exact weak_clean ⟨(kPtr rfl), ⟨(kPtr rfl), ⟨(kPtr rfl), ⟨(.same rfl), ⟨(.same rfl), ⟨(.same rfl), ⟨(.same rfl), ⟨(.same rfl), ⟨(.same rfl), trivial⟩⟩⟩⟩⟩⟩⟩⟩⟩ ⟨⟨_, rfl, rfl, (.same rfl)⟩, ⟨⟨_, rfl, rfl, (.same rfl)⟩, ⟨⟨_, rfl, rfl, (.same rfl)⟩, trivial⟩⟩⟩ rfl)⟩
      ·replace h := ifF hb20 h
       refine Tr.exit ?_
       replace h := si h; subst h
       show WeakSt Γ _ ⟨look _, memOf _ (bxs _) _, _⟩; exact weak_cut [] ⟨(kPtr rfl), ⟨(kPtr rfl), ⟨(kPtr rfl), ⟨(.same rfl), ⟨(.same rfl), ⟨(.same rfl), trivial⟩⟩⟩⟩⟩⟩ ⟨⟨_, rfl, rfl, (.same rfl)⟩, ⟨⟨_, rfl, rfl, (.same rfl)⟩, ⟨⟨_, rfl, rfl, (.same rfl)⟩, trivial⟩⟩⟩ rfl
    ·obtain ⟨want48, all49⟩ := z
     refine Tr.cutB (fun (want54 : Int) => ⟨look [(2, .ptr (Γ.n0 + 2) 0), (3, .ptr (Γ.n0 + 3) 0), (5, .ptr (Γ.n0 + 5) 0), (6, .d (.int .i64 r13)), (7, .d (.int .i64 want54)), (8, .own 1 (List.map (eI .i64) all49))], memOf Γ.n0 (bxs [(2, .cells ([.d (.lst 2 (List.map e_requirement_Phase l1))])), (3, .cells ([.d (.int .i64 most2)])), (5, .cells ([.d (.lst 1 (List.map (eI .i64) r12.Alphabet)), .d (.int .i64 r12.States), .d (.lst 1 (List.map (eI .i64) r12.Marked)), .d (.lst 3 (List.map e_api_Edge r12.Edges))]))]) M, Γ.n0 + 105⟩) h (fun z h => ?_) (fun z h => ?_)
     ·refine Tr.cutB (fun (x52 : Bool) => ⟨look [(2, .ptr (Γ.n0 + 2) 0), (3, .ptr (Γ.n0 + 3) 0), (5, .ptr (Γ.n0 + 5) 0), (6, .d (.int .i64 r13)), (7, .d (.int .i64 want48)), (8, .own 1 (List.map (eI .i64) all49)), (83, .d (.bool x52))], memOf Γ.n0 (bxs [(2, .cells ([.d (.lst 2 (List.map e_requirement_Phase l1))])), (3, .cells ([.d (.int .i64 most2)])), (5, .cells ([.d (.lst 1 (List.map (eI .i64) r12.Alphabet)), .d (.int .i64 r12.States), .d (.lst 1 (List.map (eI .i64) r12.Marked)), .d (.lst 3 (List.map e_api_Edge r12.Edges))]))]) M, Γ.n0 + 105⟩) h (fun z h => ?_) (fun z h => ?_)
      ·refine Tr.rgn (md rfl (Rn.bin trivial rfl rfl rfl (md rfl ?_)))
       refine bsplit (want48 == 0) (fun hb50 => ?_) (fun hb50 => ?_)
       ·replace h := bT hb50 h
        refine Rn.load (v := .d (.int .i64 most2)) (gw rfl hb50) rfl (boxOwn rfl) rfl rfl (Rn.bin (gw rfl hb50) rfl rfl rfl (Rn.movD (gw rfl hb50) rfl ?_))
        refine bsplit (decide (most2 < 0)) (fun hb51 => ?_) (fun hb51 => ?_)
        ·replace h := ifT hb51 h
         refine Rn.sk (nw rfl hb51) (Rn.sk (nw rfl hb51) (Rn.sk (nw rfl hb51) (Rn.sk (nw rfl hb51) (Rn.pickT (v := .d (.bool true)) (gw rfl hb50) rfl hb51 rfl (Rn.pickT (v := .d (.bool true)) trivial rfl hb50 rfl (Rn.nil ?_))))))
         replace h := si h; subst h
         show WeakSt Γ _ ⟨look _, memOf _ (bxs _) _, _⟩; exact weak_cut [] ⟨(kPtr rfl), ⟨(kPtr rfl), ⟨(kPtr rfl), ⟨(.same rfl), ⟨(.same rfl), ⟨(.same rfl), ⟨(.same rfl), trivial⟩⟩⟩⟩⟩⟩⟩ ⟨⟨_, rfl, rfl, (.same rfl)⟩, ⟨⟨_, rfl, rfl, (.same rfl)⟩, ⟨⟨_, rfl, rfl, (.same rfl)⟩, trivial⟩⟩⟩ rfl
        ·replace h := ifF hb51 h
         refine Rn.load (v := .d (.int .i64 most2)) (gw rfl hb51) rfl (boxOwn rfl) rfl rfl (Rn.load (v := .d (.lst 2 (List.map e_requirement_Phase l1))) (gw rfl hb51) rfl (boxOwn rfl) rfl rfl (Rn.lenD (gw rfl hb51) rfl (Rn.bin (gw rfl hb51) rfl rfl rfl (Rn.pickF (v := .d (.bool (decide (most2 > (l1.length : Int))))) (gw rfl hb50) rfl hb51 rfl (Rn.pickT (v := .d (.bool (decide (most2 > (l1.length : Int))))) trivial rfl hb50 rfl (Rn.nil ?_))))))
         replace h := si h; subst h
         show WeakSt Γ _ ⟨look _, memOf _ (bxs _) _, _⟩; exact weak_cut [] ⟨(kPtr rfl), ⟨(kPtr rfl), ⟨(kPtr rfl), ⟨(.same rfl), ⟨(.same rfl), ⟨(.same rfl), ⟨(.same rfl), trivial⟩⟩⟩⟩⟩⟩⟩ ⟨⟨_, rfl, rfl, (.same rfl)⟩, ⟨⟨_, rfl, rfl, (.same rfl)⟩, ⟨⟨_, rfl, rfl, (.same rfl)⟩, trivial⟩⟩⟩ rfl
       ·replace h := bF hb50 h
        refine Rn.sk (nw rfl hb50) (Rn.sk (nw rfl hb50) (Rn.sk (nw rfl hb50) (Rn.sk (nu rfl) (Rn.sk (nu rfl) (Rn.sk (nu rfl) (Rn.sk (nu rfl) (Rn.sk (nw rfl hb50) (Rn.pickF (v := .d (.bool false)) trivial rfl hb50 rfl (Rn.nil ?_)))))))))
        replace h := si h; subst h
        show WeakSt Γ _ ⟨look _, memOf _ (bxs _) _, _⟩; exact weak_cut [] ⟨(kPtr rfl), ⟨(kPtr rfl), ⟨(kPtr rfl), ⟨(.same rfl), ⟨(.same rfl), ⟨(.same rfl), ⟨(.same rfl), trivial⟩⟩⟩⟩⟩⟩⟩ ⟨⟨_, rfl, rfl, (.same rfl)⟩, ⟨⟨_, rfl, rfl, (.same rfl)⟩, ⟨⟨_, rfl, rfl, (.same rfl)⟩, trivial⟩⟩⟩ rfl
      ·obtain ⟨x52, rfl⟩ : ∃ x, x = z := ⟨_, rfl⟩
       refine Tr.cond rfl (fun hb53 => ?_) (fun hb53 => ?_)
       ·replace h := bT hb53 h
        refine Tr.rgn (md rfl (Rn.nil ?_))
        replace h := si h; subst h
        show WeakSt Γ _ ⟨look _, memOf _ (bxs _) _, _⟩; exact weak_cut [] ⟨(kPtr rfl), ⟨(kPtr rfl), ⟨(kPtr rfl), ⟨(.same rfl), ⟨(.same rfl), ⟨(.same rfl), trivial⟩⟩⟩⟩⟩⟩ ⟨⟨_, rfl, rfl, (.same rfl)⟩, ⟨⟨_, rfl, rfl, (.same rfl)⟩, ⟨⟨_, rfl, rfl, (.same rfl)⟩, trivial⟩⟩⟩ rfl
       ·replace h := bF hb53 h
        refine Tr.skip ?_
        replace h := si h; subst h
        show WeakSt Γ _ ⟨look _, memOf _ (bxs _) _, _⟩; exact weak_cut [] ⟨(kPtr rfl), ⟨(kPtr rfl), ⟨(kPtr rfl), ⟨(.same rfl), ⟨(.same rfl), ⟨(.same rfl), trivial⟩⟩⟩⟩⟩⟩ ⟨⟨_, rfl, rfl, (.same rfl)⟩, ⟨⟨_, rfl, rfl, (.same rfl)⟩, ⟨⟨_, rfl, rfl, (.same rfl)⟩, trivial⟩⟩⟩ rfl
     ·obtain ⟨want54, rfl⟩ : ∃ x, x = z := ⟨_, rfl⟩
      refine Tr.seq (sr ((md rfl (Rn.bin trivial rfl rfl rfl (Rn.nil (toN ?_))))))
      refine Tr.cond rfl (fun hb55 => ?_) (fun hb55 => ?_)
      ·replace h := bT hb55 h
       refine sr ((md rfl (md rfl (Rn.bin trivial rfl rfl rfl (md rfl ?_)))))
       refine bsplit (r13 == want54) (fun hb56 => ?_) (fun hb56 => ?_)
       ·replace h := bT hb56 h
        refine Rn.load (v := .agg [.d (.lst 1 (List.map (eI .i64) r12.Alphabet)), .d (.int .i64 r12.States), .d (.lst 1 (List.map (eI .i64) r12.Marked)), .d (.lst 3 (List.map e_api_Edge r12.Edges))]) (gw rfl hb56) rfl (boxOwn rfl) rfl rfl (Rn.build (v := .agg [.nils 1, .d (.int .i64 0), .nils 1, .nils 3]) (gw rfl hb56) rfl ?_)
        obtain ⟨x58, h57, h⟩ := bnd h
        refine Rn.call (args := [.agg [.d (.lst 1 (List.map (eI .i64) r12.Alphabet)), .d (.int .i64 r12.States), .d (.lst 1 (List.map (eI .i64) r12.Marked)), .d (.lst 3 (List.map e_api_Edge r12.Edges))], .agg [.nils 1, .d (.int .i64 0), .nils 1, .nils 3]]) (gw rfl hb56) rfl (fun M2 nb2 => ACalls.weak (args' := [.agg [.d (.lst 1 (List.map (eI .i64) r12.Alphabet)), .d (.int .i64 r12.States), .d (.lst 1 (List.map (eI .i64) r12.Marked)), .d (.lst 3 (List.map e_api_Edge r12.Edges))], .agg [.d (.lst 1 (List.map (eI .i64) [])), .d (.int .i64 0), .d (.lst 1 (List.map (eI .i64) [])), .d (.lst 3 (List.map e_api_Edge []))]]) (H_automaton_Equal _ _ _ h57 M2 nb2) (.cons (.same rfl) (.cons (WkV.agg (.cons (WkV.nilsD _) (.cons (.same rfl) (.cons (WkV.nilsD _) (.cons (WkV.nilsD _) .nil))))) .nil)) rfl) pc9 ?_
        refine Rn.pickT (v := .d (.bool x58)) trivial rfl hb56 rfl (md rfl (nt ((Tr.ret ?_))))
        replace h := si h; subst h
        exact ⟨.inr rfl, (.d (.bool x58)), rfl, fun _ _ _ _ h => h, trivial, fun k hk => memOf_base hk⟩
       ·replace h := bF hb56 h
        refine Rn.sk (nw rfl hb56) (Rn.sk (nw rfl hb56) (Rn.sk (nw rfl hb56) (Rn.pickF (v := .d (.bool false)) trivial rfl hb56 rfl (md rfl (nt ((Tr.ret ?_)))))))
        replace h := si h; subst h
        exact ⟨.inr rfl, (.d (.bool false)), rfl, fun _ _ _ _ h => h, trivial, fun k hk => memOf_base hk⟩
      ·replace h := bF hb55 h
       refine Tr.skip (toN (sr ((Rn.mov (v := .d (.lst 1 (List.map (eI .i64) all49))) trivial rfl ?_))))
       obtain ⟨x60, h59, h⟩ := bnd h
       refine Rn.call (args := [.d (.lst 1 (List.map (eI .i64) all49))]) trivial rfl (H_overseerlaw21_sorted _ _ h59) pc9 (Rn.k (v := .clo 17 [.ptr (Γ.n0 + 2) 0, .ptr (Γ.n0 + 3) 0]) trivial rfl rfl rfl ?_)
       obtain ⟨x69, h68, h⟩ := bnd h
       refine Rn.callM (args := [.d (.lst 1 (List.map (eI .i64) x60)), .clo 17 [.ptr (Γ.n0 + 2) 0, .ptr (Γ.n0 + 3) 0], .clo 18 []]) trivial rfl (fun M2 nb2 hn hx => H_overseerlaw21_counter _ _ _ 17 [.ptr (Γ.n0 + 2) 0, .ptr (Γ.n0 + 3) 0] 18 [] _ h68 M2 nb2 rfl ⟨thereOf (hx _ _ (boxOwn rfl)), thereOf (hx _ _ (boxOwn rfl)), trivial⟩ (fun a61 a62 r63 h64 M3 nb3 hn3 hx3 => H_overseerlaw21_RequirementPhases_1 a61 a62 l1 most2 (Γ.n0 + 2) (Γ.n0 + 3) r63 h64 M3 nb3 ((hx.trans hx3) _ _ (boxOwn rfl)) ((hx.trans hx3) _ _ (boxOwn rfl))) rfl trivial (fun a65 r66 h67 M3 nb3 hn3 hx3 => H_overseerlaw21_always_int a65 r66 h67 M3 nb3 )) rfl pc9 ?_
       refine Rn.alloc trivial rfl (Rn.store (v := .agg [.d (.lst 1 (List.map (eI .i64) x69.Alphabet)), .d (.int .i64 x69.States), .d (.lst 1 (List.map (eI .i64) x69.Marked)), .d (.lst 3 (List.map e_api_Edge x69.Edges))]) (cs' := [.d (.lst 1 (List.map (eI .i64) x69.Alphabet)), .d (.int .i64 x69.States), .d (.lst 1 (List.map (eI .i64) x69.Marked)), .d (.lst 3 (List.map e_api_Edge x69.Edges))]) trivial rfl rfl rfl rfl rfl rfl (nt ((sr ((md rfl (Rn.bin trivial rfl rfl rfl (md rfl ?_))))))))
       refine bsplit (r13 == 0) (fun hb70 => ?_) (fun hb70 => ?_)
       ·replace h := bT hb70 h
        refine Rn.load (v := .agg [.d (.lst 1 (List.map (eI .i64) r12.Alphabet)), .d (.int .i64 r12.States), .d (.lst 1 (List.map (eI .i64) r12.Marked)), .d (.lst 3 (List.map e_api_Edge r12.Edges))]) (gw rfl hb70) rfl (boxOwn rfl) rfl rfl (Rn.load (v := .agg [.d (.lst 1 (List.map (eI .i64) x69.Alphabet)), .d (.int .i64 x69.States), .d (.lst 1 (List.map (eI .i64) x69.Marked)), .d (.lst 3 (List.map e_api_Edge x69.Edges))]) (gw rfl hb70) rfl (boxOwn rfl) rfl rfl ?_)
        obtain ⟨x72, h71, h⟩ := bnd h
        refine Rn.call (args := [.agg [.d (.lst 1 (List.map (eI .i64) r12.Alphabet)), .d (.int .i64 r12.States), .d (.lst 1 (List.map (eI .i64) r12.Marked)), .d (.lst 3 (List.map e_api_Edge r12.Edges))], .agg [.d (.lst 1 (List.map (eI .i64) x69.Alphabet)), .d (.int .i64 x69.States), .d (.lst 1 (List.map (eI .i64) x69.Marked)), .d (.lst 3 (List.map e_api_Edge x69.Edges))]]) (gw rfl hb70) rfl (H_automaton_Equal _ _ _ h71) pc9 (Rn.pickT (v := .d (.bool x72)) trivial rfl hb70 rfl (md rfl (nt ((Tr.ret ?_)))))
        replace h := si h; subst h
        exact ⟨.inr rfl, (.d (.bool x72)), rfl, fun _ _ _ _ h => h, trivial, fun k hk => memOf_base hk⟩
       ·replace h := bF hb70 h
        refine Rn.sk (nw rfl hb70) (Rn.sk (nw rfl hb70) (Rn.sk (nw rfl hb70) (Rn.pickF (v := .d (.bool false)) trivial rfl hb70 rfl (md rfl (nt ((Tr.ret ?_)))))))
        replace h := si h; subst h
        exact ⟨.inr rfl, (.d (.bool false)), rfl, fun _ _ _ _ h => h, trivial, fun k hk => memOf_base hk⟩
end Go.Abs
end
section
namespace Go.Proofs
open Go.Abs
set_option maxRecDepth 100000
theorem C_overseerlaw21_RequirementPhases : compFn Try.prog 3 = some F_overseerlaw21_RequirementPhases := by kernel_rfl
theorem C_overseerlaw21_known : compFn Try.prog 10 = some F_overseerlaw21_known := by kernel_rfl
theorem C_requirement_AtMost : compFn Try.prog 11 = some F_requirement_AtMost := by kernel_rfl
theorem C_overseerlaw21_in : compFn Try.prog 12 = some F_overseerlaw21_in := by kernel_rfl
theorem C_slices_Contains_int : compFn Try.prog 13 = some F_slices_Contains_int := by kernel_rfl
theorem C_automaton_Equal : compFn Try.prog 14 = some F_automaton_Equal := by kernel_rfl
theorem C_overseerlaw21_counter : compFn Try.prog 15 = some F_overseerlaw21_counter := by kernel_rfl
theorem C_overseerlaw21_sorted : compFn Try.prog 16 = some F_overseerlaw21_sorted := by kernel_rfl
theorem C_overseerlaw21_RequirementPhases_1 : compFn Try.prog 17 = some F_overseerlaw21_RequirementPhases_1 := by kernel_rfl
theorem C_overseerlaw21_always_int : compFn Try.prog 18 = some F_overseerlaw21_always_int := by kernel_rfl
theorem C_requirement_Buffer : compFn Try.prog 19 = some F_requirement_Buffer := by kernel_rfl
theorem C_alphabet_CheckSet : compFn Try.prog 20 = some F_alphabet_CheckSet := by kernel_rfl
theorem C_slices_Clone_int : compFn Try.prog 23 = some F_slices_Clone_int := by kernel_rfl
theorem C_requirement_Alternate : compFn Try.prog 31 = some F_requirement_Alternate := by kernel_rfl
theorem C_requirement_Refused : compFn Try.prog 36 = some F_requirement_Refused := by kernel_rfl
theorem C_slices_Equal_int : compFn Try.prog 40 = some F_slices_Equal_int := by kernel_rfl
theorem C_slices_Equal_Edge : compFn Try.prog 46 = some F_slices_Equal_Edge := by kernel_rfl
theorem C_requirement_distinct : compFn Try.prog 47 = some F_requirement_distinct := by kernel_rfl
theorem C_requirement_explore : compFn Try.prog 48 = some F_requirement_explore := by kernel_rfl
theorem C_requirement_sorted : compFn Try.prog 49 = some F_requirement_sorted := by kernel_rfl
theorem C_requirement_all : compFn Try.prog 50 = some F_requirement_all := by kernel_rfl
theorem C_requirement_AtMost_1 : compFn Try.prog 51 = some F_requirement_AtMost_1 := by kernel_rfl
theorem C_slices_Index_int : compFn Try.prog 52 = some F_slices_Index_int := by kernel_rfl
theorem C_bits_OnesCount : compFn Try.prog 53 = some F_bits_OnesCount := by kernel_rfl
theorem C_overseerlaw21_build_int : compFn Try.prog 54 = some F_overseerlaw21_build_int := by kernel_rfl
theorem C_overseerlaw21_counter_1 : compFn Try.prog 55 = some F_overseerlaw21_counter_1 := by kernel_rfl
theorem C_requirement_sets : compFn Try.prog 58 = some F_requirement_sets := by kernel_rfl
theorem C_alphabet_Union : compFn Try.prog 59 = some F_alphabet_Union := by kernel_rfl
theorem C_requirement_first : compFn Try.prog 60 = some F_requirement_first := by kernel_rfl
theorem C_requirement_Buffer_1 : compFn Try.prog 61 = some F_requirement_Buffer_1 := by kernel_rfl
theorem C_alphabet_Contains : compFn Try.prog 62 = some F_alphabet_Contains := by kernel_rfl
theorem C_slices_IndexFunc_int : compFn Try.prog 63 = some F_slices_IndexFunc_int := by kernel_rfl
theorem C_requirement_Alternate_1 : compFn Try.prog 67 = some F_requirement_Alternate_1 := by kernel_rfl
theorem C_automaton_Check : compFn Try.prog 68 = some F_automaton_Check := by kernel_rfl
theorem C_automaton_Enabled : compFn Try.prog 72 = some F_automaton_Enabled := by kernel_rfl
theorem C_alphabet_Minus : compFn Try.prog 73 = some F_alphabet_Minus := by kernel_rfl
theorem C_bits_OnesCount64 : compFn Try.prog 78 = some F_bits_OnesCount64 := by kernel_rfl
theorem C_overseerlaw21_build_int_1 : compFn Try.prog 79 = some F_overseerlaw21_build_int_1 := by kernel_rfl
theorem C_alphabet_Intersect : compFn Try.prog 82 = some F_alphabet_Intersect := by kernel_rfl
theorem C_alphabet_merge : compFn Try.prog 83 = some F_alphabet_merge := by kernel_rfl
theorem C_alphabet_Union_1 : compFn Try.prog 84 = some F_alphabet_Union_1 := by kernel_rfl
theorem C_slices_BinarySearch_int : compFn Try.prog 85 = some F_slices_BinarySearch_int := by kernel_rfl
theorem C_automaton_checkSet : compFn Try.prog 86 = some F_automaton_checkSet := by kernel_rfl
theorem C_automaton_checkEdges : compFn Try.prog 87 = some F_automaton_checkEdges := by kernel_rfl
theorem C_automaton_checkState : compFn Try.prog 93 = some F_automaton_checkState := by kernel_rfl
theorem C_automaton_out : compFn Try.prog 94 = some F_automaton_out := by kernel_rfl
theorem C_alphabet_Minus_1 : compFn Try.prog 95 = some F_alphabet_Minus_1 := by kernel_rfl
theorem C_cmp_Less_int : compFn Try.prog 108 = some F_cmp_Less_int := by kernel_rfl
theorem C_alphabet_Intersect_1 : compFn Try.prog 113 = some F_alphabet_Intersect_1 := by kernel_rfl
theorem C_slices_isNaN_int : compFn Try.prog 114 = some F_slices_isNaN_int := by kernel_rfl
theorem C_slices_BinarySearchFunc_int : compFn Try.prog 116 = some F_slices_BinarySearchFunc_int := by kernel_rfl
theorem C_automaton_out_1 : compFn Try.prog 117 = some F_automaton_out_1 := by kernel_rfl
theorem C_automaton_out_2 : compFn Try.prog 118 = some F_automaton_out_2 := by kernel_rfl
theorem C_cmp_isNaN_int : compFn Try.prog 128 = some F_cmp_isNaN_int := by kernel_rfl
end Go.Proofs
end
section
namespace Go.Abs
open Go Go.Sort
set_option linter.unusedVariables false
section plain
variable {β : Type}
def insB (lt : β → β → Bool) (x : β) : List β → List β
  | [] => [x]
  | y :: ys => if lt y x then y :: insB lt x ys else x :: y :: ys
def isortB (lt : β → β → Bool) : List β → List β
  | [] => []
  | x :: xs => insB lt x (isortB lt xs)
theorem insB_perm (lt : β → β → Bool) (x : β) : ∀ l, (insB lt x l).Perm (x :: l)
  | [] => .refl _
  | y :: ys => by
    unfold insB; split
    · exact ((insB_perm lt x ys).cons y).trans (.swap x y ys)
    · exact .refl _
theorem isortB_perm (lt : β → β → Bool) : ∀ l, (isortB lt l).Perm l
  | [] => .refl _
  | x :: xs => (insB_perm lt x _).trans ((isortB_perm lt xs).cons x)
theorem isortB_length (lt : β → β → Bool) (l : List β) : (isortB lt l).length = l.length := (isortB_perm lt l).length_eq
theorem insB_sorted {lt : β → β → Bool} (h : SWO lt) (x : β) : ∀ l, l.Pairwise (fun a b => lt b a = false) → (insB lt x l).Pairwise fun a b => lt b a = false
  | [], _ => by simp [insB]
  | y :: ys, hl => by
    obtain ⟨h1, h2⟩ := List.pairwise_cons.1 hl
    unfold insB; split
    · rename_i hc
      refine List.pairwise_cons.2 ⟨fun z hz => ?_, insB_sorted h x ys h2⟩
      rcases List.mem_cons.1 ((insB_perm lt x ys).mem_iff.1 hz) with rfl | hz
      · cases hb : lt z y with
        | false => rfl
        | true => have := h.trans _ _ _ hc hb; rw [h.irrefl] at this; cases this
      · exact h1 z hz
    · rename_i hc
      have hc : lt y x = false := by cases h : lt y x <;> simp_all
      refine List.pairwise_cons.2 ⟨fun z hz => ?_, hl⟩
      rcases List.mem_cons.1 hz with rfl | hz
      · exact hc
      · exact h.ntrans _ _ _ (h1 z hz) hc
theorem isortB_sorted {lt : β → β → Bool} (h : SWO lt) : ∀ l, (isortB lt l).Pairwise fun a b => lt b a = false
  | [] => .nil
  | x :: xs => insB_sorted h x _ (isortB_sorted h xs)
end plain
def ltInt' (a b : Int) : Bool := decide (a < b)
end Go.Abs
end
section
namespace Go.Abs
def sortI (l : List Int) : Option (List Int) := if l.length ≤ lim then some (isortB ltInt' l) else none
def compactI (l : List Int) : Option (List Int) := if l.length ≤ lim then some (Lib.compact l) else none
end Go.Abs
end
section
namespace Go.Abs
open Go Go.Abs
set_option linter.unusedVariables false
set_option maxRecDepth 10000
set_option maxHeartbeats 4000000
def fuel0 : Nat := 1099511627776
def g_slices_Index_int := f_slices_Index_int fuel0
def g_slices_Contains_int := f_slices_Contains_int g_slices_Index_int
def g_requirement_distinct := f_requirement_distinct g_slices_Contains_int fuel0
def g_slices_Clone_int := f_slices_Clone_int
def g_requirement_sorted := f_requirement_sorted g_slices_Clone_int sortI
def g_requirement_Alternate_1 := f_requirement_Alternate_1
def g_requirement_explore := f_requirement_explore fuel0
def g_requirement_first := f_requirement_first
def g_requirement_Alternate := f_requirement_Alternate g_requirement_distinct g_requirement_explore g_requirement_sorted g_requirement_first g_requirement_Alternate_1
def g_alphabet_CheckSet := f_alphabet_CheckSet fuel0
def g_alphabet_merge := f_alphabet_merge fuel0
def g_alphabet_Intersect_1 := f_alphabet_Intersect_1
def g_alphabet_Intersect := f_alphabet_Intersect g_alphabet_merge g_alphabet_Intersect_1
def g_requirement_sets := f_requirement_sets g_alphabet_CheckSet g_alphabet_Intersect fuel0
def g_alphabet_Union_1 := f_alphabet_Union_1
def g_alphabet_Union := f_alphabet_Union g_alphabet_merge g_alphabet_Union_1
def g_cmp_isNaN_int := f_cmp_isNaN_int
def g_cmp_Less_int := f_cmp_Less_int g_cmp_isNaN_int
def g_slices_isNaN_int := f_slices_isNaN_int
def g_slices_BinarySearch_int := f_slices_BinarySearch_int g_cmp_Less_int g_slices_isNaN_int fuel0
def g_alphabet_Contains := f_alphabet_Contains g_slices_BinarySearch_int
def g_requirement_Buffer_1 := f_requirement_Buffer_1 g_alphabet_Contains
def g_requirement_Buffer := f_requirement_Buffer g_requirement_explore g_requirement_sets g_alphabet_Union g_requirement_first g_requirement_Buffer_1
def g_bits_OnesCount64 := f_bits_OnesCount64
def g_bits_OnesCount := f_bits_OnesCount g_bits_OnesCount64
def g_requirement_AtMost_1 := f_requirement_AtMost_1 g_slices_Index_int g_bits_OnesCount
def g_requirement_all := f_requirement_all
def g_requirement_AtMost := f_requirement_AtMost g_requirement_distinct g_requirement_explore g_requirement_sorted g_requirement_all g_requirement_AtMost_1 fuel0
def g_automaton_checkSet := f_automaton_checkSet fuel0
def g_automaton_checkEdges := f_automaton_checkEdges g_slices_Contains_int fuel0
def g_automaton_Check := f_automaton_Check g_automaton_checkSet g_automaton_checkEdges
def g_automaton_checkState := f_automaton_checkState g_automaton_Check
def g_slices_BinarySearchFunc_int := f_slices_BinarySearchFunc_int fuel0
def g_automaton_out_1 := f_automaton_out_1
def g_automaton_out_2 := f_automaton_out_2
def g_automaton_out := f_automaton_out g_slices_BinarySearchFunc_int g_automaton_out_1 g_automaton_out_2
def g_automaton_Enabled := f_automaton_Enabled g_automaton_checkState g_automaton_out fuel0
def g_alphabet_Minus_1 := f_alphabet_Minus_1
def g_alphabet_Minus := f_alphabet_Minus g_alphabet_merge g_alphabet_Minus_1
def g_requirement_Refused := f_requirement_Refused g_automaton_Enabled g_alphabet_Minus
def g_slices_Equal_int := f_slices_Equal_int fuel0
def g_slices_Equal_Edge := f_slices_Equal_Edge fuel0
def g_overseerlaw21_known := f_overseerlaw21_known g_requirement_AtMost g_requirement_Buffer g_requirement_Alternate g_requirement_Refused g_slices_Equal_int g_slices_Equal_Edge
def g_overseerlaw21_in := f_overseerlaw21_in
def g_automaton_Equal := f_automaton_Equal g_slices_Equal_int g_slices_Equal_Edge
def g_overseerlaw21_sorted := f_overseerlaw21_sorted g_slices_Clone_int sortI compactI
def g_overseerlaw21_RequirementPhases_1 := f_overseerlaw21_RequirementPhases_1 fuel0
def g_overseerlaw21_build_int_1 := f_overseerlaw21_build_int_1
def g_slices_IndexFunc_int := f_slices_IndexFunc_int fuel0
def g_overseerlaw21_build_int := f_overseerlaw21_build_int g_slices_IndexFunc_int g_overseerlaw21_build_int_1 fuel0
def g_overseerlaw21_counter_1 := f_overseerlaw21_counter_1
def g_overseerlaw21_counter := f_overseerlaw21_counter g_overseerlaw21_build_int g_overseerlaw21_counter_1
def g_overseerlaw21_always_int := f_overseerlaw21_always_int
def g_overseerlaw21_RequirementPhases := f_overseerlaw21_RequirementPhases g_overseerlaw21_known g_requirement_AtMost g_overseerlaw21_in g_slices_Contains_int g_automaton_Equal g_overseerlaw21_counter g_overseerlaw21_sorted g_overseerlaw21_RequirementPhases_1 g_overseerlaw21_always_int fuel0
end Go.Abs
end
section
namespace Go.Abs
open Go Go.Sort Go.RowKit
set_option linter.unusedVariables false
theorem acalls_none {P : Program} {f : FuncId} {ex : Array Value} {exV : List V} {sz nb : Nat} {M : Mem} (hb : HasBody P f = true) (hex : ∀ g w us, RFs g w exV us → us = ex.toList)
    (h : ∀ (p : Option Addr) (cap : Nat) (w : World), Calls P f (#[.slice p 0 cap] ++ ex) w fun e' w' => e' = .returned (.tuple #[]) ∧ w' = w) :
    ACalls P f (.d (.lst sz []) :: exV) M nb (.tup []) M nb := by
  refine ⟨hb, Nat.le_refl _, fun w g us hm hMon hfresh hus hfl hons => ?_⟩
  obtain ⟨u0, us', rfl, hu0, hus'⟩ := hus
  have h1 := hex _ _ _ hus'
  subst h1
  have h2 : ∃ p cap, u0 = .slice p 0 cap := by
    have := RF_d.1 hu0
    obtain ⟨a, cap, rfl, _, _⟩ := this
    exact ⟨a, cap, rfl⟩
  obtain ⟨p, cap, rfl⟩ := h2
  have e1 : (Value.slice p 0 cap :: ex.toList).toArray = #[.slice p 0 cap] ++ ex := by apply Array.ext'; simp
  rw [e1]
  refine (h p cap w).mono ?_
  rintro e' w' ⟨rfl, rfl⟩
  exact ⟨_, g, rfl, hm, ⟨[], rfl, rfl⟩, trivial, hMon, Fr.refl _ _ _⟩
theorem merge_isort (l : List Int) : (l.mergeSort fun x y => decide (x ≤ y)) = isortB ltInt' l := by
  have hO : Go.Sort.SWO ltInt' := ⟨fun x => by simp [ltInt'], fun x y z h1 h2 => by simp [ltInt'] at *; omega, fun x y z h1 h2 => by simp [ltInt'] at *; omega⟩
  refine List.Perm.eq_of_pairwise (le := fun a b => ltInt' b a = false) (fun a b _ _ h1 h2 => by simp [ltInt'] at *; omega) ?_ (isortB_sorted hO l) ((List.mergeSort_perm _ _).trans (isortB_perm _ l).symm)
  have := List.pairwise_mergeSort (le := fun x y : Int => decide (x ≤ y)) (fun a b c h1 h2 => by simp at *; omega) (fun a b => by simp; omega) l
  exact this.imp fun h => by simp [ltInt'] at *; omega
end Go.Abs
end
section
namespace Go.Abs
open Go Go.Sort Go.RowKit
set_option linter.unusedVariables false
theorem rowV_ints (xs : List Int) : rowV (eI .i64) xs = xs.map (Value.int .i64) := by
  unfold rowV
  induction xs with
  | nil => rfl
  | cons x xs ih => simp only [List.map_cons, List.flatten_cons, List.map_append, ih]; rfl
theorem rowK_ints {P : Program} {c : Nat} (hb : HasBody P c = true)
    (hs : ∀ (blk off cap : Nat) (zs : List Int) (w : World), Holds (Value.int .i64) w blk off zs.toArray → blk < w.heap.size → zs.length < 4611686018427387904 →
      Calls P c #[.slice (some ⟨blk, off, none⟩) zs.length cap] w fun e w' => e = .returned (.tuple #[]) ∧ ∃ n os, w' = grow (putRow (Value.int .i64) (Sort.ahead w n) blk off (zs.mergeSort fun x y => decide (x ≤ y)).toArray) os)
    (hnone : ∀ (p : Option Addr) (cap : Nat) (w : World), Calls P c (#[.slice p 0 cap] ++ #[]) w fun e' w' => e' = .returned (.tuple #[]) ∧ w' = w) :
    RowK P c (eI .i64) 1 [] (fun l => if l.length ≤ lim then some (isortB ltInt' l) else none) := by
  have hrow : RowFn P c (eI .i64) #[] (fun xs => isortB ltInt' xs) := by
    intro blk cap xs w hcell hblk hsz
    refine Calls.mono (hs blk 0 cap xs w ?_ hblk hsz) ?_
    · intro j hj
      have hj' : j < xs.length := by simpa using hj
      have := hcell j (by rw [rowV_ints]; simpa using hj')
      rw [rowV_ints] at this
      rw [Nat.zero_add]
      refine ⟨?_, this.2⟩
      rw [this.1, getElem!_pos xs.toArray j hj]
      simp [hj']
    · rintro e w' ⟨rfl, n, os, rfl⟩
      refine ⟨rfl, n, os, ?_⟩
      rw [merge_isort, rowV_ints]
      congr 1
      unfold putRow
      congr 1
      funext c
      unfold putCells
      congr 1
      funext k x
      simp only [List.size_toArray, List.length_map]
      split
      · rename_i h
        simp only [id]
        rw [getElem!_pos _ _ (by simp; omega), getElem!_pos _ _ (by simp; omega)]
        simp
      · rfl
  intro xs ys h
  dsimp only at h
  split at h <;> cases h
  rename_i hl
  refine ⟨isortB_length _ _, fun h0 => ?_, fun hl2 cap k0 M nb hM => ?_⟩
  · subst h0
    exact ⟨rfl, fun M nb => acalls_none (ex := #[]) (exV := []) hb (fun _ _ _ h => h) hnone⟩
  · exact acalls_row (e := eI .i64) (fun _ => rfl) (fun _ => rfl) (fun xs => isortB_length _ _) (ex := #[]) (exV := []) (fun _ _ _ h => h) hb hrow xs cap k0 M nb hM (by unfold lim at hl; omega)
end Go.Abs
end
section
namespace Go.Proofs
open Go.Shelf
def Try.laysSlM5_f56_ren : Go.Shelf.Ren := ⟨fun | 5 => 56 | 8 => 81 | 7 => 80 | 19 => 111 | 20 => 112 | 10 => 102 | 11 => 103 | 12 => 104 | 13 => 105 | 14 => 106 | 15 => 107 | 16 => 108 | 17 => 109 | 18 => 110 | 30 => 123 | 31 => 124 | 32 => 125 | 33 => 126 | 34 => 127 | 35 => 128 | 40 => 138 | n => n, fun | 23 => 24 | 25 => 3 | 3 => 3 | 32 => 82 | 22 => 24 | 0 => 0 | 44 => 96 | 46 => 98 | 4 => 4 | 36 => 117 | 35 => 116 | 41 => 94 | 5 => 5 | 9 => 9 | 53 => 129 | 57 => 133 | 63 => 140 | 64 => 122 | n => n, fun | n => n⟩
theorem Try.laysSlM5_f56 : Go.Proofs.SlLaysM.n5 Try.prog Try.laysSlM5_f56_ren := {
  mixed := by kernel_rfl
  f5 := ⟨Try.f56.name, by decide, Try.func56.trans (congrArg some (by kernel_rfl))⟩
  f7 := ⟨Try.f80.name, by decide, Try.func80.trans (congrArg some (by kernel_rfl))⟩
  f8 := Try.func81.trans (congrArg some (by kernel_rfl))
  f10 := ⟨Try.f102.name, by decide, Try.func102.trans (congrArg some (by kernel_rfl))⟩
  f11 := ⟨Try.f103.name, by decide, Try.func103.trans (congrArg some (by kernel_rfl))⟩
  f12 := ⟨Try.f104.name, by decide, Try.func104.trans (congrArg some (by kernel_rfl))⟩
  f13 := ⟨Try.f105.name, by decide, Try.func105.trans (congrArg some (by kernel_rfl))⟩
  f14 := ⟨Try.f106.name, by decide, Try.func106.trans (congrArg some (by kernel_rfl))⟩
  f15 := ⟨Try.f107.name, by decide, Try.func107.trans (congrArg some (by kernel_rfl))⟩
  f16 := ⟨Try.f108.name, by decide, Try.func108.trans (congrArg some (by kernel_rfl))⟩
  f17 := ⟨Try.f109.name, by decide, Try.func109.trans (congrArg some (by kernel_rfl))⟩
  f18 := ⟨Try.f110.name, by decide, Try.func110.trans (congrArg some (by kernel_rfl))⟩
  f19 := Try.func111.trans (congrArg some (by kernel_rfl))
  f20 := Try.func112.trans (congrArg some (by kernel_rfl))
  f30 := ⟨Try.f123.name, by decide, Try.func123.trans (congrArg some (by kernel_rfl))⟩
  f31 := Try.func124.trans (congrArg some (by kernel_rfl))
  f32 := Try.func125.trans (congrArg some (by kernel_rfl))
  f33 := ⟨Try.f126.name, by decide, Try.func126.trans (congrArg some (by kernel_rfl))⟩
  f34 := ⟨Try.f127.name, by decide, Try.func127.trans (congrArg some (by kernel_rfl))⟩
  f35 := ⟨Try.f128.name, by decide, Try.func128.trans (congrArg some (by kernel_rfl))⟩
  f40 := ⟨Try.f138.name, by decide, Try.func138.trans (congrArg some (by kernel_rfl))⟩
  t0 := Try.underlying0
  a0 := Try.isAgg0
  z0 := Try.sizeOf0
  v0 := Try.zeroValue0
  t3 := Try.underlying3
  a3 := Try.isAgg3
  z3 := Try.sizeOf3
  v3 := Try.zeroValue3
  t4 := Try.underlying4
  a4 := Try.isAgg4
  z4 := Try.sizeOf4
  v4 := Try.zeroValue4
  t5 := Try.underlying5
  a5 := Try.isAgg5
  z5 := Try.sizeOf5
  v5 := Try.zeroValue5
  t9 := Try.underlying9
  a9 := Try.isAgg9
  z9 := Try.sizeOf9
  v9 := Try.zeroValue9
  t22 := Try.underlying24
  a22 := Try.isAgg24
  z22 := Try.sizeOf24
  v22 := Try.zeroValue24
  t23 := Try.underlying24
  a23 := Try.isAgg24
  z23 := Try.sizeOf24
  v23 := Try.zeroValue24
  t25 := Try.underlying3
  a25 := Try.isAgg3
  z25 := Try.sizeOf3
  v25 := Try.zeroValue3
  t32 := Try.underlying82
  a32 := Try.isAgg82
  z32 := Try.sizeOf82
  v32 := Try.zeroValue82
  t35 := Try.underlying116
  a35 := Try.isAgg116
  z35 := Try.sizeOf116
  v35 := Try.zeroValue116
  t36 := Try.underlying117
  a36 := Try.isAgg117
  z36 := Try.sizeOf117
  v36 := Try.zeroValue117
  t41 := Try.underlying94
  a41 := Try.isAgg94
  z41 := Try.sizeOf94
  v41 := Try.zeroValue94
  t44 := Try.underlying96
  a44 := Try.isAgg96
  z44 := Try.sizeOf96
  v44 := Try.zeroValue96
  t46 := Try.underlying98
  a46 := Try.isAgg98
  z46 := Try.sizeOf98
  v46 := Try.zeroValue98
  t53 := Try.underlying129
  a53 := Try.isAgg129
  z53 := Try.sizeOf129
  v53 := Try.zeroValue129
  t57 := Try.underlying133
  a57 := Try.isAgg133
  z57 := Try.sizeOf133
  v57 := Try.zeroValue133
  t63 := Try.underlying140
  a63 := Try.isAgg140
  z63 := Try.sizeOf140
  v63 := Try.zeroValue140
  t64 := Try.underlying122
  a64 := Try.isAgg122
  z64 := Try.sizeOf122
  v64 := Try.zeroValue122 }
open Go.Sort Go.RowKit in
theorem Try.slices_Sort_int (blk off cap : Nat) (zs : List Int) (w : World) (hH : Holds (Value.int .i64) w blk off zs.toArray) (hblk : blk < w.heap.size) (hsz : zs.length < 4611686018427387904) :
    Calls Try.prog 56 #[.slice (some ⟨blk, off, none⟩) zs.length cap] w fun e w' =>
      e = .returned (.tuple #[]) ∧ ∃ n os, w' = grow (putRow (Value.int .i64) (Sort.ahead w n) blk off (zs.mergeSort fun x y => decide (x ≤ y)).toArray) os := AnyM.slices_Sort_int Try.laysSlM5_f56 blk off cap zs w hH hblk hsz
open Go.RowKit Go.Sort in
theorem Try.slices_Sort_int_none (p : Option Addr) (cap : Nat) (w : World) :
    Calls Try.prog 56 #[.slice p 0 cap] w fun e w' => e = .returned (.tuple #[]) ∧ w' = w := AnyM.slices_Sort_int_none Try.laysSlM5_f56 p cap w
end Go.Proofs
end
section
namespace Go.Proofs
open Go.Abs
theorem Try.rowK56 : Go.Abs.RowK Try.prog 56 (eI .i64) 1 [] sortI :=
  rowK_ints (by kernel_rfl) Try.slices_Sort_int Try.slices_Sort_int_none
end Go.Proofs
end
section
namespace Go.Abs
open Go Go.Sort Go.RowKit Go.Lib
set_option linter.unusedVariables false
theorem compact_len (zs : List Int) : (Lib.compact zs).length ≤ zs.length := by
  unfold Lib.compact Lib.compactUpTo
  rw [List.length_map]
  exact Nat.le_trans (List.length_filter_le _ _) (by simp)
theorem flatI (l : List Int) : (l.map (eI .i64)).flatten = l.map (D.int .i64) := by
  induction l with
  | nil => rfl
  | cons x l ih => simp only [List.map_cons, List.flatten_cons, ih]; rfl
theorem compK_ints {P : Program} {c : Nat} (hb : HasBody P c = true)
    (hs : ∀ (blk off cap : Nat) (zs : List Int) (w : World), Holds (Value.int .i64) w blk off zs.toArray → zs.length ≤ 9223372036854775807 → zs.length ≤ cap →
      Calls P c #[.slice (some ⟨blk, off, none⟩) zs.length cap] w fun e w' => e = .returned (.slice (some ⟨blk, off, none⟩) (Lib.compact zs).length cap) ∧ ∃ n, w' = putRow (Value.int .i64) (Sort.ahead w n) blk off (Lib.compact zs ++ List.replicate (zs.length - (Lib.compact zs).length) 0).toArray)
    (hnone : ∀ (p : Option Addr) (cap : Nat) (w : World), Calls P c #[.slice p 0 cap] w fun e' w' => e' = .returned (.slice p 0 cap) ∧ w' = w) :
    CompK P c (fun l => if l.length ≤ lim then some (Lib.compact l) else none) := by
  intro xs ys hf
  dsimp only at hf
  split at hf <;> cases hf
  rename_i hl
  refine ⟨compact_len xs, fun h0 => ?_, fun cap k0 M nb hcap hM => ?_⟩
  · subst h0
    refine ⟨rfl, fun M nb => ⟨hb, Nat.le_refl _, fun w g us hm hMon hfresh hus hfl hons => ?_⟩⟩
    obtain ⟨u0, us', rfl, hu0, rfl⟩ := hus
    have h2 := RF_d.1 hu0
    obtain ⟨a, cp, rfl, _, _⟩ := id h2
    refine (hnone a cp w).mono ?_
    rintro e' w' ⟨rfl, rfl⟩
    exact ⟨_, g, rfl, hm, hu0 _, trivial, hMon, Fr.refl _ _ _⟩
  refine ⟨hb, Nat.le_refl _, fun w g us hm hMon hfresh hus hfl hons => ?_⟩
  obtain ⟨u0, us', rfl, hu0, rfl⟩ := hus
  have h0 := RF_sl.1 hu0
  subst h0
  obtain ⟨hk0, hown, vals, et, hh, hrv, hone⟩ := hm.box k0 _ hM
  have hlt : g.box k0 < w.heap.size := (Array.getElem?_eq_some_iff.1 hh).1
  obtain ⟨hvl, hvr⟩ := (RVs_iff _ _ _ _).1 hrv
  simp only [thCells, flatI, List.map_map, List.length_append, List.length_map, List.length_replicate, Nat.mul_one] at hvl hvr
  have hcell : ∀ (j : Nat) (x : Int), xs[j]? = some x → vals[j]? = some (.int .i64 x) := by
    intro j x hx
    have hj := (List.getElem?_eq_some_iff.1 hx).1
    have hjv : j < vals.length := by omega
    have hc : (List.map (V.d ∘ D.int .i64) xs ++ List.replicate (cap - xs.length) V.und)[j]? = some (.d (.int .i64 x)) := by
      rw [List.getElem?_append_left (by rw [List.length_map]; exact hj), List.getElem?_map, hx]; rfl
    have := hvr j _ _ hc (List.getElem?_eq_getElem hjv)
    have h2 : vals[j] = .int .i64 x := this
    rw [List.getElem?_eq_getElem hjv, h2]
  have hH : Holds (Value.int .i64) w (g.box k0) 0 xs.toArray := by
    intro j hj
    have hj' : j < xs.length := by simpa using hj
    have := hcell j xs[j] (List.getElem?_eq_getElem hj')
    rw [Nat.zero_add]
    refine ⟨?_, by simp [World.frozen?, hh]⟩
    rw [getElem!_pos xs.toArray j hj]
    simp [World.cell?, hh, this]
  refine (hs (g.box k0) 0 cap xs w hH (by unfold lim at hl; omega) hcap).mono ?_
  rintro e' w' ⟨rfl, n, rfl⟩
  have hyl := compact_len xs
  generalize Lib.compact xs = ys at hyl ⊢
  generalize hF : (ys ++ List.replicate (xs.length - ys.length) 0).toArray = F
  have hFs : F.size = xs.length := by rw [← hF]; simp; omega
  have hput : putRow (Value.int .i64) (Sort.ahead w n) (g.box k0) 0 F = grow (putRow id (Sort.ahead w n) (g.box k0) 0 (F.map (Value.int .i64))) #[] := by
    have e1 : ∀ W : World, grow W #[] = W := fun W => by unfold grow; simp
    rw [e1]
    unfold putRow
    congr 1
    funext c
    unfold putCells
    congr 1
    funext k x
    simp only [Array.size_map]
    split
    · rename_i h
      simp only [id]
      rw [getElem!_pos _ _ (by omega), getElem!_pos _ _ (by simp; omega)]
      simp
    · rfl
  rw [hput]
  generalize hF' : F.map (Value.int .i64) = F'
  have hFs' : F'.size = xs.length := by rw [← hF', Array.size_map, hFs]
  have hFv : ∀ j (h : j < ys.length), F'[j]'(by omega) = Value.int .i64 ys[j] := by
    intro j h
    subst hF'
    subst hF
    simp only [List.getElem_toArray, Array.getElem_map]
    rw [List.getElem_append_left h]
  have hFi : ∀ j (h : j < F'.size), ∃ z : Int, F'[j] = Value.int .i64 z := by
    intro j h
    subst hF'
    exact ⟨_, Array.getElem_map ..⟩
  have hblk := heap_putRow w n (g.box k0) F' #[] hh
  have hoth : ∀ b, b ≠ g.box k0 → b < w.heap.size → (grow (putRow id (Sort.ahead w n) (g.box k0) 0 F') #[]).heap[b]? = w.heap[b]? := fun b hb hlt => heap_putRow_other w n _ F' #[] hb hlt
  have hsize : w.heap.size ≤ (grow (putRow id (Sort.ahead w n) (g.box k0) 0 F') #[]).heap.size := by
    simp [putRow, mapBlock, Sort.ahead]
  generalize hw' : grow (putRow id (Sort.ahead w n) (g.box k0) 0 F') #[] = w' at hblk hoth hsize
  have himm : Imm g.imm g.imm w w' := by
    refine ⟨fun _ _ h => h, fun b o h => ?_⟩
    obtain ⟨k1, k2⟩ := hm.imm b o h
    have hne : b ≠ g.box k0 := by rintro rfl; exact k2 k0 hown
    simp only [World.cell?, hoth b hne k1]
  have hkept : Kept g w g w' (There M) (fun o => o ≠ .box k0) := ⟨himm, fun _ _ => rfl, fun b hb hl => ⟨rfl, hoth b (by rintro rfl; exact hb hown) hl, fun _ => Iff.rfl⟩⟩
  have hsub : ∀ (o : Owner) i, o ≠ .box k0 → o.sub i ≠ .box k0 := by intro o i _; cases o <;> simp [Owner.sub]
  have hnew : ∀ p : Nat → Prop, V.ons p (thCells (ys.map (eI .i64)) ((cap - ys.length) * 1)) := by
    intro p
    rw [ons_iff]
    intro v hv
    simp only [thCells, List.mem_append, List.mem_map, List.mem_replicate] at hv
    rcases hv with ⟨x, _, rfl⟩ | ⟨_, rfl⟩ <;> trivial
  have hth : There (M.put k0 (.cells (thCells (ys.map (eI .i64)) ((cap - ys.length) * 1)))) k0 := by simp [There, Mem.put]
  refine ⟨_, g, rfl, ⟨fun k b hk => ?_, fun b o h => ⟨Nat.lt_of_lt_of_le (hm.imm b o h).1 hsize, (hm.imm b o h).2⟩⟩, by simp [RV], hth, fun k cs hk => ?_, ?_⟩
  · by_cases hkk : k = k0
    · subst hkk
      rw [put_same] at hk; cases hk
      refine ⟨hk0, hown, (putCells id 0 F' vals.toArray).toList, et, by simpa using hblk, (RVs_iff _ _ _ _).2 ⟨?_, fun j cc x hc hx => ?_⟩, fun x hx => ?_⟩
      · simp only [thCells, flatI, List.map_map, List.length_append, List.length_map, List.length_replicate, Nat.mul_one]
        simp [putCells]
        omega
      · have hx' : (putCells id 0 F' vals.toArray)[j]? = some x := by simpa using hx
        simp only [putCells, Array.getElem?_mapIdx, List.getElem?_toArray, Option.map_eq_some_iff] at hx'
        obtain ⟨y, hy, rfl⟩ := hx'
        simp only [thCells, flatI, List.map_map, Nat.mul_one] at hc
        by_cases hj : j < ys.length
        · rw [List.getElem?_append_left (by rw [List.length_map]; exact hj), List.getElem?_map, List.getElem?_eq_getElem hj, Option.map_some, Option.some.injEq] at hc
          subst hc
          rw [if_pos ⟨Nat.zero_le _, by omega⟩]
          simp only [Nat.sub_zero, id]
          rw [getElem!_pos F' j (by omega), hFv j hj]
          simp [RV, RD]
        · rw [List.getElem?_append_right (by rw [List.length_map]; omega)] at hc
          have : cc = .und := (List.mem_replicate.1 (List.mem_of_getElem? hc)).2
          subst this; simp [RV]
      · obtain ⟨j, hj⟩ := List.getElem?_of_mem hx
        have hx' : (putCells id 0 F' vals.toArray)[j]? = some x := by simpa using hj
        simp only [putCells, Array.getElem?_mapIdx, List.getElem?_toArray, Option.map_eq_some_iff] at hx'
        obtain ⟨y, hy, rfl⟩ := hx'
        split
        · rename_i hr
          simp only [id]
          rw [getElem!_pos F' _ (by omega)]
          obtain ⟨z, hz⟩ := hFi (j - 0) (by omega)
          rw [hz]
          exact val_one (x := .int .i64 z) rfl
        · exact hone y (List.mem_of_getElem? hy)
    · rw [put_other _ _ hkk] at hk
      obtain ⟨k1, k2, k3⟩ := hm.box k b hk
      cases b with
      | mp es c =>
        obtain ⟨ents, q1, q2⟩ := k3
        have hne : g.box k ≠ g.box k0 := by
          intro h; rw [h, hown] at k2; cases k2; exact hkk rfl
        exact ⟨k1, k2, ents, (hoth _ hne (Array.getElem?_eq_some_iff.1 q1).1).trans q1, RM_imm (g := g) (g' := g) hkept.imm q2⟩
      | cells cs =>
        obtain ⟨vals2, e2, q1, q2, q3⟩ := k3
        have hne : g.box k ≠ g.box k0 := by
          intro h; rw [h, hown] at k2; cases k2; exact hkk rfl
        refine ⟨k1, k2, vals2, e2, (hoth _ hne (Array.getElem?_eq_some_iff.1 q1).1).trans q1, ?_, q3⟩
        exact RVs_mono hkept hsub (by simp) cs (.box k) 0 vals2 (by simpa using hkk) (hMon k cs hk) q2
  · by_cases hkk : k = k0
    · subst hkk
      rw [put_same] at hk; cases hk
      exact hnew _
    · rw [put_other _ _ hkk] at hk
      exact ons_mono (fun j hj => There.put hj) _ (hMon k cs hk)
  · refine ⟨by rw [← hw']; rfl, by rw [← hw']; rfl, by rw [← hw']; rfl, hsize, himm, fun _ _ => rfl, fun b hb ho => ⟨rfl, hoth b ?_ hb, fun _ => Iff.rfl⟩⟩
    rintro rfl
    rw [hown] at ho
    exact ho
end Go.Abs
end
section
namespace Go.Proofs
open Go.Shelf
def Try.laysNm220_ren : Go.Shelf.Ren := ⟨fun | 20 => 57 | n => n, fun | 22 => 24 | 3 => 3 | 4 => 4 | 0 => 0 | n => n, fun | n => n⟩
theorem Try.laysNm220 : Go.Proofs.Lays2.n20 Try.prog Try.laysNm220_ren := {
  mixed := by kernel_rfl
  f20 := Try.func57.trans (congrArg some (by kernel_rfl))
  t0 := Try.underlying0
  a0 := Try.isAgg0
  z0 := Try.sizeOf0
  v0 := Try.zeroValue0
  t3 := Try.underlying3
  a3 := Try.isAgg3
  z3 := Try.sizeOf3
  v3 := Try.zeroValue3
  t4 := Try.underlying4
  a4 := Try.isAgg4
  z4 := Try.sizeOf4
  v4 := Try.zeroValue4
  t22 := Try.underlying24
  a22 := Try.isAgg24
  z22 := Try.sizeOf24
  v22 := Try.zeroValue24
  i3 := by kernel_rfl }
open Go.RowKit Go.Lib Go.Sort in
theorem Try.slices_Compact_int (blk off cap : Nat) (zs : List Int) (w : World) (hH : Holds (Value.int .i64) w blk off zs.toArray) (hsz : zs.length ≤ 9223372036854775807) (hcap : zs.length ≤ cap) :
    Calls Try.prog 57 #[.slice (some ⟨blk, off, none⟩) zs.length cap] w fun e w' => e = .returned (.slice (some ⟨blk, off, none⟩) (Lib.compact zs).length cap) ∧ ∃ q, w' = putRow (Value.int .i64) (Sort.ahead w q) blk off (Lib.compact zs ++ List.replicate (zs.length - (Lib.compact zs).length) 0).toArray := Any.slices_Compact_int Try.laysNm220 blk off cap zs w hH hsz hcap
open Go.RowKit Go.Lib Go.Sort in
theorem Try.slices_Compact_int_empty (a : Option Addr) (cap : Nat) (w : World) :
    Calls Try.prog 57 #[.slice a 0 cap] w fun e w' => e = .returned (.slice a 0 cap) ∧ w' = w := Any.slices_Compact_int_empty Try.laysNm220 a cap w
end Go.Proofs
end
section
namespace Go.Proofs
open Go.Abs
theorem Try.compK57 : Go.Abs.CompK Try.prog 57 compactI :=
  compK_ints (by kernel_rfl) Try.slices_Compact_int Try.slices_Compact_int_empty
end Go.Proofs
end
section
namespace Go.Proofs
open Go Go.Abs
set_option linter.unusedVariables false
set_option maxRecDepth 10000
set_option maxHeartbeats 4000000
theorem ok_slices_Index_int : K_slices_Index_int Try.prog 52 g_slices_Index_int := slices_Index_int_walk C_slices_Index_int fuel0
theorem ok_slices_Contains_int : K_slices_Contains_int Try.prog 13 g_slices_Contains_int := slices_Contains_int_walk ok_slices_Index_int C_slices_Contains_int
theorem ok_requirement_distinct : K_requirement_distinct Try.prog 47 g_requirement_distinct := requirement_distinct_walk ok_slices_Contains_int C_requirement_distinct fuel0
theorem ok_slices_Clone_int : K_slices_Clone_int Try.prog 23 g_slices_Clone_int := slices_Clone_int_walk C_slices_Clone_int
theorem ok_requirement_sorted : K_requirement_sorted Try.prog 49 g_requirement_sorted := requirement_sorted_walk ok_slices_Clone_int Try.rowK56 C_requirement_sorted
theorem ok_requirement_Alternate_1 : K_requirement_Alternate_1 Try.prog 67 g_requirement_Alternate_1 := requirement_Alternate_1_walk C_requirement_Alternate_1
theorem ok_requirement_explore : K_requirement_explore Try.prog 48 g_requirement_explore := requirement_explore_walk C_requirement_explore fuel0
theorem ok_requirement_first : K_requirement_first Try.prog 60 g_requirement_first := requirement_first_walk C_requirement_first
theorem ok_requirement_Alternate : K_requirement_Alternate Try.prog 31 g_requirement_Alternate := requirement_Alternate_walk ok_requirement_distinct ok_requirement_explore ok_requirement_sorted ok_requirement_first ok_requirement_Alternate_1 C_requirement_Alternate
theorem ok_alphabet_CheckSet : K_alphabet_CheckSet Try.prog 20 g_alphabet_CheckSet := alphabet_CheckSet_walk C_alphabet_CheckSet fuel0
theorem ok_alphabet_merge : K_alphabet_merge Try.prog 83 g_alphabet_merge := alphabet_merge_walk C_alphabet_merge fuel0
theorem ok_alphabet_Intersect_1 : K_alphabet_Intersect_1 Try.prog 113 g_alphabet_Intersect_1 := alphabet_Intersect_1_walk C_alphabet_Intersect_1
theorem ok_alphabet_Intersect : K_alphabet_Intersect Try.prog 82 g_alphabet_Intersect := alphabet_Intersect_walk ok_alphabet_merge ok_alphabet_Intersect_1 C_alphabet_Intersect
theorem ok_requirement_sets : K_requirement_sets Try.prog 58 g_requirement_sets := requirement_sets_walk ok_alphabet_CheckSet ok_alphabet_Intersect C_requirement_sets fuel0
theorem ok_alphabet_Union_1 : K_alphabet_Union_1 Try.prog 84 g_alphabet_Union_1 := alphabet_Union_1_walk C_alphabet_Union_1
theorem ok_alphabet_Union : K_alphabet_Union Try.prog 59 g_alphabet_Union := alphabet_Union_walk ok_alphabet_merge ok_alphabet_Union_1 C_alphabet_Union
theorem ok_cmp_isNaN_int : K_cmp_isNaN_int Try.prog 128 g_cmp_isNaN_int := cmp_isNaN_int_walk C_cmp_isNaN_int
theorem ok_cmp_Less_int : K_cmp_Less_int Try.prog 108 g_cmp_Less_int := cmp_Less_int_walk ok_cmp_isNaN_int C_cmp_Less_int
theorem ok_slices_isNaN_int : K_slices_isNaN_int Try.prog 114 g_slices_isNaN_int := slices_isNaN_int_walk C_slices_isNaN_int
theorem ok_slices_BinarySearch_int : K_slices_BinarySearch_int Try.prog 85 g_slices_BinarySearch_int := slices_BinarySearch_int_walk ok_cmp_Less_int ok_slices_isNaN_int C_slices_BinarySearch_int fuel0
theorem ok_alphabet_Contains : K_alphabet_Contains Try.prog 62 g_alphabet_Contains := alphabet_Contains_walk ok_slices_BinarySearch_int C_alphabet_Contains
theorem ok_requirement_Buffer_1 : K_requirement_Buffer_1 Try.prog 61 g_requirement_Buffer_1 := requirement_Buffer_1_walk ok_alphabet_Contains C_requirement_Buffer_1
theorem ok_requirement_Buffer : K_requirement_Buffer Try.prog 19 g_requirement_Buffer := requirement_Buffer_walk ok_requirement_explore ok_requirement_sets ok_alphabet_Union ok_requirement_first ok_requirement_Buffer_1 C_requirement_Buffer
theorem ok_bits_OnesCount64 : K_bits_OnesCount64 Try.prog 78 g_bits_OnesCount64 := bits_OnesCount64_walk C_bits_OnesCount64
theorem ok_bits_OnesCount : K_bits_OnesCount Try.prog 53 g_bits_OnesCount := bits_OnesCount_walk ok_bits_OnesCount64 C_bits_OnesCount
theorem ok_requirement_AtMost_1 : K_requirement_AtMost_1 Try.prog 51 g_requirement_AtMost_1 := requirement_AtMost_1_walk ok_slices_Index_int ok_bits_OnesCount C_requirement_AtMost_1
theorem ok_requirement_all : K_requirement_all Try.prog 50 g_requirement_all := requirement_all_walk C_requirement_all
theorem ok_requirement_AtMost : K_requirement_AtMost Try.prog 11 g_requirement_AtMost := requirement_AtMost_walk ok_requirement_distinct ok_requirement_explore ok_requirement_sorted ok_requirement_all ok_requirement_AtMost_1 C_requirement_AtMost fuel0
theorem ok_automaton_checkSet : K_automaton_checkSet Try.prog 86 g_automaton_checkSet := automaton_checkSet_walk C_automaton_checkSet fuel0
theorem ok_automaton_checkEdges : K_automaton_checkEdges Try.prog 87 g_automaton_checkEdges := automaton_checkEdges_walk ok_slices_Contains_int C_automaton_checkEdges fuel0
theorem ok_automaton_Check : K_automaton_Check Try.prog 68 g_automaton_Check := automaton_Check_walk ok_automaton_checkSet ok_automaton_checkEdges C_automaton_Check
theorem ok_automaton_checkState : K_automaton_checkState Try.prog 93 g_automaton_checkState := automaton_checkState_walk ok_automaton_Check C_automaton_checkState
theorem ok_slices_BinarySearchFunc_int : K_slices_BinarySearchFunc_int Try.prog 116 g_slices_BinarySearchFunc_int := slices_BinarySearchFunc_int_walk C_slices_BinarySearchFunc_int fuel0
theorem ok_automaton_out_1 : K_automaton_out_1 Try.prog 117 g_automaton_out_1 := automaton_out_1_walk C_automaton_out_1
theorem ok_automaton_out_2 : K_automaton_out_2 Try.prog 118 g_automaton_out_2 := automaton_out_2_walk C_automaton_out_2
theorem ok_automaton_out : K_automaton_out Try.prog 94 g_automaton_out := automaton_out_walk ok_slices_BinarySearchFunc_int ok_automaton_out_1 ok_automaton_out_2 C_automaton_out
theorem ok_automaton_Enabled : K_automaton_Enabled Try.prog 72 g_automaton_Enabled := automaton_Enabled_walk ok_automaton_checkState ok_automaton_out C_automaton_Enabled fuel0
theorem ok_alphabet_Minus_1 : K_alphabet_Minus_1 Try.prog 95 g_alphabet_Minus_1 := alphabet_Minus_1_walk C_alphabet_Minus_1
theorem ok_alphabet_Minus : K_alphabet_Minus Try.prog 73 g_alphabet_Minus := alphabet_Minus_walk ok_alphabet_merge ok_alphabet_Minus_1 C_alphabet_Minus
theorem ok_requirement_Refused : K_requirement_Refused Try.prog 36 g_requirement_Refused := requirement_Refused_walk ok_automaton_Enabled ok_alphabet_Minus C_requirement_Refused
theorem ok_slices_Equal_int : K_slices_Equal_int Try.prog 40 g_slices_Equal_int := slices_Equal_int_walk C_slices_Equal_int fuel0
theorem ok_slices_Equal_Edge : K_slices_Equal_Edge Try.prog 46 g_slices_Equal_Edge := slices_Equal_Edge_walk C_slices_Equal_Edge fuel0
theorem ok_overseerlaw21_known : K_overseerlaw21_known Try.prog 10 g_overseerlaw21_known := overseerlaw21_known_walk ok_requirement_AtMost ok_requirement_Buffer ok_requirement_Alternate ok_requirement_Refused ok_slices_Equal_int ok_slices_Equal_Edge C_overseerlaw21_known
theorem ok_overseerlaw21_in : K_overseerlaw21_in Try.prog 12 g_overseerlaw21_in := overseerlaw21_in_walk C_overseerlaw21_in
theorem ok_automaton_Equal : K_automaton_Equal Try.prog 14 g_automaton_Equal := automaton_Equal_walk ok_slices_Equal_int ok_slices_Equal_Edge C_automaton_Equal
theorem ok_overseerlaw21_sorted : K_overseerlaw21_sorted Try.prog 16 g_overseerlaw21_sorted := overseerlaw21_sorted_walk ok_slices_Clone_int Try.rowK56 Try.compK57 C_overseerlaw21_sorted
theorem ok_overseerlaw21_RequirementPhases_1 : K_overseerlaw21_RequirementPhases_1 Try.prog 17 g_overseerlaw21_RequirementPhases_1 := overseerlaw21_RequirementPhases_1_walk C_overseerlaw21_RequirementPhases_1 fuel0
theorem ok_overseerlaw21_build_int_1 : K_overseerlaw21_build_int_1 Try.prog 79 g_overseerlaw21_build_int_1 := overseerlaw21_build_int_1_walk C_overseerlaw21_build_int_1
theorem ok_slices_IndexFunc_int : K_slices_IndexFunc_int Try.prog 63 g_slices_IndexFunc_int := slices_IndexFunc_int_walk C_slices_IndexFunc_int fuel0
theorem ok_overseerlaw21_build_int : K_overseerlaw21_build_int Try.prog 54 g_overseerlaw21_build_int := overseerlaw21_build_int_walk ok_slices_IndexFunc_int ok_overseerlaw21_build_int_1 C_overseerlaw21_build_int fuel0
theorem ok_overseerlaw21_counter_1 : K_overseerlaw21_counter_1 Try.prog 55 g_overseerlaw21_counter_1 := overseerlaw21_counter_1_walk C_overseerlaw21_counter_1
theorem ok_overseerlaw21_counter : K_overseerlaw21_counter Try.prog 15 g_overseerlaw21_counter := overseerlaw21_counter_walk ok_overseerlaw21_build_int ok_overseerlaw21_counter_1 C_overseerlaw21_counter
theorem ok_overseerlaw21_always_int : K_overseerlaw21_always_int Try.prog 18 g_overseerlaw21_always_int := overseerlaw21_always_int_walk C_overseerlaw21_always_int
theorem ok_overseerlaw21_RequirementPhases : K_overseerlaw21_RequirementPhases Try.prog 3 g_overseerlaw21_RequirementPhases := overseerlaw21_RequirementPhases_walk ok_overseerlaw21_known ok_requirement_AtMost ok_overseerlaw21_in ok_slices_Contains_int ok_automaton_Equal ok_overseerlaw21_counter ok_overseerlaw21_sorted ok_overseerlaw21_RequirementPhases_1 ok_overseerlaw21_always_int C_overseerlaw21_RequirementPhases fuel0
end Go.Proofs
end
section
namespace Go.Abs
open Go Go.ChangeShapes Go.WideShapes Go.ChangeAt Go.RowKit
set_option linter.unusedVariables false
set_option linter.unusedSimpArgs false
def live (w : World) : Nat → Nat → Prop := fun b o => (w.cell? ⟨b, o, none⟩).isSome = true
def RDs (w : World) : List D → List Value → Prop
  | [], vs => vs = []
  | x :: xs, vs => ∃ u us, vs = u :: us ∧ RD (live w) w x u ∧ RDs w xs us
theorem RDs_append {w : World} : ∀ {xs ys : List D} {us vs : List Value}, RDs w xs us → RDs w ys vs → RDs w (xs ++ ys) (us ++ vs)
  | [], ys, us, vs, h, k => by simp only [RDs] at h; subst h; simpa using k
  | x :: xs, ys, us, vs, ⟨u, us', e, r, h⟩, k => by subst e; exact ⟨u, us' ++ vs, by simp, r, RDs_append h k⟩
def RDat (w : World) (cs : List Value) (off : Nat) (xs : List D) : Prop := RDs w xs ((cs.drop off).take xs.length)
theorem RDat.app {w : World} {cs : List Value} {off : Nat} {xs ys : List D} (h : RDat w cs off xs) {n : Nat} (hn : n = off + xs.length) (k : RDat w cs n ys) : RDat w cs off (xs ++ ys) := by
  subst hn
  have := RDs_append h k
  unfold RDat
  rw [List.length_append, List.take_add, List.drop_drop]
  exact this
theorem RDat.nil {w : World} {cs : List Value} {off : Nat} : RDat w cs off [] := by simp [RDat, RDs]
theorem RDat.all {w : World} {cs : List Value} {xs : List D} (h : RDat w cs 0 xs) (hl : cs.length = xs.length) : RDs w xs cs := by
  unfold RDat at h
  rw [List.drop_zero, ← hl, List.take_length] at h
  exact h
theorem RDs_RDc {w : World} {b : Nat} : ∀ {xs : List D} {vs : List Value} {o : Nat}, RDs w xs vs → (∀ i v, vs[i]? = some v → w.cell? ⟨b, o + i, none⟩ = some v) → RDc (live w) w b xs o
  | [], vs, o, _, _ => by simp [RDc]
  | x :: xs, vs, o, ⟨u, us, e, r, h⟩, hc => by
    subst e
    have h0 := hc 0 u rfl
    rw [Nat.add_zero] at h0
    refine ⟨by simp [live, h0], ⟨u, h0, r⟩, RDs_RDc h fun i v hv => ?_⟩
    have := hc (i + 1) v (by simpa using hv)
    rw [show o + 1 + i = o + (i + 1) from by omega]; exact this
def Reads {α : Type} (P : Program) (t : TypeId) (e : α → List D) (wf : α → Prop) : Prop :=
  ∀ {H : Type} {enc : TypeId × Value → H} {w : World} {base : Nat} {spare : Nat → Bool} {held : Bool} {fuel : Nat} {cs : List Value} {x : DataW H × List MemPlace},
    DataW.trod enc P w base spare held fuel t cs = some x → ∃ a, wf a ∧ RDs w (e a) cs
def wfI (k : IntKind) (n : Int) : Prop := (Lit.int k n).wf = true
def wfL {α : Type} (wf : α → Prop) (l : List α) : Prop := l.length ≤ maxLen ∧ ∀ a ∈ l, wf a
variable {P : Program} {t : TypeId}
theorem reads_int {k : IntKind} (ht : P.underlying t = some (.int k)) : Reads P t (fun n : Int => [.int k n]) (wfI k) := by
  intro H enc w base spare held fuel cs x h
  obtain ⟨n, rfl, _, hw⟩ := DataW.trod_int ht h
  exact ⟨n, hw, _, _, rfl, by simp [RD], rfl⟩
theorem cells?_get {w : World} {base : Nat} {a : Addr} {n : Nat} {cs : List Value} (h : w.cells? base a n = some cs) : cs.length = n ∧ ∀ i v, cs[i]? = some v → w.cell? (a.add i) = some v := by
  obtain ⟨h1, h2, h3⟩ := World.cells?_some h
  refine ⟨h2, fun i v hv => ?_⟩
  have hi := (List.getElem?_eq_some_iff.1 hv).1
  have := h3 i (by omega)
  rw [this]; simpa using hv
theorem reads_slice {α : Type} {el : TypeId} {e : α → List D} {wf : α → Prop} {sz : Nat} (ht : P.underlying t = some (.slice el)) (he : Reads P el e wf) (hsz : P.cellsOf el = sz) (hpos : 0 < sz) (hlen : ∀ a, (e a).length = sz) :
    Reads P t (fun l : List α => [.lst sz (l.map e)]) (wfL wf) := by
  intro H enc w base spare held fuel cs x h
  rcases DataW.trod_slice ht h with ⟨rfl, _⟩ | ⟨a, len, cap, elems, rest, n, _, rfl, _, hb, hl, hm, helen, hel, _, _⟩
  · exact ⟨[], ⟨by simp, by simp⟩, _, _, rfl, by simp only [RD, List.map_nil, List.length_nil]; exact ⟨none, 0, rfl, Nat.le_refl _, .inl trivial⟩, rfl⟩
  · have key : ∀ m, m ≤ len → ∃ l : List α, l.length = m ∧ (∀ x ∈ l, wf x) ∧ ∀ i y, l[i]? = some y → ∃ vs, w.cells? base (a.add (i * sz)) sz = some vs ∧ RDs w (e y) vs := by
      intro m
      induction m with
      | zero => exact fun _ => ⟨[], rfl, by simp, by simp⟩
      | succ m ih =>
        intro hm'
        obtain ⟨l, h1, h2, h3⟩ := ih (by omega)
        have h4 := hel m (by omega)
        have h5 : elems[m]? = some elems[m] := List.getElem?_eq_getElem (by omega)
        rw [h5, hsz, Option.bind_eq_some_iff] at h4
        obtain ⟨vs, h6, h7⟩ := h4
        obtain ⟨y, h8, h9⟩ := he h7
        refine ⟨l ++ [y], by simp [h1], ?_, fun i z hz => ?_⟩
        · intro x hx
          rcases List.mem_append.1 hx with hx | hx
          · exact h2 x hx
          · simp at hx; subst hx; exact h8
        · by_cases hi : i < m
          · rw [List.getElem?_append_left (by omega)] at hz; exact h3 i z hz
          · have : i = m := by
              have := (List.getElem?_eq_some_iff.1 hz).1
              simp at this; omega
            subst this
            rw [List.getElem?_append_right (by omega), h1] at hz
            simp at hz; subst hz
            exact ⟨vs, h6, h9⟩
    obtain ⟨l, h1, h2, h3⟩ := key len (Nat.le_refl _)
    have hmax : l.length ≤ maxLen := by omega
    refine ⟨l, ⟨hmax, h2⟩, _, _, rfl, ?_, rfl⟩
    simp only [RD, List.length_map, h1]
    refine ⟨some a, cap, rfl, hl, ?_⟩
    cases l with
    | nil => exact .inl rfl
    | cons y l =>
      right
      have hspot : a.spot = none := by
        obtain ⟨vs, h4, h5⟩ := h3 0 y rfl
        obtain ⟨h6, h7⟩ := cells?_get h4
        have hv : vs[0]? = some vs[0] := List.getElem?_eq_getElem (by omega)
        have := h7 0 _ hv
        cases hs : a.spot with
        | none => rfl
        | some s =>
          unfold World.cell? at this
          split at this
          · simp [Addr.add, hs] at this
          · cases this
      obtain ⟨b, o, sp⟩ := a
      simp only at hspot
      subst hspot
      refine ⟨b, o, rfl, ?_⟩
      have row : ∀ (l : List α) (j : Nat), (∀ i y, l[i]? = some y → ∃ vs, w.cells? base ((⟨b, o, none⟩ : Addr).add ((j + i) * sz)) sz = some vs ∧ RDs w (e y) vs) → RDL (live w) w sz b (l.map e) (o + j * sz) := by
        intro l
        induction l with
        | nil => intro j _; simp [RDL]
        | cons y l ih =>
          intro j h
          obtain ⟨vs, h4, h5⟩ := h 0 y rfl
          obtain ⟨h6, h7⟩ := cells?_get h4
          refine ⟨hlen y, RDs_RDc h5 fun i v hv => ?_, ?_⟩
          · have := h7 i v hv
            rw [addr_add, addr_add] at this
            simpa [Nat.add_assoc] using this
          · have := ih (j + 1) fun i y hy => by
              have := h (i + 1) y (by simpa using hy)
              rw [show j + 1 + i = j + (i + 1) from by omega]; exact this
            rw [show o + j * sz + sz = o + (j + 1) * sz from by rw [Nat.add_mul]; omega]
            exact this
      have := row (y :: l) 0 fun i y hy => by simpa using h3 i y hy
      simpa using this
theorem reads_at {α : Type} {el : TypeId} {e : α → List D} {wf : α → Prop} {sz : Nat} (he : Reads P el e wf) (hsz : P.cellsOf el = sz) (hlen : ∀ a, (e a).length = sz)
    {H : Type} {enc : TypeId × Value → H} {w : World} {base : Nat} {spare : Nat → Bool} {held : Bool} {fuel off : Nat} {cs : List Value} {x : DataW H × List MemPlace}
    (h : DataW.trod enc P w base spare held fuel el ((cs.drop off).take (P.cellsOf el)) = some x) : ∃ a, wf a ∧ RDat w cs off (e a) := by
  obtain ⟨a, h1, h2⟩ := he h
  refine ⟨a, h1, ?_⟩
  unfold RDat
  rw [hlen, ← hsz]; exact h2
theorem struct_at {H : Type} {enc : TypeId × Value → H} {w : World} {base : Nat} {spare : Nat → Bool} {held : Bool} {fuel : Nat} {cs : List Value} {x : DataW H × List MemPlace} {fs : Array Field}
    (ht : P.underlying t = some (.struct fs)) (h : DataW.trod enc P w base spare held fuel t cs = some x) :
    cs.length = P.cellsOf t ∧ ∃ n, ∀ (i : Nat) (f : Field), fs[i]? = some f → ∃ y, DataW.trod enc P w base spare held n f.type ((cs.drop f.offset).take (P.cellsOf f.type)) = some y := by
  obtain ⟨xs, n, _, _, h1, h2, h3⟩ := DataW.trod_struct ht h
  refine ⟨h1, n, fun i f hf => ?_⟩
  have hi : i < fs.size := (Array.getElem?_eq_some_iff.1 hf).1
  exact ⟨xs[i]'(by omega), by rw [h3 i f hf]; exact List.getElem?_eq_getElem (by omega)⟩
def ArgReads {α : Type} (P : Program) (t : TypeId) (v : α → V) (wf : α → Prop) : Prop :=
  ∀ {H : Type} {enc : TypeId × Value → H} {w : World} {base b0 : Nat} {spare : Nat → Bool} {held : Bool} {u : Value} {d : DataW H} {ps : List MemPlace},
    Value.okWide P w .any b0 t u → DataW.Trod enc P w base spare held t u d ps → ∃ a, wf a ∧ RF ⟨fun _ => 0, live w, fun _ => .ext⟩ w (v a) u
theorem arg_one {α : Type} {e : α → D} {wf : α → Prop} (he : Reads P t (fun a => [e a]) wf) (hone : ∀ w b0 u, Value.okWide P w .any b0 t u → u.cells = #[u]) : ArgReads P t (fun a => .d (e a)) wf := by
  intro H enc w base b0 spare held u d ps hok hd
  obtain ⟨fuel, hf⟩ := hd
  rw [hone _ _ _ hok] at hf
  obtain ⟨a, h1, u', us, h2, h3, h4⟩ := he hf
  simp only [RDs] at h4; subst h4
  simp at h2; subst h2
  exact ⟨a, h1, fun ℓ => by simpa [RV] using h3⟩
theorem one_int {k : IntKind} (ht : P.underlying t = some (.int k)) : ∀ w b0 u, Value.okWide P w .any b0 t u → u.cells = #[u] := by
  intro w b0 u h
  simp only [Value.okWide, ht] at h
  cases u <;> first | rfl | (simp [Cell.okWide, Cell.ok, ht] at h)
theorem one_slice {el : TypeId} (ht : P.underlying t = some (.slice el)) : ∀ w b0 u, Value.okWide P w .any b0 t u → u.cells = #[u] := by
  intro w b0 u h
  simp only [Value.okWide, ht] at h
  cases u <;> first | rfl | (simp [Cell.okWide, Cell.ok, ht] at h)
def LawOK (P : Program) (f : FuncId) (ts : List TypeId) : Prop :=
  ∀ {H : Type} {enc : TypeId × Value → H} {w : World} {b0 : Nat} {us : List Value} {ds : List (DataW H)} {ps : List MemPlace},
    (∀ (j : Nat) t u, ts[j]? = some t → us[j]? = some u → Value.okWide P w .any b0 t u) → DataW.TrodAll enc P w 0 (fun _ => true) true ts us ds ps →
    ∃ vs, RFs ⟨fun _ => 0, live w, fun _ => .ext⟩ w vs us ∧ (∀ x ∈ vs, Flat x) ∧ V.lt.go 0 vs = true ∧ ∀ M nb, ACalls P f vs M nb (.d (.bool true)) M nb
theorem trodAll_stays (hl : laidOutB P = true) {W W' : World} {sp : Nat → Bool} {H : Type} {enc : TypeId × Value → H} : ∀ {ts : List TypeId} {us : List Value} {ds : List (DataW H)} {ps : List MemPlace},
    (∀ t ∈ ts, P.readableRec t = true ∧ t < P.types.size) → DataW.TrodAll enc P W 0 (fun _ => true) true ts us ds ps → (∀ p ∈ ps, W.sameAt W' p) → (∀ p ∈ ps, sp p.block = true) → DataW.TrodAll enc P W' 0 sp true ts us ds ps
  | [], [], [], ps, _, h, _, _ => h
  | t :: ts, u :: us, d :: ds, ps, hr, ⟨p, q, h1, h2, e⟩, hs, hp => by
    subst e
    obtain ⟨r1, r2⟩ := hr t (by simp)
    exact ⟨p, q, WideElems.Trod_stays hl r1 r2 h1 (fun x hx => hs x (by simp [hx])) (fun x hx => hp x (by simp [hx])), trodAll_stays hl (fun t ht => hr t (by simp [ht])) h2 (fun x hx => hs x (by simp [hx])) (fun x hx => hp x (by simp [hx])), rfl⟩
  | [], [], _ :: _, _, _, h, _, _ => h.elim
  | [], _ :: _, _, _, _, h, _, _ => h.elim
  | _ :: _, [], _, _, _, h, _, _ => h.elim
  | _ :: _, _ :: _, [], _, _, h, _, _ => h.elim
theorem trodAll_len {W : World} {sp : Nat → Bool} {held : Bool} {base : Nat} {H : Type} {enc : TypeId × Value → H} : ∀ {ts : List TypeId} {us : List Value} {ds : List (DataW H)} {ps : List MemPlace},
    DataW.TrodAll enc P W base sp held ts us ds ps → ds.length = ts.length ∧ us.length = ts.length
  | [], [], [], ps, h => ⟨rfl, rfl⟩
  | t :: ts, u :: us, d :: ds, ps, ⟨p, q, h1, h2, e⟩ => by have := trodAll_len h2; simp [this.1, this.2]
  | [], [], _ :: _, _, h => h.elim
  | [], _ :: _, _, _, h => h.elim
  | _ :: _, [], _, _, h => h.elim
  | _ :: _, _ :: _, [], _, h => h.elim
theorem law_returns {C : Checked} {f : FuncId} {fn : Func} {s : ChangeSpec} {conds : List PathCond} {bt : TypeId} {os : Os} {H : Type} {enc : TypeId × Value → H}
    (own : ownKnob C.prog.godebug = none) (started : os.Started) (noInit : C.prog.inits.idxOf? f = none) (hfn : C.prog.funcs[f]? = some fn)
    (witness : ∃ (w : World) (tape : Tape) (i : Input), w.os = os ∧ (w.forCall tape i).Shaped C.prog ∧ i.vars = [] ∧ Input.okWide C.prog (w.forCall tape i) .any w.heap.size f i ∧
      s.pre6 enc C.prog fn conds false (w.forCall tape i).memory i.args ∧ ({} : Assume).holds C.prog (lone (Frame.enter C.prog f i.args .normal) [] (w.forCall tape i)))
    (hvars : s.vars = []) (hres : fn.resultTypes = #[bt]) (hbt : C.prog.underlying bt = some .bool)
    (hl : laidOutB C.prog = true) (hread : ∀ t ∈ fn.params.toList, C.prog.readableRec t = true ∧ t < C.prog.types.size)
    (hspec : ∀ ds : List (DataW H), ds.length = fn.params.size → s.fn H ds = { results := [.lit (.bool true)], args := ds })
    (law : LawOK C.prog f fn.params.toList) :
    ReturnsInHanded {} C os f .any (s.pre6 enc C.prog fn conds false) (s.post enc C.prog fn false true false false) := by
  refine returnsInHanded_of_change own started noInit hfn witness ?_
  intro W base args ds gs before hval hW hcnd _
  have hW' := hW
  obtain ⟨p, q, hA, hV, hps, hfz, hnd⟩ := hW
  rw [hvars] at hV
  obtain ⟨rfl, rfl⟩ : gs = [] ∧ q = [] := by
    cases gs with
    | nil => exact ⟨rfl, hV⟩
    | cons _ _ => exact hV.elim
  obtain ⟨vs, h1, h2, h3, h4⟩ := law (fun j t u ht hu => hval j t u (by simpa using ht) (by simpa using hu)) hA
  obtain ⟨hb, _, h5⟩ := h4 (fun _ => none) 0
  have hlv : ∀ b o, live W b o → b < W.heap.size := by
    intro b o h
    simp only [live] at h
    obtain ⟨v, hv⟩ := Option.isSome_iff_exists.1 h
    unfold World.cell? at hv
    split at hv
    · rename_i hh; exact (Array.getElem?_eq_some_iff.1 hh).1
    · cases hv
  have hmr : MR ⟨fun _ => 0, live W, fun _ => .ext⟩ W (fun _ => none) 0 := ⟨fun k b h => (by cases h), fun b o h => ⟨hlv b o h, fun k h => by cases h⟩⟩
  have h6 := h5 W ⟨fun _ => 0, live W, fun _ => .ext⟩ args.toList hmr (fun k cs h => by cases h) (fun b => ⟨fun t p h => (by cases h), fun p h => (by cases h)⟩) h1 h2 (ons_mono (fun k hk => absurd hk (Nat.not_lt_zero k)) _ (ons_lt vs h3))
  refine Calls.mono h6 fun e W' ⟨v, g', he, _, hr, _, _, hf⟩ => ?_
  subst he
  have hv : v = .bool true := by simpa [RV, RD] using hr
  subst hv
  have hbelow : Below W.heap.size W W' := ⟨hf.os, hf.tape, hf.output, hf.size, fun k hk => (hf.old k hk trivial).2.1⟩
  have hrl : (Value.bool true).resultList fn.resultTypes.size = [.bool true] := by rw [hres]; rfl
  have hsp : s.fn H (ds ++ []) = { results := [.lit (.bool true)], args := ds } := by
    rw [List.append_nil]
    exact hspec ds (by have := (trodAll_len hA).1; simpa using this)
  have hlt : ∀ p ∈ before, p.block < W.heap.size := fun x hx => hW'.lt x hx
  have hst : ∀ sp : Nat → Bool, (∀ p ∈ before, sp p.block = true) → DataW.TrodAll enc C.prog W' 0 sp true fn.params.toList args.toList ds before := by
    intro sp hsp'
    have e : p = before := by rw [hps, List.append_nil]
    subst e
    exact trodAll_stays hl hread hA (fun x hx => hbelow.same (hlt x hx)) hsp'
  refine ⟨_, rfl, ds, [], before, [], before, [], hW', ?_, ?_, ?_, World.keptBut_mono (fun p hp => ⟨hp, .inr (.inl hp)⟩) (hbelow.frame (· ∈ before)), fun h => by cases h⟩
  · rw [hsp, hrl, hres]
    exact ⟨[], [], ⟨1, by simp [DataW.trod, Value.cells, hbt]⟩, rfl, rfl⟩
  · rw [hsp]
    exact hst _ fun p hp => by simpa using hlt p hp
  · rw [hsp, hvars]; rfl
section
variable {α β γ δ : Type} {f : FuncId} {ta tb tc td : TypeId} {va : α → V} {vb : β → V} {vc : γ → V} {vd : δ → V} {wa : α → Prop} {wb : β → Prop} {wc : γ → Prop} {wd : δ → Prop}
theorem trodAll_two {H : Type} {enc : TypeId × Value → H} {w : World} {base : Nat} {sp : Nat → Bool} {held : Bool} {t : TypeId} {ts : List TypeId} {us : List Value} {ds : List (DataW H)} {ps : List MemPlace} (h : DataW.TrodAll enc P w base sp held (t :: ts) us ds ps) :
    ∃ u us' d ds' p q, us = u :: us' ∧ ds = d :: ds' ∧ DataW.Trod enc P w base sp held t u d p ∧ DataW.TrodAll enc P w base sp held ts us' ds' q := by
  match us, ds, h with
  | u :: us', d :: ds', ⟨p, q, h1, h2, _⟩ => exact ⟨u, us', d, ds', p, q, rfl, rfl, h1, h2⟩
  | [], [], h => exact h.elim
  | [], _ :: _, h => exact h.elim
  | _ :: _, [], h => exact h.elim
theorem trodAll_end {H : Type} {enc : TypeId × Value → H} {w : World} {base : Nat} {sp : Nat → Bool} {held : Bool} {us : List Value} {ds : List (DataW H)} {ps : List MemPlace} (h : DataW.TrodAll enc P w base sp held [] us ds ps) : us = [] := by
  match us, ds, h with
  | [], [], _ => rfl
  | [], _ :: _, h => exact h.elim
  | _ :: _, [], h => exact h.elim
  | _ :: _, _ :: _, h => exact h.elim
theorem lawOK2 (ra : ArgReads P ta va wa) (fa : ∀ a, (va a).dem = va a) (la : ∀ a, (va a).lt 0 = true) (rb : ArgReads P tb vb wb) (fb : ∀ a, (vb a).dem = vb a) (lb : ∀ a, (vb a).lt 0 = true)
    (law : ∀ a b, wa a → wb b → ∀ M nb, ACalls P f [va a, vb b] M nb (.d (.bool true)) M nb) : LawOK P f [ta, tb] := by
  intro H enc w b0 us ds ps hok hT
  obtain ⟨u, us', d, ds', p, q, rfl, rfl, h1, hT⟩ := trodAll_two hT
  obtain ⟨u2, us', d2, ds', p2, q2, rfl, rfl, h2, hT⟩ := trodAll_two hT
  obtain rfl := trodAll_end hT
  obtain ⟨a, ha, hra⟩ := ra (hok 0 _ _ rfl rfl) h1
  obtain ⟨b, hb, hrb⟩ := rb (hok 1 _ _ rfl rfl) h2
  refine ⟨[va a, vb b], ⟨u, _, rfl, hra, u2, _, rfl, hrb, rfl⟩, ?_, by simp [V.lt.go, la, lb], law a b ha hb⟩
  intro x hx
  simp only [List.mem_cons, List.not_mem_nil, or_false] at hx
  rcases hx with rfl | rfl
  · exact fa a
  · exact fb b
end
end Go.Abs
end
section
namespace Go.Proofs
open Go Go.Abs
set_option linter.unusedVariables false
set_option maxRecDepth 100000
def W_3 (x : Int) : Prop := wfI .i64 x
theorem R_3 : Reads Try.prog 3 (eI .i64) W_3 := reads_int Try.underlying3
def W_32 (x : requirement_Phase) : Prop := W_3 x.Enter ∧ W_3 x.Leave
theorem R_32 : Reads Try.prog 32 e_requirement_Phase W_32 := by
  intro H enc w base spare held fuel cs x h
  obtain ⟨hl, n, hf⟩ := struct_at Try.underlying32 h
  obtain ⟨y0, h0⟩ := hf 0 _ rfl
  obtain ⟨a0, w0, r0⟩ := reads_at (off := 0) (sz := 1) R_3 (by kernel_rfl) (fun _ => rfl) h0
  obtain ⟨y1, h1⟩ := hf 1 _ rfl
  obtain ⟨a1, w1, r1⟩ := reads_at (off := 1) (sz := 1) R_3 (by kernel_rfl) (fun _ => rfl) h1
  exact ⟨⟨a0, a1⟩, ⟨w0, w1⟩, RDat.all (xs := e_requirement_Phase ⟨a0, a1⟩) (RDat.app r0 rfl r1) (hl.trans (by kernel_rfl))⟩
def W_22 (x : List requirement_Phase) : Prop := wfL W_32 x
theorem R_22 : Reads Try.prog 22 (eL 2 e_requirement_Phase) W_22 := reads_slice Try.underlying22 R_32 (by kernel_rfl) (by decide) (fun _ => rfl)
theorem A_22 : ArgReads Try.prog 22 (fun (a : List requirement_Phase) => .d (.lst 2 (List.map e_requirement_Phase a))) W_22 := arg_one R_22 (one_slice Try.underlying22)
theorem A_3 : ArgReads Try.prog 3 (fun (a : Int) => .d (.int .i64 a)) W_3 := arg_one R_3 (one_int Try.underlying3)
end Go.Proofs
end
section
namespace Go.Abs
open Go
theorem iterF_rule {X R : Type} {F : (X → Option R) → X → Option R} (I : X → Prop) (m : X → Nat) (Q : X → Option R → Prop)
    (step : ∀ (k : X → Option R) (x : X), I x → (∀ y, I y → m y < m x → Q y (k y)) → Q x (F k x)) : ∀ (fuel : Nat) (x : X), I x → m x < fuel → Q x (iterF F fuel x)
  | 0, x, _, h => absurd h (Nat.not_lt_zero _)
  | fuel + 1, x, hi, h => step _ x hi fun y hy hm => iterF_rule I m Q step fuel y hy (by omega)
theorem iterF_to {X R : Type} {F : (X → Option R) → X → Option R} {fuel : Nat} {x : X} (I : X → Prop) (m : X → Nat) (q : Option R) (hi : I x) (hm : m x < fuel)
    (step : ∀ (k : X → Option R) (x : X), I x → (∀ y, I y → m y < m x → k y = q) → F k x = q) : iterF F fuel x = q :=
  iterF_rule I m (fun _ r => r = q) step fuel x hi hm
theorem wrap_id {x : Int} (h1 : -9223372036854775808 ≤ x) (h2 : x ≤ 9223372036854775807) : IntKind.wrap .i64 x = x := by
  simp [IntKind.wrap, IntKind.bits, IntKind.signed]; omega
theorem wrap_succ {n : Nat} (h : n < 9223372036854775807) : IntKind.wrap .i64 ((n : Int) + 1) = ((n + 1 : Nat) : Int) := by
  rw [wrap_id (by omega) (by omega)]; omega
theorem getO_nat {α : Type} {l : List α} {n : Nat} (h : n < l.length) : getO l (n : Int) = some l[n] := by
  simp [getO, h]
theorem appO_some {α : Type} {l m : List α} (h : l.length + m.length ≤ lim) : appO l m = some (l ++ m) := by
  unfold appO; rw [if_pos h]
theorem take_eq_succ {α : Type} {s t : List α} {k : Nat} (hs : k < s.length) (ht : k < t.length) (h : s.take k = t.take k) (he : s[k] = t[k]) : s.take (k + 1) = t.take (k + 1) := by
  rw [List.take_add_one, List.take_add_one, h, List.getElem?_eq_getElem hs, List.getElem?_eq_getElem ht, he]
theorem iterF_idx {R : Type} {F : (Int → Option R) → Int → Option R} {len fuel : Nat} (G : Nat → Option R) (hf : len < fuel)
    (step : ∀ (k : Int → Option R) (n : Nat), n < len → k ((n + 1 : Nat) : Int) = G (n + 1) → F k (n : Int) = G n) (last : ∀ k : Int → Option R, F k (len : Int) = G len) : iterF F fuel 0 = G 0 := by
  have := iterF_rule (F := F) (fun x => ∃ n : Nat, x = (n : Int) ∧ n ≤ len) (fun x => len - x.toNat) (fun x r => ∀ n : Nat, x = (n : Int) → r = G n) (fun k x hx ih => by
    obtain ⟨n, rfl, hn⟩ := hx
    intro m hm
    obtain rfl : n = m := by omega
    by_cases h : n < len
    · exact step k n h (ih _ ⟨n + 1, rfl, by omega⟩ (by omega) (n + 1) rfl)
    · obtain rfl : n = len := by omega
      exact last k) fuel 0 ⟨0, rfl, by omega⟩ (by simpa using hf)
  exact this 0 rfl
theorem wrap_pred {n : Nat} (h0 : 0 < n) (h : n < 9223372036854775807) : IntKind.wrap .i64 ((n : Int) - 1) = ((n - 1 : Nat) : Int) := by
  rw [wrap_id (by omega) (by omega)]; omega
theorem iterF_at {X S R : Type} {F : (X → Option R) → X → Option R} {len : Nat} (mk : Nat → S → X) (G : Nat → S → Option R)
    (step : ∀ (k : X → Option R) (n : Nat) (s : S), n < len → (∀ s', k (mk (n + 1) s') = G (n + 1) s') → F k (mk n s) = G n s) (last : ∀ (k : X → Option R) (s : S), F k (mk len s) = G len s) :
    ∀ (fuel n : Nat) (s : S), n ≤ len → len - n < fuel → iterF F fuel (mk n s) = G n s
  | 0, n, s, _, h => by omega
  | fuel + 1, n, s, hn, h => by
    show F (iterF F fuel) (mk n s) = _
    by_cases hlt : n < len
    · exact step _ n s hlt fun s' => iterF_at mk G step last fuel (n + 1) s' (by omega) (by omega)
    · obtain rfl : n = len := by omega
      exact last _ s
theorem slcO_nat {α : Type} {l : List α} {i j : Nat} (h : i ≤ j) (hj : j ≤ l.length) : slcO l (i : Int) (j : Int) = some ((l.take j).drop i) := by
  simp [slcO, h, hj]
section
variable {α : Type} {p : α → Bool}
end
theorem iterF_inv {X S R : Type} {F : (X → Option R) → X → Option R} {len : Nat} (mk : Nat → S → X) (I : Nat → S → Prop) (G : Nat → S → Option R)
    (step : ∀ (k : X → Option R) (n : Nat) (s : S), n < len → I n s → (∀ s', I (n + 1) s' → k (mk (n + 1) s') = G (n + 1) s') → F k (mk n s) = G n s) (last : ∀ (k : X → Option R) (s : S), I len s → F k (mk len s) = G len s) :
    ∀ (fuel n : Nat) (s : S), n ≤ len → len - n < fuel → I n s → iterF F fuel (mk n s) = G n s
  | 0, n, s, _, h, _ => by omega
  | fuel + 1, n, s, hn, h, hi => by
    show F (iterF F fuel) (mk n s) = _
    by_cases hlt : n < len
    · exact step _ n s hlt hi fun s' hi' => iterF_inv mk I G step last fuel (n + 1) s' (by omega) (by omega) hi'
    · obtain rfl : n = len := by omega
      exact last _ s hi
theorem sorted_len : ∀ {l : List Int} {a b : Int}, l.Pairwise (· < ·) → (∀ x ∈ l, a ≤ x ∧ x < b) → l.length ≤ (b - a).toNat
  | [], _, _, _, _ => by simp
  | x :: xs, a, b, h, hr => by
    obtain ⟨h1, h2⟩ := List.pairwise_cons.1 h
    have := sorted_len (a := x + 1) (b := b) h2 fun y hy => ⟨by have := h1 y hy; omega, (hr y (by simp [hy])).2⟩
    have := hr x (by simp)
    simp only [List.length_cons]
    omega
end Go.Abs
end
section
namespace Go.Abs
abbrev big : Nat := 1000000000000
def small (a : api_Automaton) : Prop := a.Alphabet.length < big ∧ a.Marked.length < big ∧ a.Edges.length < big
end Go.Abs
end
section
namespace Go.Abs
open Go
set_option linter.unusedSimpArgs false
def listErr (n : Int) : Option Int → List Int → Int
  | _, [] => 0
  | p, x :: xs => if x < 0 ∨ x ≥ n then 2 else if ∃ y, p = some y ∧ x ≤ y then 5 else listErr n (some x) xs
def ahead {α : Type} (l : List α) (n : Nat) : Option α := if n = 0 then none else l[n - 1]?
theorem ahead_zero {α : Type} (l : List α) : ahead l 0 = none := rfl
theorem ahead_succ {α : Type} (l : List α) {n : Nat} (h : n < l.length) : ahead l (n + 1) = some l[n] := by simp [ahead, h]
theorem ahead_pos {α : Type} (l : List α) {n : Nat} (h0 : 0 < n) (h : n ≤ l.length) : ahead l n = some (l[n - 1]'(by omega)) := by
  simp [ahead, show n ≠ 0 from by omega, show n - 1 < l.length from by omega]
theorem listErr_step {n : Int} {l : List Int} {k : Nat} (h : k < l.length) : listErr n (ahead l k) (l.drop k) = if l[k] < 0 ∨ l[k] ≥ n then 2 else if ∃ y, ahead l k = some y ∧ l[k] ≤ y then 5 else listErr n (ahead l (k + 1)) (l.drop (k + 1)) := by
  rw [List.drop_eq_getElem_cons h, listErr, ahead_succ l h]
theorem checkSet_ok {l : List Int} {n : Int} (hl : l.length < big) : g_automaton_checkSet l n = some (listErr n none l) := by
  unfold g_automaton_checkSet f_automaton_checkSet
  refine (iterF_idx (len := l.length) (fun k => some (listErr n (ahead l k) (l.drop k))) (by unfold fuel0; unfold big at hl; omega) ?_ ?_).trans (by simp [ahead_zero])
  · intro k i hi ih
    have hb : i < 1000000000000 := by unfold big at hl; omega
    rw [listErr_step hi]
    try dsimp only
    rw [if_pos (by omega), getO_nat hi, wrap_succ (by omega), ih]
    simp only [Option.bind_some]
    by_cases h1 : l[i] < 0
    · simp [h1]
    · by_cases h2 : l[i] ≥ n
      · simp [h1, h2]
      · by_cases h0 : 0 < i
        · rw [wrap_pred h0 (by omega), getO_nat (by omega : i - 1 < l.length), ahead_pos l h0 (by omega)]
          by_cases h3 : l[i] ≤ l[i - 1] <;> simp [h1, h2, h3, h0]
        · obtain rfl : i = 0 := by omega
          simp [h1, h2, ahead_zero]
  · intro k; simp [listErr]
theorem index_ok {l : List Int} {v : Int} (hl : l.length < big) : g_slices_Index_int l v = some (if v ∈ l then (l.idxOf v : Int) else -1) := by
  unfold g_slices_Index_int f_slices_Index_int
  refine (iterF_idx (len := l.length) (fun k => some (if v ∈ l.drop k then ((k + (l.drop k).idxOf v : Nat) : Int) else -1)) (by unfold fuel0; unfold big at hl; omega) ?_ ?_).trans (by simp)
  · intro k i hi ih
    have hb : i < 1000000000000 := by unfold big at hl; omega
    try dsimp only
    rw [if_pos (by omega), getO_nat hi, wrap_succ (by omega), ih, List.drop_eq_getElem_cons hi]
    simp only [Option.bind_some, List.mem_cons, List.idxOf_cons]
    by_cases h : v = l[i]
    · simp [← h]
    · have : ¬ l[i] = v := fun e => h e.symm
      have hbq : (l[i] == v) = false := by simp [this]
      by_cases h2 : v ∈ l.drop (i + 1) <;> simp [h, h2, hbq]
      omega
  · intro k; simp
theorem contains_ok {l : List Int} {v : Int} (hl : l.length < big) : g_slices_Contains_int l v = some (decide (v ∈ l)) := by
  unfold g_slices_Contains_int f_slices_Contains_int
  rw [index_ok hl]
  simp only [Option.bind_some, Option.some.injEq]
  by_cases h : v ∈ l <;> simp [h]
end Go.Abs
end
section
namespace Go.Abs
open Go
set_option linter.unusedSimpArgs false
set_option linter.unusedVariables false
def keyLt (x y : api_Edge) : Prop := x.From < y.From ∨ x.From = y.From ∧ x.Event < y.Event
instance (x y : api_Edge) : Decidable (keyLt x y) := by unfold keyLt; infer_instance
structure Right (a : api_Automaton) : Prop where
  al0 : ∀ x ∈ a.Alphabet, 0 ≤ x ∧ x < 32
  al : a.Alphabet.Pairwise (· < ·)
  st : 0 ≤ a.States ∧ a.States ≤ 4096
  ma0 : ∀ x ∈ a.Marked, 0 ≤ x ∧ x < a.States
  ma : a.Marked.Pairwise (· < ·)
  ed0 : ∀ x ∈ a.Edges, 0 ≤ x.From ∧ x.From < a.States ∧ 0 ≤ x.To ∧ x.To < a.States ∧ x.Event ∈ a.Alphabet
  ed : a.Edges.Pairwise keyLt
section
variable {a : api_Automaton} (h : Right a) (hs : small a)
include h hs
end
end Go.Abs
end
section
namespace Go.Abs
open Go
set_option linter.unusedSimpArgs false
set_option linter.unusedVariables false
end Go.Abs
end
section
namespace Go.Abs
open Go
set_option linter.unusedSimpArgs false
set_option linter.unusedVariables false
def ins (o : List Int) (t : Int) : List Int := if t ∈ o then o else o ++ [t]
structure Fnd (a : api_Automaton) (o : List Int) : Prop where
  nd : o.Nodup
  rg : ∀ s ∈ o, 0 ≤ s ∧ s < a.States
theorem Fnd.len {a : api_Automaton} {o : List Int} (h : Fnd a o) : o.length ≤ a.States.toNat := by
  have hO : Go.Sort.SWO ltInt' := ⟨fun x => by simp [ltInt'], fun x y z h1 h2 => by simp [ltInt'] at *; omega, fun x y z h1 h2 => by simp [ltInt'] at *; omega⟩
  have hp := isortB_perm ltInt' o
  have hs := isortB_sorted hO o
  have hn : (isortB ltInt' o).Nodup := (hp.nodup_iff).2 h.nd
  have hlt : (isortB ltInt' o).Pairwise (· < ·) := by
    have : (isortB ltInt' o).Pairwise fun x y => ltInt' y x = false ∧ x ≠ y := hs.and hn
    exact this.imp fun ⟨h1, h2⟩ => by simp [ltInt'] at h1; omega
  have := sorted_len hlt (a := 0) (b := a.States) fun x hx => h.rg x (hp.mem_iff.1 hx)
  rw [isortB_length] at this
  simpa using this
theorem mem_ins {o : List Int} {t x : Int} : x ∈ ins o t ↔ x ∈ o ∨ x = t := by
  unfold ins; split
  · rename_i h; constructor
    · exact .inl
    · rintro (h' | rfl)
      · exact h'
      · exact h
  · simp
theorem pre_ins (o : List Int) (t : Int) : o <+: ins o t := by
  unfold ins; split
  · exact List.prefix_refl o
  · exact List.prefix_append o [t]
theorem Fnd.ins {a : api_Automaton} {o : List Int} (h : Fnd a o) {t : Int} (ht : 0 ≤ t ∧ t < a.States) : Fnd a (ins o t) := by
  refine ⟨?_, fun s hs => ?_⟩
  · unfold Go.Abs.ins; split
    · exact h.nd
    · rename_i hn
      rw [List.nodup_append]
      exact ⟨h.nd, by simp, fun x hx y hy => by simp at hy; subst hy; exact fun e => hn (e ▸ hx)⟩
  · rcases mem_ins.1 hs with hs | rfl
    · exact h.rg s hs
    · exact ht
end Go.Abs
end
section
namespace Go.Abs
open Go
set_option linter.unusedSimpArgs false
set_option linter.unusedVariables false
section
variable {a : api_Automaton} (h : Right a)
include h
end
end Go.Abs
end
section
namespace Go.Abs
open Go
set_option linter.unusedSimpArgs false
set_option linter.unusedVariables false
theorem clone_ok {l : List Int} (hl : l.length ≤ lim) : g_slices_Clone_int l = some l := by
  unfold g_slices_Clone_int f_slices_Clone_int
  rw [appO_some (by simpa using hl)]
  cases l <;> simp [nilO]
structure Num (a : api_Automaton) (o num : List Int) : Prop where
  len : num.length = a.States.toNat
  at1 : ∀ s : Nat, s < a.States.toNat → num[s]? = some (if (s : Int) ∈ o then (o.idxOf (s : Int) : Int) else -1)
theorem Num.set {a : api_Automaton} {o num : List Int} (h : Num a o num) {t : Int} (ht : 0 ≤ t ∧ t < a.States) (hn : t ∉ o) : ∃ num', setO num t (o.length : Int) = some num' ∧ Num a (o ++ [t]) num' := by
  refine ⟨num.set t.toNat (o.length : Int), by unfold setO; rw [if_pos ⟨ht.1, by rw [h.len]; omega⟩], by rw [List.length_set]; exact h.len, fun s hs => ?_⟩
  rw [List.getElem?_set]
  by_cases he : t.toNat = s
  · subst he
    rw [if_pos rfl, if_pos (by rw [h.len]; omega), show ((t.toNat : Nat) : Int) = t from by omega, if_pos (by simp), List.idxOf_append, if_neg hn]
    simp
  · rw [if_neg he, h.at1 s hs]
    have hne : (s : Int) ≠ t := by omega
    by_cases hm : (s : Int) ∈ o
    · rw [if_pos hm, if_pos (by simp [hm]), List.idxOf_append, if_pos hm]
    · rw [if_neg hm, if_neg (by simp [hm, hne])]
section
variable {a : api_Automaton} (h : Right a)
include h
end
end Go.Abs
end
section
namespace Go.Abs
open Go
set_option linter.unusedSimpArgs false
set_option linter.unusedVariables false
section
variable {a : api_Automaton} (h : Right a)
include h
end
end Go.Abs
end
section
namespace Go.Abs
open Go
set_option linter.unusedSimpArgs false
set_option linter.unusedVariables false
theorem known21_ok : g_overseerlaw21_known = some true := by kernel_rfl
end Go.Abs
end
section
namespace Go.Abs
open Go
set_option linter.unusedSimpArgs false
set_option linter.unusedVariables false
structure Evs (l : List Int) : Prop where
  rg : ∀ x ∈ l, 0 ≤ x ∧ x < 5
  so : l.Pairwise (· < ·)
theorem Evs.len {l : List Int} (h : Evs l) : l.length ≤ 5 := by have := sorted_len h.so h.rg; simpa using this
structure Mks (n : Nat) (ms : List Int) : Prop where
  rg : ∀ x ∈ ms, 0 ≤ x ∧ x < n
  so : ms.Pairwise (· < ·)
structure Eds (al : List Int) (N : Int) (i k : Nat) (es : List api_Edge) : Prop where
  rg : ∀ x ∈ es, 0 ≤ x.From ∧ 0 ≤ x.To ∧ x.To < N ∧ x.Event ∈ al ∧ (x.From < i ∨ x.From = i ∧ ∃ j : Nat, j < k ∧ al[j]? = some x.Event)
  so : es.Pairwise keyLt
  ln : es.length ≤ 5 * i + k
theorem Mks.up {n : Nat} {ms : List Int} (h : Mks n ms) : Mks (n + 1) ms := ⟨fun x hx => by have := h.rg x hx; omega, h.so⟩
theorem Mks.add {n : Nat} {ms : List Int} (h : Mks n ms) : Mks (n + 1) (ms ++ [(n : Int)]) := by
  refine ⟨fun x hx => ?_, ?_⟩
  · rcases List.mem_append.1 hx with hx | hx
    · have := h.rg x hx; omega
    · simp at hx; omega
  · rw [List.pairwise_append]
    exact ⟨h.so, by simp, fun x hx y hy => by simp at hy; have := h.rg x hx; omega⟩
theorem Mks.len {n : Nat} {ms : List Int} (h : Mks n ms) : ms.length ≤ n := by have := sorted_len h.so h.rg; simpa using this
section
variable {al : List Int} (hal : Evs al) {N : Int} {i k : Nat} {es : List api_Edge}
theorem Eds.up (h : Eds al N i k es) : Eds al N i (k + 1) es := ⟨fun x hx => by
  obtain ⟨h1, h2, h3, h4, h5⟩ := h.rg x hx
  refine ⟨h1, h2, h3, h4, ?_⟩
  rcases h5 with h5 | ⟨h5, j, h6, h7⟩
  · exact .inl h5
  · exact .inr ⟨h5, j, by omega, h7⟩, h.so, by have := h.ln; omega⟩
theorem Eds.next (h : Eds al N i k es) (hk : k ≤ 5) : Eds al N (i + 1) 0 es := ⟨fun x hx => by
  obtain ⟨h1, h2, h3, h4, h5⟩ := h.rg x hx
  exact ⟨h1, h2, h3, h4, .inl (by rcases h5 with h5 | ⟨h5, _⟩ <;> omega)⟩, h.so, by have := h.ln; omega⟩
include hal in
theorem Eds.add (h : Eds al N i k es) (hk : k < al.length) {t : Int} (ht : 0 ≤ t ∧ t < N) : Eds al N i (k + 1) (es ++ [⟨(i : Int), al[k], t⟩]) := by
  refine ⟨fun x hx => ?_, ?_, by have := h.ln; simp only [List.length_append, List.length_cons, List.length_nil]; omega⟩
  · rcases List.mem_append.1 hx with hx | hx
    · exact h.up.rg x hx
    · simp at hx; subst hx
      exact ⟨by simp only; omega, ht.1, ht.2, List.getElem_mem hk, .inr ⟨rfl, k, by omega, List.getElem?_eq_getElem hk⟩⟩
  · rw [List.pairwise_append]
    refine ⟨h.so, by simp, fun x hx y hy => ?_⟩
    simp at hy; subst hy
    obtain ⟨_, _, _, _, h5⟩ := h.rg x hx
    rcases h5 with h5 | ⟨h5, j, h6, h7⟩
    · exact .inl h5
    · refine .inr ⟨h5, ?_⟩
      obtain ⟨h8, h9⟩ := List.getElem?_eq_some_iff.1 h7
      rw [← h9]
      exact List.pairwise_iff_getElem.1 hal.so j k h8 hk h6
end
end Go.Abs
end
section
namespace Go.Abs
open Go
set_option linter.unusedSimpArgs false
set_option linter.unusedVariables false
theorem nodup_sub {α : Type} [DecidableEq α] : ∀ {l m : List α}, l.Nodup → (∀ x ∈ l, x ∈ m) → l.length ≤ m.length
  | [], _, _, _ => by simp
  | x :: xs, m, h, hm => by
    obtain ⟨h1, h2⟩ := List.nodup_cons.1 h
    have hx : x ∈ m := hm x (by simp)
    have := nodup_sub (l := xs) (m := m.erase x) h2 fun y hy => (List.mem_erase_of_ne (by rintro rfl; exact h1 hy)).2 (hm y (by simp [hy]))
    rw [List.length_erase_of_mem hx] at this
    have : 0 < m.length := List.length_pos_of_mem hx
    simp only [List.length_cons]; omega
theorem getM_set {β : Type} {z v : β} {k k' : Int} : ∀ {m : List (Int × β)}, getM (setM m k v) k' z = if k' = k then v else getM m k' z
  | [] => by simp [setM, getM]
  | (q, w) :: m => by
    by_cases h1 : k = q
    · subst h1
      by_cases h2 : k' = k <;> simp [setM, getM, h2]
    · have h1' : (k == q) = false := by simp [h1]
      simp only [setM, h1', Bool.false_eq_true, if_false, getM]
      rw [getM_set (m := m)]
      by_cases h2 : k' = q
      · subst h2
        have : k' ≠ k := fun e => h1 e.symm
        simp [this]
      · simp [h2]
section
variable {a : api_Automaton} (h : Right a)
include h
end
end Go.Abs
end
section
namespace Go.Abs
open Go
theorem same_loop {α : Type} [DecidableEq α] {s t : List α} {ne : α → α → Bool} (hne : ∀ x y, ne x y = decide (x ≠ y)) (hl : s.length = t.length) (h : s.length < 1000000000000) :
    iterF (fun k5 (i4 : Int) => (if (i4 < (s.length : Int)) then ((getO s i4).bind fun x7 => ((getO t i4).bind fun x9 => (if ne x7 x9 then some false else k5 (IntKind.wrap .i64 (i4 + 1))))) else some true)) fuel0 0 = some (decide (s = t)) := by
  refine iterF_to (fun i : Int => ∃ n : Nat, i = n ∧ n ≤ s.length ∧ s.take n = t.take n) (fun i => s.length - i.toNat) _ ⟨0, rfl, by omega, by simp⟩ (by unfold fuel0; omega) ?_
  rintro k _ ⟨n, rfl, hn, he⟩ ih
  by_cases hlt : n < s.length
  · rw [if_pos (by omega), getO_nat hlt, getO_nat (by omega : n < t.length)]
    simp only [Option.bind_some, hne]
    by_cases hx : s[n] = t[n]
    · rw [if_neg (by simp [hx]), wrap_succ (by omega)]
      exact ih _ ⟨n + 1, rfl, by omega, take_eq_succ hlt (by omega) he hx⟩ (by omega)
    · rw [if_pos (by simp [hx])]
      have : s ≠ t := fun e => hx (by subst e; rfl)
      simp [this]
  · rw [if_neg (by omega)]
    have e : n = s.length := by omega
    have : s = t := by
      rw [e, List.take_length, hl, List.take_length] at he; exact he
    simp [this]
theorem edge_ne (x y : api_Edge) : (!((x.From == y.From) && ((x.Event == y.Event) && ((x.To == y.To) && true)))) = decide (x ≠ y) := by
  cases x; cases y
  simp only [api_Edge.mk.injEq, Bool.and_true, ne_eq, decide_not]
  congr 1
  rw [Bool.eq_iff_iff]; simp
theorem equal_int {s t : List Int} (h : s.length < 1000000000000) : g_slices_Equal_int s t = some (decide (s = t)) := by
  unfold g_slices_Equal_int f_slices_Equal_int
  by_cases hl : s.length = t.length
  · rw [if_neg (by simp [hl])]
    exact same_loop (ne := fun x y => x != y) (fun x y => by rw [Bool.eq_iff_iff]; simp) hl h
  · rw [if_pos (by simp; omega)]
    have : s ≠ t := fun e => hl (by rw [e])
    simp [this]
theorem if_not {R : Type} (b : Bool) (A B : R) : (if b then A else B) = if (!b) then B else A := by cases b <;> rfl
theorem equal_edge {s t : List api_Edge} (h : s.length < 1000000000000) : g_slices_Equal_Edge s t = some (decide (s = t)) := by
  unfold g_slices_Equal_Edge f_slices_Equal_Edge
  by_cases hl : s.length = t.length
  · rw [if_neg (by simp [hl])]
    have := same_loop (ne := fun x y => !((x.From == y.From) && ((x.Event == y.Event) && ((x.To == y.To) && true)))) edge_ne hl h
    simp only [← if_not] at this
    exact this
  · rw [if_pos (by simp; omega)]
    have : s ≠ t := fun e => hl (by rw [e])
    simp [this]
theorem equal_ok {a b : api_Automaton} (h : small a) : g_automaton_Equal a b = some (decide (a = b)) := by
  unfold g_automaton_Equal f_automaton_Equal
  rw [equal_int h.1, equal_int h.2.1, equal_edge h.2.2]
  obtain ⟨al, s, m, e⟩ := a
  obtain ⟨al', s', m', e'⟩ := b
  simp only [Option.bind_some, api_Automaton.mk.injEq]
  by_cases h1 : s = s' <;> by_cases h2 : al = al' <;> by_cases h3 : m = m' <;> by_cases h4 : e = e' <;> simp [h1, h2, h3, h4]
end Go.Abs
end
section
namespace Go.Abs
open Go
set_option linter.unusedSimpArgs false
set_option linter.unusedVariables false
end Go.Abs
end
section
namespace Go.Abs
open Go
set_option linter.unusedSimpArgs false
set_option linter.unusedVariables false
theorem bind_of' {α β : Type} {o : Option α} {K : α → Option β} {r : Option β} {P : α → Prop} (h : ∃ v, o = some v ∧ P v) (hk : ∀ v, P v → K v = r) : o.bind K = r := by
  obtain ⟨v, rfl, hv⟩ := h
  exact hk v hv
def rowB (stp : Int → Int → Int × Bool) (i : Nat) (s : Int) : List Int → List Int → List api_Edge → List Int × List api_Edge
  | [], st, es => (st, es)
  | e :: al, st, es => if (stp s e).2 then rowB stp i s al (ins st (stp s e).1) (es ++ [⟨(i : Int), e, (st.idxOf (stp s e).1 : Int)⟩]) else rowB stp i s al st es
def bldB (stp : Int → Int → Int × Bool) (mk : Int → Bool) (al : List Int) : Nat → Nat → List Int → List Int → List api_Edge → api_Automaton
  | 0, i, st, ms, es => ⟨al, (st.length : Int), ms, es⟩
  | f + 1, i, st, ms, es => match st[i]? with
    | none => ⟨al, (st.length : Int), ms, es⟩
    | some s => bldB stp mk al f (i + 1) (rowB stp i s al st es).1 (if mk s then ms ++ [(i : Int)] else ms) (rowB stp i s al st es).2
structure Dom (stp : Int → Int → Int × Bool) (al D : List Int) : Prop where
  z : 0 ∈ D
  cl : ∀ x ∈ D, ∀ e ∈ al, (stp x e).2 = true → (stp x e).1 ∈ D
  dl : D.length ≤ 5000
  ll : al.length ≤ 64
structure Stk (D st : List Int) : Prop where
  nd : st.Nodup
  su : ∀ x ∈ st, x ∈ D
theorem Stk.len {D st : List Int} (h : Stk D st) : st.length ≤ D.length := nodup_sub h.nd h.su
theorem Stk.ins {D st : List Int} (h : Stk D st) {t : Int} (ht : t ∈ D) : Stk D (ins st t) := by
  unfold Go.Abs.ins
  split
  · exact h
  · rename_i hn
    refine ⟨?_, fun x hx => ?_⟩
    · rw [List.nodup_append]
      refine ⟨h.nd, by simp, fun a ha b hb => ?_⟩
      simp only [List.mem_singleton] at hb
      subst hb
      rintro rfl
      exact hn ha
    · rcases List.mem_append.1 hx with hx | hx
      · exact h.su x hx
      · simp only [List.mem_singleton] at hx; subst hx; exact ht
theorem rowB_spec {stp : Int → Int → Int × Bool} {D : List Int} {i : Nat} {s : Int} : ∀ {al st : List Int} {es : List api_Edge}, Stk D st → (∀ e ∈ al, (stp s e).2 = true → (stp s e).1 ∈ D) →
    Stk D (rowB stp i s al st es).1 ∧ st <+: (rowB stp i s al st es).1 ∧ (rowB stp i s al st es).2.length ≤ es.length + al.length
  | [], st, es, h, _ => ⟨h, List.prefix_refl _, by simp [rowB]⟩
  | e :: al, st, es, h, hc => by
    unfold rowB
    split
    · rename_i hok
      obtain ⟨h1, h2, h3⟩ := rowB_spec (i := i) (s := s) (stp := stp) (al := al) (es := es ++ [⟨(i : Int), e, (st.idxOf (stp s e).1 : Int)⟩]) (h.ins (hc e (by simp) hok)) fun e he => hc e (by simp [he])
      refine ⟨h1, List.IsPrefix.trans (pre_ins _ _) h2, ?_⟩
      simp only [List.length_append, List.length_cons, List.length_nil] at h3 ⊢; omega
    · obtain ⟨h1, h2, h3⟩ := rowB_spec (i := i) (s := s) (stp := stp) (al := al) (es := es) h fun e he => hc e (by simp [he])
      exact ⟨h1, h2, by simp only [List.length_cons]; omega⟩
def MapOk (m : List (Int × Int)) (st : List Int) : Prop := ∀ r, hasM m r = decide (r ∈ st) ∧ (r ∈ st → getM m r 0 = (st.idxOf r : Int))
theorem hasM_set {β : Type} {v : β} {k k' : Int} : ∀ {m : List (Int × β)}, hasM (setM m k v) k' = (decide (k' = k) || hasM m k')
  | [] => by
    simp only [setM, hasM, List.any_cons, List.any_nil, Bool.or_false]
    rw [Bool.eq_iff_iff]; simp
  | (q, w) :: m => by
    by_cases h1 : k = q
    · subst h1
      simp only [setM, beq_self_eq_true, if_true, hasM_cons]
      rw [Bool.eq_iff_iff]; simp
    · have h1' : (k == q) = false := by simp [h1]
      simp only [setM, h1', Bool.false_eq_true, if_false, hasM_cons]
      rw [hasM_set (m := m)]
      cases (k' == q) <;> cases decide (k' = k) <;> simp
theorem MapOk.ins {m : List (Int × Int)} {st : List Int} (h : MapOk m st) {r : Int} (hr : r ∉ st) : MapOk (setM m r (st.length : Int)) (st ++ [r]) := by
  intro x
  obtain ⟨h1, h2⟩ := h x
  refine ⟨?_, fun hx => ?_⟩
  · rw [hasM_set, h1, Bool.eq_iff_iff]; simp; exact Or.comm
  · rw [getM_set]
    by_cases hxr : x = r
    · subst hxr
      rw [if_pos rfl, List.idxOf_append]
      simp [hr]
    · rw [if_neg hxr]
      have hx' : x ∈ st := by
        rcases List.mem_append.1 hx with hx | hx
        · exact hx
        · simp at hx; exact absurd hx hxr
      rw [h2 hx', List.idxOf_append, if_pos hx']
theorem explore_row {stp : Int → Int → Int × Bool} {D : List Int} {next : Int → Int → Option (Int × Bool)} {al : List Int} (hd : Dom stp al D)
    (hn : ∀ x ∈ D, ∀ e ∈ al, ∃ r, next x e = some (r, (stp x e).2) ∧ ((stp x e).2 = true → r = (stp x e).1)) (fuel : Nat) (hfu : 1099511627776 ≤ fuel)
    {i : Nat} {s : Int} {st ms : List Int} {es : List api_Edge} {c : List (Int × Int)} (hst : Stk D st) (hi : st[i]? = some s) (hes : es.length ≤ 1000000) (hc : MapOk c st) :
    ∃ c', MapOk c' (rowB stp i s al st es).1 ∧ iterF (fun k39 ((states35, x36, a37, c38) : (List Int) × Int × (List api_Edge) × (List (Int × Int))) => (if (x36 < (al.length : Int)) then ((((getO al x36).bind fun x41 => ((getO states35 (i : Int)).bind fun x43 => ((next x43 x41).bind fun (r47, r48) => (if r48 then (((if (hasM c38 r47) then some (states35, (getM c38 r47 0), c38) else ((appO states35 [r47]).bind fun x51 => some (x51, (states35.length : Int), (setM c38 r47 (states35.length : Int)))))).bind fun ((states53, k54, c55) : (List Int) × Int × (List (Int × Int))) => ((appO a37 [(api_Edge.mk (i : Int) x41 k54)]).bind fun x56 => some (states53, x56, c55))) else some (states35, a37, c38)))))).bind fun ((states58, a59, c60) : (List Int) × (List api_Edge) × (List (Int × Int))) => k39 (states58, (IntKind.wrap .i64 (x36 + 1)), a59, c60)) else some (states35, ms, a37, c38))) fuel (st, 0, es, c) = some ((rowB stp i s al st es).1, ms, (rowB stp i s al st es).2, c') := by
  have hll := hd.ll
  have hdl := hd.dl
  have hsD : s ∈ D := hst.su s (List.mem_of_getElem? hi)
  have hgen : ∀ R, rowB stp i s al st es = R → ∃ c', MapOk c' R.1 ∧ iterF (fun k39 ((states35, x36, a37, c38) : (List Int) × Int × (List api_Edge) × (List (Int × Int))) => (if (x36 < (al.length : Int)) then ((((getO al x36).bind fun x41 => ((getO states35 (i : Int)).bind fun x43 => ((next x43 x41).bind fun (r47, r48) => (if r48 then (((if (hasM c38 r47) then some (states35, (getM c38 r47 0), c38) else ((appO states35 [r47]).bind fun x51 => some (x51, (states35.length : Int), (setM c38 r47 (states35.length : Int)))))).bind fun ((states53, k54, c55) : (List Int) × Int × (List (Int × Int))) => ((appO a37 [(api_Edge.mk (i : Int) x41 k54)]).bind fun x56 => some (states53, x56, c55))) else some (states35, a37, c38)))))).bind fun ((states58, a59, c60) : (List Int) × (List api_Edge) × (List (Int × Int))) => k39 (states58, (IntKind.wrap .i64 (x36 + 1)), a59, c60)) else some (states35, ms, a37, c38))) fuel (st, 0, es, c) = some (R.1, ms, R.2, c') := by
    intro R hR
    refine iterF_rule (fun x : List Int × Int × List api_Edge × List (Int × Int) => ∃ n : Nat, x.2.1 = n ∧ n ≤ al.length ∧ Stk D x.1 ∧ x.1[i]? = some s ∧ x.2.2.1.length ≤ 1000000 + n ∧ MapOk x.2.2.2 x.1 ∧ rowB stp i s (al.drop n) x.1 x.2.2.1 = R) (fun x => al.length - x.2.1.toNat) (fun _ r => ∃ c', MapOk c' R.1 ∧ r = some (R.1, ms, R.2, c')) ?_ fuel (st, 0, es, c) ⟨0, rfl, Nat.zero_le _, hst, hi, hes, hc, by simpa using hR⟩ (by dsimp only; omega)
    rintro k ⟨st, x, es, c⟩ ⟨n, hx, hnl, hst, hi, hes, hc, hR⟩ ih
    dsimp only at hx hst hi hes hc hR ih ⊢
    subst hx
    by_cases hlt : n < al.length
    · rw [if_pos (by omega), getO_nat hlt, wrap_succ (by omega)]
      have hil : i < st.length := (List.getElem?_eq_some_iff.1 hi).1
      have hgs : getO st (i : Int) = some s := by rw [getO_nat hil]; exact (List.getElem?_eq_getElem hil).symm.trans hi
      rw [hgs]
      simp only [Option.bind_some]
      have he := List.getElem_mem hlt
      obtain ⟨r, hr1, hr2⟩ := hn s hsD al[n] he
      rw [hr1]
      simp only [Option.bind_some]
      rw [List.drop_eq_getElem_cons hlt, rowB] at hR
      have hsl := hst.len
      cases hok : (stp s al[n]).2 with
      | false =>
        rw [hok] at hR
        simp only [Bool.false_eq_true, if_false, Option.bind_some] at hR ⊢
        exact ih (st, ((n + 1 : Nat) : Int), es, c) ⟨n + 1, rfl, hlt, hst, hi, by dsimp only; omega, hc, hR⟩ (by simp only [Int.toNat_natCast]; omega)
      | true =>
        rw [hok] at hR
        obtain rfl := hr2 hok
        have hrD := hd.cl s hsD _ he hok
        simp only [if_true] at hR ⊢
        generalize (stp s al[n]).1 = r at hR hrD
        obtain ⟨hm1, hm2⟩ := hc r
        rw [hm1]
        by_cases hin : r ∈ st
        · have hins : Go.Abs.ins st r = st := by unfold Go.Abs.ins; rw [if_pos hin]
          rw [hins] at hR
          simp only [hin, decide_true, if_true, Option.bind_some, hm2 hin]
          rw [appO_some (by simp only [List.length_cons, List.length_nil]; unfold lim; omega)]
          simp only [Option.bind_some]
          exact ih (st, ((n + 1 : Nat) : Int), _, c) ⟨n + 1, rfl, hlt, hst, hi, by simp only [List.length_append, List.length_cons, List.length_nil]; omega, hc, hR⟩ (by simp only [Int.toNat_natCast]; omega)
        · have hins : Go.Abs.ins st r = st ++ [r] := by unfold Go.Abs.ins; rw [if_neg hin]
          have hst' := hst.ins hrD
          rw [hins] at hR hst'
          have hidx : st.idxOf r = st.length := List.idxOf_eq_length hin
          rw [hidx] at hR
          simp only [hin, decide_false, Bool.false_eq_true, if_false]
          rw [appO_some (l := st) (by simp only [List.length_cons, List.length_nil]; unfold lim; omega)]
          simp only [Option.bind_some]
          rw [appO_some (by simp only [List.length_cons, List.length_nil]; unfold lim; omega)]
          simp only [Option.bind_some]
          exact ih (st ++ [r], ((n + 1 : Nat) : Int), _, _) ⟨n + 1, rfl, hlt, hst', by rw [List.getElem?_append_left hil]; exact hi, by simp only [List.length_append, List.length_cons, List.length_nil]; omega, hc.ins hin, hR⟩ (by simp only [Int.toNat_natCast]; omega)
    · rw [if_neg (by omega)]
      have : n = al.length := by omega
      subst this
      rw [List.drop_length, rowB] at hR
      subst hR
      exact ⟨c, hc, rfl⟩
  exact hgen _ rfl
theorem bldB_al {stp : Int → Int → Int × Bool} {mk : Int → Bool} {al : List Int} : ∀ (f i : Nat) (st ms : List Int) (es : List api_Edge), (bldB stp mk al f i st ms es).Alphabet = al
  | 0, _, _, _, _ => rfl
  | f + 1, i, st, ms, es => by
    unfold bldB
    split
    · rfl
    · exact bldB_al f _ _ _ _
theorem explore_ok {stp : Int → Int → Int × Bool} {D : List Int} {mk : Int → Bool} {mkO : Int → Option Bool} {next : Int → Int → Option (Int × Bool)} {al : List Int} (hd : Dom stp al D)
    (hm : ∀ x ∈ D, mkO x = some (mk x)) (hn : ∀ x ∈ D, ∀ e ∈ al, ∃ r, next x e = some (r, (stp x e).2) ∧ ((stp x e).2 = true → r = (stp x e).1)) :
    g_requirement_explore al mkO next = some (bldB stp mk al 5001 0 [0] [] []) := by
  have hll := hd.ll
  have hdl := hd.dl
  unfold g_requirement_explore f_requirement_explore
  obtain ⟨fuel, hfu, hge⟩ : ∃ f, fuel0 = f ∧ 1099511627776 ≤ f := ⟨_, rfl, Nat.le_refl _⟩
  rw [hfu]
  generalize hA : bldB stp mk al 5001 0 [0] [] [] = A
  have hAl : A.Alphabet = al := by rw [← hA]; exact bldB_al ..
  refine bind_of' (P := fun r => ∃ (st : List Int) (c' : List (Int × Int)), r = (st, [], [], [], A.Marked, A.Edges, c') ∧ (st.length : Int) = A.States) ?_ ?_
  · refine iterF_rule (fun x : List Int × Int × List Int × List Int × List api_Edge × List Int × List api_Edge × List (Int × Int) => ∃ (n f : Nat), x.2.1 = n ∧ x.2.2.1 = [] ∧ x.2.2.2.1 = [] ∧ x.2.2.2.2.1 = [] ∧ n + f = 5001 ∧ n ≤ x.1.length ∧ Stk D x.1 ∧ x.2.2.2.2.2.1.length ≤ n ∧ x.2.2.2.2.2.2.1.length ≤ 64 * n ∧ MapOk x.2.2.2.2.2.2.2 x.1 ∧ bldB stp mk al f n x.1 x.2.2.2.2.2.1 x.2.2.2.2.2.2.1 = A)
      (fun x => 5001 - x.2.1.toNat) (fun _ r => ∃ v, r = some v ∧ ∃ (st : List Int) (c' : List (Int × Int)), v = (st, [], [], [], A.Marked, A.Edges, c') ∧ (st.length : Int) = A.States) ?_ fuel ([0], 0, [], [], [], [], [], setM ([] : List (Int × Int)) 0 0) ⟨0, 5001, rfl, rfl, rfl, rfl, rfl, Nat.zero_le _, ⟨by simp, fun x hx => by simp at hx; subst hx; exact hd.z⟩, Nat.zero_le _, Nat.zero_le _, fun r => by
        refine ⟨?_, fun hr => ?_⟩
        · rw [hasM_set]; simp [hasM]
        · simp at hr; subst hr; rfl, hA⟩ (by dsimp only; omega)
    rintro k ⟨st, x, c1, c2, c3, ms, es, c⟩ ⟨n, f, hx, h1, h2, h3, hf, hnl, hst, hms, hes, hc, hB⟩ ih
    dsimp only at hx h1 h2 h3 hnl hst hms hes hc hB ih ⊢
    subst hx h1 h2 h3
    have hsl := hst.len
    by_cases hlt : n < st.length
    · obtain ⟨f, rfl⟩ : ∃ g, f = g + 1 := ⟨f - 1, by omega⟩
      have hi : st[n]? = some st[n] := List.getElem?_eq_getElem hlt
      have hsD := hst.su _ (List.getElem_mem hlt)
      rw [if_pos (by omega), getO_nat hlt, wrap_succ (by omega)]
      simp only [Option.bind_some, hm _ hsD]
      rw [bldB, hi] at hB
      dsimp only at hB
      have hmk : (if mk st[n] then (appO ms [(n : Int)]).bind fun x32 => some x32 else some ms) = some (if mk st[n] then ms ++ [(n : Int)] else ms) := by
        rw [appO_some (by simp only [List.length_cons, List.length_nil]; unfold lim; omega)]
        split <;> rfl
      rw [hmk]
      simp only [Option.bind_some]
      obtain ⟨c', hc', hrow⟩ := explore_row (ms := if mk st[n] then ms ++ [(n : Int)] else ms) hd hn fuel hge hst hi (es := es) (by omega) hc
      rw [hrow]
      simp only [Option.bind_some]
      obtain ⟨k1, k2, k3⟩ := rowB_spec (i := n) (s := st[n]) (stp := stp) (al := al) (es := es) hst fun e he => hd.cl _ hsD e he
      have hk2 := k2.length_le
      refine ih _ ⟨n + 1, f, rfl, rfl, rfl, rfl, by omega, by dsimp only; omega, k1, ?_, by dsimp only; omega, hc', hB⟩ (by simp only [Int.toNat_natCast]; omega)
      dsimp only
      split
      · simp only [List.length_append, List.length_cons, List.length_nil]; omega
      · omega
    · have hnn : st[n]? = none := List.getElem?_eq_none (by omega)
      rw [if_neg (by omega)]
      have hB' : (⟨al, (st.length : Int), ms, es⟩ : api_Automaton) = A := by
        cases f with
        | zero => exact hB
        | succ f => rw [bldB, hnn] at hB; exact hB
      subst hB'
      exact ⟨_, rfl, st, c, rfl, rfl⟩
  · rintro _ ⟨st, c', rfl, hl⟩
    dsimp only
    rw [hl]
    obtain ⟨a1, a2, a3, a4⟩ := A
    cases hAl
    rfl
end Go.Abs
end
section
namespace Go.Abs
open Go
set_option linter.unusedSimpArgs false
set_option linter.unusedVariables false
theorem indexInt_ok {w : List Int} {r : Int} {f : Int → Option Bool} (hf : ∀ x, f x = some (x == r)) (hw : w.length < big) : g_slices_IndexFunc_int w f = some (if r ∈ w then (w.idxOf r : Int) else -1) := by
  have hb : w.length < 1000000000000 := hw
  unfold g_slices_IndexFunc_int f_slices_IndexFunc_int
  obtain ⟨fuel, hfu, hge⟩ : ∃ f, fuel0 = f ∧ 1099511627776 ≤ f := ⟨_, rfl, Nat.le_refl _⟩
  rw [hfu]
  have := iterF_idx (F := fun (k10 : Int → Option Int) (x9 : Int) => (if (x9 < (w.length : Int)) then ((getO w x9).bind fun x12 => ((f x12).bind fun x15 => (if x15 then some x9 else k10 (IntKind.wrap .i64 (x9 + 1))))) else some (-1))) (len := w.length) (fuel := fuel)
    (fun n => some (if (w.drop n).any (· == r) then ((n + (w.drop n).findIdx (· == r) : Nat) : Int) else -1)) (by omega) (by
      intro k n hn ih
      rw [if_pos (by omega), getO_nat hn, wrap_succ (by omega), ih]
      simp only [Option.bind_some, hf]
      rw [List.drop_eq_getElem_cons hn]
      cases hp : (w[n] == r) with
      | true => simp only [List.any_cons, hp, Bool.true_or, if_true, List.findIdx_cons, cond_true, Nat.add_zero]
      | false =>
        simp only [List.any_cons, hp, Bool.false_or, List.findIdx_cons, cond_false, Bool.false_eq_true, if_false]
        rw [show n + 1 + (w.drop (n + 1)).findIdx (· == r) = n + ((w.drop (n + 1)).findIdx (· == r) + 1) from by omega]) (by intro k; simp)
  rw [this]
  simp only [List.drop_zero, Nat.zero_add]
  have e : w.any (· == r) = decide (r ∈ w) := by
    rw [Bool.eq_iff_iff, List.any_eq_true]; simp
  rw [e]
  by_cases h : r ∈ w <;> simp [h, List.idxOf]
theorem build_row {stp : Int → Int → Int × Bool} {D : List Int} {next : Int → Int → Option (Int × Bool)} {al : List Int} (hd : Dom stp al D)
    (hn : ∀ x ∈ D, ∀ e ∈ al, ∃ r, next x e = some (r, (stp x e).2) ∧ ((stp x e).2 = true → r = (stp x e).1)) (fuel : Nat) (hfu : 1099511627776 ≤ fuel)
    {i : Nat} {s : Int} {st ms : List Int} {es : List api_Edge} (hst : Stk D st) (hi : st[i]? = some s) (hes : es.length ≤ 1000000) :
    iterF (fun k46 ((l43, x44, a45) : (List Int) × Int × (List api_Edge)) => (if (x44 < (al.length : Int)) then ((((getO al x44).bind fun x48 => ((getO l43 (i : Int)).bind fun x50 => ((next x50 x48).bind fun (r54, r55) => (if r55 then ((g_slices_IndexFunc_int l43 (fun a57 => g_overseerlaw21_build_int_1 a57 g_overseerlaw21_counter_1 r54)).bind fun x65 => (((if (x65 < 0) then ((appO l43 [r54]).bind fun x67 => some (x67, (l43.length : Int))) else some (l43, x65))).bind fun ((l69, to70) : (List Int) × Int) => ((appO a45 [(api_Edge.mk (i : Int) x48 to70)]).bind fun x71 => some (l69, x71, r54)))) else some (l43, a45, r54)))))).bind fun ((l73, a74, next75) : (List Int) × (List api_Edge) × Int) => k46 (l73, (IntKind.wrap .i64 (x44 + 1)), a74)) else some (l43, ms, a45))) fuel (st, 0, es) = some ((rowB stp i s al st es).1, ms, (rowB stp i s al st es).2) := by
  have hll := hd.ll
  have hdl := hd.dl
  have hsD : s ∈ D := hst.su s (List.mem_of_getElem? hi)
  generalize hR : rowB stp i s al st es = R
  refine iterF_to (fun x : List Int × Int × List api_Edge => ∃ n : Nat, x.2.1 = n ∧ n ≤ al.length ∧ Stk D x.1 ∧ x.1[i]? = some s ∧ x.2.2.length ≤ 1000000 + n ∧ rowB stp i s (al.drop n) x.1 x.2.2 = R) (fun x => al.length - x.2.1.toNat) _ ⟨0, rfl, Nat.zero_le _, hst, hi, hes, by simpa using hR⟩ (by dsimp only; omega) ?_
  rintro k ⟨st, x, es⟩ ⟨n, hx, hnl, hst, hi, hes, hR⟩ ih
  dsimp only at hx hst hi hes hR ih ⊢
  subst hx
  by_cases hlt : n < al.length
  · rw [if_pos (by omega), getO_nat hlt, wrap_succ (by omega)]
    have hil : i < st.length := (List.getElem?_eq_some_iff.1 hi).1
    have hgs : getO st (i : Int) = some s := by rw [getO_nat hil]; exact (List.getElem?_eq_getElem hil).symm.trans hi
    rw [hgs]
    simp only [Option.bind_some]
    have he := List.getElem_mem hlt
    obtain ⟨r, hr1, hr2⟩ := hn s hsD al[n] he
    rw [hr1]
    simp only [Option.bind_some]
    rw [List.drop_eq_getElem_cons hlt, rowB] at hR
    have hsl := hst.len
    cases hok : (stp s al[n]).2 with
    | false =>
      rw [hok] at hR
      simp only [Bool.false_eq_true, if_false, Option.bind_some] at hR ⊢
      exact ih (st, ((n + 1 : Nat) : Int), es) ⟨n + 1, rfl, hlt, hst, hi, by dsimp only; omega, hR⟩ (by simp only [Int.toNat_natCast]; omega)
    | true =>
      rw [hok] at hR
      obtain rfl := hr2 hok
      have hrD := hd.cl s hsD _ he hok
      simp only [if_true] at hR ⊢
      generalize (stp s al[n]).1 = r at hR hrD
      rw [indexInt_ok (r := r) (f := fun a57 => g_overseerlaw21_build_int_1 a57 g_overseerlaw21_counter_1 r) (fun x => rfl) (by unfold big; omega)]
      simp only [Option.bind_some]
      by_cases hin : r ∈ st
      · have hins : Go.Abs.ins st r = st := by unfold Go.Abs.ins; rw [if_pos hin]
        rw [hins] at hR
        rw [if_pos hin, if_neg (by omega)]
        simp only [Option.bind_some]
        rw [appO_some (by simp only [List.length_cons, List.length_nil]; unfold lim; omega)]
        simp only [Option.bind_some]
        exact ih (st, ((n + 1 : Nat) : Int), _) ⟨n + 1, rfl, hlt, hst, hi, by simp only [List.length_append, List.length_cons, List.length_nil]; omega, hR⟩ (by simp only [Int.toNat_natCast]; omega)
      · have hins : Go.Abs.ins st r = st ++ [r] := by unfold Go.Abs.ins; rw [if_neg hin]
        have hst' := hst.ins hrD
        rw [hins] at hR hst'
        have hidx : st.idxOf r = st.length := List.idxOf_eq_length hin
        rw [hidx] at hR
        rw [if_neg hin, if_pos (by omega)]
        rw [appO_some (l := st) (by simp only [List.length_cons, List.length_nil]; unfold lim; omega)]
        simp only [Option.bind_some]
        rw [appO_some (by simp only [List.length_cons, List.length_nil]; unfold lim; omega)]
        simp only [Option.bind_some]
        exact ih (st ++ [r], ((n + 1 : Nat) : Int), _) ⟨n + 1, rfl, hlt, hst', by rw [List.getElem?_append_left hil]; exact hi, by simp only [List.length_append, List.length_cons, List.length_nil]; omega, hR⟩ (by simp only [Int.toNat_natCast]; omega)
  · rw [if_neg (by omega)]
    have : n = al.length := by omega
    subst this
    rw [List.drop_length, rowB] at hR
    subst hR
    rfl
theorem counter_ok {stp : Int → Int → Int × Bool} {D : List Int} {mk : Int → Bool} {mkO : Int → Option Bool} {next : Int → Int → Option (Int × Bool)} {al : List Int} (hd : Dom stp al D)
    (hm : ∀ x ∈ D, mkO x = some (mk x)) (hn : ∀ x ∈ D, ∀ e ∈ al, ∃ r, next x e = some (r, (stp x e).2) ∧ ((stp x e).2 = true → r = (stp x e).1)) :
    g_overseerlaw21_counter al next mkO = some (bldB stp mk al 5001 0 [0] [] []) := by
  have hll := hd.ll
  have hdl := hd.dl
  unfold g_overseerlaw21_counter f_overseerlaw21_counter g_overseerlaw21_build_int f_overseerlaw21_build_int
  obtain ⟨fuel, hfu, hge⟩ : ∃ f, fuel0 = f ∧ 1099511627776 ≤ f := ⟨_, rfl, Nat.le_refl _⟩
  rw [hfu]
  generalize hA : bldB stp mk al 5001 0 [0] [] [] = A
  have hAl : A.Alphabet = al := by rw [← hA]; exact bldB_al ..
  refine bind_of' (P := fun r => r = A) ?_ (fun v hv => by rw [hv])
  refine ⟨A, ?_, rfl⟩
  refine bind_of' (P := fun r => ∃ (st : List Int), r = (st, [], [], [], A.Marked, A.Edges) ∧ (st.length : Int) = A.States) ?_ ?_
  · refine iterF_rule (fun x : List Int × Int × List Int × List Int × List api_Edge × List Int × List api_Edge => ∃ (n f : Nat), x.2.1 = n ∧ x.2.2.1 = [] ∧ x.2.2.2.1 = [] ∧ x.2.2.2.2.1 = [] ∧ n + f = 5001 ∧ n ≤ x.1.length ∧ Stk D x.1 ∧ x.2.2.2.2.2.1.length ≤ n ∧ x.2.2.2.2.2.2.length ≤ 64 * n ∧ bldB stp mk al f n x.1 x.2.2.2.2.2.1 x.2.2.2.2.2.2 = A)
      (fun x => 5001 - x.2.1.toNat) (fun _ r => ∃ v, r = some v ∧ ∃ (st : List Int), v = (st, [], [], [], A.Marked, A.Edges) ∧ (st.length : Int) = A.States) ?_ fuel ([0], 0, [], [], [], [], []) ⟨0, 5001, rfl, rfl, rfl, rfl, rfl, Nat.zero_le _, ⟨by simp, fun x hx => by simp at hx; subst hx; exact hd.z⟩, Nat.zero_le _, Nat.zero_le _, hA⟩ (by dsimp only; omega)
    rintro k ⟨st, x, c1, c2, c3, ms, es⟩ ⟨n, f, hx, h1, h2, h3, hf, hnl, hst, hms, hes, hB⟩ ih
    dsimp only at hx h1 h2 h3 hnl hst hms hes hB ih ⊢
    subst hx h1 h2 h3
    have hsl := hst.len
    by_cases hlt : n < st.length
    · obtain ⟨f, rfl⟩ : ∃ g, f = g + 1 := ⟨f - 1, by omega⟩
      have hi : st[n]? = some st[n] := List.getElem?_eq_getElem hlt
      have hsD := hst.su _ (List.getElem_mem hlt)
      rw [if_pos (by omega), getO_nat hlt, wrap_succ (by omega)]
      simp only [Option.bind_some, hm _ hsD]
      rw [bldB, hi] at hB
      dsimp only at hB
      have hmk : (if mk st[n] then (appO ms [(n : Int)]).bind fun x32 => some x32 else some ms) = some (if mk st[n] then ms ++ [(n : Int)] else ms) := by
        rw [appO_some (by simp only [List.length_cons, List.length_nil]; unfold lim; omega)]
        split <;> rfl
      rw [hmk]
      simp only [Option.bind_some]
      have hrow := build_row (ms := if mk st[n] then ms ++ [(n : Int)] else ms) hd hn fuel hge hst hi (es := es) (by omega)
      rw [hrow]
      simp only [Option.bind_some]
      obtain ⟨k1, k2, k3⟩ := rowB_spec (i := n) (s := st[n]) (stp := stp) (al := al) (es := es) hst fun e he => hd.cl _ hsD e he
      have hk2 := k2.length_le
      refine ih _ ⟨n + 1, f, rfl, rfl, rfl, rfl, by omega, by dsimp only; omega, k1, ?_, by dsimp only; omega, hB⟩ (by simp only [Int.toNat_natCast]; omega)
      dsimp only
      split
      · simp only [List.length_append, List.length_cons, List.length_nil]; omega
      · omega
    · have hnn : st[n]? = none := List.getElem?_eq_none (by omega)
      rw [if_neg (by omega)]
      have hB' : (⟨al, (st.length : Int), ms, es⟩ : api_Automaton) = A := by
        cases f with
        | zero => exact hB
        | succ f => rw [bldB, hnn] at hB; exact hB
      subst hB'
      exact ⟨_, rfl, st, rfl, rfl⟩
  · rintro _ ⟨st, rfl, hl⟩
    dsimp only
    rw [hl]
    obtain ⟨a1, a2, a3, a4⟩ := A
    cases hAl
    rfl
end Go.Abs
end
section
namespace Go.Abs
open Go
set_option linter.unusedSimpArgs false
set_option linter.unusedVariables false
theorem comp_sorted {l : List Int} (h : l.Pairwise (· ≤ ·)) : (Lib.compact l).Pairwise (· < ·) := by
  unfold Lib.compact Lib.compactUpTo
  rw [List.pairwise_map]
  refine List.Pairwise.imp_of_mem ?_ (List.pairwise_lt_range.filter _)
  intro i j hi hj hij
  have hj2 := List.mem_filter.1 hj
  have hjl : j < l.length := List.mem_range.1 hj2.1
  have hk := hj2.2
  simp only [Lib.keeps, decide_eq_true_eq] at hk
  have hne : l.toArray[j]! ≠ l.toArray[j - 1]! := hk.resolve_left (by omega)
  have e : ∀ k, k < l.length → l.toArray[k]! = l[k]! := fun k hk => by simp [hk]
  have hle : ∀ p q, p ≤ q → q < l.length → l[p]! ≤ l[q]! := fun p q hpq hq => by
    rw [getElem!_pos l p (by omega), getElem!_pos l q hq]
    rcases Nat.lt_or_ge p q with hlt | hge
    · exact List.pairwise_iff_getElem.1 h p q (by omega) hq hlt
    · have : p = q := by omega
      subst this; exact Int.le_refl _
  rw [e i (by omega), e j hjl]
  rw [e j hjl, e (j - 1) (by omega)] at hne
  have h1 := hle i (j - 1) (by omega) (by omega)
  have h2 := hle (j - 1) j (by omega) hjl
  omega
theorem comp_mem {l : List Int} {x : Int} : x ∈ Lib.compact l ↔ x ∈ l := by
  unfold Lib.compact Lib.compactUpTo
  rw [List.mem_map]
  constructor
  · rintro ⟨j, hj, rfl⟩
    have hjl : j < l.length := List.mem_range.1 (List.mem_filter.1 hj).1
    have : l.toArray[j]! = l[j] := by simp [hjl]
    rw [this]; exact List.getElem_mem hjl
  · intro hx
    have hlt : l.idxOf x < l.length := List.idxOf_lt_length_of_mem hx
    have hget : ∀ k (h : k < l.length), l.toArray[k]! = l[k] := fun k h => by simp [h]
    refine ⟨l.idxOf x, List.mem_filter.2 ⟨List.mem_range.2 hlt, ?_⟩, by rw [hget _ hlt]; exact List.getElem_idxOf hlt⟩
    simp only [Lib.keeps, decide_eq_true_eq]
    by_cases h0 : l.idxOf x = 0
    · exact .inl h0
    · refine .inr ?_
      rw [hget _ hlt, hget _ (by omega), List.getElem_idxOf hlt]
      intro he
      have := List.not_of_lt_findIdx (p := (· == x)) (xs := l) (i := l.idxOf x - 1) (by show _ < l.idxOf x; omega)
      simp [← he] at this
theorem rise_eq {l m : List Int} (hl : l.Pairwise (· < ·)) (hm : m.Pairwise (· < ·)) (h : ∀ x, x ∈ l ↔ x ∈ m) : l = m := by
  refine List.Perm.eq_of_pairwise (le := (· < ·)) (fun a b _ _ h1 h2 => by omega) hl hm ?_
  rw [List.perm_ext_iff_of_nodup (hl.imp fun h => by omega) (hm.imp fun h => by omega)]
  exact h
theorem sorted_ok {l : List Int} (h : l.length ≤ 1000) : ∃ m, g_overseerlaw21_sorted l = some m ∧ m.Pairwise (· < ·) ∧ ∀ x, x ∈ m ↔ x ∈ l := by
  unfold g_overseerlaw21_sorted f_overseerlaw21_sorted
  rw [clone_ok (by unfold lim; omega)]
  have hO : Go.Sort.SWO ltInt' := ⟨fun x => by simp [ltInt'], fun x y z h1 h2 => by simp [ltInt'] at *; omega, fun x y z h1 h2 => by simp [ltInt'] at *; omega⟩
  have hp := isortB_perm ltInt' l
  have hs := isortB_sorted hO l
  have hl := isortB_length ltInt' l
  simp only [Option.bind_some, sortI, compactI]
  rw [if_pos (by unfold lim; omega)]
  simp only [Option.bind_some]
  rw [if_pos (by unfold lim; omega)]
  refine ⟨_, rfl, comp_sorted (hs.imp fun h => by simp [ltInt'] at h; omega), fun x => ?_⟩
  rw [comp_mem]; exact hp.mem_iff
end Go.Abs
end
section
namespace Go.Abs
open Go
set_option linter.unusedSimpArgs false
set_option linter.unusedVariables false
structure Mrg (kp : Bool → Bool → Bool) (l m a b out : List Int) : Prop where
  sa : a.Pairwise (· < ·)
  sb : b.Pairwise (· < ·)
  so : out.Pairwise (· < ·)
  oa : ∀ o ∈ out, ∀ x ∈ a, o < x
  ob : ∀ o ∈ out, ∀ x ∈ b, o < x
  ln : out.length + a.length + b.length < big
  eq : ∀ x, (x ∈ out ∨ kp (decide (x ∈ a)) (decide (x ∈ b)) = true) ↔ kp (decide (x ∈ l)) (decide (x ∈ m)) = true
theorem Mrg.step {kp : Bool → Bool → Bool} (h0 : kp false false = false) {l m a b out a' b' : List Int} {z : Int} {p q : Bool} (h : Mrg kp l m a b out) (ha : a = if p then z :: a' else a') (hb : b = if q then z :: b' else b') (hpq : p = true ∨ q = true)
    (hza : ∀ x ∈ a', z < x) (hzb : ∀ x ∈ b', z < x) : Mrg kp l m a' b' (if kp p q then out ++ [z] else out) := by
  have ma : ∀ x, x ∈ a ↔ (p = true ∧ x = z) ∨ x ∈ a' := fun x => by rw [ha]; cases p <;> simp
  have mb : ∀ x, x ∈ b ↔ (q = true ∧ x = z) ∨ x ∈ b' := fun x => by rw [hb]; cases q <;> simp
  have hoz : ∀ o ∈ out, o < z := fun o ho => by
    rcases hpq with rfl | rfl
    · exact h.oa o ho z ((ma z).2 (.inl ⟨rfl, rfl⟩))
    · exact h.ob o ho z ((mb z).2 (.inl ⟨rfl, rfl⟩))
  have hm : ∀ o, o ∈ (if kp p q then out ++ [z] else out) ↔ o ∈ out ∨ (kp p q = true ∧ o = z) := fun o => by cases kp p q <;> simp
  have hza' : z ∉ a' := fun hx => by have := hza z hx; omega
  have hzb' : z ∉ b' := fun hx => by have := hzb z hx; omega
  refine ⟨?_, ?_, ?_, ?_, ?_, ?_, fun x => ?_⟩
  · have := h.sa; rw [ha] at this; cases p
    · exact this
    · exact (List.pairwise_cons.1 this).2
  · have := h.sb; rw [hb] at this; cases q
    · exact this
    · exact (List.pairwise_cons.1 this).2
  · cases kp p q
    · exact h.so
    · simp only [if_true]
      rw [List.pairwise_append]
      exact ⟨h.so, by simp, fun o ho y hy => by simp at hy; subst hy; exact hoz o ho⟩
  · intro o ho x hx
    rcases (hm o).1 ho with ho | ⟨_, rfl⟩
    · exact h.oa o ho x ((ma x).2 (.inr hx))
    · exact hza x hx
  · intro o ho x hx
    rcases (hm o).1 ho with ho | ⟨_, rfl⟩
    · exact h.ob o ho x ((mb x).2 (.inr hx))
    · exact hzb x hx
  · have h1 := h.ln
    have h2 : a.length = a'.length + if p then 1 else 0 := by rw [ha]; cases p <;> simp
    have h3 : b.length = b'.length + if q then 1 else 0 := by rw [hb]; cases q <;> simp
    have h4 : (if kp p q then out ++ [z] else out).length ≤ out.length + 1 := by split <;> simp
    rcases hpq with rfl | rfl <;> simp at h2 h3 <;> omega
  · rw [← h.eq x, hm]
    by_cases hx : x = z
    · subst hx
      have e1 : decide (x ∈ a) = p := by rw [Bool.eq_iff_iff, decide_eq_true_eq, ma]; simp [hza']
      have e2 : decide (x ∈ b) = q := by rw [Bool.eq_iff_iff, decide_eq_true_eq, mb]; simp [hzb']
      rw [e1, e2, decide_eq_false hza', decide_eq_false hzb', h0]
      simp
    · have e1 : decide (x ∈ a) = decide (x ∈ a') := decide_eq_decide.2 (by rw [ma]; simp [hx])
      have e2 : decide (x ∈ b) = decide (x ∈ b') := decide_eq_decide.2 (by rw [mb]; simp [hx])
      rw [e1, e2]; simp [hx]
end Go.Abs
end
section
namespace Go.Abs
open Go
set_option linter.unusedSimpArgs false
set_option linter.unusedVariables false
end Go.Abs
end
section
namespace Go.Abs
open Go
set_option linter.unusedSimpArgs false
set_option linter.unusedVariables false
end Go.Abs
end
section
namespace Go.Abs
open Go
set_option linter.unusedSimpArgs false
set_option linter.unusedVariables false
end Go.Abs
end
section
namespace Go.Abs
open Go
set_option linter.unusedSimpArgs false
set_option linter.unusedVariables false
end Go.Abs
end
section
namespace Go.Abs
open Go
set_option linter.unusedSimpArgs false
set_option linter.unusedVariables false
theorem bldB_small {stp : Int → Int → Int × Bool} {mk : Int → Bool} {al D : List Int} (hd : Dom stp al D) (hD : D.length ≤ 5000) : ∀ (f i : Nat) (st ms : List Int) (es : List api_Edge), Stk D st → i ≤ st.length → ms.length ≤ i → es.length ≤ 64 * i → small (bldB stp mk al f i st ms es)
  | 0, i, st, ms, es, hst, hi, hm, he => by
    have := hst.len; have := hd.ll
    exact ⟨by unfold big; simp only [bldB]; omega, by unfold big; simp only [bldB]; omega, by unfold big; simp only [bldB]; omega⟩
  | f + 1, i, st, ms, es, hst, hi, hm, he => by
    have h1 := hst.len; have h2 := hd.ll
    unfold bldB
    cases hg : st[i]? with
    | none => exact ⟨by unfold big; simp only; omega, by unfold big; simp only; omega, by unfold big; simp only; omega⟩
    | some s =>
      have hlt : i < st.length := (List.getElem?_eq_some_iff.1 hg).1
      have hsD : s ∈ D := hst.su s (List.mem_of_getElem? hg)
      obtain ⟨k1, k2, k3⟩ := rowB_spec (i := i) (s := s) (stp := stp) (al := al) (es := es) hst fun e he => hd.cl _ hsD e he
      have hk := k2.length_le
      refine bldB_small hd hD f (i + 1) _ _ _ k1 (by omega) ?_ (by omega)
      split
      · simp only [List.length_append, List.length_cons, List.length_nil]; omega
      · omega
theorem bld_small {stp : Int → Int → Int × Bool} {mk : Int → Bool} {al D : List Int} (hd : Dom stp al D) : small (bldB stp mk al 5001 0 [0] [] []) :=
  bldB_small hd hd.dl 5001 0 [0] [] [] ⟨by simp, fun x hx => by simp at hx; subst hx; exact hd.z⟩ (by simp) (by simp) (by simp)
theorem none_small : small (api_Automaton.mk [] 0 [] []) := ⟨by unfold big; simp, by unfold big; simp, by unfold big; simp⟩
end Go.Abs
end
section
namespace Go.Abs
open Go
set_option linter.unusedSimpArgs false
set_option linter.unusedVariables false
def distErr (pre : List Int) : List Int → Int
  | [] => 0
  | x :: l => if x < 0 ∨ x ≥ 32 then 2 else if x ∈ pre then 8 else distErr (pre ++ [x]) l
theorem distinct_ok {l : List Int} (hl : l.length < 1000000) : g_requirement_distinct l = some (distErr [] l) := by
  unfold g_requirement_distinct f_requirement_distinct
  refine (iterF_idx (len := l.length) (fun k => some (distErr (l.take k) (l.drop k))) (by unfold fuel0; omega) ?_ ?_).trans (by simp)
  · intro k i hi ih
    try dsimp only
    have hs : slcO l 0 (i : Int) = some (l.take i) := by
      have := slcO_nat (l := l) (i := 0) (j := i) (by omega) (by omega)
      simpa using this
    rw [if_pos (by omega), getO_nat hi, wrap_succ (by omega), ih]
    simp only [Option.bind_some, hs]
    rw [List.drop_eq_getElem_cons hi, distErr, contains_ok (by rw [List.length_take]; unfold big; omega), ← List.take_succ_eq_append_getElem hi]
    by_cases h1 : l[i] < 0
    · simp [h1]
    · by_cases h2 : l[i] ≥ 32
      · simp [h1, h2]
      · by_cases h3 : l[i] ∈ l.take i <;> simp [h1, h2, h3]
  · intro k; simp [distErr]
theorem distErr_zero : ∀ {l pre : List Int}, pre.Nodup → distErr pre l = 0 → (∀ x ∈ l, 0 ≤ x ∧ x < 32) ∧ (pre ++ l).Nodup
  | [], pre, hn, _ => ⟨by simp, by simpa using hn⟩
  | x :: l, pre, hn, h => by
    unfold distErr at h
    by_cases h1 : x < 0 ∨ x ≥ 32
    · rw [if_pos h1] at h; omega
    · rw [if_neg h1] at h
      by_cases h2 : x ∈ pre
      · rw [if_pos h2] at h; omega
      · rw [if_neg h2] at h
        have hn' : (pre ++ [x]).Nodup := by
          rw [List.nodup_append]
          refine ⟨hn, by simp, fun a ha b hb => ?_⟩
          simp only [List.mem_singleton] at hb
          subst hb
          rintro rfl
          exact h2 ha
        obtain ⟨k1, k2⟩ := distErr_zero hn' h
        refine ⟨fun y hy => ?_, by simpa using k2⟩
        rcases List.mem_cons.1 hy with rfl | hy
        · omega
        · exact k1 y hy
theorem rsorted_ok {l : List Int} (hn : l.Nodup) (h : l.length ≤ 1000) : ∃ m, g_requirement_sorted l = some m ∧ m.Pairwise (· < ·) ∧ (∀ x, x ∈ m ↔ x ∈ l) ∧ m.length = l.length := by
  unfold g_requirement_sorted f_requirement_sorted
  rw [clone_ok (by unfold lim; omega)]
  have hO : Go.Sort.SWO ltInt' := ⟨fun x => by simp [ltInt'], fun x y z h1 h2 => by simp [ltInt'] at *; omega, fun x y z h1 h2 => by simp [ltInt'] at *; omega⟩
  have hp := isortB_perm ltInt' l
  have hs := isortB_sorted hO l
  have hl := isortB_length ltInt' l
  simp only [Option.bind_some, sortI]
  rw [if_pos (by unfold lim; omega)]
  have hnd : (isortB ltInt' l).Nodup := hp.nodup_iff.2 hn
  refine ⟨_, rfl, ?_, fun x => hp.mem_iff, hl⟩
  exact hs.imp₂ (fun a b h1 h2 => by simp [ltInt'] at h1; omega) hnd
end Go.Abs
end
section
namespace Go.Abs
open Go
set_option linter.unusedSimpArgs false
set_option linter.unusedVariables false
end Go.Abs
end
section
namespace Go.Abs
open Go
set_option linter.unusedSimpArgs false
set_option linter.unusedVariables false
def phBit (j : Nat) : Int := (shlO .i64 1 (j : Int)).getD 0
def phSh (x : Int) (j : Nat) : Int := (shrO .i64 x (j : Int)).getD 0
def entL (x : Int) (l : List Nat) (e : Int) : Int := l.foldl (fun e j => IntKind.wrap .i64 (e + andI .i64 (phSh x j) 1)) e
def chkJ (k : Nat) (x : Int) (j : Nat) : Bool :=
  (shlO .i64 1 (j : Int)).isSome && (shrO .i64 x (j : Int)).isSome && ((andI .i64 x (phBit j) == 0) == (andI .i64 (phSh x j) 1 == 0)) && ((andI .i64 x (phBit j) != 0) == (andI .i64 (phSh x j) 1 == 1)) &&
  decide (0 ≤ orI .i64 x (phBit j)) && decide (orI .i64 x (phBit j) < 2 ^ k) && decide (0 ≤ andNotI .i64 x (phBit j)) && decide (andNotI .i64 x (phBit j) < 2 ^ k)
def chkX (k x : Nat) : Bool := (g_bits_OnesCount (IntKind.wrap .u64 (x : Int)) == some (entL (x : Int) (List.range k) 0)) && (List.range k).all (chkJ k (x : Int))
def chkK (k : Nat) : Bool := (List.range (2 ^ k)).all (chkX k)
theorem chk_all : (List.range 7).all chkK = true := by kernel_rfl
theorem chk_ok {k x : Nat} (hk : k ≤ 6) (hx : x < 2 ^ k) : chkX k x = true :=
  List.all_eq_true.1 (List.all_eq_true.1 chk_all k (List.mem_range.2 (by omega))) x (List.mem_range.2 hx)
structure ChkJ (k : Nat) (x : Int) (j : Nat) : Prop where
  shl : shlO .i64 1 (j : Int) = some (phBit j)
  shr : shrO .i64 x (j : Int) = some (phSh x j)
  z : (andI .i64 x (phBit j) == 0) = (andI .i64 (phSh x j) 1 == 0)
  o : (andI .i64 x (phBit j) != 0) = (andI .i64 (phSh x j) 1 == 1)
  u : 0 ≤ orI .i64 x (phBit j) ∧ orI .i64 x (phBit j) < 2 ^ k
  v : 0 ≤ andNotI .i64 x (phBit j) ∧ andNotI .i64 x (phBit j) < 2 ^ k
theorem chkJ_ok {k x j : Nat} (hk : k ≤ 6) (hx : x < 2 ^ k) (hj : j < k) : ChkJ k (x : Int) j := by
  have h := chk_ok hk hx
  unfold chkX at h
  rw [Bool.and_eq_true] at h
  have h2 := List.all_eq_true.1 h.2 j (List.mem_range.2 hj)
  unfold chkJ at h2
  simp only [Bool.and_eq_true, decide_eq_true_eq, beq_iff_eq] at h2
  obtain ⟨⟨⟨⟨⟨⟨⟨a1, a2⟩, a3⟩, a4⟩, a5⟩, a6⟩, a7⟩, a8⟩ := h2
  refine ⟨?_, ?_, a3, a4, ⟨a5, a6⟩, ⟨a7, a8⟩⟩
  · obtain ⟨v, hv⟩ := Option.isSome_iff_exists.1 a1
    unfold phBit; rw [hv]; rfl
  · obtain ⟨v, hv⟩ := Option.isSome_iff_exists.1 a2
    unfold phSh; rw [hv]; rfl
theorem ones_ok {k x : Nat} (hk : k ≤ 6) (hx : x < 2 ^ k) : g_bits_OnesCount (IntKind.wrap .u64 (x : Int)) = some (entL (x : Int) (List.range k) 0) := by
  have h := chk_ok hk hx
  unfold chkX at h
  rw [Bool.and_eq_true] at h
  simpa using h.1
def evsP : List requirement_Phase → List Int
  | [] => []
  | p :: l => p.Enter :: p.Leave :: evsP l
theorem evsP_len : ∀ l : List requirement_Phase, (evsP l).length = 2 * l.length
  | [] => rfl
  | p :: l => by simp only [evsP, List.length_cons, evsP_len l]; omega
theorem evsP_snoc : ∀ (l : List requirement_Phase) (p : requirement_Phase), evsP (l ++ [p]) = evsP l ++ [p.Enter, p.Leave]
  | [], p => rfl
  | q :: l, p => by simp only [List.cons_append, evsP, evsP_snoc l p]
def phR (x most ent e : Int) : Nat → List requirement_Phase → Int × Bool
  | _, [] => (x, false)
  | j, p :: l => if e = p.Enter then (orI .i64 x (phBit j), (andI .i64 (phSh x j) 1 == 0) && decide (ent < most)) else if e = p.Leave then (andNotI .i64 x (phBit j), andI .i64 (phSh x j) 1 == 1) else phR x most ent e (j + 1) l
def phS (l : List requirement_Phase) (most x e : Int) : Int × Bool := phR x most (entL x (List.range l.length) 0) e 0 l
def phD (k : Nat) : List Int := (List.range (2 ^ k)).map fun (n : Nat) => (n : Int)
theorem mem_phD {k : Nat} {x : Int} : x ∈ phD k ↔ 0 ≤ x ∧ x < 2 ^ k := by
  unfold phD
  rw [List.mem_map]
  have hc : ((2 ^ k : Nat) : Int) = (2 : Int) ^ k := by simp
  constructor
  · rintro ⟨n, hn, rfl⟩
    have := List.mem_range.1 hn; omega
  · intro hx
    exact ⟨x.toNat, List.mem_range.2 (by omega), by omega⟩
theorem phR_rg {k x : Nat} (hk : k ≤ 6) (hx : x < 2 ^ k) {most ent e : Int} : ∀ {j : Nat} {l : List requirement_Phase}, j + l.length ≤ k → 0 ≤ (phR (x : Int) most ent e j l).1 ∧ (phR (x : Int) most ent e j l).1 < 2 ^ k
  | j, [], _ => by
    have hc : ((2 ^ k : Nat) : Int) = (2 : Int) ^ k := by simp
    simp only [phR]; omega
  | j, p :: l, h => by
    simp only [List.length_cons] at h
    have hj := chkJ_ok hk hx (j := j) (by omega)
    unfold phR
    split
    · exact hj.u
    · split
      · exact hj.v
      · exact phR_rg hk hx (by omega)
theorem phDom {l : List requirement_Phase} {most : Int} {al : List Int} (hl : l.length ≤ 6) (hal : al.length ≤ 64) : Dom (phS l most) al (phD l.length) := ⟨mem_phD.2 ⟨by omega, by
    have : (0 : Int) < 2 ^ l.length := Int.pow_pos (by omega)
    omega⟩, fun x hx e _ _ => by
  obtain ⟨n, hn, rfl⟩ := List.mem_map.1 hx
  exact mem_phD.2 (phR_rg hl (List.mem_range.1 hn) (by omega)), by
    unfold phD
    have : 2 ^ l.length ≤ 2 ^ 6 := Nat.pow_le_pow_right (by omega) hl
    simp only [List.length_map, List.length_range]; omega, hal⟩
theorem phR_idx {x most ent e : Int} : ∀ {l : List requirement_Phase} {j : Nat}, e ∈ evsP l →
    phR x most ent e j l = if (evsP l).idxOf e % 2 = 0 then (orI .i64 x (phBit (j + (evsP l).idxOf e / 2)), (andI .i64 (phSh x (j + (evsP l).idxOf e / 2)) 1 == 0) && decide (ent < most)) else (andNotI .i64 x (phBit (j + (evsP l).idxOf e / 2)), andI .i64 (phSh x (j + (evsP l).idxOf e / 2)) 1 == 1)
  | [], j, h => by simp [evsP] at h
  | p :: l, j, h => by
    unfold phR
    by_cases h1 : e = p.Enter
    · subst h1
      have : (evsP (p :: l)).idxOf p.Enter = 0 := by simp [evsP]
      rw [if_pos rfl, this]; simp
    · by_cases h2 : e = p.Leave
      · subst h2
        have : (evsP (p :: l)).idxOf p.Leave = 1 := by
          have : (p.Enter == p.Leave) = false := beq_eq_false_iff_ne.2 fun q => h1 q.symm
          simp [evsP, List.idxOf_cons, this]
        rw [if_neg h1, if_pos rfl, this]; simp
      · have hm : e ∈ evsP l := by
          simp only [evsP, List.mem_cons] at h
          rcases h with h | h | h
          · exact absurd h h1
          · exact absurd h h2
          · exact h
        have : (evsP (p :: l)).idxOf e = (evsP l).idxOf e + 2 := by
          have q1 : (p.Enter == e) = false := beq_eq_false_iff_ne.2 fun q => h1 q.symm
          have q2 : (p.Leave == e) = false := beq_eq_false_iff_ne.2 fun q => h2 q.symm
          simp [evsP, List.idxOf_cons, q1, q2]
        rw [if_neg h1, if_neg h2, this, phR_idx (j := j + 1) hm, show ((evsP l).idxOf e + 2) % 2 = (evsP l).idxOf e % 2 from by omega, show j + ((evsP l).idxOf e + 2) / 2 = j + 1 + (evsP l).idxOf e / 2 from by omega]
theorem atMost_step {l : List requirement_Phase} {most x e : Int} (hl : l.length ≤ 6) (hx : x ∈ phD l.length) (he : e ∈ evsP l) : g_requirement_AtMost_1 x e (evsP l) most = some (phS l most x e) := by
  obtain ⟨n, hn, rfl⟩ := List.mem_map.1 hx
  have hn := List.mem_range.1 hn
  unfold g_requirement_AtMost_1 f_requirement_AtMost_1 phS
  have hlen := evsP_len l
  rw [index_ok (by unfold big; omega), if_pos he, phR_idx he]
  have hi : (evsP l).idxOf e < (evsP l).length := List.idxOf_lt_length_of_mem he
  generalize (evsP l).idxOf e = i at hi
  have e1 : Int.tdiv (i : Int) 2 = ((i / 2 : Nat) : Int) := by rw [Int.tdiv_eq_ediv_of_nonneg (by omega)]; omega
  have e2 : (Int.tmod (i : Int) 2 == 0) = decide (i % 2 = 0) := by
    rw [Int.tmod_eq_emod_of_nonneg (by omega), Bool.eq_iff_iff, beq_iff_eq, decide_eq_true_eq]; omega
  rw [Option.bind_some, e1, wrap_id (x := ((i / 2 : Nat) : Int)) (by omega) (by omega)]
  have hj := chkJ_ok hl hn (j := i / 2) (by omega)
  rw [hj.shl, Option.bind_some, e2, hj.z, hj.o, ones_ok hl hn, Nat.zero_add]
  by_cases h1 : i % 2 = 0
  · rw [if_pos h1, if_pos (by simpa using h1)]
    by_cases h2 : (andI .i64 (phSh (n : Int) (i / 2)) 1 == 0) = true
    · rw [if_pos h2, h2]; rfl
    · have h2' : (andI .i64 (phSh (n : Int) (i / 2)) 1 == 0) = false := by simpa using h2
      rw [if_neg h2, h2']; rfl
  · rw [if_neg h1, if_neg (by simpa using h1)]
theorem phases_step {l : List requirement_Phase} {most x e : Int} (hl : l.length ≤ 6) (hx : x ∈ phD l.length) : g_overseerlaw21_RequirementPhases_1 x e l most = some (phS l most x e) := by
  obtain ⟨n, hn, rfl⟩ := List.mem_map.1 hx
  have hn := List.mem_range.1 hn
  unfold g_overseerlaw21_RequirementPhases_1 f_overseerlaw21_RequirementPhases_1 phS
  obtain ⟨fuel, hfu, hge⟩ : ∃ f, fuel0 = f ∧ 1099511627776 ≤ f := ⟨_, rfl, Nat.le_refl _⟩
  rw [hfu]
  have h1 := iterF_at (F := fun (k11 : Int × Int → Option Int) ((entered9, x10) : Int × Int) => (if (x10 < (l.length : Int)) then ((shrO .i64 (n : Int) x10).bind fun s13 => k11 ((IntKind.wrap .i64 (entered9 + (andI .i64 s13 1))), (IntKind.wrap .i64 (x10 + 1)))) else some entered9)) (len := l.length)
    (fun m (s : Int) => (s, (m : Int))) (fun m s => some (entL (n : Int) ((List.range l.length).drop m) s)) (by
      intro k m s hm ih
      dsimp only
      have hj := chkJ_ok hl hn hm
      rw [if_pos (by omega), hj.shr, wrap_succ (by omega)]
      simp only [Option.bind_some]
      rw [ih, show (List.range l.length).drop m = m :: (List.range l.length).drop (m + 1) from by rw [List.drop_eq_getElem_cons (by simpa using hm)]; simp]
      simp [entL]) (by
      intro k s
      rw [List.drop_of_length_le (by simp)]
      simp [entL]) fuel 0 0 (Nat.zero_le _) (by omega)
  have h1' : iterF (fun (k11 : Int × Int → Option Int) ((entered9, x10) : Int × Int) => (if (x10 < (l.length : Int)) then ((shrO .i64 (n : Int) x10).bind fun s13 => k11 ((IntKind.wrap .i64 (entered9 + (andI .i64 s13 1))), (IntKind.wrap .i64 (x10 + 1)))) else some entered9)) fuel (0, 0) = some (entL (n : Int) (List.range l.length) 0) := h1
  rw [h1']
  simp only [Option.bind_some]
  generalize entL (n : Int) (List.range l.length) 0 = ent
  refine (iterF_idx (len := l.length) (fun j => some (phR (n : Int) most ent e j (l.drop j))) (by omega) ?_ ?_).trans (by simp)
  · intro k i hi ih
    try dsimp only
    have hj := chkJ_ok hl hn hi
    rw [if_pos (by omega), getO_nat hi, wrap_succ (by omega), ih]
    simp only [Option.bind_some, hj.shl, hj.shr]
    rw [List.drop_eq_getElem_cons hi, phR]
    by_cases h1 : e = l[i].Enter
    · rw [if_pos h1, if_pos (by simpa using h1)]
      by_cases h2 : (andI .i64 (phSh (n : Int) i) 1 == 0) = true
      · rw [if_pos h2, h2]; rfl
      · have h2' : (andI .i64 (phSh (n : Int) i) 1 == 0) = false := by simpa using h2
        rw [if_neg h2, h2']; rfl
    · rw [if_neg h1, if_neg (by simpa using h1)]
      by_cases h2 : e = l[i].Leave
      · rw [if_pos h2, if_pos (by simpa using h2)]
      · rw [if_neg h2, if_neg (by simpa using h2)]
  · intro k; simp [phR]
def phErr (l : List requirement_Phase) (most : Int) : Int := if l.length > 10 then 3 else if distErr [] (evsP l) ≠ 0 then distErr [] (evsP l) else if most < 0 ∨ most > l.length then 2 else 0
theorem atMost_ok {l : List requirement_Phase} {most : Int} (hl : l.length ≤ 6 ∨ l.length = 11) :
    if phErr l most = 0 then l.length ≤ 6 ∧ ∃ R, R.Pairwise (· < ·) ∧ (∀ x, x ∈ R ↔ x ∈ evsP l) ∧ R.length ≤ 64 ∧ g_requirement_AtMost l most = some (bldB (phS l most) (fun _ => true) R 5001 0 [0] [] [], 0) else g_requirement_AtMost l most = some (⟨[], 0, [], []⟩, phErr l most) := by
  unfold g_requirement_AtMost f_requirement_AtMost
  obtain ⟨fuel, hfu, hge⟩ : ∃ f, fuel0 = f ∧ 1099511627776 ≤ f := ⟨_, rfl, Nat.le_refl _⟩
  rw [hfu]
  by_cases h11 : (l.length : Int) > 10
  · have hE : phErr l most = 3 := by unfold phErr; rw [if_pos (by omega)]
    rw [hE, if_neg (by decide), if_pos h11]
  have hl6 : l.length ≤ 6 := by omega
  have hlen := evsP_len l
  rw [if_neg h11]
  have h1 := iterF_inv (F := fun (k9 : Int × (List Int) × (List Int) × (List api_Edge) × (List Int) → Option (List Int × List Int × List api_Edge × List Int)) ((x4, c5, c6, c7, events8) : Int × (List Int) × (List Int) × (List api_Edge) × (List Int)) => (if (x4 < (l.length : Int)) then ((getO l x4).bind fun x11 => ((appO events8 [x11.Enter, x11.Leave]).bind fun x13 => k9 ((IntKind.wrap .i64 (x4 + 1)), c5, c6, c7, x13))) else some (c5, c6, c7, events8))) (len := l.length)
    (fun n (s : List Int) => ((n : Int), [], [], [], s)) (fun n s => s = evsP (l.take n)) (fun _ _ => some ([], [], [], evsP l)) (by
      intro k n s hn hs ih
      dsimp only
      have hsl : s.length = 2 * n := by rw [hs, evsP_len, List.length_take]; omega
      rw [if_pos (by omega), getO_nat hn, wrap_succ (by omega), Option.bind_some, appO_some (by simp only [List.length_cons, List.length_nil]; unfold lim; omega), Option.bind_some]
      refine ih _ ?_
      rw [hs, List.take_succ_eq_append_getElem hn, evsP_snoc]) (by
      intro k s hs
      dsimp only
      rw [if_neg (by omega), hs, List.take_length]) fuel 0 [] (Nat.zero_le _) (by omega) (by simp [evsP])
  have h1' : iterF (fun (k9 : Int × (List Int) × (List Int) × (List api_Edge) × (List Int) → Option (List Int × List Int × List api_Edge × List Int)) ((x4, c5, c6, c7, events8) : Int × (List Int) × (List Int) × (List api_Edge) × (List Int)) => (if (x4 < (l.length : Int)) then ((getO l x4).bind fun x11 => ((appO events8 [x11.Enter, x11.Leave]).bind fun x13 => k9 ((IntKind.wrap .i64 (x4 + 1)), c5, c6, c7, x13))) else some (c5, c6, c7, events8))) fuel (0, [], [], [], []) = some ([], [], [], evsP l) := h1
  rw [h1']
  simp only [Option.bind_some]
  rw [distinct_ok (by omega), Option.bind_some]
  by_cases h0 : distErr [] (evsP l) = 0
  case neg =>
    have hb : (distErr [] (evsP l) != 0) = true := by simp [h0]
    have hE : phErr l most = distErr [] (evsP l) := by unfold phErr; rw [if_neg (by omega), if_pos h0]
    rw [hE, if_neg h0, if_pos hb]
  have hb : (distErr [] (evsP l) != 0) = false := by simp [h0]
  have hmost : (if most < 0 then some true else some (decide (most > (l.length : Int)))) = some (decide (most < 0 ∨ most > (l.length : Int))) := by
    by_cases h : most < 0 <;> simp [h]
  rw [hb, hmost]
  simp only [Bool.false_eq_true, if_false, Option.bind_some, decide_eq_true_eq]
  by_cases h3 : most < 0 ∨ most > (l.length : Int)
  · have hE : phErr l most = 2 := by unfold phErr; rw [if_neg (by omega), if_neg (by simpa using h0), if_pos h3]
    rw [hE, if_neg (by decide), if_pos h3]
  have hE : phErr l most = 0 := by unfold phErr; rw [if_neg (by omega), if_neg (by simpa using h0), if_neg h3]
  rw [hE, if_pos rfl, if_neg h3]
  obtain ⟨d1, d2⟩ := distErr_zero (by simp) h0
  obtain ⟨R, r1, r2, r3, r4⟩ := rsorted_ok (l := evsP l) (by simpa using d2) (by omega)
  have hR : R.length ≤ 64 := by omega
  refine ⟨hl6, R, r2, r3, hR, ?_⟩
  rw [r1]
  simp only [Option.bind_some]
  rw [explore_ok (phDom (most := most) hl6 hR) (mk := fun _ => true) (mkO := g_requirement_all) (fun x _ => rfl) (next := fun a30 a31 => g_requirement_AtMost_1 a30 a31 (evsP l) most) fun x hx y hy => ⟨_, atMost_step hl6 hx ((r3 y).1 hy), fun _ => rfl⟩]
  rfl
def wstP (s : Int × List Int) (e : Int) : Int × List Int :=
  let w := if s.1 = 0 ∧ (e < 0 ∨ e ≥ 32) then 2 else s.1
  (if w = 0 ∧ e ∈ s.2 then 8 else w, s.2 ++ [e])
theorem wstP_fold : ∀ (l : List Int) (w : Int) (pre : List Int), l.foldl wstP (w, pre) = (if w ≠ 0 then w else distErr pre l, pre ++ l)
  | [], w, pre => by simp [distErr]
  | e :: l, w, pre => by
    rw [List.foldl_cons, wstP, wstP_fold l]
    rw [show distErr pre (e :: l) = if e < 0 ∨ e ≥ 32 then 2 else if e ∈ pre then 8 else distErr (pre ++ [e]) l from rfl]
    by_cases h1 : w = 0
    · subst h1
      by_cases h2 : e < 0 ∨ e ≥ 32
      · simp [h2]
      · by_cases h3 : e ∈ pre <;> simp [h2, h3]
    · simp [h1]
theorem requirementPhases_ok (l : List requirement_Phase) (most : Int) : g_overseerlaw21_RequirementPhases l most = some true := by
  unfold g_overseerlaw21_RequirementPhases f_overseerlaw21_RequirementPhases
  obtain ⟨fuel, hfu, hge⟩ : ∃ f, fuel0 = f + 3 ∧ 1099511627000 ≤ f := ⟨1099511627773, rfl, by omega⟩
  rw [hfu, known21_ok]
  simp only [Option.bind_some, if_true]
  by_cases hg : l.length > 6 ∧ l.length ≠ 11
  · have g1 : (l.length : Int) > 6 := by omega
    have g2 : ((l.length : Int) != 11) = true := by simp; omega
    simp [g1, g2]
  have hl : l.length ≤ 6 ∨ l.length = 11 := by omega
  have hg' : (if (l.length : Int) > 6 then some ((l.length : Int) != 11) else some false) = some false := by
    by_cases h : (l.length : Int) > 6
    · have : ((l.length : Int) != 11) = false := by simp; omega
      simp [h, this]
    · simp [h]
  rw [hg']
  simp only [Option.bind_some, Bool.false_eq_true, if_false]
  have hin : ∀ x, g_overseerlaw21_in x = some (decide (¬ (x < 0 ∨ x ≥ 32))) := fun x => by
    unfold g_overseerlaw21_in f_overseerlaw21_in
    by_cases h : x ≥ 0
    · rw [if_pos h]; congr 1; exact decide_eq_decide.2 (by omega)
    · rw [if_neg h]; congr 1; symm; simp; omega
  have hst : ∀ {S : Type} (w : Int) (all : List Int) (e : Int) (K : Int → List Int → Option S), all.length ≤ 100 → (((((if (w == 0) then ((g_overseerlaw21_in e).bind fun x32 => some (!x32)) else some false)).bind fun (x33 : Bool) => (if x33 then some 2 else some w))).bind fun (want35 : Int) => (((((if (want35 == 0) then ((g_slices_Contains_int all e).bind fun x38 => some x38) else some false)).bind fun (x39 : Bool) => (if x39 then some 8 else some want35))).bind fun (want41 : Int) => ((appO all [e]).bind fun x42 => K want41 x42))) = K (wstP (w, all) e).1 (wstP (w, all) e).2 := by
    intro S w all e K hall
    rw [hin, contains_ok (by unfold big; omega), appO_some (by simp only [List.length_cons, List.length_nil]; unfold lim; omega)]
    unfold wstP
    by_cases h1 : w = 0
    · subst h1
      by_cases h2 : e < 0 ∨ e ≥ 32
      · simp [h2]
      · by_cases h3 : e ∈ all <;> simp [h2, h3]
    · have h1' : (w == 0) = false := by simp [h1]
      simp [h1, h1']
  have hloop : ∀ w0 : Int, iterF (fun (k19 : Int × List Int × Int → Option (Int × List Int)) ((want16, all17, x18) : Int × (List Int) × Int) => (if (x18 < (l.length : Int)) then ((((getO l x18).bind fun x21 => iterF (fun (k26 : Int × List Int × Int → Option (Int × List Int × Int × Int)) ((want23, all24, x25) : Int × (List Int) × Int) => (if (x25 < 2) then ((getO [x21.Enter, x21.Leave] x25).bind fun x28 => (((((if (want23 == 0) then ((g_overseerlaw21_in x28).bind fun x32 => some (!x32)) else some false)).bind fun (x33 : Bool) => (if x33 then some 2 else some want23))).bind fun (want35 : Int) => (((((if (want35 == 0) then ((g_slices_Contains_int all24 x28).bind fun x38 => some x38) else some false)).bind fun (x39 : Bool) => (if x39 then some 8 else some want35))).bind fun (want41 : Int) => ((appO all24 [x28]).bind fun x42 => k26 (want41, x42, (IntKind.wrap .i64 (x25 + 1))))))) else some (want23, all24, x21.Enter, x21.Leave))) (fuel + 3) (want16, all17, 0))).bind fun ((want44, all45, c46, c47) : Int × (List Int) × Int × Int) => k19 (want44, all45, (IntKind.wrap .i64 (x18 + 1)))) else some (want16, all17))) (fuel + 3) (w0, [], 0) = some ((evsP l).foldl wstP (w0, [])) := by
    intro w0
    have := iterF_inv (F := fun (k19 : Int × List Int × Int → Option (Int × List Int)) ((want16, all17, x18) : Int × (List Int) × Int) => (if (x18 < (l.length : Int)) then ((((getO l x18).bind fun x21 => iterF (fun (k26 : Int × List Int × Int → Option (Int × List Int × Int × Int)) ((want23, all24, x25) : Int × (List Int) × Int) => (if (x25 < 2) then ((getO [x21.Enter, x21.Leave] x25).bind fun x28 => (((((if (want23 == 0) then ((g_overseerlaw21_in x28).bind fun x32 => some (!x32)) else some false)).bind fun (x33 : Bool) => (if x33 then some 2 else some want23))).bind fun (want35 : Int) => (((((if (want35 == 0) then ((g_slices_Contains_int all24 x28).bind fun x38 => some x38) else some false)).bind fun (x39 : Bool) => (if x39 then some 8 else some want35))).bind fun (want41 : Int) => ((appO all24 [x28]).bind fun x42 => k26 (want41, x42, (IntKind.wrap .i64 (x25 + 1))))))) else some (want23, all24, x21.Enter, x21.Leave))) (fuel + 3) (want16, all17, 0))).bind fun ((want44, all45, c46, c47) : Int × (List Int) × Int × Int) => k19 (want44, all45, (IntKind.wrap .i64 (x18 + 1)))) else some (want16, all17))) (len := l.length)
      (fun n (s : Int × List Int) => (s.1, s.2, (n : Int))) (fun n s => s.2.length = 2 * n) (fun n s => some ((evsP (l.drop n)).foldl wstP s)) (by
        rintro k n ⟨w, all⟩ hn hs ih
        dsimp only at hs ih ⊢
        have hall : all.length ≤ 98 := by omega
        rw [if_pos (by omega), getO_nat hn, wrap_succ (by omega), Option.bind_some]
        rw [iterF]
        dsimp only
        rw [if_pos (by decide), show getO [l[n].Enter, l[n].Leave] (0 : Int) = some l[n].Enter from rfl, Option.bind_some, hst w all l[n].Enter _ (by omega)]
        have ha : (wstP (w, all) l[n].Enter).2.length ≤ 100 := by simp only [wstP, List.length_append, List.length_cons, List.length_nil]; omega
        rw [show IntKind.wrap .i64 ((0 : Int) + 1) = 1 from by decide, iterF]
        dsimp only
        rw [if_pos (by decide), show getO [l[n].Enter, l[n].Leave] (1 : Int) = some l[n].Leave from rfl, Option.bind_some, hst _ _ l[n].Leave _ ha]
        rw [show IntKind.wrap .i64 ((1 : Int) + 1) = 2 from by decide, iterF]
        dsimp only
        rw [if_neg (by decide), Option.bind_some]
        have h2 := ih (wstP (wstP (w, all) l[n].Enter) l[n].Leave) (by simp only [wstP, List.length_append, List.length_cons, List.length_nil]; omega)
        refine Eq.trans h2 ?_
        rw [List.drop_eq_getElem_cons hn]
        rfl) (by
        rintro k ⟨w, all⟩ hs
        dsimp only
        rw [if_neg (by omega), List.drop_length]; rfl) (fuel + 3) 0 (w0, []) (Nat.zero_le _) (by omega) rfl
    exact this
  have hp := atMost_ok (l := l) (most := most) hl
  have hw0 : (if (l.length : Int) > 10 then some (3 : Int) else some 0) = some (if (l.length : Int) > 10 then 3 else 0) := by split <;> rfl
  have hwant : ∀ {S : Type} (K : Int → Option S), ((((if ((if (if (l.length : Int) > 10 then (3 : Int) else 0) ≠ 0 then (if (l.length : Int) > 10 then 3 else 0) else distErr [] (evsP l)) == 0) then (if (most < 0) then some true else some (decide (most > (l.length : Int)))) else some false)).bind fun (x52 : Bool) => (if x52 then some 2 else some (if (if (l.length : Int) > 10 then (3 : Int) else 0) ≠ 0 then (if (l.length : Int) > 10 then 3 else 0) else distErr [] (evsP l))))).bind K = K (phErr l most) := by
    intro S K
    unfold phErr
    by_cases a : (l.length : Int) > 10
    · have a2 : l.length > 10 := by omega
      simp [a, a2]
    · have a2 : ¬ l.length > 10 := by omega
      by_cases b : distErr [] (evsP l) = 0
      · by_cases b1 : most < 0
        · simp [a, a2, b, b1]
        · by_cases b2 : most > (l.length : Int) <;> simp [a, a2, b, b1, b2]
      · have b' : (distErr [] (evsP l) == 0) = false := by simp [b]
        simp [a, a2, b, b']
  by_cases h0 : phErr l most = 0
  case neg =>
    rw [if_neg h0] at hp
    rw [hp, Option.bind_some, hw0, Option.bind_some, hloop, wstP_fold, Option.bind_some]
    dsimp only
    rw [hwant]
    have hb : (phErr l most != 0) = true := by simp [h0]
    rw [if_pos hb, if_pos (by simp), equal_ok none_small]
    simp
  rw [if_pos h0] at hp
  obtain ⟨hl6, R, r1, r2, r3, r4⟩ := hp
  have hlen := evsP_len l
  rw [r4, Option.bind_some, hw0, Option.bind_some, hloop, wstP_fold, Option.bind_some]
  dsimp only
  rw [hwant, h0, if_neg (by simp), List.nil_append]
  obtain ⟨S, s1, s2, s3⟩ := sorted_ok (l := evsP l) (by omega)
  have hSR : S = R := rise_eq s2 r1 fun x => by rw [s3, r2]
  subst hSR
  rw [s1, Option.bind_some, counter_ok (phDom (most := most) hl6 r3) (mk := fun _ => true) (mkO := g_overseerlaw21_always_int) (fun x _ => rfl) (next := fun a39 a40 => g_overseerlaw21_RequirementPhases_1 a39 a40 l most) fun x hx e he => ⟨_, phases_step hl6 hx, fun _ => rfl⟩]
  rw [Option.bind_some, if_pos (by simp), equal_ok (bld_small (phDom hl6 r3))]
  simp
end Go.Abs
end
