/-
  Part 6 of the proof: see the last text.
-/
import Derived.Test.YtnmmhhnhjdglhaaP5
import Derived.Test.YtnmmhhnhjdglhaaProg
import Derived.KernelRfl
import Derived.Shelf.SlSortCmp.NoneTotal
import Derived.Ground.SlgmProg
import Derived.Shelf.SortM.Plain
import Derived.Shelf.SortM.SortNone
import Derived.OpenShut
import Derived.ProofKit
import Derived.Carry
import GoSem.Claim
import GoSem.ClaimJoined
import Derived.JoinedTies
set_option linter.unusedVariables false
set_option linter.unusedSimpArgs false
set_option linter.unusedSectionVars false
section
namespace Go.Abs
open Go
set_option linter.unusedVariables false
set_option maxRecDepth 10000
set_option maxHeartbeats 4000000
theorem overseerref03_Step_walk {P : Program} {c : Nat} (hcf : compFn P c = some F_overseerref03_Step) (fuel : Nat) : K_overseerref03_Step P c (f_overseerref03_Step fuel) := by
 intro a1 state2 event3 r h
 refine fn_trP hcf rfl fun Γ M hP hnt hM => ?_
 subst hP
 refine Tr.init [(0, .agg [.d (.lst 1 (List.map (eI .i64) a1.Alphabet)), .d (.int .i64 a1.States), .d (.lst 1 (List.map (eI .i64) a1.Marked)), .d (.lst 3 (List.map e_api_Edge a1.Edges))]), (1, .d (.int .i64 state2)), (2, .d (.int .i64 event3))] rfl ?_
 unfold f_overseerref03_Step at h
 unfold F_overseerref03_Step
 refine sr ((Rn.box (v := .agg [.d (.lst 1 (List.map (eI .i64) a1.Alphabet)), .d (.int .i64 a1.States), .d (.lst 1 (List.map (eI .i64) a1.Marked)), .d (.lst 3 (List.map e_api_Edge a1.Edges))]) (cs := [.d (.lst 1 (List.map (eI .i64) a1.Alphabet)), .d (.int .i64 a1.States), .d (.lst 1 (List.map (eI .i64) a1.Marked)), .d (.lst 3 (List.map e_api_Edge a1.Edges))]) trivial rfl rfl rfl rfl rfl (md rfl (nt ((Tr.seq (sr ((md rfl (nt ((Tr.block ?_))))))))))))
 refine Tr.loop (mk := fun (i4 : Int) => ⟨look [(1, .d (.int .i64 state2)), (2, .d (.int .i64 event3)), (3, .ptr (Γ.n0 + 3) 0), (7, .d (.int .i64 i4))], memOf Γ.n0 (bxs [(3, .cells ([.d (.lst 1 (List.map (eI .i64) a1.Alphabet)), .d (.int .i64 a1.States), .d (.lst 1 (List.map (eI .i64) a1.Marked)), .d (.lst 3 (List.map e_api_Edge a1.Edges))]))]) M, Γ.n0 + 39⟩) h (by show WeakSt Γ (clean _ _ _) ⟨look _, memOf _ (bxs _) _, _⟩; exact weak_clean ⟨(.same rfl), ⟨(.same rfl), ⟨(kPtr rfl), ⟨(.same rfl), trivial⟩⟩⟩⟩ ⟨⟨_, rfl, rfl, (.same rfl)⟩, trivial⟩ rfl) (fun k5 z h => ?_)
 ·obtain ⟨i4, rfl⟩ : ∃ x, x = z := ⟨_, rfl⟩
  replace h : _ = some _ := h
  refine Tr.seq (sr ((md rfl (Rn.fldP (o' := 3) trivial rfl rfl (Rn.load (v := .d (.lst 3 (List.map e_api_Edge a1.Edges))) trivial rfl (boxOwn rfl) rfl rfl (Rn.lenD trivial rfl (Rn.bin trivial rfl rfl rfl (Rn.nil (toN ?_)))))))))
  refine Tr.cond rfl (fun hb6 => ?_) (fun hb6 => ?_)
  ·replace h := ifT hb6 h
   refine Tr.skip (toN (Tr.seq (Tr.block ?_)))
   refine Tr.cutB (fun (x12 : Bool) => ⟨look [(1, .d (.int .i64 state2)), (2, .d (.int .i64 event3)), (3, .ptr (Γ.n0 + 3) 0), (7, .d (.int .i64 i4)), (32, .d (.bool x12))], memOf Γ.n0 (bxs [(3, .cells ([.d (.lst 1 (List.map (eI .i64) a1.Alphabet)), .d (.int .i64 a1.States), .d (.lst 1 (List.map (eI .i64) a1.Marked)), .d (.lst 3 (List.map e_api_Edge a1.Edges))]))]) M, Γ.n0 + 39⟩) h (fun z h => ?_) (fun z h => ?_)
   ·refine Tr.rgn (Rn.fldP (o' := 3) trivial rfl rfl (Rn.load (v := .d (.lst 3 (List.map e_api_Edge a1.Edges))) trivial rfl (boxOwn rfl) rfl rfl (md rfl ?_)))
    obtain ⟨x7, h8, h⟩ := bnd h
    refine Rn.idxD (e := e_api_Edge) trivial rfl rfl h8 (Rn.fldC trivial rfl (Rn.loadC (x := .int .i64 x7.From) trivial rfl (md rfl (Rn.bin trivial rfl rfl rfl (md rfl ?_)))))
    refine bsplit (x7.From == state2) (fun hb9 => ?_) (fun hb9 => ?_)
    ·replace h := bT hb9 h
     refine Rn.fldP (o' := 3) (gw rfl hb9) rfl rfl (Rn.load (v := .d (.lst 3 (List.map e_api_Edge a1.Edges))) (gw rfl hb9) rfl (boxOwn rfl) rfl rfl (Rn.movD (gw rfl hb9) rfl ?_))
     obtain ⟨x10, h11, h⟩ := bnd h
     refine Rn.idxD (e := e_api_Edge) (gw rfl hb9) rfl rfl h11 (Rn.fldC (gw rfl hb9) rfl (Rn.loadC (x := .int .i64 x10.Event) (gw rfl hb9) rfl (Rn.movD (gw rfl hb9) rfl (Rn.bin (gw rfl hb9) rfl rfl rfl (Rn.pickT (v := .d (.bool (x10.Event == event3))) trivial rfl hb9 rfl (Rn.nil ?_))))))
     replace h := si h; subst h
     show WeakSt Γ _ ⟨look _, memOf _ (bxs _) _, _⟩; exact weak_cut [] ⟨(.same rfl), ⟨(.same rfl), ⟨(kPtr rfl), ⟨(.same rfl), ⟨(.same rfl), trivial⟩⟩⟩⟩⟩ ⟨⟨_, rfl, rfl, (.same rfl)⟩, trivial⟩ rfl
    ·replace h := bF hb9 h
     refine Rn.sk (nw rfl hb9) (Rn.sk (nw rfl hb9) (Rn.sk (nw rfl hb9) (Rn.sk (nw rfl hb9) (Rn.sk (nw rfl hb9) (Rn.sk (nw rfl hb9) (Rn.sk (nw rfl hb9) (Rn.sk (nw rfl hb9) (Rn.pickF (v := .d (.bool false)) trivial rfl hb9 rfl (Rn.nil ?_)))))))))
     replace h := si h; subst h
     show WeakSt Γ _ ⟨look _, memOf _ (bxs _) _, _⟩; exact weak_cut [] ⟨(.same rfl), ⟨(.same rfl), ⟨(kPtr rfl), ⟨(.same rfl), ⟨(.same rfl), trivial⟩⟩⟩⟩⟩ ⟨⟨_, rfl, rfl, (.same rfl)⟩, trivial⟩ rfl
   ·obtain ⟨x12, rfl⟩ : ∃ x, x = z := ⟨_, rfl⟩
    refine Tr.cond rfl (fun hb13 => ?_) (fun hb13 => ?_)
    ·replace h := bT hb13 h
     refine sr ((Rn.fldP (o' := 3) trivial rfl rfl (Rn.load (v := .d (.lst 3 (List.map e_api_Edge a1.Edges))) trivial rfl (boxOwn rfl) rfl rfl (md rfl ?_))))
     obtain ⟨x14, h15, h⟩ := bnd h
     refine Rn.idxD (e := e_api_Edge) trivial rfl rfl h15 (Rn.fldC trivial rfl (Rn.loadC (x := .int .i64 x14.To) trivial rfl (md rfl (nt ((Tr.ret ?_))))))
     replace h := si h; subst h
     exact ⟨.inr rfl, (.d (.int .i64 x14.To)), rfl, fun _ _ _ _ h => h, trivial, fun k hk => memOf_base hk⟩
    ·replace h := bF hb13 h
     refine Tr.skip (toN (Tr.rgn (md rfl (Rn.bin trivial rfl rfl rfl (md rfl (Rn.nil ?_))))))
     exact ⟨_, h, (by show WeakSt Γ (clean _ _ _) ⟨look _, memOf _ (bxs _) _, _⟩; exact weak_clean ⟨(.same rfl), ⟨(.same rfl), ⟨(kPtr rfl), ⟨(.same rfl), trivial⟩⟩⟩⟩ ⟨⟨_, rfl, rfl, (.same rfl)⟩, trivial⟩ rfl)⟩
  ·replace h := ifF hb6 h
   refine Tr.exit (toN (sr ((md rfl (nt ((Tr.ret ?_)))))))
   replace h := si h; subst h
   exact ⟨.inr rfl, (.d (.int .i64 (-1))), rfl, fun _ _ _ _ h => h, trivial, fun k hk => memOf_base hk⟩
theorem overseerref03_has_walk {P : Program} {c : Nat} (hcf : compFn P c = some F_overseerref03_has) (fuel : Nat) : K_overseerref03_has P c (f_overseerref03_has fuel) := by
 intro l1 n2 r h
 refine fn_trP hcf rfl fun Γ M hP hnt hM => ?_
 subst hP
 refine Tr.init [(0, .d (.lst 1 (List.map (eI .i64) l1))), (1, .d (.int .i64 n2))] rfl ?_
 unfold f_overseerref03_has at h
 unfold F_overseerref03_has
 refine sr ((md rfl (nt ((Tr.seq (sr ((md rfl (nt ((Tr.block ?_)))))))))))
 refine Tr.loop (mk := fun (i3 : Int) => ⟨look [(0, .d (.lst 1 (List.map (eI .i64) l1))), (1, .d (.int .i64 n2)), (5, .d (.int .i64 i3))], memOf Γ.n0 (bxs []) M, Γ.n0 + 18⟩) h (by show WeakSt Γ (clean _ _ _) ⟨look _, memOf _ (bxs _) _, _⟩; exact weak_clean ⟨(.same rfl), ⟨(.same rfl), ⟨(.same rfl), trivial⟩⟩⟩ trivial rfl) (fun k4 z h => ?_)
 ·obtain ⟨i3, rfl⟩ : ∃ x, x = z := ⟨_, rfl⟩
  replace h : _ = some _ := h
  refine Tr.seq (sr ((md rfl (md rfl (Rn.lenD trivial rfl (Rn.bin trivial rfl rfl rfl (Rn.nil (toN ?_))))))))
  refine Tr.cond rfl (fun hb5 => ?_) (fun hb5 => ?_)
  ·replace h := ifT hb5 h
   refine Tr.skip (toN (Tr.seq (Tr.block (sr ((md rfl (md rfl ?_)))))))
   obtain ⟨x6, h7, h⟩ := bnd h
   refine Rn.idxD (e := (eI .i64)) trivial rfl rfl h7 (Rn.loadC (x := .int .i64 x6) trivial rfl (md rfl (Rn.bin trivial rfl rfl rfl (Rn.nil (toN ?_)))))
   refine Tr.cond rfl (fun hb8 => ?_) (fun hb8 => ?_)
   ·replace h := bT hb8 h
    refine sr ((md rfl (nt ((Tr.ret ?_)))))
    replace h := si h; subst h
    exact ⟨.inr rfl, (.d (.bool true)), rfl, fun _ _ _ _ h => h, trivial, fun k hk => memOf_base hk⟩
   ·replace h := bF hb8 h
    refine Tr.skip (toN (Tr.rgn (md rfl (Rn.bin trivial rfl rfl rfl (md rfl (Rn.nil ?_))))))
    exact ⟨_, h, (by show WeakSt Γ (clean _ _ _) ⟨look _, memOf _ (bxs _) _, _⟩; exact weak_clean ⟨(.same rfl), ⟨(.same rfl), ⟨(.same rfl), trivial⟩⟩⟩ trivial rfl)⟩
  ·replace h := ifF hb5 h
   refine Tr.exit (toN (sr ((md rfl (nt ((Tr.ret ?_)))))))
   replace h := si h; subst h
   exact ⟨.inr rfl, (.d (.bool false)), rfl, fun _ _ _ _ h => h, trivial, fun k hk => memOf_base hk⟩
theorem overseerref03_Found_walk {P : Program} {c : Nat} {f_overseerref03_has : (List Int) → Int → Option Bool} {f_overseerref03_Step : api_Automaton → Int → Int → Option Int}
    (H_overseerref03_has : K_overseerref03_has P 90 f_overseerref03_has)
    (H_overseerref03_Step : K_overseerref03_Step P 91 f_overseerref03_Step) (hcf : compFn P c = some F_overseerref03_Found) (fuel : Nat) : K_overseerref03_Found P c (f_overseerref03_Found f_overseerref03_has f_overseerref03_Step fuel) := by
 intro a1 r h
 refine fn_trP hcf rfl fun Γ M hP hnt hM => ?_
 subst hP
 refine Tr.init [(0, .agg [.d (.lst 1 (List.map (eI .i64) a1.Alphabet)), .d (.int .i64 a1.States), .d (.lst 1 (List.map (eI .i64) a1.Marked)), .d (.lst 3 (List.map e_api_Edge a1.Edges))])] rfl ?_
 unfold f_overseerref03_Found at h
 unfold F_overseerref03_Found
 refine sr ((Rn.box (v := .agg [.d (.lst 1 (List.map (eI .i64) a1.Alphabet)), .d (.int .i64 a1.States), .d (.lst 1 (List.map (eI .i64) a1.Marked)), .d (.lst 3 (List.map e_api_Edge a1.Edges))]) (cs := [.d (.lst 1 (List.map (eI .i64) a1.Alphabet)), .d (.int .i64 a1.States), .d (.lst 1 (List.map (eI .i64) a1.Marked)), .d (.lst 3 (List.map e_api_Edge a1.Edges))]) trivial rfl rfl rfl rfl rfl (Rn.movTC (v := .nils 1) trivial (nt ((sr ((Rn.movTC (v := .nils 1) trivial (Rn.nil (toN ?_))))))))))
 refine Tr.cutB (fun (out5 : List Int) => ⟨look [(1, .ptr (Γ.n0 + 1) 0), (3, .own 1 (List.map (eI .i64) out5))], memOf Γ.n0 (bxs [(1, .cells ([.d (.lst 1 (List.map (eI .i64) a1.Alphabet)), .d (.int .i64 a1.States), .d (.lst 1 (List.map (eI .i64) a1.Marked)), .d (.lst 3 (List.map e_api_Edge a1.Edges))]))]) M, Γ.n0 + 50⟩) h (fun z h => ?_) (fun z h => ?_)
 ·refine sr ((Rn.fldP (o' := 1) trivial rfl rfl (Rn.load (v := .d (.int .i64 a1.States)) trivial rfl (boxOwn rfl) rfl rfl (Rn.bin trivial rfl rfl rfl (Rn.nil (toN ?_))))))
  refine Tr.cond rfl (fun hb2 => ?_) (fun hb2 => ?_)
  ·replace h := ifT hb2 h
   refine Tr.rgn (Rn.movTF (v := .nils 1) trivial rfl rfl (Rn.bslice (xs := [.d (.int .i64 0)]) (cs := [.d (.int .i64 0)]) trivial rfl rfl rfl rfl ?_))
   refine Rn.weak (by show WeakSt Γ _ ⟨look [(0, .agg [.d (.lst 1 (List.map (eI .i64) a1.Alphabet)), .d (.int .i64 a1.States), .d (.lst 1 (List.map (eI .i64) a1.Marked)), .d (.lst 3 (List.map e_api_Edge a1.Edges))]), (1, .ptr (Γ.n0 + 1) 0), (2, .nils 1), (3, .nils 1), (7, .ptr (Γ.n0 + 1) 1), (8, .d (.int .i64 a1.States)), (9, .d (.bool (decide (a1.States > 0)))), (10, .own 1 (List.map (eI .i64) [])), (11, .sl 1 (Γ.n0 + 11) 0 1 1)], memOf Γ.n0 (bxs [(1, .cells ([.d (.lst 1 (List.map (eI .i64) a1.Alphabet)), .d (.int .i64 a1.States), .d (.lst 1 (List.map (eI .i64) a1.Marked)), .d (.lst 3 (List.map e_api_Edge a1.Edges))])), (11, .cells ([.d (.int .i64 0)]))]) M, Γ.n0 + 50⟩; exact weak_cut [] ⟨(.same rfl), ⟨(kPtr rfl), ⟨(.same rfl), ⟨(.same rfl), ⟨(kPtr rfl), ⟨(.same rfl), ⟨(.same rfl), ⟨(WkV.nilsO _), ⟨(kSl rfl), trivial⟩⟩⟩⟩⟩⟩⟩⟩⟩ ⟨⟨_, rfl, rfl, (.same rfl)⟩, ⟨⟨_, rfl, rfl, (.same rfl)⟩, trivial⟩⟩ rfl) ?_
   obtain ⟨x3, h4, h⟩ := bnd h
   refine Rn.app (e := (eI .i64)) trivial rfl rfl rfl (elems_box rfl rfl rfl) h4 rfl (Rn.movTO trivial rfl (Rn.nil ?_))
   replace h := si h; subst h
   show WeakSt Γ _ ⟨look _, memOf _ (bxs _) _, _⟩; exact weak_cut [11] ⟨(kPtr rfl), ⟨(.same rfl), trivial⟩⟩ ⟨⟨_, rfl, rfl, (.same rfl)⟩, trivial⟩ rfl
  ·replace h := ifF hb2 h
   refine Tr.skip ?_
   replace h := si h; subst h
   show WeakSt Γ _ ⟨look _, memOf _ (bxs _) _, _⟩; exact weak_cut [] ⟨(kPtr rfl), ⟨(WkV.nilsO _), trivial⟩⟩ ⟨⟨_, rfl, rfl, (.same rfl)⟩, trivial⟩ rfl
 ·obtain ⟨out5, rfl⟩ : ∃ x, x = z := ⟨_, rfl⟩
  refine Tr.cutB (fun (out29 : List Int) => ⟨look [(3, .own 1 (List.map (eI .i64) out29))], memOf Γ.n0 (bxs [(1, .cells ([.d (.lst 1 (List.map (eI .i64) a1.Alphabet)), .d (.int .i64 a1.States), .d (.lst 1 (List.map (eI .i64) a1.Marked)), .d (.lst 3 (List.map e_api_Edge a1.Edges))]))]) M, Γ.n0 + 50⟩) h (fun z h => ?_) (fun z h => ?_)
  ·refine sr ((md rfl (nt ((Tr.block ?_)))))
   refine Tr.loop (mk := fun ((out6, i7) : (List Int) × Int) => ⟨look [(1, .ptr (Γ.n0 + 1) 0), (3, .own 1 (List.map (eI .i64) out6)), (4, .d (.int .i64 i7))], memOf Γ.n0 (bxs [(1, .cells ([.d (.lst 1 (List.map (eI .i64) a1.Alphabet)), .d (.int .i64 a1.States), .d (.lst 1 (List.map (eI .i64) a1.Marked)), .d (.lst 3 (List.map e_api_Edge a1.Edges))]))]) M, Γ.n0 + 50⟩) h (by show WeakSt Γ (clean _ _ _) ⟨look _, memOf _ (bxs _) _, _⟩; exact weak_clean ⟨(kPtr rfl), ⟨(.same rfl), ⟨(.same rfl), trivial⟩⟩⟩ ⟨⟨_, rfl, rfl, (.same rfl)⟩, trivial⟩ rfl) (fun k8 z h => ?_)
   ·obtain ⟨out6, i7⟩ := z
    replace h : _ = some _ := h
    refine Tr.seq (sr ((md rfl (Rn.mov (v := .d (.lst 1 (List.map (eI .i64) out6))) trivial rfl (Rn.lenD trivial rfl (Rn.bin trivial rfl rfl rfl (Rn.nil (toN ?_))))))))
    refine Tr.cond rfl (fun hb9 => ?_) (fun hb9 => ?_)
    ·replace h := ifT hb9 h
     refine Tr.skip (toN ?_)
     refine Tr.cutB (fun (out28 : List Int) => ⟨look [(1, .ptr (Γ.n0 + 1) 0), (3, .own 1 (List.map (eI .i64) out28)), (4, .d (.int .i64 i7))], memOf Γ.n0 (bxs [(1, .cells ([.d (.lst 1 (List.map (eI .i64) a1.Alphabet)), .d (.int .i64 a1.States), .d (.lst 1 (List.map (eI .i64) a1.Marked)), .d (.lst 3 (List.map e_api_Edge a1.Edges))]))]) M, Γ.n0 + 50⟩) h (fun z h => ?_) (fun z h => ?_)
     ·refine Tr.block (sr ((md rfl (nt ((Tr.block ?_))))))
      refine Tr.loop (mk := fun ((out10, k11) : (List Int) × Int) => ⟨look [(1, .ptr (Γ.n0 + 1) 0), (3, .own 1 (List.map (eI .i64) out10)), (4, .d (.int .i64 i7)), (5, .d (.int .i64 k11))], memOf Γ.n0 (bxs [(1, .cells ([.d (.lst 1 (List.map (eI .i64) a1.Alphabet)), .d (.int .i64 a1.States), .d (.lst 1 (List.map (eI .i64) a1.Marked)), .d (.lst 3 (List.map e_api_Edge a1.Edges))]))]) M, Γ.n0 + 50⟩) h (by show WeakSt Γ (clean _ _ _) ⟨look _, memOf _ (bxs _) _, _⟩; exact weak_clean ⟨(kPtr rfl), ⟨(.same rfl), ⟨(.same rfl), ⟨(.same rfl), trivial⟩⟩⟩⟩ ⟨⟨_, rfl, rfl, (.same rfl)⟩, trivial⟩ rfl) (fun k12 z h => ?_)
      ·obtain ⟨out10, k11⟩ := z
       replace h : _ = some _ := h
       refine Tr.seq (sr ((md rfl (Rn.fldP (o' := 0) trivial rfl rfl (Rn.load (v := .d (.lst 1 (List.map (eI .i64) a1.Alphabet))) trivial rfl (boxOwn rfl) rfl rfl (Rn.lenD trivial rfl (Rn.bin trivial rfl rfl rfl (Rn.nil (toN ?_)))))))))
       refine Tr.cond rfl (fun hb13 => ?_) (fun hb13 => ?_)
       ·replace h := ifT hb13 h
        refine Tr.skip (toN ?_)
        refine Tr.cutB (fun (out27 : List Int) => ⟨look [(1, .ptr (Γ.n0 + 1) 0), (3, .own 1 (List.map (eI .i64) out27)), (4, .d (.int .i64 i7)), (5, .d (.int .i64 k11))], memOf Γ.n0 (bxs [(1, .cells ([.d (.lst 1 (List.map (eI .i64) a1.Alphabet)), .d (.int .i64 a1.States), .d (.lst 1 (List.map (eI .i64) a1.Marked)), .d (.lst 3 (List.map e_api_Edge a1.Edges))]))]) M, Γ.n0 + 50⟩) h (fun z h => ?_) (fun z h => ?_)
        ·refine Tr.block (Tr.seq ?_)
         refine Tr.rgnD (by decide) ?_
         refine Rn.load (v := .agg [.d (.lst 1 (List.map (eI .i64) a1.Alphabet)), .d (.int .i64 a1.States), .d (.lst 1 (List.map (eI .i64) a1.Marked)), .d (.lst 3 (List.map e_api_Edge a1.Edges))]) trivial rfl (boxOwn rfl) rfl rfl (Rn.mov (v := .d (.lst 1 (List.map (eI .i64) out10))) trivial rfl (md rfl ?_))
         obtain ⟨x14, h15, h⟩ := bnd h
         refine Rn.idxD (e := (eI .i64)) trivial rfl rfl h15 (Rn.loadC (x := .int .i64 x14) trivial rfl (Rn.fldP (o' := 0) trivial rfl rfl (Rn.load (v := .d (.lst 1 (List.map (eI .i64) a1.Alphabet))) trivial rfl (boxOwn rfl) rfl rfl (md rfl ?_))))
         obtain ⟨x16, h17, h⟩ := bnd h
         refine Rn.idxD (e := (eI .i64)) trivial rfl rfl h17 (Rn.loadC (x := .int .i64 x16) trivial rfl ?_)
         obtain ⟨x19, h18, h⟩ := bnd h
         refine Rn.call (args := [.agg [.d (.lst 1 (List.map (eI .i64) a1.Alphabet)), .d (.int .i64 a1.States), .d (.lst 1 (List.map (eI .i64) a1.Marked)), .d (.lst 3 (List.map e_api_Edge a1.Edges))], .d (.int .i64 x14), .d (.int .i64 x16)]) trivial rfl (H_overseerref03_Step _ _ _ _ h18) pc0 (md rfl ?_)
         refine Rn.nil ⟨rfl, ?_⟩
         refine toN ?_
         refine Tr.cutB (fun (x23 : Bool) => ⟨look [(1, .ptr (Γ.n0 + 1) 0), (3, .own 1 (List.map (eI .i64) out10)), (4, .d (.int .i64 i7)), (5, .d (.int .i64 k11)), (6, .d (.int .i64 x19)), (44, .d (.bool x23))], memOf Γ.n0 (bxs [(1, .cells ([.d (.lst 1 (List.map (eI .i64) a1.Alphabet)), .d (.int .i64 a1.States), .d (.lst 1 (List.map (eI .i64) a1.Marked)), .d (.lst 3 (List.map e_api_Edge a1.Edges))]))]) M, Γ.n0 + 50⟩) h (fun z h => ?_) (fun z h => ?_)
         ·refine Tr.rgn (md rfl (Rn.bin trivial rfl rfl rfl (md rfl ?_)))
          refine bsplit (decide (x19 ≥ 0)) (fun hb20 => ?_) (fun hb20 => ?_)
          ·replace h := ifT hb20 h
           refine Rn.mov (v := .d (.lst 1 (List.map (eI .i64) out10))) (gw rfl hb20) rfl (Rn.movD (gw rfl hb20) rfl ?_)
           obtain ⟨x22, h21, h⟩ := bnd h
           refine Rn.call (args := [.d (.lst 1 (List.map (eI .i64) out10)), .d (.int .i64 x19)]) (gw rfl hb20) rfl (H_overseerref03_has _ _ _ h21) pc9 (Rn.un (gw rfl hb20) rfl rfl (Rn.pickT (v := .d (.bool (!x22))) trivial rfl hb20 rfl (Rn.nil ?_)))
           replace h := si h; subst h
           show WeakSt Γ _ ⟨look _, memOf _ (bxs _) _, _⟩; exact weak_cut [] ⟨(kPtr rfl), ⟨(.same rfl), ⟨(.same rfl), ⟨(.same rfl), ⟨(.same rfl), ⟨(.same rfl), trivial⟩⟩⟩⟩⟩⟩ ⟨⟨_, rfl, rfl, (.same rfl)⟩, trivial⟩ rfl
          ·replace h := ifF hb20 h
           refine Rn.sk (nw rfl hb20) (Rn.sk (nw rfl hb20) (Rn.sk (nw rfl hb20) (Rn.sk (nw rfl hb20) (Rn.pickF (v := .d (.bool false)) trivial rfl hb20 rfl (Rn.nil ?_)))))
           replace h := si h; subst h
           show WeakSt Γ _ ⟨look _, memOf _ (bxs _) _, _⟩; exact weak_cut [] ⟨(kPtr rfl), ⟨(.same rfl), ⟨(.same rfl), ⟨(.same rfl), ⟨(.same rfl), ⟨(.same rfl), trivial⟩⟩⟩⟩⟩⟩ ⟨⟨_, rfl, rfl, (.same rfl)⟩, trivial⟩ rfl
         ·obtain ⟨x23, rfl⟩ : ∃ x, x = z := ⟨_, rfl⟩
          refine Tr.cond rfl (fun hb24 => ?_) (fun hb24 => ?_)
          ·replace h := bT hb24 h
           refine Tr.rgn (Rn.movTO trivial rfl (md rfl (Rn.bslice (xs := [.d (.int .i64 x19)]) (cs := [.d (.int .i64 x19)]) trivial rfl rfl rfl rfl ?_)))
           obtain ⟨x25, h26, h⟩ := bnd h
           refine Rn.app (e := (eI .i64)) trivial rfl rfl rfl (elems_box rfl rfl rfl) h26 rfl (Rn.movTO trivial rfl (Rn.nil ?_))
           replace h := si h; subst h
           show WeakSt Γ _ ⟨look _, memOf _ (bxs _) _, _⟩; exact weak_cut [47] ⟨(kPtr rfl), ⟨(.same rfl), ⟨(.same rfl), ⟨(.same rfl), trivial⟩⟩⟩⟩ ⟨⟨_, rfl, rfl, (.same rfl)⟩, trivial⟩ rfl
          ·replace h := bF hb24 h
           refine Tr.skip ?_
           replace h := si h; subst h
           show WeakSt Γ _ ⟨look _, memOf _ (bxs _) _, _⟩; exact weak_cut [] ⟨(kPtr rfl), ⟨(.same rfl), ⟨(.same rfl), ⟨(.same rfl), trivial⟩⟩⟩⟩ ⟨⟨_, rfl, rfl, (.same rfl)⟩, trivial⟩ rfl
        ·obtain ⟨out27, rfl⟩ : ∃ x, x = z := ⟨_, rfl⟩
         refine Tr.rgn (md rfl (Rn.bin trivial rfl rfl rfl (md rfl (Rn.nil ?_))))
         exact ⟨_, h, (by show WeakSt Γ (clean _ _ _) ⟨look _, memOf _ (bxs _) _, _⟩; exact weak_clean ⟨(kPtr rfl), ⟨(.same rfl), ⟨(.same rfl), ⟨(.same rfl), trivial⟩⟩⟩⟩ ⟨⟨_, rfl, rfl, (.same rfl)⟩, trivial⟩ rfl)⟩
       ·replace h := ifF hb13 h
        refine Tr.exit ?_
        replace h := si h; subst h
        show WeakSt Γ _ ⟨look _, memOf _ (bxs _) _, _⟩; exact weak_cut [] ⟨(kPtr rfl), ⟨(.same rfl), ⟨(.same rfl), trivial⟩⟩⟩ ⟨⟨_, rfl, rfl, (.same rfl)⟩, trivial⟩ rfl
     ·obtain ⟨out28, rfl⟩ : ∃ x, x = z := ⟨_, rfl⟩
      refine Tr.rgn (md rfl (Rn.bin trivial rfl rfl rfl (md rfl (Rn.nil ?_))))
      exact ⟨_, h, (by show WeakSt Γ (clean _ _ _) ⟨look _, memOf _ (bxs _) _, _⟩; exact weak_clean ⟨(kPtr rfl), ⟨(.same rfl), ⟨(.same rfl), trivial⟩⟩⟩ ⟨⟨_, rfl, rfl, (.same rfl)⟩, trivial⟩ rfl)⟩
    ·replace h := ifF hb9 h
     refine Tr.exit ?_
     replace h := si h; subst h
     show WeakSt Γ _ ⟨look _, memOf _ (bxs _) _, _⟩; exact weak_cut [] ⟨(.same rfl), trivial⟩ ⟨⟨_, rfl, rfl, (.same rfl)⟩, trivial⟩ rfl
  ·obtain ⟨out29, rfl⟩ : ∃ x, x = z := ⟨_, rfl⟩
   refine sr ((Rn.movTO trivial rfl (Rn.movTO trivial rfl (nt ((Tr.ret ?_))))))
   replace h := si h; subst h
   exact ⟨.inr rfl, (.own 1 (List.map (eI .i64) out29)), rfl, fun _ _ _ _ h => h, trivial, fun k hk => memOf_base hk⟩
theorem overseerref03_index_walk {P : Program} {c : Nat} (hcf : compFn P c = some F_overseerref03_index) (fuel : Nat) : K_overseerref03_index P c (f_overseerref03_index fuel) := by
 intro l1 n2 r h
 refine fn_trP hcf rfl fun Γ M hP hnt hM => ?_
 subst hP
 refine Tr.init [(0, .d (.lst 1 (List.map (eI .i64) l1))), (1, .d (.int .i64 n2))] rfl ?_
 unfold f_overseerref03_index at h
 unfold F_overseerref03_index
 refine sr ((md rfl (nt ((Tr.seq (sr ((md rfl (nt ((Tr.block ?_)))))))))))
 refine Tr.loop (mk := fun (i3 : Int) => ⟨look [(0, .d (.lst 1 (List.map (eI .i64) l1))), (1, .d (.int .i64 n2)), (5, .d (.int .i64 i3))], memOf Γ.n0 (bxs []) M, Γ.n0 + 19⟩) h (by show WeakSt Γ (clean _ _ _) ⟨look _, memOf _ (bxs _) _, _⟩; exact weak_clean ⟨(.same rfl), ⟨(.same rfl), ⟨(.same rfl), trivial⟩⟩⟩ trivial rfl) (fun k4 z h => ?_)
 ·obtain ⟨i3, rfl⟩ : ∃ x, x = z := ⟨_, rfl⟩
  replace h : _ = some _ := h
  refine Tr.seq (sr ((md rfl (md rfl (Rn.lenD trivial rfl (Rn.bin trivial rfl rfl rfl (Rn.nil (toN ?_))))))))
  refine Tr.cond rfl (fun hb5 => ?_) (fun hb5 => ?_)
  ·replace h := ifT hb5 h
   refine Tr.skip (toN (Tr.seq (Tr.block (sr ((md rfl (md rfl ?_)))))))
   obtain ⟨x6, h7, h⟩ := bnd h
   refine Rn.idxD (e := (eI .i64)) trivial rfl rfl h7 (Rn.loadC (x := .int .i64 x6) trivial rfl (md rfl (Rn.bin trivial rfl rfl rfl (Rn.nil (toN ?_)))))
   refine Tr.cond rfl (fun hb8 => ?_) (fun hb8 => ?_)
   ·replace h := bT hb8 h
    refine sr ((md rfl (md rfl (nt ((Tr.ret ?_))))))
    replace h := si h; subst h
    exact ⟨.inr rfl, (.d (.int .i64 i3)), rfl, fun _ _ _ _ h => h, trivial, fun k hk => memOf_base hk⟩
   ·replace h := bF hb8 h
    refine Tr.skip (toN (Tr.rgn (md rfl (Rn.bin trivial rfl rfl rfl (md rfl (Rn.nil ?_))))))
    exact ⟨_, h, (by show WeakSt Γ (clean _ _ _) ⟨look _, memOf _ (bxs _) _, _⟩; exact weak_clean ⟨(.same rfl), ⟨(.same rfl), ⟨(.same rfl), trivial⟩⟩⟩ trivial rfl)⟩
  ·replace h := ifF hb5 h
   refine Tr.exit (toN (sr ((md rfl (nt ((Tr.ret ?_)))))))
   replace h := si h; subst h
   exact ⟨.inr rfl, (.d (.int .i64 (-1))), rfl, fun _ _ _ _ h => h, trivial, fun k hk => memOf_base hk⟩
theorem overseerref03_Canonical_walk {P : Program} {c : Nat} {f_overseerref03_Empty : (List Int) → Option api_Automaton} {f_overseerref03_Found : api_Automaton → Option ((List Int))} {f_overseerref03_has : (List Int) → Int → Option Bool} {f_overseerref03_Step : api_Automaton → Int → Int → Option Int} {f_overseerref03_index : (List Int) → Int → Option Int}
    (H_overseerref03_Empty : K_overseerref03_Empty P 70 f_overseerref03_Empty)
    (H_overseerref03_Found : K_overseerref03_Found P 89 f_overseerref03_Found)
    (H_overseerref03_has : K_overseerref03_has P 90 f_overseerref03_has)
    (H_overseerref03_Step : K_overseerref03_Step P 91 f_overseerref03_Step)
    (H_overseerref03_index : K_overseerref03_index P 92 f_overseerref03_index) (hcf : compFn P c = some F_overseerref03_Canonical) (fuel : Nat) : K_overseerref03_Canonical P c (f_overseerref03_Canonical f_overseerref03_Empty f_overseerref03_Found f_overseerref03_has f_overseerref03_Step f_overseerref03_index fuel) := by
 intro a1 r h
 refine fn_trP hcf rfl fun Γ M hP hnt hM => ?_
 subst hP
 refine Tr.init [(0, .agg [.d (.lst 1 (List.map (eI .i64) a1.Alphabet)), .d (.int .i64 a1.States), .d (.lst 1 (List.map (eI .i64) a1.Marked)), .d (.lst 3 (List.map e_api_Edge a1.Edges))])] rfl ?_
 unfold f_overseerref03_Canonical at h
 unfold F_overseerref03_Canonical
 refine sr ((Rn.box (v := .agg [.d (.lst 1 (List.map (eI .i64) a1.Alphabet)), .d (.int .i64 a1.States), .d (.lst 1 (List.map (eI .i64) a1.Marked)), .d (.lst 3 (List.map e_api_Edge a1.Edges))]) (cs := [.d (.lst 1 (List.map (eI .i64) a1.Alphabet)), .d (.int .i64 a1.States), .d (.lst 1 (List.map (eI .i64) a1.Marked)), .d (.lst 3 (List.map e_api_Edge a1.Edges))]) trivial rfl rfl rfl rfl rfl (Rn.alloc trivial rfl (nt ((sr ((Rn.load (v := .agg [.d (.lst 1 (List.map (eI .i64) a1.Alphabet)), .d (.int .i64 a1.States), .d (.lst 1 (List.map (eI .i64) a1.Marked)), .d (.lst 3 (List.map e_api_Edge a1.Edges))]) trivial rfl (boxOwn rfl) rfl rfl ?_))))))))
 obtain ⟨x3, h2, h⟩ := bnd h
 refine Rn.call (args := [.agg [.d (.lst 1 (List.map (eI .i64) a1.Alphabet)), .d (.int .i64 a1.States), .d (.lst 1 (List.map (eI .i64) a1.Marked)), .d (.lst 3 (List.map e_api_Edge a1.Edges))]]) trivial rfl (H_overseerref03_Found _ _ h2) pc9 (Rn.movTO trivial rfl (nt ((sr ((Rn.fldP (o' := 0) trivial rfl rfl (Rn.load (v := .d (.lst 1 (List.map (eI .i64) a1.Alphabet))) trivial rfl (boxOwn rfl) rfl rfl ?_)))))))
 obtain ⟨x5, h4, h⟩ := bnd h
 refine Rn.call (args := [.d (.lst 1 (List.map (eI .i64) a1.Alphabet))]) trivial rfl (H_overseerref03_Empty _ _ h4) pc9 (Rn.alloc trivial rfl (Rn.store (v := .agg [.d (.lst 1 (List.map (eI .i64) x5.Alphabet)), .d (.int .i64 x5.States), .nils 1, .nils 3]) (cs' := [.d (.lst 1 (List.map (eI .i64) x5.Alphabet)), .d (.int .i64 x5.States), .nils 1, .nils 3]) trivial rfl rfl rfl rfl rfl rfl (nt ((sr ((Rn.mov (v := .d (.lst 1 (List.map (eI .i64) x3))) trivial rfl (Rn.lenD trivial rfl (Rn.fldP (o' := 1) trivial rfl rfl (Rn.store (v := .d (.int .i64 (x3.length : Int))) (cs' := [.d (.lst 1 (List.map (eI .i64) x5.Alphabet)), .d (.int .i64 (x3.length : Int)), .nils 1, .nils 3]) trivial rfl rfl rfl rfl rfl rfl (Rn.nil (toN ?_))))))))))))
 refine Tr.cutB (fun ((c42, c43, c44, out45, out46) : (List Int) × (List Int) × (List api_Edge) × (List Int) × (List api_Edge)) => ⟨look [(2, .ptr (Γ.n0 + 2) 0), (4, .ptr (Γ.n0 + 4) 0)], memOf Γ.n0 (bxs [(1, .cells ([.d (.lst 1 (List.map (eI .i64) a1.Alphabet)), .d (.int .i64 a1.States), .d (.lst 1 (List.map (eI .i64) a1.Marked)), .d (.lst 3 (List.map e_api_Edge a1.Edges))])), (2, .cells ([.own 1 (List.map (eI .i64) c42), .d (.int .i64 0), .own 1 (List.map (eI .i64) c43), .own 3 (List.map e_api_Edge c44)])), (4, .cells ([.d (.lst 1 (List.map (eI .i64) x5.Alphabet)), .d (.int .i64 (x3.length : Int)), .own 1 (List.map (eI .i64) out45), .own 3 (List.map e_api_Edge out46)]))]) M, Γ.n0 + 71⟩) h (fun z h => ?_) (fun z h => ?_)
 ·refine sr ((md rfl (nt ((Tr.block ?_)))))
  refine Tr.loop (mk := fun ((i6, c7, c8, c9, out10, out11) : Int × (List Int) × (List Int) × (List api_Edge) × (List Int) × (List api_Edge)) => ⟨look [(1, .ptr (Γ.n0 + 1) 0), (2, .ptr (Γ.n0 + 2) 0), (3, .own 1 (List.map (eI .i64) x3)), (4, .ptr (Γ.n0 + 4) 0), (5, .d (.int .i64 i6))], memOf Γ.n0 (bxs [(1, .cells ([.d (.lst 1 (List.map (eI .i64) a1.Alphabet)), .d (.int .i64 a1.States), .d (.lst 1 (List.map (eI .i64) a1.Marked)), .d (.lst 3 (List.map e_api_Edge a1.Edges))])), (2, .cells ([.own 1 (List.map (eI .i64) c7), .d (.int .i64 0), .own 1 (List.map (eI .i64) c8), .own 3 (List.map e_api_Edge c9)])), (4, .cells ([.d (.lst 1 (List.map (eI .i64) x5.Alphabet)), .d (.int .i64 (x3.length : Int)), .own 1 (List.map (eI .i64) out10), .own 3 (List.map e_api_Edge out11)]))]) M, Γ.n0 + 71⟩) h (by show WeakSt Γ (clean _ _ _) ⟨look _, memOf _ (bxs _) _, _⟩; exact weak_clean ⟨(kPtr rfl), ⟨(kPtr rfl), ⟨(.same rfl), ⟨(kPtr rfl), ⟨(.same rfl), trivial⟩⟩⟩⟩⟩ ⟨⟨_, rfl, rfl, (.same rfl)⟩, ⟨⟨_, rfl, rfl, (.cons (WkV.nilsO _) (.cons (.same rfl) (.cons (WkV.nilsO _) (.cons (WkV.nilsO _) .nil))))⟩, ⟨⟨_, rfl, rfl, (.cons (.same rfl) (.cons (.same rfl) (.cons (WkV.nilsO _) (.cons (WkV.nilsO _) .nil))))⟩, trivial⟩⟩⟩ rfl) (fun k12 z h => ?_)
  ·obtain ⟨i6, c7, c8, c9, out10, out11⟩ := z
   replace h : _ = some _ := h
   refine Tr.seq (sr ((md rfl (Rn.mov (v := .d (.lst 1 (List.map (eI .i64) x3))) trivial rfl (Rn.lenD trivial rfl (Rn.bin trivial rfl rfl rfl (Rn.nil (toN ?_))))))))
   refine Tr.cond rfl (fun hb13 => ?_) (fun hb13 => ?_)
   ·replace h := ifT hb13 h
    refine Tr.skip (toN ?_)
    refine Tr.cutB (fun ((out40, out41) : (List Int) × (List api_Edge)) => ⟨look [(1, .ptr (Γ.n0 + 1) 0), (2, .ptr (Γ.n0 + 2) 0), (3, .own 1 (List.map (eI .i64) x3)), (4, .ptr (Γ.n0 + 4) 0), (5, .d (.int .i64 i6))], memOf Γ.n0 (bxs [(1, .cells ([.d (.lst 1 (List.map (eI .i64) a1.Alphabet)), .d (.int .i64 a1.States), .d (.lst 1 (List.map (eI .i64) a1.Marked)), .d (.lst 3 (List.map e_api_Edge a1.Edges))])), (2, .cells ([.own 1 (List.map (eI .i64) c7), .d (.int .i64 0), .own 1 (List.map (eI .i64) c8), .own 3 (List.map e_api_Edge c9)])), (4, .cells ([.d (.lst 1 (List.map (eI .i64) x5.Alphabet)), .d (.int .i64 (x3.length : Int)), .own 1 (List.map (eI .i64) out40), .own 3 (List.map e_api_Edge out41)]))]) M, Γ.n0 + 71⟩) h (fun z h => ?_) (fun z h => ?_)
    ·refine Tr.block ?_
     refine Tr.cutB (fun (out21 : List Int) => ⟨look [(1, .ptr (Γ.n0 + 1) 0), (2, .ptr (Γ.n0 + 2) 0), (3, .own 1 (List.map (eI .i64) x3)), (4, .ptr (Γ.n0 + 4) 0), (5, .d (.int .i64 i6))], memOf Γ.n0 (bxs [(1, .cells ([.d (.lst 1 (List.map (eI .i64) a1.Alphabet)), .d (.int .i64 a1.States), .d (.lst 1 (List.map (eI .i64) a1.Marked)), .d (.lst 3 (List.map e_api_Edge a1.Edges))])), (2, .cells ([.own 1 (List.map (eI .i64) c7), .d (.int .i64 0), .own 1 (List.map (eI .i64) c8), .own 3 (List.map e_api_Edge c9)])), (4, .cells ([.d (.lst 1 (List.map (eI .i64) x5.Alphabet)), .d (.int .i64 (x3.length : Int)), .own 1 (List.map (eI .i64) out21), .own 3 (List.map e_api_Edge out11)]))]) M, Γ.n0 + 71⟩) h (fun z h => ?_) (fun z h => ?_)
     ·refine Tr.seq ?_
      refine Tr.rgnD (by decide) ?_
      refine Rn.fldP (o' := 2) trivial rfl rfl (Rn.load (v := .d (.lst 1 (List.map (eI .i64) a1.Marked))) trivial rfl (boxOwn rfl) rfl rfl (Rn.mov (v := .d (.lst 1 (List.map (eI .i64) x3))) trivial rfl (md rfl ?_)))
      obtain ⟨x14, h15, h⟩ := bnd h
      refine Rn.idxD (e := (eI .i64)) trivial rfl rfl h15 (Rn.loadC (x := .int .i64 x14) trivial rfl ?_)
      obtain ⟨x17, h16, h⟩ := bnd h
      refine Rn.call (args := [.d (.lst 1 (List.map (eI .i64) a1.Marked)), .d (.int .i64 x14)]) trivial rfl (H_overseerref03_has _ _ _ h16) pc0 ?_
      refine Rn.nil ⟨rfl, ?_⟩
      refine toN ?_
      refine Tr.cond rfl (fun hb18 => ?_) (fun hb18 => ?_)
      ·replace h := bT hb18 h
       refine Tr.rgn (Rn.fldP (o' := 2) trivial rfl rfl (Rn.loadT (cs' := [.d (.lst 1 (List.map (eI .i64) x5.Alphabet)), .d (.int .i64 (x3.length : Int)), .d (.lst 1 (List.map (eI .i64) out10)), .own 3 (List.map e_api_Edge out11)]) trivial rfl rfl rfl rfl (md rfl (Rn.bslice (xs := [.d (.int .i64 i6)]) (cs := [.d (.int .i64 i6)]) trivial rfl rfl rfl rfl ?_))))
       obtain ⟨x19, h20, h⟩ := bnd h
       refine Rn.app (e := (eI .i64)) trivial rfl rfl rfl (elems_box rfl rfl rfl) h20 rfl (Rn.fldP (o' := 2) trivial rfl rfl (Rn.storeO (cs' := [.d (.lst 1 (List.map (eI .i64) x5.Alphabet)), .d (.int .i64 (x3.length : Int)), .own 1 (List.map (eI .i64) x19), .own 3 (List.map e_api_Edge out11)]) trivial rfl rfl rfl rfl rfl (Rn.nil ?_)))
       replace h := si h; subst h
       show WeakSt Γ _ ⟨look _, memOf _ (bxs _) _, _⟩; exact weak_cut [32] ⟨(kPtr rfl), ⟨(kPtr rfl), ⟨(.same rfl), ⟨(kPtr rfl), ⟨(.same rfl), trivial⟩⟩⟩⟩⟩ ⟨⟨_, rfl, rfl, (.same rfl)⟩, ⟨⟨_, rfl, rfl, (.same rfl)⟩, ⟨⟨_, rfl, rfl, (.same rfl)⟩, trivial⟩⟩⟩ rfl
      ·replace h := bF hb18 h
       refine Tr.skip ?_
       replace h := si h; subst h
       show WeakSt Γ _ ⟨look _, memOf _ (bxs _) _, _⟩; exact weak_cut [] ⟨(kPtr rfl), ⟨(kPtr rfl), ⟨(.same rfl), ⟨(kPtr rfl), ⟨(.same rfl), trivial⟩⟩⟩⟩⟩ ⟨⟨_, rfl, rfl, (.same rfl)⟩, ⟨⟨_, rfl, rfl, (.same rfl)⟩, ⟨⟨_, rfl, rfl, (.same rfl)⟩, trivial⟩⟩⟩ rfl
     ·obtain ⟨out21, rfl⟩ : ∃ x, x = z := ⟨_, rfl⟩
      refine sr ((md rfl (nt ((Tr.block ?_)))))
      refine Tr.loop (mk := fun ((k22, out23) : Int × (List api_Edge)) => ⟨look [(1, .ptr (Γ.n0 + 1) 0), (2, .ptr (Γ.n0 + 2) 0), (3, .own 1 (List.map (eI .i64) x3)), (4, .ptr (Γ.n0 + 4) 0), (5, .d (.int .i64 i6)), (6, .d (.int .i64 k22))], memOf Γ.n0 (bxs [(1, .cells ([.d (.lst 1 (List.map (eI .i64) a1.Alphabet)), .d (.int .i64 a1.States), .d (.lst 1 (List.map (eI .i64) a1.Marked)), .d (.lst 3 (List.map e_api_Edge a1.Edges))])), (2, .cells ([.own 1 (List.map (eI .i64) c7), .d (.int .i64 0), .own 1 (List.map (eI .i64) c8), .own 3 (List.map e_api_Edge c9)])), (4, .cells ([.d (.lst 1 (List.map (eI .i64) x5.Alphabet)), .d (.int .i64 (x3.length : Int)), .own 1 (List.map (eI .i64) out21), .own 3 (List.map e_api_Edge out23)]))]) M, Γ.n0 + 71⟩) h (by show WeakSt Γ (clean _ _ _) ⟨look _, memOf _ (bxs _) _, _⟩; exact weak_clean ⟨(kPtr rfl), ⟨(kPtr rfl), ⟨(.same rfl), ⟨(kPtr rfl), ⟨(.same rfl), ⟨(.same rfl), trivial⟩⟩⟩⟩⟩⟩ ⟨⟨_, rfl, rfl, (.same rfl)⟩, ⟨⟨_, rfl, rfl, (.same rfl)⟩, ⟨⟨_, rfl, rfl, (.same rfl)⟩, trivial⟩⟩⟩ rfl) (fun k24 z h => ?_)
      ·obtain ⟨k22, out23⟩ := z
       replace h : _ = some _ := h
       refine Tr.seq (sr ((md rfl (Rn.fldP (o' := 0) trivial rfl rfl (Rn.load (v := .d (.lst 1 (List.map (eI .i64) a1.Alphabet))) trivial rfl (boxOwn rfl) rfl rfl (Rn.lenD trivial rfl (Rn.bin trivial rfl rfl rfl (Rn.nil (toN ?_)))))))))
       refine Tr.cond rfl (fun hb25 => ?_) (fun hb25 => ?_)
       ·replace h := ifT hb25 h
        refine Tr.skip (toN ?_)
        refine Tr.cutB (fun (out39 : List api_Edge) => ⟨look [(1, .ptr (Γ.n0 + 1) 0), (2, .ptr (Γ.n0 + 2) 0), (3, .own 1 (List.map (eI .i64) x3)), (4, .ptr (Γ.n0 + 4) 0), (5, .d (.int .i64 i6)), (6, .d (.int .i64 k22))], memOf Γ.n0 (bxs [(1, .cells ([.d (.lst 1 (List.map (eI .i64) a1.Alphabet)), .d (.int .i64 a1.States), .d (.lst 1 (List.map (eI .i64) a1.Marked)), .d (.lst 3 (List.map e_api_Edge a1.Edges))])), (2, .cells ([.own 1 (List.map (eI .i64) c7), .d (.int .i64 0), .own 1 (List.map (eI .i64) c8), .own 3 (List.map e_api_Edge c9)])), (4, .cells ([.d (.lst 1 (List.map (eI .i64) x5.Alphabet)), .d (.int .i64 (x3.length : Int)), .own 1 (List.map (eI .i64) out21), .own 3 (List.map e_api_Edge out39)]))]) M, Γ.n0 + 71⟩) h (fun z h => ?_) (fun z h => ?_)
        ·refine Tr.block (Tr.seq ?_)
         refine Tr.rgnD (by decide) ?_
         refine Rn.load (v := .agg [.d (.lst 1 (List.map (eI .i64) a1.Alphabet)), .d (.int .i64 a1.States), .d (.lst 1 (List.map (eI .i64) a1.Marked)), .d (.lst 3 (List.map e_api_Edge a1.Edges))]) trivial rfl (boxOwn rfl) rfl rfl (Rn.mov (v := .d (.lst 1 (List.map (eI .i64) x3))) trivial rfl (md rfl ?_))
         obtain ⟨x26, h27, h⟩ := bnd h
         refine Rn.idxD (e := (eI .i64)) trivial rfl rfl h27 (Rn.loadC (x := .int .i64 x26) trivial rfl (Rn.fldP (o' := 0) trivial rfl rfl (Rn.load (v := .d (.lst 1 (List.map (eI .i64) a1.Alphabet))) trivial rfl (boxOwn rfl) rfl rfl (md rfl ?_))))
         obtain ⟨x28, h29, h⟩ := bnd h
         refine Rn.idxD (e := (eI .i64)) trivial rfl rfl h29 (Rn.loadC (x := .int .i64 x28) trivial rfl ?_)
         obtain ⟨x31, h30, h⟩ := bnd h
         refine Rn.call (args := [.agg [.d (.lst 1 (List.map (eI .i64) a1.Alphabet)), .d (.int .i64 a1.States), .d (.lst 1 (List.map (eI .i64) a1.Marked)), .d (.lst 3 (List.map e_api_Edge a1.Edges))], .d (.int .i64 x26), .d (.int .i64 x28)]) trivial rfl (H_overseerref03_Step _ _ _ _ h30) pc0 (md rfl ?_)
         refine Rn.nil ⟨rfl, ?_⟩
         refine toN (sr ((md rfl (Rn.bin trivial rfl rfl rfl (Rn.nil (toN ?_))))))
         refine Tr.cond rfl (fun hb32 => ?_) (fun hb32 => ?_)
         ·replace h := ifT hb32 h
          refine Tr.rgnD (by decide) ?_
          refine Rn.fldP (o' := 3) trivial rfl rfl (Rn.loadT (cs' := [.d (.lst 1 (List.map (eI .i64) x5.Alphabet)), .d (.int .i64 (x3.length : Int)), .own 1 (List.map (eI .i64) out21), .d (.lst 3 (List.map e_api_Edge out23))]) trivial rfl rfl rfl rfl (md rfl (Rn.fldP (o' := 0) trivial rfl rfl (Rn.load (v := .d (.lst 1 (List.map (eI .i64) a1.Alphabet))) trivial rfl (boxOwn rfl) rfl rfl (md rfl ?_)))))
          obtain ⟨x33, h34, h⟩ := bnd h
          refine Rn.idxD (e := (eI .i64)) trivial rfl rfl h34 (Rn.loadC (x := .int .i64 x33) trivial rfl (Rn.mov (v := .d (.lst 1 (List.map (eI .i64) x3))) trivial rfl (md rfl ?_)))
          obtain ⟨x36, h35, h⟩ := bnd h
          refine Rn.call (args := [.d (.lst 1 (List.map (eI .i64) x3)), .d (.int .i64 x31)]) trivial rfl (H_overseerref03_index _ _ _ h35) pc2 (Rn.build (v := .agg [.d (.int .i64 i6), .d (.int .i64 x33), .d (.int .i64 x36)]) trivial rfl (Rn.bslice (xs := [.agg [.d (.int .i64 i6), .d (.int .i64 x33), .d (.int .i64 x36)]]) (cs := [.d (.int .i64 i6), .d (.int .i64 x33), .d (.int .i64 x36)]) trivial rfl rfl rfl rfl ?_))
          obtain ⟨x37, h38, h⟩ := bnd h
          refine Rn.app (e := e_api_Edge) trivial rfl rfl rfl (elems_box rfl rfl rfl) h38 rfl (Rn.fldP (o' := 3) trivial rfl rfl (Rn.storeO (cs' := [.d (.lst 1 (List.map (eI .i64) x5.Alphabet)), .d (.int .i64 (x3.length : Int)), .own 1 (List.map (eI .i64) out21), .own 3 (List.map e_api_Edge x37)]) trivial rfl rfl rfl rfl rfl ?_))
          refine Rn.nil ⟨rfl, ?_⟩
          replace h := si h; subst h
          show WeakSt Γ _ ⟨look _, memOf _ (bxs _) _, _⟩; exact weak_cut [67] ⟨(kPtr rfl), ⟨(kPtr rfl), ⟨(.same rfl), ⟨(kPtr rfl), ⟨(.same rfl), ⟨(.same rfl), trivial⟩⟩⟩⟩⟩⟩ ⟨⟨_, rfl, rfl, (.same rfl)⟩, ⟨⟨_, rfl, rfl, (.same rfl)⟩, ⟨⟨_, rfl, rfl, (.same rfl)⟩, trivial⟩⟩⟩ rfl
         ·replace h := ifF hb32 h
          refine Tr.skip ?_
          replace h := si h; subst h
          show WeakSt Γ _ ⟨look _, memOf _ (bxs _) _, _⟩; exact weak_cut [] ⟨(kPtr rfl), ⟨(kPtr rfl), ⟨(.same rfl), ⟨(kPtr rfl), ⟨(.same rfl), ⟨(.same rfl), trivial⟩⟩⟩⟩⟩⟩ ⟨⟨_, rfl, rfl, (.same rfl)⟩, ⟨⟨_, rfl, rfl, (.same rfl)⟩, ⟨⟨_, rfl, rfl, (.same rfl)⟩, trivial⟩⟩⟩ rfl
        ·obtain ⟨out39, rfl⟩ : ∃ x, x = z := ⟨_, rfl⟩
         refine Tr.rgn (md rfl (Rn.bin trivial rfl rfl rfl (md rfl (Rn.nil ?_))))
         exact ⟨_, h, (by show WeakSt Γ (clean _ _ _) ⟨look _, memOf _ (bxs _) _, _⟩; exact weak_clean ⟨(kPtr rfl), ⟨(kPtr rfl), ⟨(.same rfl), ⟨(kPtr rfl), ⟨(.same rfl), ⟨(.same rfl), trivial⟩⟩⟩⟩⟩⟩ ⟨⟨_, rfl, rfl, (.same rfl)⟩, ⟨⟨_, rfl, rfl, (.same rfl)⟩, ⟨⟨_, rfl, rfl, (.same rfl)⟩, trivial⟩⟩⟩ rfl)⟩
       ·replace h := ifF hb25 h
        refine Tr.exit ?_
        replace h := si h; subst h
        show WeakSt Γ _ ⟨look _, memOf _ (bxs _) _, _⟩; exact weak_cut [] ⟨(kPtr rfl), ⟨(kPtr rfl), ⟨(.same rfl), ⟨(kPtr rfl), ⟨(.same rfl), trivial⟩⟩⟩⟩⟩ ⟨⟨_, rfl, rfl, (.same rfl)⟩, ⟨⟨_, rfl, rfl, (.same rfl)⟩, ⟨⟨_, rfl, rfl, (.same rfl)⟩, trivial⟩⟩⟩ rfl
    ·obtain ⟨out40, out41⟩ := z
     refine Tr.rgn (md rfl (Rn.bin trivial rfl rfl rfl (md rfl (Rn.nil ?_))))
     exact ⟨_, h, (by show WeakSt Γ (clean _ _ _) ⟨look _, memOf _ (bxs _) _, _⟩; exact weak_clean ⟨(kPtr rfl), ⟨(kPtr rfl), ⟨(.same rfl), ⟨(kPtr rfl), ⟨(.same rfl), trivial⟩⟩⟩⟩⟩ ⟨⟨_, rfl, rfl, (.same rfl)⟩, ⟨⟨_, rfl, rfl, (.same rfl)⟩, ⟨⟨_, rfl, rfl, (.same rfl)⟩, trivial⟩⟩⟩ rfl)⟩
   ·replace h := ifF hb13 h
    refine Tr.exit ?_
    replace h := si h; subst h
    show WeakSt Γ _ ⟨look _, memOf _ (bxs _) _, _⟩; exact weak_cut [] ⟨(kPtr rfl), ⟨(kPtr rfl), trivial⟩⟩ ⟨⟨_, rfl, rfl, (.same rfl)⟩, ⟨⟨_, rfl, rfl, (.same rfl)⟩, ⟨⟨_, rfl, rfl, (.same rfl)⟩, trivial⟩⟩⟩ rfl
 ·obtain ⟨c42, c43, c44, out45, out46⟩ := z
  refine sr ((Rn.load (v := .agg [.d (.lst 1 (List.map (eI .i64) x5.Alphabet)), .d (.int .i64 (x3.length : Int)), .d (.lst 1 (List.map (eI .i64) out45)), .d (.lst 3 (List.map e_api_Edge out46))]) trivial rfl (boxOwn rfl) rfl rfl (Rn.store (v := .agg [.d (.lst 1 (List.map (eI .i64) x5.Alphabet)), .d (.int .i64 (x3.length : Int)), .d (.lst 1 (List.map (eI .i64) out45)), .d (.lst 3 (List.map e_api_Edge out46))]) (cs' := [.d (.lst 1 (List.map (eI .i64) x5.Alphabet)), .d (.int .i64 (x3.length : Int)), .d (.lst 1 (List.map (eI .i64) out45)), .d (.lst 3 (List.map e_api_Edge out46))]) trivial rfl rfl rfl rfl rfl rfl (nt ((Tr.ret ?_))))))
  replace h := si h; subst h
  exact ⟨.inr rfl, (.agg [.d (.lst 1 (List.map (eI .i64) x5.Alphabet)), .d (.int .i64 (x3.length : Int)), .d (.lst 1 (List.map (eI .i64) out45)), .d (.lst 3 (List.map e_api_Edge out46))]), resCell rfl rfl rfl rfl, fun _ _ _ _ h => h, ⟨trivial, trivial, trivial, trivial, trivial⟩, fun k hk => memOf_base hk⟩
theorem overseerlaw03_Make_walk {P : Program} {c : Nat} {f_overseerref03_Empty : (List Int) → Option api_Automaton} {f_overseerref03_Canonical : api_Automaton → Option api_Automaton}
    (H_overseerref03_Empty : K_overseerref03_Empty P 70 f_overseerref03_Empty)
    (H_overseerref03_Canonical : K_overseerref03_Canonical P 71 f_overseerref03_Canonical) (hcf : compFn P c = some F_overseerlaw03_Make) (fuel : Nat) : K_overseerlaw03_Make P c (f_overseerlaw03_Make f_overseerref03_Empty f_overseerref03_Canonical fuel) := by
 intro alphabet1 g2 r h
 refine fn_trP hcf rfl fun Γ M hP hnt hM => ?_
 subst hP
 refine Tr.init [(0, .d (.lst 1 (List.map (eI .i64) alphabet1))), (1, .agg [.d (.int .u8 g2.States), .d (.int .u8 g2.Marks), .d (.int .u8 g2.To.1.1), .d (.int .u8 g2.To.1.2.1), .d (.int .u8 g2.To.1.2.2.1), .d (.int .u8 g2.To.1.2.2.2.1), .d (.int .u8 g2.To.1.2.2.2.2), .d (.int .u8 g2.To.2.1.1), .d (.int .u8 g2.To.2.1.2.1), .d (.int .u8 g2.To.2.1.2.2.1), .d (.int .u8 g2.To.2.1.2.2.2.1), .d (.int .u8 g2.To.2.1.2.2.2.2), .d (.int .u8 g2.To.2.2.1.1), .d (.int .u8 g2.To.2.2.1.2.1), .d (.int .u8 g2.To.2.2.1.2.2.1), .d (.int .u8 g2.To.2.2.1.2.2.2.1), .d (.int .u8 g2.To.2.2.1.2.2.2.2), .d (.int .u8 g2.To.2.2.2.1.1), .d (.int .u8 g2.To.2.2.2.1.2.1), .d (.int .u8 g2.To.2.2.2.1.2.2.1), .d (.int .u8 g2.To.2.2.2.1.2.2.2.1), .d (.int .u8 g2.To.2.2.2.1.2.2.2.2), .d (.int .u8 g2.To.2.2.2.2.1), .d (.int .u8 g2.To.2.2.2.2.2.1), .d (.int .u8 g2.To.2.2.2.2.2.2.1), .d (.int .u8 g2.To.2.2.2.2.2.2.2.1), .d (.int .u8 g2.To.2.2.2.2.2.2.2.2)])] rfl ?_
 unfold f_overseerlaw03_Make at h
 unfold F_overseerlaw03_Make
 refine sr ((Rn.box (v := .agg [.d (.int .u8 g2.States), .d (.int .u8 g2.Marks), .d (.int .u8 g2.To.1.1), .d (.int .u8 g2.To.1.2.1), .d (.int .u8 g2.To.1.2.2.1), .d (.int .u8 g2.To.1.2.2.2.1), .d (.int .u8 g2.To.1.2.2.2.2), .d (.int .u8 g2.To.2.1.1), .d (.int .u8 g2.To.2.1.2.1), .d (.int .u8 g2.To.2.1.2.2.1), .d (.int .u8 g2.To.2.1.2.2.2.1), .d (.int .u8 g2.To.2.1.2.2.2.2), .d (.int .u8 g2.To.2.2.1.1), .d (.int .u8 g2.To.2.2.1.2.1), .d (.int .u8 g2.To.2.2.1.2.2.1), .d (.int .u8 g2.To.2.2.1.2.2.2.1), .d (.int .u8 g2.To.2.2.1.2.2.2.2), .d (.int .u8 g2.To.2.2.2.1.1), .d (.int .u8 g2.To.2.2.2.1.2.1), .d (.int .u8 g2.To.2.2.2.1.2.2.1), .d (.int .u8 g2.To.2.2.2.1.2.2.2.1), .d (.int .u8 g2.To.2.2.2.1.2.2.2.2), .d (.int .u8 g2.To.2.2.2.2.1), .d (.int .u8 g2.To.2.2.2.2.2.1), .d (.int .u8 g2.To.2.2.2.2.2.2.1), .d (.int .u8 g2.To.2.2.2.2.2.2.2.1), .d (.int .u8 g2.To.2.2.2.2.2.2.2.2)]) (cs := [.d (.int .u8 g2.States), .d (.int .u8 g2.Marks), .d (.int .u8 g2.To.1.1), .d (.int .u8 g2.To.1.2.1), .d (.int .u8 g2.To.1.2.2.1), .d (.int .u8 g2.To.1.2.2.2.1), .d (.int .u8 g2.To.1.2.2.2.2), .d (.int .u8 g2.To.2.1.1), .d (.int .u8 g2.To.2.1.2.1), .d (.int .u8 g2.To.2.1.2.2.1), .d (.int .u8 g2.To.2.1.2.2.2.1), .d (.int .u8 g2.To.2.1.2.2.2.2), .d (.int .u8 g2.To.2.2.1.1), .d (.int .u8 g2.To.2.2.1.2.1), .d (.int .u8 g2.To.2.2.1.2.2.1), .d (.int .u8 g2.To.2.2.1.2.2.2.1), .d (.int .u8 g2.To.2.2.1.2.2.2.2), .d (.int .u8 g2.To.2.2.2.1.1), .d (.int .u8 g2.To.2.2.2.1.2.1), .d (.int .u8 g2.To.2.2.2.1.2.2.1), .d (.int .u8 g2.To.2.2.2.1.2.2.2.1), .d (.int .u8 g2.To.2.2.2.1.2.2.2.2), .d (.int .u8 g2.To.2.2.2.2.1), .d (.int .u8 g2.To.2.2.2.2.2.1), .d (.int .u8 g2.To.2.2.2.2.2.2.1), .d (.int .u8 g2.To.2.2.2.2.2.2.2.1), .d (.int .u8 g2.To.2.2.2.2.2.2.2.2)]) trivial rfl rfl rfl rfl rfl (Rn.alloc trivial rfl (nt ((Tr.seq (sr ((Rn.fldP (o' := 0) trivial rfl rfl (Rn.load (v := .d (.int .u8 g2.States)) trivial rfl (boxOwn rfl) rfl rfl (Rn.bin trivial rfl rfl rfl (Rn.nil (toN ?_)))))))))))))
 refine Tr.cond rfl (fun hb3 => ?_) (fun hb3 => ?_)
 ·replace h := ifT hb3 h
  refine sr ((md rfl ?_))
  obtain ⟨x5, h4, h⟩ := bnd h
  refine Rn.call (args := [.d (.lst 1 (List.map (eI .i64) alphabet1))]) trivial rfl (H_overseerref03_Empty _ _ h4) pc9 (Rn.store (v := .agg [.d (.lst 1 (List.map (eI .i64) x5.Alphabet)), .d (.int .i64 x5.States), .nils 1, .nils 3]) (cs' := [.d (.lst 1 (List.map (eI .i64) x5.Alphabet)), .d (.int .i64 x5.States), .nils 1, .nils 3]) trivial rfl rfl rfl rfl rfl rfl (nt ((Tr.ret ?_))))
  replace h := si h; subst h
  exact ⟨.inr rfl, (.agg [.d (.lst 1 (List.map (eI .i64) x5.Alphabet)), .d (.int .i64 x5.States), .nils 1, .nils 3]), resCell rfl rfl rfl rfl, (WkV.agg (.cons (.same rfl) (.cons (.same rfl) (.cons (WkV.nilsD _) (.cons (WkV.nilsD _) .nil))))).rd, ⟨trivial, trivial, trivial, trivial, trivial⟩, fun k hk => memOf_base hk⟩
 ·replace h := ifF hb3 h
  refine Tr.skip (toN (sr ((md rfl ?_))))
  obtain ⟨x7, h6, h⟩ := bnd h
  refine Rn.call (args := [.d (.lst 1 (List.map (eI .i64) alphabet1))]) trivial rfl (H_overseerref03_Empty _ _ h6) pc9 (Rn.alloc trivial rfl (Rn.store (v := .agg [.d (.lst 1 (List.map (eI .i64) x7.Alphabet)), .d (.int .i64 x7.States), .nils 1, .nils 3]) (cs' := [.d (.lst 1 (List.map (eI .i64) x7.Alphabet)), .d (.int .i64 x7.States), .nils 1, .nils 3]) trivial rfl rfl rfl rfl rfl rfl (nt ((sr ((Rn.fldP (o' := 0) trivial rfl rfl (Rn.load (v := .d (.int .u8 g2.States)) trivial rfl (boxOwn rfl) rfl rfl (Rn.bin trivial rfl rfl rfl (Rn.conv trivial rfl (Rn.bin trivial rfl rfl rfl (Rn.fldP (o' := 1) trivial rfl rfl (Rn.store (v := .d (.int .i64 (IntKind.wrap .i64 (1 + (IntKind.wrap .i64 (Int.tmod g2.States 5)))))) (cs' := [.d (.lst 1 (List.map (eI .i64) x7.Alphabet)), .d (.int .i64 (IntKind.wrap .i64 (1 + (IntKind.wrap .i64 (Int.tmod g2.States 5))))), .nils 1, .nils 3]) trivial rfl rfl rfl rfl rfl rfl (Rn.nil (toN ?_)))))))))))))))
  refine Tr.cutB (fun ((c43, c44, c45, a46, a47, a48) : (List Int) × (List Int) × (List api_Edge) × Int × (List Int) × (List api_Edge)) => ⟨look [(4, .ptr (Γ.n0 + 4) 0), (5, .ptr (Γ.n0 + 5) 0)], memOf Γ.n0 (bxs [(3, .cells ([.d (.int .u8 g2.States), .d (.int .u8 g2.Marks), .d (.int .u8 g2.To.1.1), .d (.int .u8 g2.To.1.2.1), .d (.int .u8 g2.To.1.2.2.1), .d (.int .u8 g2.To.1.2.2.2.1), .d (.int .u8 g2.To.1.2.2.2.2), .d (.int .u8 g2.To.2.1.1), .d (.int .u8 g2.To.2.1.2.1), .d (.int .u8 g2.To.2.1.2.2.1), .d (.int .u8 g2.To.2.1.2.2.2.1), .d (.int .u8 g2.To.2.1.2.2.2.2), .d (.int .u8 g2.To.2.2.1.1), .d (.int .u8 g2.To.2.2.1.2.1), .d (.int .u8 g2.To.2.2.1.2.2.1), .d (.int .u8 g2.To.2.2.1.2.2.2.1), .d (.int .u8 g2.To.2.2.1.2.2.2.2), .d (.int .u8 g2.To.2.2.2.1.1), .d (.int .u8 g2.To.2.2.2.1.2.1), .d (.int .u8 g2.To.2.2.2.1.2.2.1), .d (.int .u8 g2.To.2.2.2.1.2.2.2.1), .d (.int .u8 g2.To.2.2.2.1.2.2.2.2), .d (.int .u8 g2.To.2.2.2.2.1), .d (.int .u8 g2.To.2.2.2.2.2.1), .d (.int .u8 g2.To.2.2.2.2.2.2.1), .d (.int .u8 g2.To.2.2.2.2.2.2.2.1), .d (.int .u8 g2.To.2.2.2.2.2.2.2.2)])), (4, .cells ([.own 1 (List.map (eI .i64) c43), .d (.int .i64 0), .own 1 (List.map (eI .i64) c44), .own 3 (List.map e_api_Edge c45)])), (5, .cells ([.d (.lst 1 (List.map (eI .i64) x7.Alphabet)), .d (.int .i64 a46), .own 1 (List.map (eI .i64) a47), .own 3 (List.map e_api_Edge a48)]))]) M, Γ.n0 + 79⟩) h (fun z h => ?_) (fun z h => ?_)
  ·refine sr ((md rfl (nt ((Tr.block ?_)))))
   refine Tr.loop (mk := fun ((i8, c9, c10, c11, a12, a13, a14) : Int × (List Int) × (List Int) × (List api_Edge) × Int × (List Int) × (List api_Edge)) => ⟨look [(0, .d (.lst 1 (List.map (eI .i64) alphabet1))), (3, .ptr (Γ.n0 + 3) 0), (4, .ptr (Γ.n0 + 4) 0), (5, .ptr (Γ.n0 + 5) 0), (6, .d (.int .i64 i8))], memOf Γ.n0 (bxs [(3, .cells ([.d (.int .u8 g2.States), .d (.int .u8 g2.Marks), .d (.int .u8 g2.To.1.1), .d (.int .u8 g2.To.1.2.1), .d (.int .u8 g2.To.1.2.2.1), .d (.int .u8 g2.To.1.2.2.2.1), .d (.int .u8 g2.To.1.2.2.2.2), .d (.int .u8 g2.To.2.1.1), .d (.int .u8 g2.To.2.1.2.1), .d (.int .u8 g2.To.2.1.2.2.1), .d (.int .u8 g2.To.2.1.2.2.2.1), .d (.int .u8 g2.To.2.1.2.2.2.2), .d (.int .u8 g2.To.2.2.1.1), .d (.int .u8 g2.To.2.2.1.2.1), .d (.int .u8 g2.To.2.2.1.2.2.1), .d (.int .u8 g2.To.2.2.1.2.2.2.1), .d (.int .u8 g2.To.2.2.1.2.2.2.2), .d (.int .u8 g2.To.2.2.2.1.1), .d (.int .u8 g2.To.2.2.2.1.2.1), .d (.int .u8 g2.To.2.2.2.1.2.2.1), .d (.int .u8 g2.To.2.2.2.1.2.2.2.1), .d (.int .u8 g2.To.2.2.2.1.2.2.2.2), .d (.int .u8 g2.To.2.2.2.2.1), .d (.int .u8 g2.To.2.2.2.2.2.1), .d (.int .u8 g2.To.2.2.2.2.2.2.1), .d (.int .u8 g2.To.2.2.2.2.2.2.2.1), .d (.int .u8 g2.To.2.2.2.2.2.2.2.2)])), (4, .cells ([.own 1 (List.map (eI .i64) c9), .d (.int .i64 0), .own 1 (List.map (eI .i64) c10), .own 3 (List.map e_api_Edge c11)])), (5, .cells ([.d (.lst 1 (List.map (eI .i64) x7.Alphabet)), .d (.int .i64 a12), .own 1 (List.map (eI .i64) a13), .own 3 (List.map e_api_Edge a14)]))]) M, Γ.n0 + 79⟩) h (by show WeakSt Γ (clean _ _ _) ⟨look _, memOf _ (bxs _) _, _⟩; exact weak_clean ⟨(.same rfl), ⟨(kPtr rfl), ⟨(kPtr rfl), ⟨(kPtr rfl), ⟨(.same rfl), trivial⟩⟩⟩⟩⟩ ⟨⟨_, rfl, rfl, (.same rfl)⟩, ⟨⟨_, rfl, rfl, (.cons (WkV.nilsO _) (.cons (.same rfl) (.cons (WkV.nilsO _) (.cons (WkV.nilsO _) .nil))))⟩, ⟨⟨_, rfl, rfl, (.cons (.same rfl) (.cons (.same rfl) (.cons (WkV.nilsO _) (.cons (WkV.nilsO _) .nil))))⟩, trivial⟩⟩⟩ rfl) (fun k15 z h => ?_)
   ·obtain ⟨i8, c9, c10, c11, a12, a13, a14⟩ := z
    replace h : _ = some _ := h
    refine Tr.seq (sr ((md rfl (Rn.fldP (o' := 1) trivial rfl rfl (Rn.load (v := .d (.int .i64 a12)) trivial rfl (boxOwn rfl) rfl rfl (Rn.bin trivial rfl rfl rfl (Rn.nil (toN ?_))))))))
    refine Tr.cond rfl (fun hb16 => ?_) (fun hb16 => ?_)
    ·replace h := ifT hb16 h
     refine Tr.skip (toN ?_)
     refine Tr.cutB (fun ((a41, a42) : (List Int) × (List api_Edge)) => ⟨look [(0, .d (.lst 1 (List.map (eI .i64) alphabet1))), (3, .ptr (Γ.n0 + 3) 0), (4, .ptr (Γ.n0 + 4) 0), (5, .ptr (Γ.n0 + 5) 0), (6, .d (.int .i64 i8))], memOf Γ.n0 (bxs [(3, .cells ([.d (.int .u8 g2.States), .d (.int .u8 g2.Marks), .d (.int .u8 g2.To.1.1), .d (.int .u8 g2.To.1.2.1), .d (.int .u8 g2.To.1.2.2.1), .d (.int .u8 g2.To.1.2.2.2.1), .d (.int .u8 g2.To.1.2.2.2.2), .d (.int .u8 g2.To.2.1.1), .d (.int .u8 g2.To.2.1.2.1), .d (.int .u8 g2.To.2.1.2.2.1), .d (.int .u8 g2.To.2.1.2.2.2.1), .d (.int .u8 g2.To.2.1.2.2.2.2), .d (.int .u8 g2.To.2.2.1.1), .d (.int .u8 g2.To.2.2.1.2.1), .d (.int .u8 g2.To.2.2.1.2.2.1), .d (.int .u8 g2.To.2.2.1.2.2.2.1), .d (.int .u8 g2.To.2.2.1.2.2.2.2), .d (.int .u8 g2.To.2.2.2.1.1), .d (.int .u8 g2.To.2.2.2.1.2.1), .d (.int .u8 g2.To.2.2.2.1.2.2.1), .d (.int .u8 g2.To.2.2.2.1.2.2.2.1), .d (.int .u8 g2.To.2.2.2.1.2.2.2.2), .d (.int .u8 g2.To.2.2.2.2.1), .d (.int .u8 g2.To.2.2.2.2.2.1), .d (.int .u8 g2.To.2.2.2.2.2.2.1), .d (.int .u8 g2.To.2.2.2.2.2.2.2.1), .d (.int .u8 g2.To.2.2.2.2.2.2.2.2)])), (4, .cells ([.own 1 (List.map (eI .i64) c9), .d (.int .i64 0), .own 1 (List.map (eI .i64) c10), .own 3 (List.map e_api_Edge c11)])), (5, .cells ([.d (.lst 1 (List.map (eI .i64) x7.Alphabet)), .d (.int .i64 a12), .own 1 (List.map (eI .i64) a41), .own 3 (List.map e_api_Edge a42)]))]) M, Γ.n0 + 79⟩) h (fun z h => ?_) (fun z h => ?_)
     ·refine Tr.block ?_
      refine Tr.cutB (fun (a22 : List Int) => ⟨look [(0, .d (.lst 1 (List.map (eI .i64) alphabet1))), (3, .ptr (Γ.n0 + 3) 0), (4, .ptr (Γ.n0 + 4) 0), (5, .ptr (Γ.n0 + 5) 0), (6, .d (.int .i64 i8))], memOf Γ.n0 (bxs [(3, .cells ([.d (.int .u8 g2.States), .d (.int .u8 g2.Marks), .d (.int .u8 g2.To.1.1), .d (.int .u8 g2.To.1.2.1), .d (.int .u8 g2.To.1.2.2.1), .d (.int .u8 g2.To.1.2.2.2.1), .d (.int .u8 g2.To.1.2.2.2.2), .d (.int .u8 g2.To.2.1.1), .d (.int .u8 g2.To.2.1.2.1), .d (.int .u8 g2.To.2.1.2.2.1), .d (.int .u8 g2.To.2.1.2.2.2.1), .d (.int .u8 g2.To.2.1.2.2.2.2), .d (.int .u8 g2.To.2.2.1.1), .d (.int .u8 g2.To.2.2.1.2.1), .d (.int .u8 g2.To.2.2.1.2.2.1), .d (.int .u8 g2.To.2.2.1.2.2.2.1), .d (.int .u8 g2.To.2.2.1.2.2.2.2), .d (.int .u8 g2.To.2.2.2.1.1), .d (.int .u8 g2.To.2.2.2.1.2.1), .d (.int .u8 g2.To.2.2.2.1.2.2.1), .d (.int .u8 g2.To.2.2.2.1.2.2.2.1), .d (.int .u8 g2.To.2.2.2.1.2.2.2.2), .d (.int .u8 g2.To.2.2.2.2.1), .d (.int .u8 g2.To.2.2.2.2.2.1), .d (.int .u8 g2.To.2.2.2.2.2.2.1), .d (.int .u8 g2.To.2.2.2.2.2.2.2.1), .d (.int .u8 g2.To.2.2.2.2.2.2.2.2)])), (4, .cells ([.own 1 (List.map (eI .i64) c9), .d (.int .i64 0), .own 1 (List.map (eI .i64) c10), .own 3 (List.map e_api_Edge c11)])), (5, .cells ([.d (.lst 1 (List.map (eI .i64) x7.Alphabet)), .d (.int .i64 a12), .own 1 (List.map (eI .i64) a22), .own 3 (List.map e_api_Edge a14)]))]) M, Γ.n0 + 79⟩) h (fun z h => ?_) (fun z h => ?_)
      ·refine sr ((Rn.fldP (o' := 1) trivial rfl rfl (Rn.load (v := .d (.int .u8 g2.Marks)) trivial rfl (boxOwn rfl) rfl rfl (md rfl ?_))))
       obtain ⟨s17, h18, h⟩ := bnd h
       refine Rn.bin trivial rfl rfl (shr_bin h18) (Rn.bin trivial rfl rfl rfl (Rn.bin trivial rfl rfl rfl (Rn.nil (toN ?_))))
       refine Tr.cond rfl (fun hb19 => ?_) (fun hb19 => ?_)
       ·replace h := bT hb19 h
        refine Tr.rgn (Rn.fldP (o' := 2) trivial rfl rfl (Rn.loadT (cs' := [.d (.lst 1 (List.map (eI .i64) x7.Alphabet)), .d (.int .i64 a12), .d (.lst 1 (List.map (eI .i64) a13)), .own 3 (List.map e_api_Edge a14)]) trivial rfl rfl rfl rfl (md rfl (Rn.bslice (xs := [.d (.int .i64 i8)]) (cs := [.d (.int .i64 i8)]) trivial rfl rfl rfl rfl ?_))))
        obtain ⟨x20, h21, h⟩ := bnd h
        refine Rn.app (e := (eI .i64)) trivial rfl rfl rfl (elems_box rfl rfl rfl) h21 rfl (Rn.fldP (o' := 2) trivial rfl rfl (Rn.storeO (cs' := [.d (.lst 1 (List.map (eI .i64) x7.Alphabet)), .d (.int .i64 a12), .own 1 (List.map (eI .i64) x20), .own 3 (List.map e_api_Edge a14)]) trivial rfl rfl rfl rfl rfl (Rn.nil ?_)))
        replace h := si h; subst h
        show WeakSt Γ _ ⟨look _, memOf _ (bxs _) _, _⟩; exact weak_cut [37] ⟨(.same rfl), ⟨(kPtr rfl), ⟨(kPtr rfl), ⟨(kPtr rfl), ⟨(.same rfl), trivial⟩⟩⟩⟩⟩ ⟨⟨_, rfl, rfl, (.same rfl)⟩, ⟨⟨_, rfl, rfl, (.same rfl)⟩, ⟨⟨_, rfl, rfl, (.same rfl)⟩, trivial⟩⟩⟩ rfl
       ·replace h := bF hb19 h
        refine Tr.skip ?_
        replace h := si h; subst h
        show WeakSt Γ _ ⟨look _, memOf _ (bxs _) _, _⟩; exact weak_cut [] ⟨(.same rfl), ⟨(kPtr rfl), ⟨(kPtr rfl), ⟨(kPtr rfl), ⟨(.same rfl), trivial⟩⟩⟩⟩⟩ ⟨⟨_, rfl, rfl, (.same rfl)⟩, ⟨⟨_, rfl, rfl, (.same rfl)⟩, ⟨⟨_, rfl, rfl, (.same rfl)⟩, trivial⟩⟩⟩ rfl
      ·obtain ⟨a22, rfl⟩ : ∃ x, x = z := ⟨_, rfl⟩
       refine sr ((md rfl (nt ((Tr.block ?_)))))
       refine Tr.loop (mk := fun ((k23, a24) : Int × (List api_Edge)) => ⟨look [(0, .d (.lst 1 (List.map (eI .i64) alphabet1))), (3, .ptr (Γ.n0 + 3) 0), (4, .ptr (Γ.n0 + 4) 0), (5, .ptr (Γ.n0 + 5) 0), (6, .d (.int .i64 i8)), (7, .d (.int .i64 k23))], memOf Γ.n0 (bxs [(3, .cells ([.d (.int .u8 g2.States), .d (.int .u8 g2.Marks), .d (.int .u8 g2.To.1.1), .d (.int .u8 g2.To.1.2.1), .d (.int .u8 g2.To.1.2.2.1), .d (.int .u8 g2.To.1.2.2.2.1), .d (.int .u8 g2.To.1.2.2.2.2), .d (.int .u8 g2.To.2.1.1), .d (.int .u8 g2.To.2.1.2.1), .d (.int .u8 g2.To.2.1.2.2.1), .d (.int .u8 g2.To.2.1.2.2.2.1), .d (.int .u8 g2.To.2.1.2.2.2.2), .d (.int .u8 g2.To.2.2.1.1), .d (.int .u8 g2.To.2.2.1.2.1), .d (.int .u8 g2.To.2.2.1.2.2.1), .d (.int .u8 g2.To.2.2.1.2.2.2.1), .d (.int .u8 g2.To.2.2.1.2.2.2.2), .d (.int .u8 g2.To.2.2.2.1.1), .d (.int .u8 g2.To.2.2.2.1.2.1), .d (.int .u8 g2.To.2.2.2.1.2.2.1), .d (.int .u8 g2.To.2.2.2.1.2.2.2.1), .d (.int .u8 g2.To.2.2.2.1.2.2.2.2), .d (.int .u8 g2.To.2.2.2.2.1), .d (.int .u8 g2.To.2.2.2.2.2.1), .d (.int .u8 g2.To.2.2.2.2.2.2.1), .d (.int .u8 g2.To.2.2.2.2.2.2.2.1), .d (.int .u8 g2.To.2.2.2.2.2.2.2.2)])), (4, .cells ([.own 1 (List.map (eI .i64) c9), .d (.int .i64 0), .own 1 (List.map (eI .i64) c10), .own 3 (List.map e_api_Edge c11)])), (5, .cells ([.d (.lst 1 (List.map (eI .i64) x7.Alphabet)), .d (.int .i64 a12), .own 1 (List.map (eI .i64) a22), .own 3 (List.map e_api_Edge a24)]))]) M, Γ.n0 + 79⟩) h (by show WeakSt Γ (clean _ _ _) ⟨look _, memOf _ (bxs _) _, _⟩; exact weak_clean ⟨(.same rfl), ⟨(kPtr rfl), ⟨(kPtr rfl), ⟨(kPtr rfl), ⟨(.same rfl), ⟨(.same rfl), trivial⟩⟩⟩⟩⟩⟩ ⟨⟨_, rfl, rfl, (.same rfl)⟩, ⟨⟨_, rfl, rfl, (.same rfl)⟩, ⟨⟨_, rfl, rfl, (.same rfl)⟩, trivial⟩⟩⟩ rfl) (fun k25 z h => ?_)
       ·obtain ⟨k23, a24⟩ := z
        replace h : _ = some _ := h
        refine Tr.seq ?_
        refine Tr.cutB (fun (x27 : Bool) => ⟨look [(0, .d (.lst 1 (List.map (eI .i64) alphabet1))), (3, .ptr (Γ.n0 + 3) 0), (4, .ptr (Γ.n0 + 4) 0), (5, .ptr (Γ.n0 + 5) 0), (6, .d (.int .i64 i8)), (7, .d (.int .i64 k23)), (47, .d (.bool x27))], memOf Γ.n0 (bxs [(3, .cells ([.d (.int .u8 g2.States), .d (.int .u8 g2.Marks), .d (.int .u8 g2.To.1.1), .d (.int .u8 g2.To.1.2.1), .d (.int .u8 g2.To.1.2.2.1), .d (.int .u8 g2.To.1.2.2.2.1), .d (.int .u8 g2.To.1.2.2.2.2), .d (.int .u8 g2.To.2.1.1), .d (.int .u8 g2.To.2.1.2.1), .d (.int .u8 g2.To.2.1.2.2.1), .d (.int .u8 g2.To.2.1.2.2.2.1), .d (.int .u8 g2.To.2.1.2.2.2.2), .d (.int .u8 g2.To.2.2.1.1), .d (.int .u8 g2.To.2.2.1.2.1), .d (.int .u8 g2.To.2.2.1.2.2.1), .d (.int .u8 g2.To.2.2.1.2.2.2.1), .d (.int .u8 g2.To.2.2.1.2.2.2.2), .d (.int .u8 g2.To.2.2.2.1.1), .d (.int .u8 g2.To.2.2.2.1.2.1), .d (.int .u8 g2.To.2.2.2.1.2.2.1), .d (.int .u8 g2.To.2.2.2.1.2.2.2.1), .d (.int .u8 g2.To.2.2.2.1.2.2.2.2), .d (.int .u8 g2.To.2.2.2.2.1), .d (.int .u8 g2.To.2.2.2.2.2.1), .d (.int .u8 g2.To.2.2.2.2.2.2.1), .d (.int .u8 g2.To.2.2.2.2.2.2.2.1), .d (.int .u8 g2.To.2.2.2.2.2.2.2.2)])), (4, .cells ([.own 1 (List.map (eI .i64) c9), .d (.int .i64 0), .own 1 (List.map (eI .i64) c10), .own 3 (List.map e_api_Edge c11)])), (5, .cells ([.d (.lst 1 (List.map (eI .i64) x7.Alphabet)), .d (.int .i64 a12), .own 1 (List.map (eI .i64) a22), .own 3 (List.map e_api_Edge a24)]))]) M, Γ.n0 + 79⟩) h (fun z h => ?_) (fun z h => ?_)
        ·refine Tr.rgn (md rfl (md rfl (Rn.lenD trivial rfl (Rn.bin trivial rfl rfl rfl (md rfl ?_)))))
         refine bsplit (decide (k23 < (alphabet1.length : Int))) (fun hb26 => ?_) (fun hb26 => ?_)
         ·replace h := ifT hb26 h
          refine Rn.movD (gw rfl hb26) rfl (Rn.bin (gw rfl hb26) rfl rfl rfl (Rn.pickT (v := .d (.bool (decide (k23 < 5)))) trivial rfl hb26 rfl (Rn.nil ?_)))
          replace h := si h; subst h
          show WeakSt Γ _ ⟨look _, memOf _ (bxs _) _, _⟩; exact weak_cut [] ⟨(.same rfl), ⟨(kPtr rfl), ⟨(kPtr rfl), ⟨(kPtr rfl), ⟨(.same rfl), ⟨(.same rfl), ⟨(.same rfl), trivial⟩⟩⟩⟩⟩⟩⟩ ⟨⟨_, rfl, rfl, (.same rfl)⟩, ⟨⟨_, rfl, rfl, (.same rfl)⟩, ⟨⟨_, rfl, rfl, (.same rfl)⟩, trivial⟩⟩⟩ rfl
         ·replace h := ifF hb26 h
          refine Rn.sk (nw rfl hb26) (Rn.sk (nw rfl hb26) (Rn.pickF (v := .d (.bool false)) trivial rfl hb26 rfl (Rn.nil ?_)))
          replace h := si h; subst h
          show WeakSt Γ _ ⟨look _, memOf _ (bxs _) _, _⟩; exact weak_cut [] ⟨(.same rfl), ⟨(kPtr rfl), ⟨(kPtr rfl), ⟨(kPtr rfl), ⟨(.same rfl), ⟨(.same rfl), ⟨(.same rfl), trivial⟩⟩⟩⟩⟩⟩⟩ ⟨⟨_, rfl, rfl, (.same rfl)⟩, ⟨⟨_, rfl, rfl, (.same rfl)⟩, ⟨⟨_, rfl, rfl, (.same rfl)⟩, trivial⟩⟩⟩ rfl
        ·obtain ⟨x27, rfl⟩ : ∃ x, x = z := ⟨_, rfl⟩
         refine Tr.cond rfl (fun hb28 => ?_) (fun hb28 => ?_)
         ·replace h := bT hb28 h
          refine Tr.skip (toN ?_)
          refine Tr.cutB (fun (a40 : List api_Edge) => ⟨look [(0, .d (.lst 1 (List.map (eI .i64) alphabet1))), (3, .ptr (Γ.n0 + 3) 0), (4, .ptr (Γ.n0 + 4) 0), (5, .ptr (Γ.n0 + 5) 0), (6, .d (.int .i64 i8)), (7, .d (.int .i64 k23))], memOf Γ.n0 (bxs [(3, .cells ([.d (.int .u8 g2.States), .d (.int .u8 g2.Marks), .d (.int .u8 g2.To.1.1), .d (.int .u8 g2.To.1.2.1), .d (.int .u8 g2.To.1.2.2.1), .d (.int .u8 g2.To.1.2.2.2.1), .d (.int .u8 g2.To.1.2.2.2.2), .d (.int .u8 g2.To.2.1.1), .d (.int .u8 g2.To.2.1.2.1), .d (.int .u8 g2.To.2.1.2.2.1), .d (.int .u8 g2.To.2.1.2.2.2.1), .d (.int .u8 g2.To.2.1.2.2.2.2), .d (.int .u8 g2.To.2.2.1.1), .d (.int .u8 g2.To.2.2.1.2.1), .d (.int .u8 g2.To.2.2.1.2.2.1), .d (.int .u8 g2.To.2.2.1.2.2.2.1), .d (.int .u8 g2.To.2.2.1.2.2.2.2), .d (.int .u8 g2.To.2.2.2.1.1), .d (.int .u8 g2.To.2.2.2.1.2.1), .d (.int .u8 g2.To.2.2.2.1.2.2.1), .d (.int .u8 g2.To.2.2.2.1.2.2.2.1), .d (.int .u8 g2.To.2.2.2.1.2.2.2.2), .d (.int .u8 g2.To.2.2.2.2.1), .d (.int .u8 g2.To.2.2.2.2.2.1), .d (.int .u8 g2.To.2.2.2.2.2.2.1), .d (.int .u8 g2.To.2.2.2.2.2.2.2.1), .d (.int .u8 g2.To.2.2.2.2.2.2.2.2)])), (4, .cells ([.own 1 (List.map (eI .i64) c9), .d (.int .i64 0), .own 1 (List.map (eI .i64) c10), .own 3 (List.map e_api_Edge c11)])), (5, .cells ([.d (.lst 1 (List.map (eI .i64) x7.Alphabet)), .d (.int .i64 a12), .own 1 (List.map (eI .i64) a22), .own 3 (List.map e_api_Edge a40)]))]) M, Γ.n0 + 79⟩) h (fun z h => ?_) (fun z h => ?_)
          ·refine Tr.block (Tr.seq ?_)
           refine Tr.rgnD (by decide) ?_
           refine md rfl (md rfl (Rn.fldP (o' := 2) trivial rfl rfl ?_))
           obtain ⟨⟨⟩, h29, h⟩ := bnd h
           refine Rn.idxArr (o' := 2 + (Int.toNat i8 * 5)) trivial rfl rfl rfl h29 ?_
           obtain ⟨⟨⟩, h30, h⟩ := bnd h
           refine Rn.idxArr (o' := 2 + (Int.toNat i8 * 5 + Int.toNat k23 * 1)) trivial rfl rfl (Nat.add_assoc ..).symm h30 ?_
           obtain ⟨x31, h32, h⟩ := bnd h
           refine Rn.loadArr (e := (fun (z : Int) => .int .u8 z)) (pre := [.d (.int .u8 g2.States), .d (.int .u8 g2.Marks)]) (post := []) trivial rfl rfl (boxOwn rfl) rfl rfl h32 (Rn.conv trivial rfl (Rn.fldP (o' := 1) trivial rfl rfl (Rn.load (v := .d (.int .i64 a12)) trivial rfl (boxOwn rfl) rfl rfl (Rn.bin trivial rfl rfl rfl ?_))))
           obtain ⟨s33, h34, h⟩ := bnd h
           refine Rn.bin trivial rfl rfl (rem_bin h34) (md rfl ?_)
           refine Rn.nil ⟨rfl, ?_⟩
           refine toN (sr ((md rfl (Rn.fldP (o' := 1) trivial rfl rfl (Rn.load (v := .d (.int .i64 a12)) trivial rfl (boxOwn rfl) rfl rfl (Rn.bin trivial rfl rfl rfl (Rn.nil (toN ?_))))))))
           refine Tr.cond rfl (fun hb35 => ?_) (fun hb35 => ?_)
           ·replace h := ifT hb35 h
            refine Tr.rgnD (by decide) ?_
            refine Rn.fldP (o' := 3) trivial rfl rfl (Rn.loadT (cs' := [.d (.lst 1 (List.map (eI .i64) x7.Alphabet)), .d (.int .i64 a12), .own 1 (List.map (eI .i64) a22), .d (.lst 3 (List.map e_api_Edge a24))]) trivial rfl rfl rfl rfl (md rfl (md rfl (md rfl ?_))))
            obtain ⟨x36, h37, h⟩ := bnd h
            refine Rn.idxD (e := (eI .i64)) trivial rfl rfl h37 (Rn.loadC (x := .int .i64 x36) trivial rfl (md rfl (Rn.build (v := .agg [.d (.int .i64 i8), .d (.int .i64 x36), .d (.int .i64 s33)]) trivial rfl (Rn.bslice (xs := [.agg [.d (.int .i64 i8), .d (.int .i64 x36), .d (.int .i64 s33)]]) (cs := [.d (.int .i64 i8), .d (.int .i64 x36), .d (.int .i64 s33)]) trivial rfl rfl rfl rfl ?_))))
            obtain ⟨x38, h39, h⟩ := bnd h
            refine Rn.app (e := e_api_Edge) trivial rfl rfl rfl (elems_box rfl rfl rfl) h39 rfl (Rn.fldP (o' := 3) trivial rfl rfl (Rn.storeO (cs' := [.d (.lst 1 (List.map (eI .i64) x7.Alphabet)), .d (.int .i64 a12), .own 1 (List.map (eI .i64) a22), .own 3 (List.map e_api_Edge x38)]) trivial rfl rfl rfl rfl rfl ?_))
            refine Rn.nil ⟨rfl, ?_⟩
            replace h := si h; subst h
            show WeakSt Γ _ ⟨look _, memOf _ (bxs _) _, _⟩; exact weak_cut [74] ⟨(.same rfl), ⟨(kPtr rfl), ⟨(kPtr rfl), ⟨(kPtr rfl), ⟨(.same rfl), ⟨(.same rfl), trivial⟩⟩⟩⟩⟩⟩ ⟨⟨_, rfl, rfl, (.same rfl)⟩, ⟨⟨_, rfl, rfl, (.same rfl)⟩, ⟨⟨_, rfl, rfl, (.same rfl)⟩, trivial⟩⟩⟩ rfl
           ·replace h := ifF hb35 h
            refine Tr.skip ?_
            replace h := si h; subst h
            show WeakSt Γ _ ⟨look _, memOf _ (bxs _) _, _⟩; exact weak_cut [] ⟨(.same rfl), ⟨(kPtr rfl), ⟨(kPtr rfl), ⟨(kPtr rfl), ⟨(.same rfl), ⟨(.same rfl), trivial⟩⟩⟩⟩⟩⟩ ⟨⟨_, rfl, rfl, (.same rfl)⟩, ⟨⟨_, rfl, rfl, (.same rfl)⟩, ⟨⟨_, rfl, rfl, (.same rfl)⟩, trivial⟩⟩⟩ rfl
          ·obtain ⟨a40, rfl⟩ : ∃ x, x = z := ⟨_, rfl⟩
           refine Tr.rgn (md rfl (Rn.bin trivial rfl rfl rfl (md rfl (Rn.nil ?_))))
           exact ⟨_, h, (by show WeakSt Γ (clean _ _ _) ⟨look _, memOf _ (bxs _) _, _⟩; exact weak_clean ⟨(.same rfl), ⟨(kPtr rfl), ⟨(kPtr rfl), ⟨(kPtr rfl), ⟨(.same rfl), ⟨(.same rfl), trivial⟩⟩⟩⟩⟩⟩ ⟨⟨_, rfl, rfl, (.same rfl)⟩, ⟨⟨_, rfl, rfl, (.same rfl)⟩, ⟨⟨_, rfl, rfl, (.same rfl)⟩, trivial⟩⟩⟩ rfl)⟩
         ·replace h := bF hb28 h
          refine Tr.exit ?_
          replace h := si h; subst h
          show WeakSt Γ _ ⟨look _, memOf _ (bxs _) _, _⟩; exact weak_cut [] ⟨(.same rfl), ⟨(kPtr rfl), ⟨(kPtr rfl), ⟨(kPtr rfl), ⟨(.same rfl), trivial⟩⟩⟩⟩⟩ ⟨⟨_, rfl, rfl, (.same rfl)⟩, ⟨⟨_, rfl, rfl, (.same rfl)⟩, ⟨⟨_, rfl, rfl, (.same rfl)⟩, trivial⟩⟩⟩ rfl
     ·obtain ⟨a41, a42⟩ := z
      refine Tr.rgn (md rfl (Rn.bin trivial rfl rfl rfl (md rfl (Rn.nil ?_))))
      exact ⟨_, h, (by show WeakSt Γ (clean _ _ _) ⟨look _, memOf _ (bxs _) _, _⟩; exact weak_clean ⟨(.same rfl), ⟨(kPtr rfl), ⟨(kPtr rfl), ⟨(kPtr rfl), ⟨(.same rfl), trivial⟩⟩⟩⟩⟩ ⟨⟨_, rfl, rfl, (.same rfl)⟩, ⟨⟨_, rfl, rfl, (.same rfl)⟩, ⟨⟨_, rfl, rfl, (.same rfl)⟩, trivial⟩⟩⟩ rfl)⟩
    ·replace h := ifF hb16 h
     refine Tr.exit ?_
     replace h := si h; subst h
     show WeakSt Γ _ ⟨look _, memOf _ (bxs _) _, _⟩; exact weak_cut [] ⟨(kPtr rfl), ⟨(kPtr rfl), trivial⟩⟩ ⟨⟨_, rfl, rfl, (.same rfl)⟩, ⟨⟨_, rfl, rfl, (.same rfl)⟩, ⟨⟨_, rfl, rfl, (.same rfl)⟩, trivial⟩⟩⟩ rfl
  ·obtain ⟨c43, c44, c45, a46, a47, a48⟩ := z
   refine sr ((Rn.load (v := .agg [.d (.lst 1 (List.map (eI .i64) x7.Alphabet)), .d (.int .i64 a46), .d (.lst 1 (List.map (eI .i64) a47)), .d (.lst 3 (List.map e_api_Edge a48))]) trivial rfl (boxOwn rfl) rfl rfl ?_))
   obtain ⟨x50, h49, h⟩ := bnd h
   refine Rn.call (args := [.agg [.d (.lst 1 (List.map (eI .i64) x7.Alphabet)), .d (.int .i64 a46), .d (.lst 1 (List.map (eI .i64) a47)), .d (.lst 3 (List.map e_api_Edge a48))]]) trivial rfl (H_overseerref03_Canonical _ _ h49) pc9 (Rn.store (v := .agg [.d (.lst 1 (List.map (eI .i64) x50.Alphabet)), .d (.int .i64 x50.States), .d (.lst 1 (List.map (eI .i64) x50.Marked)), .d (.lst 3 (List.map e_api_Edge x50.Edges))]) (cs' := [.d (.lst 1 (List.map (eI .i64) x50.Alphabet)), .d (.int .i64 x50.States), .d (.lst 1 (List.map (eI .i64) x50.Marked)), .d (.lst 3 (List.map e_api_Edge x50.Edges))]) trivial rfl rfl rfl rfl rfl rfl (nt ((Tr.ret ?_))))
   replace h := si h; subst h
   exact ⟨.inr rfl, (.agg [.d (.lst 1 (List.map (eI .i64) x50.Alphabet)), .d (.int .i64 x50.States), .d (.lst 1 (List.map (eI .i64) x50.Marked)), .d (.lst 3 (List.map e_api_Edge x50.Edges))]), resCell rfl rfl rfl rfl, fun _ _ _ _ h => h, ⟨trivial, trivial, trivial, trivial, trivial⟩, fun k hk => memOf_base hk⟩
theorem requirement_Idle_walk {P : Program} {c : Nat} {f_automaton_Check : api_Automaton → Option Int}
    (H_automaton_Check : K_automaton_Check P 68 f_automaton_Check) (hcf : compFn P c = some F_requirement_Idle) (fuel : Nat) : K_requirement_Idle P c (f_requirement_Idle f_automaton_Check fuel) := by
 intro a1 r h
 refine fn_trP hcf rfl fun Γ M hP hnt hM => ?_
 subst hP
 refine Tr.init [(0, .agg [.d (.lst 1 (List.map (eI .i64) a1.Alphabet)), .d (.int .i64 a1.States), .d (.lst 1 (List.map (eI .i64) a1.Marked)), .d (.lst 3 (List.map e_api_Edge a1.Edges))])] rfl ?_
 unfold f_requirement_Idle at h
 unfold F_requirement_Idle
 refine sr ((Rn.box (v := .agg [.d (.lst 1 (List.map (eI .i64) a1.Alphabet)), .d (.int .i64 a1.States), .d (.lst 1 (List.map (eI .i64) a1.Marked)), .d (.lst 3 (List.map e_api_Edge a1.Edges))]) (cs := [.d (.lst 1 (List.map (eI .i64) a1.Alphabet)), .d (.int .i64 a1.States), .d (.lst 1 (List.map (eI .i64) a1.Marked)), .d (.lst 3 (List.map e_api_Edge a1.Edges))]) trivial rfl rfl rfl rfl rfl (Rn.movTC (v := .nils 1) trivial (md rfl (nt ((Tr.seq (sr ((Rn.load (v := .agg [.d (.lst 1 (List.map (eI .i64) a1.Alphabet)), .d (.int .i64 a1.States), .d (.lst 1 (List.map (eI .i64) a1.Marked)), .d (.lst 3 (List.map e_api_Edge a1.Edges))]) trivial rfl (boxOwn rfl) rfl rfl ?_))))))))))
 obtain ⟨x3, h2, h⟩ := bnd h
 refine Rn.call (args := [.agg [.d (.lst 1 (List.map (eI .i64) a1.Alphabet)), .d (.int .i64 a1.States), .d (.lst 1 (List.map (eI .i64) a1.Marked)), .d (.lst 3 (List.map e_api_Edge a1.Edges))]]) trivial rfl (H_automaton_Check _ _ h2) pc9 (md rfl (nt ((sr ((md rfl (Rn.bin trivial rfl rfl rfl (Rn.nil (toN ?_)))))))))
 refine Tr.cond rfl (fun hb4 => ?_) (fun hb4 => ?_)
 ·replace h := bT hb4 h
  refine sr ((md rfl (Rn.movTC (v := .nils 1) trivial (md rfl (nt ((Tr.ret ?_)))))))
  replace h := si h; subst h
  exact ⟨.inr rfl, .tup [.nils 1, .d (.int .i64 x3)], res2 rfl rfl, (WkV.tup (.cons (WkV.nilsO _) (.cons (.same rfl) .nil))).rd, ⟨trivial, trivial, trivial⟩, fun k hk => memOf_base hk⟩
 ·replace h := bF hb4 h
  refine Tr.skip (toN (sr ((Rn.mkmap trivial rfl (fun (x : Int) => (.d (.int .i64 x) : V)) (fun (x : Int) => (.d (.int .i64 x) : V)) (Rn.mov (v := .mp (Γ.n0 + 16)) trivial rfl (Rn.nil (toN ?_)))))))
  refine Tr.cutB (fun (c16 : List (Int × Int)) => ⟨look [(1, .ptr (Γ.n0 + 1) 0), (5, .mp (Γ.n0 + 16))], memOf Γ.n0 (bxs [(1, .cells ([.d (.lst 1 (List.map (eI .i64) a1.Alphabet)), .d (.int .i64 a1.States), .d (.lst 1 (List.map (eI .i64) a1.Marked)), .d (.lst 3 (List.map e_api_Edge a1.Edges))])), (16, .mp (mapE (fun (x : Int) => (.d (.int .i64 x) : V)) (fun (x : Int) => (.d (.int .i64 x) : V)) 0 c16) (c16).length)]) M, Γ.n0 + 54⟩) h (fun z h => ?_) (fun z h => ?_)
  ·refine sr ((Rn.fldP (o' := 3) trivial rfl rfl (Rn.load (v := .d (.lst 3 (List.map e_api_Edge a1.Edges))) trivial rfl (boxOwn rfl) rfl rfl (Rn.lenD trivial rfl (md rfl (nt ((Tr.block ?_))))))))
   refine Tr.loop (mk := fun ((x5, c6) : Int × (List (Int × Int))) => ⟨look [(1, .ptr (Γ.n0 + 1) 0), (5, .mp (Γ.n0 + 16)), (18, .d (.lst 3 (List.map e_api_Edge a1.Edges))), (19, .d (.int .i64 (a1.Edges.length : Int))), (20, .d (.int .i64 x5))], memOf Γ.n0 (bxs [(1, .cells ([.d (.lst 1 (List.map (eI .i64) a1.Alphabet)), .d (.int .i64 a1.States), .d (.lst 1 (List.map (eI .i64) a1.Marked)), .d (.lst 3 (List.map e_api_Edge a1.Edges))])), (16, .mp (mapE (fun (x : Int) => (.d (.int .i64 x) : V)) (fun (x : Int) => (.d (.int .i64 x) : V)) 0 c6) (c6).length)]) M, Γ.n0 + 54⟩) h (by show WeakSt Γ (clean _ _ _) ⟨look _, memOf _ (bxs _) _, _⟩; exact weak_clean ⟨(kPtr rfl), ⟨(kMp rfl), ⟨(.same rfl), ⟨(.same rfl), ⟨(.same rfl), trivial⟩⟩⟩⟩⟩ ⟨⟨_, rfl, rfl, (.same rfl)⟩, ⟨⟨rfl, rfl⟩, trivial⟩⟩ rfl) (fun k7 z h => ?_)
   ·obtain ⟨x5, c6⟩ := z
    replace h : _ = some _ := h
    refine sr ((Rn.bin trivial rfl rfl rfl (nt ((Tr.seq ?_)))))
    refine Tr.cond rfl (fun hb8 => ?_) (fun hb8 => ?_)
    ·replace h := ifT hb8 h
     refine Tr.skip (toN ?_)
     refine Tr.cutB (fun ((c12, y13, y14, y15) : (List (Int × Int)) × Int × Int × Int) => ⟨look [(1, .ptr (Γ.n0 + 1) 0), (5, .mp (Γ.n0 + 16)), (18, .d (.lst 3 (List.map e_api_Edge a1.Edges))), (19, .d (.int .i64 (a1.Edges.length : Int))), (20, .d (.int .i64 x5))], memOf Γ.n0 (bxs [(1, .cells ([.d (.lst 1 (List.map (eI .i64) a1.Alphabet)), .d (.int .i64 a1.States), .d (.lst 1 (List.map (eI .i64) a1.Marked)), .d (.lst 3 (List.map e_api_Edge a1.Edges))])), (7, .cells ([.d (.int .i64 y13), .d (.int .i64 y14), .d (.int .i64 y15)])), (16, .mp (mapE (fun (x : Int) => (.d (.int .i64 x) : V)) (fun (x : Int) => (.d (.int .i64 x) : V)) 0 c12) (c12).length)]) M, Γ.n0 + 54⟩) h (fun z h => ?_) (fun z h => ?_)
     ·refine Tr.block (Tr.seq (Tr.rgn ?_))
      obtain ⟨x9, h10, h⟩ := bnd h
      refine Rn.idxD (e := e_api_Edge) trivial rfl rfl h10 (Rn.loadCA (vs := [.d (.int .i64 x9.From), .d (.int .i64 x9.Event), .d (.int .i64 x9.To)]) trivial rfl rfl rfl (Rn.alloc trivial rfl (Rn.store (v := .agg [.d (.int .i64 x9.From), .d (.int .i64 x9.Event), .d (.int .i64 x9.To)]) (cs' := [.d (.int .i64 x9.From), .d (.int .i64 x9.Event), .d (.int .i64 x9.To)]) trivial rfl rfl rfl rfl rfl rfl (nt ((sr ((Rn.fldP (o' := 0) trivial rfl rfl (Rn.load (v := .d (.int .i64 x9.From)) trivial rfl (boxOwn rfl) rfl rfl (Rn.fldP (o' := 2) trivial rfl rfl (Rn.load (v := .d (.int .i64 x9.To)) trivial rfl (boxOwn rfl) rfl rfl (Rn.bin trivial rfl rfl rfl (Rn.nil (toN ?_))))))))))))))
      refine Tr.cond rfl (fun hb11 => ?_) (fun hb11 => ?_)
      ·replace h := bT hb11 h
       refine Tr.rgn (Rn.mov (v := .mp (Γ.n0 + 16)) trivial rfl (Rn.fldP (o' := 1) trivial rfl rfl (Rn.load (v := .d (.int .i64 x9.Event)) trivial rfl (boxOwn rfl) rfl rfl (Rn.lookup (ek := (fun (x : Int) => (.d (.int .i64 x) : V))) (ev := (fun (x : Int) => (.d (.int .i64 x) : V))) (m := c6) (k := x9.Event) (fun _ _ => rfl) (fun _ => rfl) (fun _ => rfl) 0 rfl trivial rfl rfl rfl (Rn.bin trivial rfl rfl rfl (Rn.mapset (ek := (fun (x : Int) => (.d (.int .i64 x) : V))) (ev := (fun (x : Int) => (.d (.int .i64 x) : V))) (m := c6) (k := x9.Event) (v := (IntKind.wrap .i64 ((getM c6 x9.Event 0) + 1))) (fun _ _ => rfl) (fun _ => rfl) (fun _ => rfl) trivial rfl rfl rfl rfl (Rn.nil ?_)))))))
       replace h := si h; subst h
       show WeakSt Γ _ ⟨look _, memOf _ (bxs _) _, _⟩; exact weak_cut [] ⟨(kPtr rfl), ⟨(kMp rfl), ⟨(.same rfl), ⟨(.same rfl), ⟨(.same rfl), trivial⟩⟩⟩⟩⟩ ⟨⟨_, rfl, rfl, (.same rfl)⟩, ⟨⟨_, rfl, rfl, (.same rfl)⟩, ⟨⟨rfl, rfl⟩, trivial⟩⟩⟩ rfl
      ·replace h := bF hb11 h
       refine Tr.skip ?_
       replace h := si h; subst h
       show WeakSt Γ _ ⟨look _, memOf _ (bxs _) _, _⟩; exact weak_cut [] ⟨(kPtr rfl), ⟨(kMp rfl), ⟨(.same rfl), ⟨(.same rfl), ⟨(.same rfl), trivial⟩⟩⟩⟩⟩ ⟨⟨_, rfl, rfl, (.same rfl)⟩, ⟨⟨_, rfl, rfl, (.same rfl)⟩, ⟨⟨rfl, rfl⟩, trivial⟩⟩⟩ rfl
     ·obtain ⟨c12, y13, y14, y15⟩ := z
      refine Tr.rgn (Rn.bin trivial rfl rfl rfl (md rfl (Rn.nil ?_)))
      exact ⟨_, h, (by show WeakSt Γ (clean _ _ _) ⟨look _, memOf _ (bxs _) _, _⟩; exact weak_clean ⟨(kPtr rfl), ⟨(kMp rfl), ⟨(.same rfl), ⟨(.same rfl), ⟨(.same rfl), trivial⟩⟩⟩⟩⟩ ⟨⟨_, rfl, rfl, (.same rfl)⟩, ⟨⟨rfl, rfl⟩, trivial⟩⟩ rfl)⟩
    ·replace h := ifF hb8 h
     refine Tr.exit ?_
     replace h := si h; subst h
     show WeakSt Γ _ ⟨look _, memOf _ (bxs _) _, _⟩; exact weak_cut [] ⟨(kPtr rfl), ⟨(kMp rfl), trivial⟩⟩ ⟨⟨_, rfl, rfl, (.same rfl)⟩, ⟨⟨rfl, rfl⟩, trivial⟩⟩ rfl
  ·obtain ⟨c16, rfl⟩ : ∃ x, x = z := ⟨_, rfl⟩
   refine sr ((Rn.movTC (v := .nils 1) trivial (Rn.nil (toN ?_))))
   refine Tr.cutB (fun (out27 : List Int) => ⟨look [(8, .own 1 (List.map (eI .i64) out27))], memOf Γ.n0 (bxs [(1, .cells ([.d (.lst 1 (List.map (eI .i64) a1.Alphabet)), .d (.int .i64 a1.States), .d (.lst 1 (List.map (eI .i64) a1.Marked)), .d (.lst 3 (List.map e_api_Edge a1.Edges))])), (16, .mp (mapE (fun (x : Int) => (.d (.int .i64 x) : V)) (fun (x : Int) => (.d (.int .i64 x) : V)) 0 c16) (c16).length)]) M, Γ.n0 + 54⟩) h (fun z h => ?_) (fun z h => ?_)
   ·refine sr ((Rn.fldP (o' := 0) trivial rfl rfl (Rn.load (v := .d (.lst 1 (List.map (eI .i64) a1.Alphabet))) trivial rfl (boxOwn rfl) rfl rfl (Rn.lenD trivial rfl (md rfl (nt ((Tr.block ?_))))))))
    refine Tr.loop (mk := fun ((out17, x18) : (List Int) × Int) => ⟨look [(1, .ptr (Γ.n0 + 1) 0), (5, .mp (Γ.n0 + 16)), (8, .own 1 (List.map (eI .i64) out17)), (36, .d (.lst 1 (List.map (eI .i64) a1.Alphabet))), (37, .d (.int .i64 (a1.Alphabet.length : Int))), (38, .d (.int .i64 x18))], memOf Γ.n0 (bxs [(1, .cells ([.d (.lst 1 (List.map (eI .i64) a1.Alphabet)), .d (.int .i64 a1.States), .d (.lst 1 (List.map (eI .i64) a1.Marked)), .d (.lst 3 (List.map e_api_Edge a1.Edges))])), (16, .mp (mapE (fun (x : Int) => (.d (.int .i64 x) : V)) (fun (x : Int) => (.d (.int .i64 x) : V)) 0 c16) (c16).length)]) M, Γ.n0 + 54⟩) h (by show WeakSt Γ (clean _ _ _) ⟨look _, memOf _ (bxs _) _, _⟩; exact weak_clean ⟨(kPtr rfl), ⟨(kMp rfl), ⟨(WkV.nilsO _), ⟨(.same rfl), ⟨(.same rfl), ⟨(.same rfl), trivial⟩⟩⟩⟩⟩⟩ ⟨⟨_, rfl, rfl, (.same rfl)⟩, ⟨⟨rfl, rfl⟩, trivial⟩⟩ rfl) (fun k19 z h => ?_)
    ·obtain ⟨out17, x18⟩ := z
     replace h : _ = some _ := h
     refine sr ((Rn.bin trivial rfl rfl rfl (nt ((Tr.seq ?_)))))
     refine Tr.cond rfl (fun hb20 => ?_) (fun hb20 => ?_)
     ·replace h := ifT hb20 h
      refine Tr.skip (toN ?_)
      refine Tr.cutB (fun (out26 : List Int) => ⟨look [(1, .ptr (Γ.n0 + 1) 0), (5, .mp (Γ.n0 + 16)), (8, .own 1 (List.map (eI .i64) out26)), (36, .d (.lst 1 (List.map (eI .i64) a1.Alphabet))), (37, .d (.int .i64 (a1.Alphabet.length : Int))), (38, .d (.int .i64 x18))], memOf Γ.n0 (bxs [(1, .cells ([.d (.lst 1 (List.map (eI .i64) a1.Alphabet)), .d (.int .i64 a1.States), .d (.lst 1 (List.map (eI .i64) a1.Marked)), .d (.lst 3 (List.map e_api_Edge a1.Edges))])), (16, .mp (mapE (fun (x : Int) => (.d (.int .i64 x) : V)) (fun (x : Int) => (.d (.int .i64 x) : V)) 0 c16) (c16).length)]) M, Γ.n0 + 54⟩) h (fun z h => ?_) (fun z h => ?_)
      ·refine Tr.block (Tr.seq (Tr.rgn ?_))
       obtain ⟨x21, h22, h⟩ := bnd h
       refine Rn.idxD (e := (eI .i64)) trivial rfl rfl h22 (Rn.loadC (x := .int .i64 x21) trivial rfl (md rfl (nt ((sr ((Rn.mov (v := .mp (Γ.n0 + 16)) trivial rfl (md rfl (Rn.lookup (ek := (fun (x : Int) => (.d (.int .i64 x) : V))) (ev := (fun (x : Int) => (.d (.int .i64 x) : V))) (m := c16) (k := x21) (fun _ _ => rfl) (fun _ => rfl) (fun _ => rfl) 0 rfl trivial rfl rfl rfl (Rn.fldP (o' := 1) trivial rfl rfl (Rn.load (v := .d (.int .i64 a1.States)) trivial rfl (boxOwn rfl) rfl rfl (Rn.bin trivial rfl rfl rfl (Rn.nil (toN ?_))))))))))))))
       refine Tr.cond rfl (fun hb23 => ?_) (fun hb23 => ?_)
       ·replace h := bT hb23 h
        refine Tr.rgn (Rn.movTO trivial rfl (md rfl (Rn.bslice (xs := [.d (.int .i64 x21)]) (cs := [.d (.int .i64 x21)]) trivial rfl rfl rfl rfl ?_)))
        obtain ⟨x24, h25, h⟩ := bnd h
        refine Rn.app (e := (eI .i64)) trivial rfl rfl rfl (elems_box rfl rfl rfl) h25 rfl (Rn.movTO trivial rfl (Rn.nil ?_))
        replace h := si h; subst h
        show WeakSt Γ _ ⟨look _, memOf _ (bxs _) _, _⟩; exact weak_cut [50] ⟨(kPtr rfl), ⟨(kMp rfl), ⟨(.same rfl), ⟨(.same rfl), ⟨(.same rfl), ⟨(.same rfl), trivial⟩⟩⟩⟩⟩⟩ ⟨⟨_, rfl, rfl, (.same rfl)⟩, ⟨⟨rfl, rfl⟩, trivial⟩⟩ rfl
       ·replace h := bF hb23 h
        refine Tr.skip ?_
        replace h := si h; subst h
        show WeakSt Γ _ ⟨look _, memOf _ (bxs _) _, _⟩; exact weak_cut [] ⟨(kPtr rfl), ⟨(kMp rfl), ⟨(.same rfl), ⟨(.same rfl), ⟨(.same rfl), ⟨(.same rfl), trivial⟩⟩⟩⟩⟩⟩ ⟨⟨_, rfl, rfl, (.same rfl)⟩, ⟨⟨rfl, rfl⟩, trivial⟩⟩ rfl
      ·obtain ⟨out26, rfl⟩ : ∃ x, x = z := ⟨_, rfl⟩
       refine Tr.rgn (Rn.bin trivial rfl rfl rfl (md rfl (Rn.nil ?_)))
       exact ⟨_, h, (by show WeakSt Γ (clean _ _ _) ⟨look _, memOf _ (bxs _) _, _⟩; exact weak_clean ⟨(kPtr rfl), ⟨(kMp rfl), ⟨(.same rfl), ⟨(.same rfl), ⟨(.same rfl), ⟨(.same rfl), trivial⟩⟩⟩⟩⟩⟩ ⟨⟨_, rfl, rfl, (.same rfl)⟩, ⟨⟨rfl, rfl⟩, trivial⟩⟩ rfl)⟩
     ·replace h := ifF hb20 h
      refine Tr.exit ?_
      replace h := si h; subst h
      show WeakSt Γ _ ⟨look _, memOf _ (bxs _) _, _⟩; exact weak_cut [] ⟨(.same rfl), trivial⟩ ⟨⟨_, rfl, rfl, (.same rfl)⟩, ⟨⟨rfl, rfl⟩, trivial⟩⟩ rfl
   ·obtain ⟨out27, rfl⟩ : ∃ x, x = z := ⟨_, rfl⟩
    refine sr ((Rn.movTO trivial rfl (Rn.movTO trivial rfl (md rfl (nt ((Tr.ret ?_)))))))
    replace h := si h; subst h
    exact ⟨.inr rfl, .tup [.own 1 (List.map (eI .i64) out27), .d (.int .i64 0)], res2 rfl rfl, (WkV.tup (.cons (.same rfl) (.cons (.same rfl) .nil))).rd, ⟨trivial, trivial, trivial⟩, fun k hk => memOf_base hk⟩
theorem automaton_next_1_walk {P : Program} {c : Nat} (hcf : compFn P c = some F_automaton_next_1) : K_automaton_next_1 P c (f_automaton_next_1) := by
 intro x1 x2 k3 r h
 intro M nb hk4
 refine fn_trM hcf rfl M nb fun Γ hP hnt hn0 hM => ?_
 subst hP hn0
 refine Tr.init [(0, .agg [.d (.int .i64 x1.From), .d (.int .i64 x1.Event), .d (.int .i64 x1.To)]), (1, .ptr k3 0)] rfl ?_
 unfold f_automaton_next_1 at h
 unfold F_automaton_next_1
 refine sr ((Rn.box (v := .agg [.d (.int .i64 x1.From), .d (.int .i64 x1.Event), .d (.int .i64 x1.To)]) (cs := [.d (.int .i64 x1.From), .d (.int .i64 x1.Event), .d (.int .i64 x1.To)]) trivial rfl rfl rfl rfl rfl (md rfl (nt ((sr ((Rn.fldP (o' := 1) trivial rfl rfl (Rn.load (v := .d (.int .i64 x1.Event)) trivial rfl (boxOwn rfl) rfl rfl (Rn.load (v := .d (.int .i64 x2)) trivial rfl (baseMem hM hk4) rfl rfl (Rn.bin trivial rfl rfl rfl (md rfl (nt ((Tr.ret ?_)))))))))))))))
 replace h := si h; subst h
 exact ⟨.inr rfl, (.d (.bool (x1.Event == x2))), rfl, fun _ _ _ _ h => h, trivial, fun k hk => memOf_base hk⟩
theorem slices_IndexFunc_Edge_walk {P : Program} {c : Nat} (hcf : compFn P c = some F_slices_IndexFunc_Edge) (fuel : Nat) : K_slices_IndexFunc_Edge P c (f_slices_IndexFunc_Edge fuel) := by
 intro s1 f2 g3 cp4 r h
 intro M nb hc5 ho7 hf6
 refine fn_trM hcf rfl M nb fun Γ hP hnt hn0 hM => ?_
 subst hP hn0
 refine Tr.init [(0, .d (.lst 3 (List.map e_api_Edge s1))), (1, .clo g3 cp4)] rfl ?_
 unfold f_slices_IndexFunc_Edge at h
 unfold F_slices_IndexFunc_Edge
 refine sr ((md rfl (nt ((Tr.seq (sr ((md rfl (Rn.lenD trivial rfl (md rfl (nt ((Tr.block ?_)))))))))))))
 refine Tr.loop (mk := fun (x9 : Int) => ⟨look [(0, .d (.lst 3 (List.map e_api_Edge s1))), (1, .clo g3 cp4), (7, .d (.int .i64 (s1.length : Int))), (8, .d (.int .i64 x9))], memOf Γ.n0 (bxs []) M, Γ.n0 + 19⟩) h (by show WeakSt Γ (clean _ _ _) ⟨look _, memOf _ (bxs _) _, _⟩; exact weak_clean ⟨(.same rfl), ⟨(kFun hM ho7), ⟨(.same rfl), ⟨(.same rfl), trivial⟩⟩⟩⟩ trivial rfl) (fun k10 z h => ?_)
 ·obtain ⟨x9, rfl⟩ : ∃ x, x = z := ⟨_, rfl⟩
  replace h : _ = some _ := h
  refine sr ((Rn.bin trivial rfl rfl rfl (nt ((Tr.seq ?_)))))
  refine Tr.cond rfl (fun hb11 => ?_) (fun hb11 => ?_)
  ·replace h := ifT hb11 h
   refine Tr.skip (toN (Tr.seq (Tr.block (sr ((md rfl (md rfl (nt ((sr ((Rn.mov (v := .clo g3 cp4) trivial rfl (md rfl (md rfl ?_))))))))))))))
   obtain ⟨x12, h13, h⟩ := bnd h
   refine Rn.idxD (e := e_api_Edge) trivial rfl rfl h13 (Rn.loadCA (vs := [.d (.int .i64 x12.From), .d (.int .i64 x12.Event), .d (.int .i64 x12.To)]) trivial rfl rfl rfl ?_)
   obtain ⟨x15, h14, h⟩ := bnd h
   refine Rn.callvM (args := [.agg [.d (.int .i64 x12.From), .d (.int .i64 x12.Event), .d (.int .i64 x12.To)]] ++ cp4) trivial rfl (by rw [hc5]; rfl) (fun M2 nb2 hn hx => hf6 _ _ h14 M2 nb2 (by omega) ((extMem hM).trans hx)) rfl pc9 ?_
   refine Rn.nil (toN ?_)
   refine Tr.cond rfl (fun hb16 => ?_) (fun hb16 => ?_)
   ·replace h := bT hb16 h
    refine sr ((md rfl (md rfl (nt ((Tr.ret ?_))))))
    replace h := si h; subst h
    exact ⟨.inr rfl, (.d (.int .i64 x9)), rfl, fun _ _ _ _ h => h, trivial, fun k hk => memOf_base hk⟩
   ·replace h := bF hb16 h
    refine Tr.skip (toN (Tr.rgn (Rn.bin trivial rfl rfl rfl (md rfl (Rn.nil ?_)))))
    exact ⟨_, h, (by show WeakSt Γ (clean _ _ _) ⟨look _, memOf _ (bxs _) _, _⟩; exact weak_clean ⟨(.same rfl), ⟨(kFun hM ho7), ⟨(.same rfl), ⟨(.same rfl), trivial⟩⟩⟩⟩ trivial rfl)⟩
  ·replace h := ifF hb11 h
   refine Tr.exit (toN (sr ((md rfl (nt ((Tr.ret ?_)))))))
   replace h := si h; subst h
   exact ⟨.inr rfl, (.d (.int .i64 (-1))), rfl, fun _ _ _ _ h => h, trivial, fun k hk => memOf_base hk⟩
theorem automaton_next_walk {P : Program} {c : Nat} {f_slices_IndexFunc_Edge : (List api_Edge) → (api_Edge → Option Bool) → Option Int} {f_automaton_out : api_Automaton → Int → Option ((List api_Edge))} {f_automaton_next_1 : api_Edge → Int → Option Bool}
    (H_slices_IndexFunc_Edge : K_slices_IndexFunc_Edge P 44 f_slices_IndexFunc_Edge)
    (H_automaton_out : K_automaton_out P 94 f_automaton_out)
    (H_automaton_next_1 : K_automaton_next_1 P 139 f_automaton_next_1) (hcf : compFn P c = some F_automaton_next) : K_automaton_next P c (f_automaton_next f_slices_IndexFunc_Edge f_automaton_out f_automaton_next_1) := by
 intro a1 state2 event3 r h
 refine fn_trP hcf rfl fun Γ M hP hnt hM => ?_
 subst hP
 refine Tr.init [(0, .agg [.d (.lst 1 (List.map (eI .i64) a1.Alphabet)), .d (.int .i64 a1.States), .d (.lst 1 (List.map (eI .i64) a1.Marked)), .d (.lst 3 (List.map e_api_Edge a1.Edges))]), (1, .d (.int .i64 state2)), (2, .d (.int .i64 event3))] rfl ?_
 unfold f_automaton_next at h
 unfold F_automaton_next
 refine sr ((Rn.box (v := .agg [.d (.lst 1 (List.map (eI .i64) a1.Alphabet)), .d (.int .i64 a1.States), .d (.lst 1 (List.map (eI .i64) a1.Marked)), .d (.lst 3 (List.map e_api_Edge a1.Edges))]) (cs := [.d (.lst 1 (List.map (eI .i64) a1.Alphabet)), .d (.int .i64 a1.States), .d (.lst 1 (List.map (eI .i64) a1.Marked)), .d (.lst 3 (List.map e_api_Edge a1.Edges))]) trivial rfl rfl rfl rfl rfl (Rn.box (v := .d (.int .i64 event3)) (cs := [.d (.int .i64 event3)]) trivial rfl rfl rfl rfl rfl (md rfl (nt ((sr ((Rn.load (v := .agg [.d (.lst 1 (List.map (eI .i64) a1.Alphabet)), .d (.int .i64 a1.States), .d (.lst 1 (List.map (eI .i64) a1.Marked)), .d (.lst 3 (List.map e_api_Edge a1.Edges))]) trivial rfl (boxOwn rfl) rfl rfl (md rfl ?_))))))))))
 obtain ⟨x5, h4, h⟩ := bnd h
 refine Rn.call (args := [.agg [.d (.lst 1 (List.map (eI .i64) a1.Alphabet)), .d (.int .i64 a1.States), .d (.lst 1 (List.map (eI .i64) a1.Marked)), .d (.lst 3 (List.map e_api_Edge a1.Edges))], .d (.int .i64 state2)]) trivial rfl (H_automaton_out _ _ _ h4) pc9 (Rn.movTD trivial rfl (nt ((sr ((md rfl (Rn.k (v := .clo 139 [.ptr (Γ.n0 + 5) 0]) trivial rfl rfl rfl ?_)))))))
 obtain ⟨x10, h9, h⟩ := bnd h
 refine Rn.callM (args := [.d (.lst 3 (List.map e_api_Edge x5)), .clo 139 [.ptr (Γ.n0 + 5) 0]]) trivial rfl (fun M2 nb2 hn hx => H_slices_IndexFunc_Edge _ _ 139 [.ptr (Γ.n0 + 5) 0] _ h9 M2 nb2 rfl ⟨thereOf (hx _ _ (boxOwn rfl)), trivial⟩ (fun a6 r7 h8 M3 nb3 hn3 hx3 => H_automaton_next_1 a6 event3 (Γ.n0 + 5) r7 h8 M3 nb3 ((hx.trans hx3) _ _ (boxOwn rfl)))) rfl pc9 ?_
 refine md rfl (nt ((Tr.seq (sr ((md rfl (Rn.bin trivial rfl rfl rfl (Rn.nil (toN ?_)))))))))
 refine Tr.cond rfl (fun hb11 => ?_) (fun hb11 => ?_)
 ·replace h := ifT hb11 h
  refine sr ((md rfl (nt ((Tr.ret ?_)))))
  replace h := si h; subst h
  exact ⟨.inr rfl, (.d (.int .i64 (-1))), rfl, fun _ _ _ _ h => h, trivial, fun k hk => memOf_base hk⟩
 ·replace h := ifF hb11 h
  refine Tr.skip (toN (sr ((md rfl (md rfl ?_)))))
  obtain ⟨x12, h13, h⟩ := bnd h
  refine Rn.idxD (e := e_api_Edge) trivial rfl rfl h13 (Rn.fldC trivial rfl (Rn.loadC (x := .int .i64 x12.To) trivial rfl (md rfl (nt ((Tr.ret ?_))))))
  replace h := si h; subst h
  exact ⟨.inr rfl, (.d (.int .i64 x12.To)), rfl, fun _ _ _ _ h => h, trivial, fun k hk => memOf_base hk⟩
theorem automaton_follow_walk {P : Program} {c : Nat} {f_automaton_next : api_Automaton → Int → Int → Option Int}
    (H_automaton_next : K_automaton_next P 129 f_automaton_next) (hcf : compFn P c = some F_automaton_follow) (fuel : Nat) : K_automaton_follow P c (f_automaton_follow f_automaton_next fuel) := by
 intro a1 state2 word3 r h
 refine fn_trP hcf rfl fun Γ M hP hnt hM => ?_
 subst hP
 refine Tr.init [(0, .agg [.d (.lst 1 (List.map (eI .i64) a1.Alphabet)), .d (.int .i64 a1.States), .d (.lst 1 (List.map (eI .i64) a1.Marked)), .d (.lst 3 (List.map e_api_Edge a1.Edges))]), (1, .d (.int .i64 state2)), (2, .d (.lst 1 (List.map (eI .i64) word3)))] rfl ?_
 unfold f_automaton_follow at h
 unfold F_automaton_follow
 refine sr ((Rn.box (v := .agg [.d (.lst 1 (List.map (eI .i64) a1.Alphabet)), .d (.int .i64 a1.States), .d (.lst 1 (List.map (eI .i64) a1.Marked)), .d (.lst 3 (List.map e_api_Edge a1.Edges))]) (cs := [.d (.lst 1 (List.map (eI .i64) a1.Alphabet)), .d (.int .i64 a1.States), .d (.lst 1 (List.map (eI .i64) a1.Marked)), .d (.lst 3 (List.map e_api_Edge a1.Edges))]) trivial rfl rfl rfl rfl rfl (md rfl (md rfl (nt ((Tr.seq (sr ((md rfl (Rn.lenD trivial rfl (md rfl (nt ((Tr.block ?_)))))))))))))))
 refine Tr.loop (mk := fun ((state4, x5) : Int × Int) => ⟨look [(1, .d (.int .i64 state4)), (2, .d (.lst 1 (List.map (eI .i64) word3))), (3, .ptr (Γ.n0 + 3) 0), (11, .d (.lst 1 (List.map (eI .i64) word3))), (12, .d (.int .i64 (word3.length : Int))), (13, .d (.int .i64 x5))], memOf Γ.n0 (bxs [(3, .cells ([.d (.lst 1 (List.map (eI .i64) a1.Alphabet)), .d (.int .i64 a1.States), .d (.lst 1 (List.map (eI .i64) a1.Marked)), .d (.lst 3 (List.map e_api_Edge a1.Edges))]))]) M, Γ.n0 + 31⟩) h (by show WeakSt Γ (clean _ _ _) ⟨look _, memOf _ (bxs _) _, _⟩; exact weak_clean ⟨(.same rfl), ⟨(.same rfl), ⟨(kPtr rfl), ⟨(.same rfl), ⟨(.same rfl), ⟨(.same rfl), trivial⟩⟩⟩⟩⟩⟩ ⟨⟨_, rfl, rfl, (.same rfl)⟩, trivial⟩ rfl) (fun k6 z h => ?_)
 ·obtain ⟨state4, x5⟩ := z
  replace h : _ = some _ := h
  refine sr ((Rn.bin trivial rfl rfl rfl (nt ((Tr.seq ?_)))))
  refine Tr.cond rfl (fun hb7 => ?_) (fun hb7 => ?_)
  ·replace h := ifT hb7 h
   refine Tr.skip (toN (Tr.seq (Tr.block (sr ((md rfl ?_))))))
   obtain ⟨x8, h9, h⟩ := bnd h
   refine Rn.idxD (e := (eI .i64)) trivial rfl rfl h9 (Rn.loadC (x := .int .i64 x8) trivial rfl (md rfl (md rfl (nt ((sr ((Rn.load (v := .agg [.d (.lst 1 (List.map (eI .i64) a1.Alphabet)), .d (.int .i64 a1.States), .d (.lst 1 (List.map (eI .i64) a1.Marked)), .d (.lst 3 (List.map e_api_Edge a1.Edges))]) trivial rfl (boxOwn rfl) rfl rfl (md rfl (md rfl ?_))))))))))
   obtain ⟨x11, h10, h⟩ := bnd h
   refine Rn.call (args := [.agg [.d (.lst 1 (List.map (eI .i64) a1.Alphabet)), .d (.int .i64 a1.States), .d (.lst 1 (List.map (eI .i64) a1.Marked)), .d (.lst 3 (List.map e_api_Edge a1.Edges))], .d (.int .i64 state4), .d (.int .i64 x8)]) trivial rfl (H_automaton_next _ _ _ _ h10) pc9 (md rfl (nt ((Tr.seq (sr ((md rfl (Rn.bin trivial rfl rfl rfl (Rn.nil (toN ?_))))))))))
   refine Tr.cond rfl (fun hb12 => ?_) (fun hb12 => ?_)
   ·replace h := ifT hb12 h
    refine sr ((md rfl (md rfl (md rfl (md rfl (nt ((Tr.ret ?_))))))))
    replace h := si h; subst h
    exact ⟨.inr rfl, .tup [.d (.int .i64 state4), .d (.int .i64 x5)], res2 rfl rfl, (WkV.tup (.cons (.same rfl) (.cons (.same rfl) .nil))).rd, ⟨trivial, trivial, trivial⟩, fun k hk => memOf_base hk⟩
   ·replace h := ifF hb12 h
    refine Tr.skip (toN (Tr.rgn (md rfl (md rfl (nt ((Tr.rgn (Rn.bin trivial rfl rfl rfl (md rfl (Rn.nil ?_))))))))))
    exact ⟨_, h, (by show WeakSt Γ (clean _ _ _) ⟨look _, memOf _ (bxs _) _, _⟩; exact weak_clean ⟨(.same rfl), ⟨(.same rfl), ⟨(kPtr rfl), ⟨(.same rfl), ⟨(.same rfl), ⟨(.same rfl), trivial⟩⟩⟩⟩⟩⟩ ⟨⟨_, rfl, rfl, (.same rfl)⟩, trivial⟩ rfl)⟩
  ·replace h := ifF hb7 h
   refine Tr.exit (toN (sr ((md rfl (md rfl (Rn.lenD trivial rfl (md rfl (md rfl (nt ((Tr.ret ?_)))))))))))
   replace h := si h; subst h
   exact ⟨.inr rfl, .tup [.d (.int .i64 state4), .d (.int .i64 (word3.length : Int))], res2 rfl rfl, (WkV.tup (.cons (.same rfl) (.cons (.same rfl) .nil))).rd, ⟨trivial, trivial, trivial⟩, fun k hk => memOf_base hk⟩
theorem automaton_reached_walk {P : Program} {c : Nat} {f_automaton_follow : api_Automaton → Int → (List Int) → Option (Int × Int)}
    (H_automaton_follow : K_automaton_follow P 115 f_automaton_follow) (hcf : compFn P c = some F_automaton_reached) : K_automaton_reached P c (f_automaton_reached f_automaton_follow) := by
 intro a1 word2 r h
 refine fn_trP hcf rfl fun Γ M hP hnt hM => ?_
 subst hP
 refine Tr.init [(0, .agg [.d (.lst 1 (List.map (eI .i64) a1.Alphabet)), .d (.int .i64 a1.States), .d (.lst 1 (List.map (eI .i64) a1.Marked)), .d (.lst 3 (List.map e_api_Edge a1.Edges))]), (1, .d (.lst 1 (List.map (eI .i64) word2)))] rfl ?_
 unfold f_automaton_reached at h
 unfold F_automaton_reached
 refine sr ((Rn.box (v := .agg [.d (.lst 1 (List.map (eI .i64) a1.Alphabet)), .d (.int .i64 a1.States), .d (.lst 1 (List.map (eI .i64) a1.Marked)), .d (.lst 3 (List.map e_api_Edge a1.Edges))]) (cs := [.d (.lst 1 (List.map (eI .i64) a1.Alphabet)), .d (.int .i64 a1.States), .d (.lst 1 (List.map (eI .i64) a1.Marked)), .d (.lst 3 (List.map e_api_Edge a1.Edges))]) trivial rfl rfl rfl rfl rfl (md rfl (md rfl (nt ((Tr.seq (sr ((Rn.fldP (o' := 1) trivial rfl rfl (Rn.load (v := .d (.int .i64 a1.States)) trivial rfl (boxOwn rfl) rfl rfl (Rn.bin trivial rfl rfl rfl (Rn.nil (toN ?_))))))))))))))
 refine Tr.cond rfl (fun hb3 => ?_) (fun hb3 => ?_)
 ·replace h := bT hb3 h
  refine sr ((md rfl (md rfl (nt ((Tr.ret ?_))))))
  replace h := si h; subst h
  exact ⟨.inr rfl, .tup [.d (.int .i64 0), .d (.bool false)], res2 rfl rfl, (WkV.tup (.cons (.same rfl) (.cons (.same rfl) .nil))).rd, ⟨trivial, trivial, trivial⟩, fun k hk => memOf_base hk⟩
 ·replace h := bF hb3 h
  refine Tr.skip (toN (sr ((Rn.load (v := .agg [.d (.lst 1 (List.map (eI .i64) a1.Alphabet)), .d (.int .i64 a1.States), .d (.lst 1 (List.map (eI .i64) a1.Marked)), .d (.lst 3 (List.map e_api_Edge a1.Edges))]) trivial rfl (boxOwn rfl) rfl rfl (md rfl ?_)))))
  obtain ⟨⟨r5, r6⟩, h4, h⟩ := bnd h
  refine Rn.call (args := [.agg [.d (.lst 1 (List.map (eI .i64) a1.Alphabet)), .d (.int .i64 a1.States), .d (.lst 1 (List.map (eI .i64) a1.Marked)), .d (.lst 3 (List.map e_api_Edge a1.Edges))], .d (.int .i64 0), .d (.lst 1 (List.map (eI .i64) word2))]) trivial rfl (H_automaton_follow _ _ _ _ h4) pc9 (Rn.mov (v := .tup [.d (.int .i64 r5), .d (.int .i64 r6)]) trivial rfl (Rn.ext (v := .d (.int .i64 r5)) (vs := [.d (.int .i64 r5), .d (.int .i64 r6)]) trivial rfl rfl rfl (Rn.ext (v := .d (.int .i64 r6)) (vs := [.d (.int .i64 r5), .d (.int .i64 r6)]) trivial rfl rfl rfl (md rfl (md rfl (nt ((sr ((md rfl (md rfl (md rfl (Rn.lenD trivial rfl (Rn.bin trivial rfl rfl rfl (md rfl (md rfl (nt ((Tr.ret ?_)))))))))))))))))))
  replace h := si h; subst h
  exact ⟨.inr rfl, .tup [.d (.int .i64 r5), .d (.bool (r6 == (word2.length : Int)))], res2 rfl rfl, (WkV.tup (.cons (.same rfl) (.cons (.same rfl) .nil))).rd, ⟨trivial, trivial, trivial⟩, fun k hk => memOf_base hk⟩
theorem automaton_Generates_walk {P : Program} {c : Nat} {f_automaton_Check : api_Automaton → Option Int} {f_automaton_reached : api_Automaton → (List Int) → Option (Int × Bool)}
    (H_automaton_Check : K_automaton_Check P 68 f_automaton_Check)
    (H_automaton_reached : K_automaton_reached P 88 f_automaton_reached) (hcf : compFn P c = some F_automaton_Generates) : K_automaton_Generates P c (f_automaton_Generates f_automaton_Check f_automaton_reached) := by
 intro a1 word2 r h
 refine fn_trP hcf rfl fun Γ M hP hnt hM => ?_
 subst hP
 refine Tr.init [(0, .agg [.d (.lst 1 (List.map (eI .i64) a1.Alphabet)), .d (.int .i64 a1.States), .d (.lst 1 (List.map (eI .i64) a1.Marked)), .d (.lst 3 (List.map e_api_Edge a1.Edges))]), (1, .d (.lst 1 (List.map (eI .i64) word2)))] rfl ?_
 unfold f_automaton_Generates at h
 unfold F_automaton_Generates
 refine sr ((Rn.box (v := .agg [.d (.lst 1 (List.map (eI .i64) a1.Alphabet)), .d (.int .i64 a1.States), .d (.lst 1 (List.map (eI .i64) a1.Marked)), .d (.lst 3 (List.map e_api_Edge a1.Edges))]) (cs := [.d (.lst 1 (List.map (eI .i64) a1.Alphabet)), .d (.int .i64 a1.States), .d (.lst 1 (List.map (eI .i64) a1.Marked)), .d (.lst 3 (List.map e_api_Edge a1.Edges))]) trivial rfl rfl rfl rfl rfl (md rfl (md rfl (nt ((Tr.seq (sr ((Rn.load (v := .agg [.d (.lst 1 (List.map (eI .i64) a1.Alphabet)), .d (.int .i64 a1.States), .d (.lst 1 (List.map (eI .i64) a1.Marked)), .d (.lst 3 (List.map e_api_Edge a1.Edges))]) trivial rfl (boxOwn rfl) rfl rfl ?_))))))))))
 obtain ⟨x4, h3, h⟩ := bnd h
 refine Rn.call (args := [.agg [.d (.lst 1 (List.map (eI .i64) a1.Alphabet)), .d (.int .i64 a1.States), .d (.lst 1 (List.map (eI .i64) a1.Marked)), .d (.lst 3 (List.map e_api_Edge a1.Edges))]]) trivial rfl (H_automaton_Check _ _ h3) pc9 (md rfl (nt ((sr ((md rfl (Rn.bin trivial rfl rfl rfl (Rn.nil (toN ?_)))))))))
 refine Tr.cond rfl (fun hb5 => ?_) (fun hb5 => ?_)
 ·replace h := bT hb5 h
  refine sr ((md rfl (md rfl (md rfl (nt ((Tr.ret ?_)))))))
  replace h := si h; subst h
  exact ⟨.inr rfl, .tup [.d (.bool false), .d (.int .i64 x4)], res2 rfl rfl, (WkV.tup (.cons (.same rfl) (.cons (.same rfl) .nil))).rd, ⟨trivial, trivial, trivial⟩, fun k hk => memOf_base hk⟩
 ·replace h := bF hb5 h
  refine Tr.skip (toN (sr ((Rn.load (v := .agg [.d (.lst 1 (List.map (eI .i64) a1.Alphabet)), .d (.int .i64 a1.States), .d (.lst 1 (List.map (eI .i64) a1.Marked)), .d (.lst 3 (List.map e_api_Edge a1.Edges))]) trivial rfl (boxOwn rfl) rfl rfl (md rfl ?_)))))
  obtain ⟨⟨r7, r8⟩, h6, h⟩ := bnd h
  refine Rn.call (args := [.agg [.d (.lst 1 (List.map (eI .i64) a1.Alphabet)), .d (.int .i64 a1.States), .d (.lst 1 (List.map (eI .i64) a1.Marked)), .d (.lst 3 (List.map e_api_Edge a1.Edges))], .d (.lst 1 (List.map (eI .i64) word2))]) trivial rfl (H_automaton_reached _ _ _ h6) pc9 (Rn.mov (v := .tup [.d (.int .i64 r7), .d (.bool r8)]) trivial rfl (Rn.ext (v := .d (.int .i64 r7)) (vs := [.d (.int .i64 r7), .d (.bool r8)]) trivial rfl rfl rfl (Rn.ext (v := .d (.bool r8)) (vs := [.d (.int .i64 r7), .d (.bool r8)]) trivial rfl rfl rfl (md rfl (md rfl (nt ((sr ((md rfl (md rfl (md rfl (nt ((Tr.ret ?_)))))))))))))))
  replace h := si h; subst h
  exact ⟨.inr rfl, .tup [.d (.bool r8), .d (.int .i64 0)], res2 rfl rfl, (WkV.tup (.cons (.same rfl) (.cons (.same rfl) .nil))).rd, ⟨trivial, trivial, trivial⟩, fun k hk => memOf_base hk⟩
theorem requirement_Allows_walk {P : Program} {c : Nat} {f_alphabet_Contains : (List Int) → Int → Option Bool} {f_automaton_Check : api_Automaton → Option Int} {f_automaton_Generates : api_Automaton → (List Int) → Option (Bool × Int)}
    (H_alphabet_Contains : K_alphabet_Contains P 62 f_alphabet_Contains)
    (H_automaton_Check : K_automaton_Check P 68 f_automaton_Check)
    (H_automaton_Generates : K_automaton_Generates P 69 f_automaton_Generates) (hcf : compFn P c = some F_requirement_Allows) (fuel : Nat) : K_requirement_Allows P c (f_requirement_Allows f_alphabet_Contains f_automaton_Check f_automaton_Generates fuel) := by
 intro a1 word2 r h
 refine fn_trP hcf rfl fun Γ M hP hnt hM => ?_
 subst hP
 refine Tr.init [(0, .agg [.d (.lst 1 (List.map (eI .i64) a1.Alphabet)), .d (.int .i64 a1.States), .d (.lst 1 (List.map (eI .i64) a1.Marked)), .d (.lst 3 (List.map e_api_Edge a1.Edges))]), (1, .d (.lst 1 (List.map (eI .i64) word2)))] rfl ?_
 unfold f_requirement_Allows at h
 unfold F_requirement_Allows
 refine sr ((Rn.box (v := .agg [.d (.lst 1 (List.map (eI .i64) a1.Alphabet)), .d (.int .i64 a1.States), .d (.lst 1 (List.map (eI .i64) a1.Marked)), .d (.lst 3 (List.map e_api_Edge a1.Edges))]) (cs := [.d (.lst 1 (List.map (eI .i64) a1.Alphabet)), .d (.int .i64 a1.States), .d (.lst 1 (List.map (eI .i64) a1.Marked)), .d (.lst 3 (List.map e_api_Edge a1.Edges))]) trivial rfl rfl rfl rfl rfl (md rfl (md rfl (nt ((Tr.seq (sr ((Rn.load (v := .agg [.d (.lst 1 (List.map (eI .i64) a1.Alphabet)), .d (.int .i64 a1.States), .d (.lst 1 (List.map (eI .i64) a1.Marked)), .d (.lst 3 (List.map e_api_Edge a1.Edges))]) trivial rfl (boxOwn rfl) rfl rfl ?_))))))))))
 obtain ⟨x4, h3, h⟩ := bnd h
 refine Rn.call (args := [.agg [.d (.lst 1 (List.map (eI .i64) a1.Alphabet)), .d (.int .i64 a1.States), .d (.lst 1 (List.map (eI .i64) a1.Marked)), .d (.lst 3 (List.map e_api_Edge a1.Edges))]]) trivial rfl (H_automaton_Check _ _ h3) pc9 (md rfl (nt ((sr ((md rfl (Rn.bin trivial rfl rfl rfl (Rn.nil (toN ?_)))))))))
 refine Tr.cond rfl (fun hb5 => ?_) (fun hb5 => ?_)
 ·replace h := bT hb5 h
  refine sr ((md rfl (md rfl (md rfl (nt ((Tr.ret ?_)))))))
  replace h := si h; subst h
  exact ⟨.inr rfl, .tup [.d (.bool false), .d (.int .i64 x4)], res2 rfl rfl, (WkV.tup (.cons (.same rfl) (.cons (.same rfl) .nil))).rd, ⟨trivial, trivial, trivial⟩, fun k hk => memOf_base hk⟩
 ·replace h := bF hb5 h
  refine Tr.skip (toN (Tr.seq (sr ((md rfl (Rn.lenD trivial rfl (Rn.bin trivial rfl rfl rfl (Rn.nil (toN ?_)))))))))
  refine Tr.cond rfl (fun hb6 => ?_) (fun hb6 => ?_)
  ·replace h := ifT hb6 h
   refine sr ((md rfl (md rfl (nt ((Tr.ret ?_))))))
   replace h := si h; subst h
   exact ⟨.inr rfl, .tup [.d (.bool false), .d (.int .i64 15)], res2 rfl rfl, (WkV.tup (.cons (.same rfl) (.cons (.same rfl) .nil))).rd, ⟨trivial, trivial, trivial⟩, fun k hk => memOf_base hk⟩
  ·replace h := ifF hb6 h
   refine Tr.skip (toN (sr ((Rn.movTC (v := .nils 1) trivial (nt ((Tr.seq (sr ((md rfl (Rn.lenD trivial rfl (md rfl (nt ((Tr.block ?_)))))))))))))))
   refine Tr.loop (mk := fun ((own7, x8) : (List Int) × Int) => ⟨look [(2, .ptr (Γ.n0 + 2) 0), (7, .own 1 (List.map (eI .i64) own7)), (18, .d (.lst 1 (List.map (eI .i64) word2))), (19, .d (.int .i64 (word2.length : Int))), (20, .d (.int .i64 x8))], memOf Γ.n0 (bxs [(2, .cells ([.d (.lst 1 (List.map (eI .i64) a1.Alphabet)), .d (.int .i64 a1.States), .d (.lst 1 (List.map (eI .i64) a1.Marked)), .d (.lst 3 (List.map e_api_Edge a1.Edges))]))]) M, Γ.n0 + 44⟩) h (by show WeakSt Γ (clean _ _ _) ⟨look _, memOf _ (bxs _) _, _⟩; exact weak_clean ⟨(kPtr rfl), ⟨(WkV.nilsO _), ⟨(.same rfl), ⟨(.same rfl), ⟨(.same rfl), trivial⟩⟩⟩⟩⟩ ⟨⟨_, rfl, rfl, (.same rfl)⟩, trivial⟩ rfl) (fun k9 z h => ?_)
   ·obtain ⟨own7, x8⟩ := z
    replace h : _ = some _ := h
    refine sr ((Rn.bin trivial rfl rfl rfl (nt ((Tr.seq ?_)))))
    refine Tr.cond rfl (fun hb10 => ?_) (fun hb10 => ?_)
    ·replace h := ifT hb10 h
     refine Tr.skip (toN ?_)
     refine Tr.cutJ (fun (own21 : List Int) => ⟨look [(2, .ptr (Γ.n0 + 2) 0), (7, .own 1 (List.map (eI .i64) own21)), (18, .d (.lst 1 (List.map (eI .i64) word2))), (19, .d (.int .i64 (word2.length : Int))), (20, .d (.int .i64 x8))], memOf Γ.n0 (bxs [(2, .cells ([.d (.lst 1 (List.map (eI .i64) a1.Alphabet)), .d (.int .i64 a1.States), .d (.lst 1 (List.map (eI .i64) a1.Marked)), .d (.lst 3 (List.map e_api_Edge a1.Edges))]))]) M, Γ.n0 + 44⟩) h (fun J22 h => ?_) (fun z h => ?_)
     ·refine Tr.block (Tr.seq (Tr.rgn ?_))
      obtain ⟨x11, h12, h⟩ := bnd h
      refine Rn.idxD (e := (eI .i64)) trivial rfl rfl h12 (Rn.loadC (x := .int .i64 x11) trivial rfl (md rfl (nt ((Tr.seq ?_)))))
      refine Tr.cutB (fun (x14 : Bool) => ⟨look [(2, .ptr (Γ.n0 + 2) 0), (7, .own 1 (List.map (eI .i64) own7)), (9, .d (.int .i64 x11)), (18, .d (.lst 1 (List.map (eI .i64) word2))), (19, .d (.int .i64 (word2.length : Int))), (20, .d (.int .i64 x8)), (29, .d (.bool x14))], memOf Γ.n0 (bxs [(2, .cells ([.d (.lst 1 (List.map (eI .i64) a1.Alphabet)), .d (.int .i64 a1.States), .d (.lst 1 (List.map (eI .i64) a1.Marked)), .d (.lst 3 (List.map e_api_Edge a1.Edges))]))]) M, Γ.n0 + 44⟩) h (fun z h => ?_) (fun z h => ?_)
      ·refine Tr.rgn (md rfl (Rn.bin trivial rfl rfl rfl (md rfl ?_)))
       refine bsplit (decide (x11 < 0)) (fun hb13 => ?_) (fun hb13 => ?_)
       ·replace h := ifT hb13 h
        refine Rn.sk (nw rfl hb13) (Rn.sk (nw rfl hb13) (Rn.pickT (v := .d (.bool true)) trivial rfl hb13 rfl (Rn.nil ?_)))
        replace h := si h; subst h
        show WeakSt Γ _ ⟨look _, memOf _ (bxs _) _, _⟩; exact weak_cut [] ⟨(kPtr rfl), ⟨(.same rfl), ⟨(.same rfl), ⟨(.same rfl), ⟨(.same rfl), ⟨(.same rfl), ⟨(.same rfl), trivial⟩⟩⟩⟩⟩⟩⟩ ⟨⟨_, rfl, rfl, (.same rfl)⟩, trivial⟩ rfl
       ·replace h := ifF hb13 h
        refine Rn.movD (gw rfl hb13) rfl (Rn.bin (gw rfl hb13) rfl rfl rfl (Rn.pickF (v := .d (.bool (decide (x11 ≥ 32)))) trivial rfl hb13 rfl (Rn.nil ?_)))
        replace h := si h; subst h
        show WeakSt Γ _ ⟨look _, memOf _ (bxs _) _, _⟩; exact weak_cut [] ⟨(kPtr rfl), ⟨(.same rfl), ⟨(.same rfl), ⟨(.same rfl), ⟨(.same rfl), ⟨(.same rfl), ⟨(.same rfl), trivial⟩⟩⟩⟩⟩⟩⟩ ⟨⟨_, rfl, rfl, (.same rfl)⟩, trivial⟩ rfl
      ·obtain ⟨x14, rfl⟩ : ∃ x, x = z := ⟨_, rfl⟩
       refine Tr.cond rfl (fun hb15 => ?_) (fun hb15 => ?_)
       ·replace h := bT hb15 h
        refine sr ((md rfl (md rfl (nt ((Tr.ret ?_))))))
        replace h := si h; subst h
        exact ⟨.inr rfl, .tup [.d (.bool false), .d (.int .i64 2)], res2 rfl rfl, (WkV.tup (.cons (.same rfl) (.cons (.same rfl) .nil))).rd, ⟨trivial, trivial, trivial⟩, fun k hk => memOf_base hk⟩
       ·replace h := bF hb15 h
        refine Tr.skip (toN (sr ((Rn.fldP (o' := 0) trivial rfl rfl (Rn.load (v := .d (.lst 1 (List.map (eI .i64) a1.Alphabet))) trivial rfl (boxOwn rfl) rfl rfl (md rfl ?_))))))
        obtain ⟨x17, h16, h⟩ := bnd h
        refine Rn.call (args := [.d (.lst 1 (List.map (eI .i64) a1.Alphabet)), .d (.int .i64 x11)]) trivial rfl (H_alphabet_Contains _ _ _ h16) pc9 (Rn.nil (toN ?_))
        refine Tr.cond rfl (fun hb18 => ?_) (fun hb18 => ?_)
        ·replace h := bT hb18 h
         refine Tr.rgn (Rn.movTO trivial rfl (md rfl (Rn.bslice (xs := [.d (.int .i64 x11)]) (cs := [.d (.int .i64 x11)]) trivial rfl rfl rfl rfl ?_)))
         obtain ⟨x19, h20, h⟩ := bnd h
         refine Rn.app (e := (eI .i64)) trivial rfl rfl rfl (elems_box rfl rfl rfl) h20 rfl (Rn.movTO trivial rfl (Rn.nil ?_))
         exact ⟨_, h, (by show WeakSt Γ _ ⟨look _, memOf _ (bxs _) _, _⟩; exact weak_cut [36] ⟨(kPtr rfl), ⟨(.same rfl), ⟨(.same rfl), ⟨(.same rfl), ⟨(.same rfl), trivial⟩⟩⟩⟩⟩ ⟨⟨_, rfl, rfl, (.same rfl)⟩, trivial⟩ rfl)⟩
        ·replace h := bF hb18 h
         refine Tr.skip ?_
         exact ⟨_, h, (by show WeakSt Γ _ ⟨look _, memOf _ (bxs _) _, _⟩; exact weak_cut [] ⟨(kPtr rfl), ⟨(.same rfl), ⟨(.same rfl), ⟨(.same rfl), ⟨(.same rfl), trivial⟩⟩⟩⟩⟩ ⟨⟨_, rfl, rfl, (.same rfl)⟩, trivial⟩ rfl)⟩
     ·obtain ⟨own21, rfl⟩ : ∃ x, x = z := ⟨_, rfl⟩
      refine Tr.rgn (Rn.bin trivial rfl rfl rfl (md rfl (Rn.nil ?_)))
      exact ⟨_, h, (by show WeakSt Γ (clean _ _ _) ⟨look _, memOf _ (bxs _) _, _⟩; exact weak_clean ⟨(kPtr rfl), ⟨(.same rfl), ⟨(.same rfl), ⟨(.same rfl), ⟨(.same rfl), trivial⟩⟩⟩⟩⟩ ⟨⟨_, rfl, rfl, (.same rfl)⟩, trivial⟩ rfl)⟩
    ·replace h := ifF hb10 h
     refine Tr.exit (toN (sr ((Rn.load (v := .agg [.d (.lst 1 (List.map (eI .i64) a1.Alphabet)), .d (.int .i64 a1.States), .d (.lst 1 (List.map (eI .i64) a1.Marked)), .d (.lst 3 (List.map e_api_Edge a1.Edges))]) trivial rfl (boxOwn rfl) rfl rfl (Rn.mov (v := .d (.lst 1 (List.map (eI .i64) own7))) trivial rfl ?_)))))
     obtain ⟨⟨r24, r25⟩, h23, h⟩ := bnd h
     refine Rn.call (args := [.agg [.d (.lst 1 (List.map (eI .i64) a1.Alphabet)), .d (.int .i64 a1.States), .d (.lst 1 (List.map (eI .i64) a1.Marked)), .d (.lst 3 (List.map e_api_Edge a1.Edges))], .d (.lst 1 (List.map (eI .i64) own7))]) trivial rfl (H_automaton_Generates _ _ _ h23) pc9 (Rn.ext (v := .d (.bool r24)) (vs := [.d (.bool r24), .d (.int .i64 r25)]) trivial rfl rfl rfl (Rn.ext (v := .d (.int .i64 r25)) (vs := [.d (.bool r24), .d (.int .i64 r25)]) trivial rfl rfl rfl (md rfl (md rfl (nt ((Tr.ret ?_)))))))
     replace h := si h; subst h
     exact ⟨.inr rfl, .tup [.d (.bool r24), .d (.int .i64 r25)], res2 rfl rfl, (WkV.tup (.cons (.same rfl) (.cons (.same rfl) .nil))).rd, ⟨trivial, trivial, trivial⟩, fun k hk => memOf_base hk⟩
theorem slices_Index_Edge_walk {P : Program} {c : Nat} (hcf : compFn P c = some F_slices_Index_Edge) (fuel : Nat) : K_slices_Index_Edge P c (f_slices_Index_Edge fuel) := by
 intro s1 v2 r h
 refine fn_trP hcf rfl fun Γ M hP hnt hM => ?_
 subst hP
 refine Tr.init [(0, .d (.lst 3 (List.map e_api_Edge s1))), (1, .agg [.d (.int .i64 v2.From), .d (.int .i64 v2.Event), .d (.int .i64 v2.To)])] rfl ?_
 unfold f_slices_Index_Edge at h
 unfold F_slices_Index_Edge
 refine sr ((Rn.box (v := .agg [.d (.int .i64 v2.From), .d (.int .i64 v2.Event), .d (.int .i64 v2.To)]) (cs := [.d (.int .i64 v2.From), .d (.int .i64 v2.Event), .d (.int .i64 v2.To)]) trivial rfl rfl rfl rfl rfl (md rfl (nt ((Tr.seq (sr ((md rfl (Rn.lenD trivial rfl (md rfl (nt ((Tr.block ?_))))))))))))))
 refine Tr.loop (mk := fun (x3 : Int) => ⟨look [(0, .d (.lst 3 (List.map e_api_Edge s1))), (3, .ptr (Γ.n0 + 3) 0), (7, .d (.int .i64 (s1.length : Int))), (8, .d (.int .i64 x3))], memOf Γ.n0 (bxs [(3, .cells ([.d (.int .i64 v2.From), .d (.int .i64 v2.Event), .d (.int .i64 v2.To)]))]) M, Γ.n0 + 19⟩) h (by show WeakSt Γ (clean _ _ _) ⟨look _, memOf _ (bxs _) _, _⟩; exact weak_clean ⟨(.same rfl), ⟨(kPtr rfl), ⟨(.same rfl), ⟨(.same rfl), trivial⟩⟩⟩⟩ ⟨⟨_, rfl, rfl, (.same rfl)⟩, trivial⟩ rfl) (fun k4 z h => ?_)
 ·obtain ⟨x3, rfl⟩ : ∃ x, x = z := ⟨_, rfl⟩
  replace h : _ = some _ := h
  refine sr ((Rn.bin trivial rfl rfl rfl (nt ((Tr.seq ?_)))))
  refine Tr.cond rfl (fun hb5 => ?_) (fun hb5 => ?_)
  ·replace h := ifT hb5 h
   refine Tr.skip (toN (Tr.seq (Tr.block (sr ((md rfl (md rfl (nt ((Tr.seq ?_))))))))))
   refine Tr.rgnD (by decide) ?_
   refine Rn.load (v := .agg [.d (.int .i64 v2.From), .d (.int .i64 v2.Event), .d (.int .i64 v2.To)]) trivial rfl (boxOwn rfl) rfl rfl (md rfl (md rfl ?_))
   obtain ⟨x6, h7, h⟩ := bnd h
   refine Rn.idxD (e := e_api_Edge) trivial rfl rfl h7 (Rn.loadCA (vs := [.d (.int .i64 x6.From), .d (.int .i64 x6.Event), .d (.int .i64 x6.To)]) trivial rfl rfl rfl (Rn.eqa (r := ((v2.From == x6.From) && ((v2.Event == x6.Event) && ((v2.To == x6.To) && true)))) trivial rfl rfl rfl ?_))
   refine Rn.nil ⟨rfl, ?_⟩
   refine toN ?_
   refine Tr.cond rfl (fun hb8 => ?_) (fun hb8 => ?_)
   ·replace h := bT hb8 h
    refine sr ((md rfl (md rfl (nt ((Tr.ret ?_))))))
    replace h := si h; subst h
    exact ⟨.inr rfl, (.d (.int .i64 x3)), rfl, fun _ _ _ _ h => h, trivial, fun k hk => memOf_base hk⟩
   ·replace h := bF hb8 h
    refine Tr.skip (toN (Tr.rgn (Rn.bin trivial rfl rfl rfl (md rfl (Rn.nil ?_)))))
    exact ⟨_, h, (by show WeakSt Γ (clean _ _ _) ⟨look _, memOf _ (bxs _) _, _⟩; exact weak_clean ⟨(.same rfl), ⟨(kPtr rfl), ⟨(.same rfl), ⟨(.same rfl), trivial⟩⟩⟩⟩ ⟨⟨_, rfl, rfl, (.same rfl)⟩, trivial⟩ rfl)⟩
  ·replace h := ifF hb5 h
   refine Tr.exit (toN (sr ((md rfl (nt ((Tr.ret ?_)))))))
   replace h := si h; subst h
   exact ⟨.inr rfl, (.d (.int .i64 (-1))), rfl, fun _ _ _ _ h => h, trivial, fun k hk => memOf_base hk⟩
theorem slices_Contains_Edge_walk {P : Program} {c : Nat} {f_slices_Index_Edge : (List api_Edge) → api_Edge → Option Int}
    (H_slices_Index_Edge : K_slices_Index_Edge P 74 f_slices_Index_Edge) (hcf : compFn P c = some F_slices_Contains_Edge) : K_slices_Contains_Edge P c (f_slices_Contains_Edge f_slices_Index_Edge) := by
 intro s1 v2 r h
 refine fn_trP hcf rfl fun Γ M hP hnt hM => ?_
 subst hP
 refine Tr.init [(0, .d (.lst 3 (List.map e_api_Edge s1))), (1, .agg [.d (.int .i64 v2.From), .d (.int .i64 v2.Event), .d (.int .i64 v2.To)])] rfl ?_
 unfold f_slices_Contains_Edge at h
 unfold F_slices_Contains_Edge
 refine sr ((Rn.box (v := .agg [.d (.int .i64 v2.From), .d (.int .i64 v2.Event), .d (.int .i64 v2.To)]) (cs := [.d (.int .i64 v2.From), .d (.int .i64 v2.Event), .d (.int .i64 v2.To)]) trivial rfl rfl rfl rfl rfl (md rfl (nt ((sr ((md rfl (Rn.load (v := .agg [.d (.int .i64 v2.From), .d (.int .i64 v2.Event), .d (.int .i64 v2.To)]) trivial rfl (boxOwn rfl) rfl rfl ?_)))))))))
 obtain ⟨x4, h3, h⟩ := bnd h
 refine Rn.call (args := [.d (.lst 3 (List.map e_api_Edge s1)), .agg [.d (.int .i64 v2.From), .d (.int .i64 v2.Event), .d (.int .i64 v2.To)]]) trivial rfl (H_slices_Index_Edge _ _ _ h3) pc9 (Rn.bin trivial rfl rfl rfl (md rfl (nt ((Tr.ret ?_)))))
 replace h := si h; subst h
 exact ⟨.inr rfl, (.d (.bool (decide (x4 ≥ 0)))), rfl, fun _ _ _ _ h => h, trivial, fun k hk => memOf_base hk⟩
theorem overseerlaw21_RequirementAsks_1_walk {P : Program} {c : Nat} (hcf : compFn P c = some F_overseerlaw21_RequirementAsks_1) : K_overseerlaw21_RequirementAsks_1 P c (f_overseerlaw21_RequirementAsks_1) := by
 intro y1 x2 x5 k3 k6 r h
 intro M nb hk4 hk7
 refine fn_trM hcf rfl M nb fun Γ hP hnt hn0 hM => ?_
 subst hP hn0
 refine Tr.init [(0, .agg [.d (.int .i64 y1.From), .d (.int .i64 y1.Event), .d (.int .i64 y1.To)]), (1, .ptr k3 0), (2, .ptr k6 0)] rfl ?_
 unfold f_overseerlaw21_RequirementAsks_1 at h
 unfold F_overseerlaw21_RequirementAsks_1
 refine sr ((Rn.box (v := .agg [.d (.int .i64 y1.From), .d (.int .i64 y1.Event), .d (.int .i64 y1.To)]) (cs := [.d (.int .i64 y1.From), .d (.int .i64 y1.Event), .d (.int .i64 y1.To)]) trivial rfl rfl rfl rfl rfl (md rfl (nt ((sr ((Rn.fldP (o' := 0) trivial rfl rfl (Rn.load (v := .d (.int .i64 y1.From)) trivial rfl (boxOwn rfl) rfl rfl (Rn.fldP (o' := 28) trivial rfl rfl (Rn.load (v := .d (.int .i64 x2.State)) trivial rfl (baseMem hM hk4) rfl rfl (Rn.bin trivial rfl rfl rfl (md rfl ?_)))))))))))))
 refine bsplit (y1.From == x2.State) (fun hb8 => ?_) (fun hb8 => ?_)
 ·replace h := bT hb8 h
  refine Rn.fldP (o' := 1) (gw rfl hb8) rfl rfl (Rn.load (v := .d (.int .i64 y1.Event)) (gw rfl hb8) rfl (boxOwn rfl) rfl rfl (Rn.load (v := .d (.int .i64 x5)) (gw rfl hb8) rfl (baseMem hM hk7) rfl rfl (Rn.bin (gw rfl hb8) rfl rfl rfl (Rn.pickT (v := .d (.bool (y1.Event == x5))) trivial rfl hb8 rfl (md rfl (nt ((Tr.ret ?_))))))))
  replace h := si h; subst h
  exact ⟨.inr rfl, (.d (.bool (y1.Event == x5))), rfl, fun _ _ _ _ h => h, trivial, fun k hk => memOf_base hk⟩
 ·replace h := bF hb8 h
  refine Rn.sk (nw rfl hb8) (Rn.sk (nw rfl hb8) (Rn.sk (nw rfl hb8) (Rn.sk (nw rfl hb8) (Rn.pickF (v := .d (.bool false)) trivial rfl hb8 rfl (md rfl (nt ((Tr.ret ?_))))))))
  replace h := si h; subst h
  exact ⟨.inr rfl, (.d (.bool false)), rfl, fun _ _ _ _ h => h, trivial, fun k hk => memOf_base hk⟩
theorem slices_ContainsFunc_Edge_walk {P : Program} {c : Nat} {f_slices_IndexFunc_Edge : (List api_Edge) → (api_Edge → Option Bool) → Option Int}
    (H_slices_IndexFunc_Edge : K_slices_IndexFunc_Edge P 44 f_slices_IndexFunc_Edge) (hcf : compFn P c = some F_slices_ContainsFunc_Edge) : K_slices_ContainsFunc_Edge P c (f_slices_ContainsFunc_Edge f_slices_IndexFunc_Edge) := by
 intro s1 f2 g3 cp4 r h
 intro M nb hc5 ho7 hf6
 refine fn_trM hcf rfl M nb fun Γ hP hnt hn0 hM => ?_
 subst hP hn0
 refine Tr.init [(0, .d (.lst 3 (List.map e_api_Edge s1))), (1, .clo g3 cp4)] rfl ?_
 unfold f_slices_ContainsFunc_Edge at h
 unfold F_slices_ContainsFunc_Edge
 refine sr ((md rfl (nt ((sr ((md rfl (Rn.mov (v := .clo g3 cp4) trivial rfl ?_))))))))
 obtain ⟨x13, h12, h⟩ := bnd h
 refine Rn.callM (args := [.d (.lst 3 (List.map e_api_Edge s1)), .clo g3 cp4]) trivial rfl (fun M2 nb2 hn hx => H_slices_IndexFunc_Edge _ _ g3 cp4 _ h12 M2 nb2 hc5 (onsExt ((extMem hM).trans hx) ho7) (fun a9 r10 h11 M3 nb3 hn3 hx3 => hf6 a9 r10 h11 M3 nb3 (by omega) ((extMem hM).trans (hx.trans hx3)))) rfl pc9 ?_
 refine Rn.bin trivial rfl rfl rfl (md rfl (nt ((Tr.ret ?_))))
 replace h := si h; subst h
 exact ⟨.inr rfl, (.d (.bool (decide (x13 ≥ 0)))), rfl, fun _ _ _ _ h => h, trivial, fun k hk => memOf_base hk⟩
theorem slices_IndexFunc_int_walk {P : Program} {c : Nat} (hcf : compFn P c = some F_slices_IndexFunc_int) (fuel : Nat) : K_slices_IndexFunc_int P c (f_slices_IndexFunc_int fuel) := by
 intro s1 f2 g3 cp4 r h
 intro M nb hc5 ho7 hf6
 refine fn_trM hcf rfl M nb fun Γ hP hnt hn0 hM => ?_
 subst hP hn0
 refine Tr.init [(0, .d (.lst 1 (List.map (eI .i64) s1))), (1, .clo g3 cp4)] rfl ?_
 unfold f_slices_IndexFunc_int at h
 unfold F_slices_IndexFunc_int
 refine sr ((md rfl (nt ((Tr.seq (sr ((md rfl (Rn.lenD trivial rfl (md rfl (nt ((Tr.block ?_)))))))))))))
 refine Tr.loop (mk := fun (x9 : Int) => ⟨look [(0, .d (.lst 1 (List.map (eI .i64) s1))), (1, .clo g3 cp4), (7, .d (.int .i64 (s1.length : Int))), (8, .d (.int .i64 x9))], memOf Γ.n0 (bxs []) M, Γ.n0 + 19⟩) h (by show WeakSt Γ (clean _ _ _) ⟨look _, memOf _ (bxs _) _, _⟩; exact weak_clean ⟨(.same rfl), ⟨(kFun hM ho7), ⟨(.same rfl), ⟨(.same rfl), trivial⟩⟩⟩⟩ trivial rfl) (fun k10 z h => ?_)
 ·obtain ⟨x9, rfl⟩ : ∃ x, x = z := ⟨_, rfl⟩
  replace h : _ = some _ := h
  refine sr ((Rn.bin trivial rfl rfl rfl (nt ((Tr.seq ?_)))))
  refine Tr.cond rfl (fun hb11 => ?_) (fun hb11 => ?_)
  ·replace h := ifT hb11 h
   refine Tr.skip (toN (Tr.seq (Tr.block (sr ((md rfl (md rfl (nt ((sr ((Rn.mov (v := .clo g3 cp4) trivial rfl (md rfl (md rfl ?_))))))))))))))
   obtain ⟨x12, h13, h⟩ := bnd h
   refine Rn.idxD (e := (eI .i64)) trivial rfl rfl h13 (Rn.loadC (x := .int .i64 x12) trivial rfl ?_)
   obtain ⟨x15, h14, h⟩ := bnd h
   refine Rn.callvM (args := [.d (.int .i64 x12)] ++ cp4) trivial rfl (by rw [hc5]; rfl) (fun M2 nb2 hn hx => hf6 _ _ h14 M2 nb2 (by omega) ((extMem hM).trans hx)) rfl pc9 ?_
   refine Rn.nil (toN ?_)
   refine Tr.cond rfl (fun hb16 => ?_) (fun hb16 => ?_)
   ·replace h := bT hb16 h
    refine sr ((md rfl (md rfl (nt ((Tr.ret ?_))))))
    replace h := si h; subst h
    exact ⟨.inr rfl, (.d (.int .i64 x9)), rfl, fun _ _ _ _ h => h, trivial, fun k hk => memOf_base hk⟩
   ·replace h := bF hb16 h
    refine Tr.skip (toN (Tr.rgn (Rn.bin trivial rfl rfl rfl (md rfl (Rn.nil ?_)))))
    exact ⟨_, h, (by show WeakSt Γ (clean _ _ _) ⟨look _, memOf _ (bxs _) _, _⟩; exact weak_clean ⟨(.same rfl), ⟨(kFun hM ho7), ⟨(.same rfl), ⟨(.same rfl), trivial⟩⟩⟩⟩ trivial rfl)⟩
  ·replace h := ifF hb11 h
   refine Tr.exit (toN (sr ((md rfl (nt ((Tr.ret ?_)))))))
   replace h := si h; subst h
   exact ⟨.inr rfl, (.d (.int .i64 (-1))), rfl, fun _ _ _ _ h => h, trivial, fun k hk => memOf_base hk⟩
theorem slices_ContainsFunc_int_walk {P : Program} {c : Nat} {f_slices_IndexFunc_int : (List Int) → (Int → Option Bool) → Option Int}
    (H_slices_IndexFunc_int : K_slices_IndexFunc_int P 63 f_slices_IndexFunc_int) (hcf : compFn P c = some F_slices_ContainsFunc_int) : K_slices_ContainsFunc_int P c (f_slices_ContainsFunc_int f_slices_IndexFunc_int) := by
 intro s1 f2 g3 cp4 r h
 intro M nb hc5 ho7 hf6
 refine fn_trM hcf rfl M nb fun Γ hP hnt hn0 hM => ?_
 subst hP hn0
 refine Tr.init [(0, .d (.lst 1 (List.map (eI .i64) s1))), (1, .clo g3 cp4)] rfl ?_
 unfold f_slices_ContainsFunc_int at h
 unfold F_slices_ContainsFunc_int
 refine sr ((md rfl (nt ((sr ((md rfl (Rn.mov (v := .clo g3 cp4) trivial rfl ?_))))))))
 obtain ⟨x13, h12, h⟩ := bnd h
 refine Rn.callM (args := [.d (.lst 1 (List.map (eI .i64) s1)), .clo g3 cp4]) trivial rfl (fun M2 nb2 hn hx => H_slices_IndexFunc_int _ _ g3 cp4 _ h12 M2 nb2 hc5 (onsExt ((extMem hM).trans hx) ho7) (fun a9 r10 h11 M3 nb3 hn3 hx3 => hf6 a9 r10 h11 M3 nb3 (by omega) ((extMem hM).trans (hx.trans hx3)))) rfl pc9 ?_
 refine Rn.bin trivial rfl rfl rfl (md rfl (nt ((Tr.ret ?_))))
 replace h := si h; subst h
 exact ⟨.inr rfl, (.d (.bool (decide (x13 ≥ 0)))), rfl, fun _ _ _ _ h => h, trivial, fun k hk => memOf_base hk⟩
theorem overseerlaw21_in_walk {P : Program} {c : Nat} (hcf : compFn P c = some F_overseerlaw21_in) : K_overseerlaw21_in P c (f_overseerlaw21_in) := by
 intro e1 r h
 refine fn_trP hcf rfl fun Γ M hP hnt hM => ?_
 subst hP
 refine Tr.init [(0, .d (.int .i64 e1))] rfl ?_
 unfold f_overseerlaw21_in at h
 unfold F_overseerlaw21_in
 refine sr ((md rfl (nt ((sr ((md rfl (Rn.bin trivial rfl rfl rfl (md rfl ?_)))))))))
 refine bsplit (decide (e1 ≥ 0)) (fun hb2 => ?_) (fun hb2 => ?_)
 ·replace h := ifT hb2 h
  refine Rn.movD (gw rfl hb2) rfl (Rn.bin (gw rfl hb2) rfl rfl rfl (Rn.pickT (v := .d (.bool (decide (e1 < 32)))) trivial rfl hb2 rfl (md rfl (nt ((Tr.ret ?_))))))
  replace h := si h; subst h
  exact ⟨.inr rfl, (.d (.bool (decide (e1 < 32)))), rfl, fun _ _ _ _ h => h, trivial, fun k hk => memOf_base hk⟩
 ·replace h := ifF hb2 h
  refine Rn.sk (nw rfl hb2) (Rn.sk (nw rfl hb2) (Rn.pickF (v := .d (.bool false)) trivial rfl hb2 rfl (md rfl (nt ((Tr.ret ?_))))))
  replace h := si h; subst h
  exact ⟨.inr rfl, (.d (.bool false)), rfl, fun _ _ _ _ h => h, trivial, fun k hk => memOf_base hk⟩
theorem overseerlaw21_RequirementAsks_2_walk {P : Program} {c : Nat} {f_overseerlaw21_in : Int → Option Bool}
    (H_overseerlaw21_in : K_overseerlaw21_in P 12 f_overseerlaw21_in) (hcf : compFn P c = some F_overseerlaw21_RequirementAsks_2) : K_overseerlaw21_RequirementAsks_2 P c (f_overseerlaw21_RequirementAsks_2 f_overseerlaw21_in) := by
 intro event1 r h
 refine fn_trP hcf rfl fun Γ M hP hnt hM => ?_
 subst hP
 refine Tr.init [(0, .d (.int .i64 event1))] rfl ?_
 unfold f_overseerlaw21_RequirementAsks_2 at h
 unfold F_overseerlaw21_RequirementAsks_2
 refine sr ((md rfl (nt ((sr ((md rfl ?_)))))))
 obtain ⟨x3, h2, h⟩ := bnd h
 refine Rn.call (args := [.d (.int .i64 event1)]) trivial rfl (H_overseerlaw21_in _ _ h2) pc9 (Rn.un trivial rfl rfl (md rfl (nt ((Tr.ret ?_)))))
 replace h := si h; subst h
 exact ⟨.inr rfl, (.d (.bool (!x3))), rfl, fun _ _ _ _ h => h, trivial, fun k hk => memOf_base hk⟩
theorem overseerlaw21_permits_1_walk {P : Program} {c : Nat} (hcf : compFn P c = some F_overseerlaw21_permits_1) : K_overseerlaw21_permits_1 P c (f_overseerlaw21_permits_1) := by
 intro y1 x2 x5 k3 k6 r h
 intro M nb hk4 hk7
 refine fn_trM hcf rfl M nb fun Γ hP hnt hn0 hM => ?_
 subst hP hn0
 refine Tr.init [(0, .agg [.d (.int .i64 y1.From), .d (.int .i64 y1.Event), .d (.int .i64 y1.To)]), (1, .ptr k3 0), (2, .ptr k6 0)] rfl ?_
 unfold f_overseerlaw21_permits_1 at h
 unfold F_overseerlaw21_permits_1
 refine sr ((Rn.box (v := .agg [.d (.int .i64 y1.From), .d (.int .i64 y1.Event), .d (.int .i64 y1.To)]) (cs := [.d (.int .i64 y1.From), .d (.int .i64 y1.Event), .d (.int .i64 y1.To)]) trivial rfl rfl rfl rfl rfl (md rfl (nt ((sr ((Rn.fldP (o' := 0) trivial rfl rfl (Rn.load (v := .d (.int .i64 y1.From)) trivial rfl (boxOwn rfl) rfl rfl (Rn.load (v := .d (.int .i64 x2)) trivial rfl (baseMem hM hk4) rfl rfl (Rn.bin trivial rfl rfl rfl (md rfl ?_))))))))))))
 refine bsplit (y1.From == x2) (fun hb8 => ?_) (fun hb8 => ?_)
 ·replace h := bT hb8 h
  refine Rn.fldP (o' := 1) (gw rfl hb8) rfl rfl (Rn.load (v := .d (.int .i64 y1.Event)) (gw rfl hb8) rfl (boxOwn rfl) rfl rfl (Rn.load (v := .d (.int .i64 x5)) (gw rfl hb8) rfl (baseMem hM hk7) rfl rfl (Rn.bin (gw rfl hb8) rfl rfl rfl (Rn.pickT (v := .d (.bool (y1.Event == x5))) trivial rfl hb8 rfl (md rfl (nt ((Tr.ret ?_))))))))
  replace h := si h; subst h
  exact ⟨.inr rfl, (.d (.bool (y1.Event == x5))), rfl, fun _ _ _ _ h => h, trivial, fun k hk => memOf_base hk⟩
 ·replace h := bF hb8 h
  refine Rn.sk (nw rfl hb8) (Rn.sk (nw rfl hb8) (Rn.sk (nw rfl hb8) (Rn.sk (nw rfl hb8) (Rn.pickF (v := .d (.bool false)) trivial rfl hb8 rfl (md rfl (nt ((Tr.ret ?_))))))))
  replace h := si h; subst h
  exact ⟨.inr rfl, (.d (.bool false)), rfl, fun _ _ _ _ h => h, trivial, fun k hk => memOf_base hk⟩
theorem overseerlaw21_permits_walk {P : Program} {c : Nat} {f_slices_Contains_int : (List Int) → Int → Option Bool} {f_slices_IndexFunc_Edge : (List api_Edge) → (api_Edge → Option Bool) → Option Int} {f_overseerlaw21_permits_1 : api_Edge → Int → Int → Option Bool}
    (H_slices_Contains_int : K_slices_Contains_int P 13 f_slices_Contains_int)
    (H_slices_IndexFunc_Edge : K_slices_IndexFunc_Edge P 44 f_slices_IndexFunc_Edge)
    (H_overseerlaw21_permits_1 : K_overseerlaw21_permits_1 P 75 f_overseerlaw21_permits_1) (hcf : compFn P c = some F_overseerlaw21_permits) (fuel : Nat) : K_overseerlaw21_permits P c (f_overseerlaw21_permits f_slices_Contains_int f_slices_IndexFunc_Edge f_overseerlaw21_permits_1 fuel) := by
 intro a1 word2 r h
 refine fn_trP hcf rfl fun Γ M hP hnt hM => ?_
 subst hP
 refine Tr.init [(0, .agg [.d (.lst 1 (List.map (eI .i64) a1.Alphabet)), .d (.int .i64 a1.States), .d (.lst 1 (List.map (eI .i64) a1.Marked)), .d (.lst 3 (List.map e_api_Edge a1.Edges))]), (1, .d (.lst 1 (List.map (eI .i64) word2)))] rfl ?_
 unfold f_overseerlaw21_permits at h
 unfold F_overseerlaw21_permits
 refine sr ((Rn.box (v := .agg [.d (.lst 1 (List.map (eI .i64) a1.Alphabet)), .d (.int .i64 a1.States), .d (.lst 1 (List.map (eI .i64) a1.Marked)), .d (.lst 3 (List.map e_api_Edge a1.Edges))]) (cs := [.d (.lst 1 (List.map (eI .i64) a1.Alphabet)), .d (.int .i64 a1.States), .d (.lst 1 (List.map (eI .i64) a1.Marked)), .d (.lst 3 (List.map e_api_Edge a1.Edges))]) trivial rfl rfl rfl rfl rfl (md rfl (nt ((sr ((Rn.alloc trivial rfl (Rn.store (v := .d (.int .i64 0)) (cs' := [.d (.int .i64 0)]) trivial rfl rfl rfl rfl rfl rfl (nt ((Tr.seq (sr ((md rfl (Rn.lenD trivial rfl (md rfl (nt ((Tr.block ?_))))))))))))))))))))
 refine Tr.loop (mk := fun ((x3, state4) : Int × Int) => ⟨look [(2, .ptr (Γ.n0 + 2) 0), (5, .ptr (Γ.n0 + 5) 0), (9, .d (.lst 1 (List.map (eI .i64) word2))), (10, .d (.int .i64 (word2.length : Int))), (11, .d (.int .i64 x3))], memOf Γ.n0 (bxs [(2, .cells ([.d (.lst 1 (List.map (eI .i64) a1.Alphabet)), .d (.int .i64 a1.States), .d (.lst 1 (List.map (eI .i64) a1.Marked)), .d (.lst 3 (List.map e_api_Edge a1.Edges))])), (5, .cells ([.d (.int .i64 state4)]))]) M, Γ.n0 + 36⟩) h (by show WeakSt Γ (clean _ _ _) ⟨look _, memOf _ (bxs _) _, _⟩; exact weak_clean ⟨(kPtr rfl), ⟨(kPtr rfl), ⟨(.same rfl), ⟨(.same rfl), ⟨(.same rfl), trivial⟩⟩⟩⟩⟩ ⟨⟨_, rfl, rfl, (.same rfl)⟩, ⟨⟨_, rfl, rfl, (.same rfl)⟩, trivial⟩⟩ rfl) (fun k5 z h => ?_)
 ·obtain ⟨x3, state4⟩ := z
  replace h : _ = some _ := h
  refine sr ((Rn.bin trivial rfl rfl rfl (nt ((Tr.seq ?_)))))
  refine Tr.cond rfl (fun hb6 => ?_) (fun hb6 => ?_)
  ·replace h := ifT hb6 h
   refine Tr.skip (toN ?_)
   refine Tr.cutJ (fun ((state20, c21) : Int × Int) => ⟨look [(2, .ptr (Γ.n0 + 2) 0), (5, .ptr (Γ.n0 + 5) 0), (9, .d (.lst 1 (List.map (eI .i64) word2))), (10, .d (.int .i64 (word2.length : Int))), (11, .d (.int .i64 x3))], memOf Γ.n0 (bxs [(2, .cells ([.d (.lst 1 (List.map (eI .i64) a1.Alphabet)), .d (.int .i64 a1.States), .d (.lst 1 (List.map (eI .i64) a1.Marked)), .d (.lst 3 (List.map e_api_Edge a1.Edges))])), (5, .cells ([.d (.int .i64 state20)])), (7, .cells ([.d (.int .i64 c21)]))]) M, Γ.n0 + 36⟩) h (fun J22 h => ?_) (fun z h => ?_)
   ·refine Tr.block (Tr.seq (Tr.rgn ?_))
    obtain ⟨x7, h8, h⟩ := bnd h
    refine Rn.idxD (e := (eI .i64)) trivial rfl rfl h8 (Rn.loadC (x := .int .i64 x7) trivial rfl (Rn.alloc trivial rfl (Rn.store (v := .d (.int .i64 x7)) (cs' := [.d (.int .i64 x7)]) trivial rfl rfl rfl rfl rfl rfl (nt ((Tr.seq (sr ((Rn.fldP (o' := 0) trivial rfl rfl (Rn.load (v := .d (.lst 1 (List.map (eI .i64) a1.Alphabet))) trivial rfl (boxOwn rfl) rfl rfl (Rn.load (v := .d (.int .i64 x7)) trivial rfl (boxOwn rfl) rfl rfl ?_)))))))))))
    obtain ⟨x10, h9, h⟩ := bnd h
    refine Rn.call (args := [.d (.lst 1 (List.map (eI .i64) a1.Alphabet)), .d (.int .i64 x7)]) trivial rfl (H_slices_Contains_int _ _ _ h9) pc9 (Rn.un trivial rfl rfl (Rn.nil (toN ?_)))
    refine Tr.cond rfl (fun hb11 => ?_) (fun hb11 => ?_)
    ·have hb11 := nT' hb11
     replace h := bF hb11 h
     refine Tr.exit ?_
     exact ⟨_, h, (by show WeakSt Γ _ ⟨look _, memOf _ (bxs _) _, _⟩; exact weak_cut [] ⟨(kPtr rfl), ⟨(kPtr rfl), ⟨(.same rfl), ⟨(.same rfl), ⟨(.same rfl), trivial⟩⟩⟩⟩⟩ ⟨⟨_, rfl, rfl, (.same rfl)⟩, ⟨⟨_, rfl, rfl, (.same rfl)⟩, ⟨⟨_, rfl, rfl, (.same rfl)⟩, trivial⟩⟩⟩ rfl)⟩
    ·have hb11 := nF' hb11
     replace h := bT hb11 h
     refine Tr.skip (toN (sr ((Rn.fldP (o' := 3) trivial rfl rfl (Rn.load (v := .d (.lst 3 (List.map e_api_Edge a1.Edges))) trivial rfl (boxOwn rfl) rfl rfl (Rn.k (v := .clo 75 [.ptr (Γ.n0 + 5) 0, .ptr (Γ.n0 + 7) 0]) trivial rfl rfl rfl ?_))))))
     obtain ⟨x16, h15, h⟩ := bnd h
     refine Rn.callM (args := [.d (.lst 3 (List.map e_api_Edge a1.Edges)), .clo 75 [.ptr (Γ.n0 + 5) 0, .ptr (Γ.n0 + 7) 0]]) trivial rfl (fun M2 nb2 hn hx => H_slices_IndexFunc_Edge _ _ 75 [.ptr (Γ.n0 + 5) 0, .ptr (Γ.n0 + 7) 0] _ h15 M2 nb2 rfl ⟨thereOf (hx _ _ (boxOwn rfl)), thereOf (hx _ _ (boxOwn rfl)), trivial⟩ (fun a12 r13 h14 M3 nb3 hn3 hx3 => H_overseerlaw21_permits_1 a12 state4 x7 (Γ.n0 + 5) (Γ.n0 + 7) r13 h14 M3 nb3 ((hx.trans hx3) _ _ (boxOwn rfl)) ((hx.trans hx3) _ _ (boxOwn rfl)))) rfl pc9 ?_
     refine md rfl (nt ((Tr.seq (sr ((md rfl (Rn.bin trivial rfl rfl rfl (Rn.nil (toN ?_)))))))))
     refine Tr.cond rfl (fun hb17 => ?_) (fun hb17 => ?_)
     ·replace h := ifT hb17 h
      refine sr ((md rfl (nt ((Tr.ret ?_)))))
      replace h := si h; subst h
      exact ⟨.inr rfl, (.d (.bool false)), rfl, fun _ _ _ _ h => h, trivial, fun k hk => memOf_base hk⟩
     ·replace h := ifF hb17 h
      refine Tr.skip (toN (Tr.rgn (Rn.fldP (o' := 3) trivial rfl rfl (Rn.load (v := .d (.lst 3 (List.map e_api_Edge a1.Edges))) trivial rfl (boxOwn rfl) rfl rfl (md rfl ?_)))))
      obtain ⟨x18, h19, h⟩ := bnd h
      refine Rn.idxD (e := e_api_Edge) trivial rfl rfl h19 (Rn.fldC trivial rfl (Rn.loadC (x := .int .i64 x18.To) trivial rfl (Rn.store (v := .d (.int .i64 x18.To)) (cs' := [.d (.int .i64 x18.To)]) trivial rfl rfl rfl rfl rfl rfl (Rn.nil ?_))))
      exact ⟨_, h, (by show WeakSt Γ _ ⟨look _, memOf _ (bxs _) _, _⟩; exact weak_cut [] ⟨(kPtr rfl), ⟨(kPtr rfl), ⟨(.same rfl), ⟨(.same rfl), ⟨(.same rfl), trivial⟩⟩⟩⟩⟩ ⟨⟨_, rfl, rfl, (.same rfl)⟩, ⟨⟨_, rfl, rfl, (.same rfl)⟩, ⟨⟨_, rfl, rfl, (.same rfl)⟩, trivial⟩⟩⟩ rfl)⟩
   ·obtain ⟨state20, c21⟩ := z
    refine Tr.rgn (Rn.bin trivial rfl rfl rfl (md rfl (Rn.nil ?_)))
    exact ⟨_, h, (by show WeakSt Γ (clean _ _ _) ⟨look _, memOf _ (bxs _) _, _⟩; exact weak_clean ⟨(kPtr rfl), ⟨(kPtr rfl), ⟨(.same rfl), ⟨(.same rfl), ⟨(.same rfl), trivial⟩⟩⟩⟩⟩ ⟨⟨_, rfl, rfl, (.same rfl)⟩, ⟨⟨_, rfl, rfl, (.same rfl)⟩, trivial⟩⟩ rfl)⟩
  ·replace h := ifF hb6 h
   refine Tr.exit (toN (sr ((Rn.fldP (o' := 1) trivial rfl rfl (Rn.load (v := .d (.int .i64 a1.States)) trivial rfl (boxOwn rfl) rfl rfl (Rn.bin trivial rfl rfl rfl (md rfl (nt ((Tr.ret ?_))))))))))
   replace h := si h; subst h
   exact ⟨.inr rfl, (.d (.bool (decide (a1.States > 0)))), rfl, fun _ _ _ _ h => h, trivial, fun k hk => memOf_base hk⟩
theorem overseerlaw21_RequirementAsks_walk {P : Program} {c : Nat} {f_overseerlaw21_known : Option Bool} {f_slices_ContainsFunc_int : (List Int) → (Int → Option Bool) → Option Bool} {f_requirement_Allows : api_Automaton → (List Int) → Option (Bool × Int)} {f_overseerlaw03_Make : (List Int) → overseerlaw03_Graph → Option api_Automaton} {f_overseerlaw03_Set_Events : Int → Option ((List Int))} {f_requirement_Idle : api_Automaton → Option ((List Int) × Int)} {f_requirement_Refused : api_Automaton → Int → Option ((List Int) × Int)} {f_slices_Contains_Edge : (List api_Edge) → api_Edge → Option Bool} {f_slices_ContainsFunc_Edge : (List api_Edge) → (api_Edge → Option Bool) → Option Bool} {f_overseerlaw21_RequirementAsks_1 : api_Edge → overseerlaw21_Asked → Int → Option Bool} {f_slices_Equal_int : (List Int) → (List Int) → Option Bool} {f_overseerlaw21_RequirementAsks_2 : Int → Option Bool} {f_overseerlaw21_permits : api_Automaton → (List Int) → Option Bool}
    (H_overseerlaw21_known : K_overseerlaw21_known P 10 f_overseerlaw21_known)
    (H_slices_ContainsFunc_int : K_slices_ContainsFunc_int P 21 f_slices_ContainsFunc_int)
    (H_requirement_Allows : K_requirement_Allows P 32 f_requirement_Allows)
    (H_overseerlaw03_Make : K_overseerlaw03_Make P 33 f_overseerlaw03_Make)
    (H_overseerlaw03_Set_Events : K_overseerlaw03_Set_Events P 34 f_overseerlaw03_Set_Events)
    (H_requirement_Idle : K_requirement_Idle P 35 f_requirement_Idle)
    (H_requirement_Refused : K_requirement_Refused P 36 f_requirement_Refused)
    (H_slices_Contains_Edge : K_slices_Contains_Edge P 37 f_slices_Contains_Edge)
    (H_slices_ContainsFunc_Edge : K_slices_ContainsFunc_Edge P 38 f_slices_ContainsFunc_Edge)
    (H_overseerlaw21_RequirementAsks_1 : K_overseerlaw21_RequirementAsks_1 P 39 f_overseerlaw21_RequirementAsks_1)
    (H_slices_Equal_int : K_slices_Equal_int P 40 f_slices_Equal_int)
    (H_overseerlaw21_RequirementAsks_2 : K_overseerlaw21_RequirementAsks_2 P 41 f_overseerlaw21_RequirementAsks_2)
    (H_overseerlaw21_permits : K_overseerlaw21_permits P 42 f_overseerlaw21_permits) (hcf : compFn P c = some F_overseerlaw21_RequirementAsks) (fuel : Nat) : K_overseerlaw21_RequirementAsks P c (f_overseerlaw21_RequirementAsks f_overseerlaw21_known f_slices_ContainsFunc_int f_requirement_Allows f_overseerlaw03_Make f_overseerlaw03_Set_Events f_requirement_Idle f_requirement_Refused f_slices_Contains_Edge f_slices_ContainsFunc_Edge f_overseerlaw21_RequirementAsks_1 f_slices_Equal_int f_overseerlaw21_RequirementAsks_2 f_overseerlaw21_permits fuel) := by
 intro x1 r h
 refine fn_trP hcf rfl fun Γ M hP hnt hM => ?_
 subst hP
 refine Tr.init [(0, .agg [.d (.int .u8 x1.Set), .d (.int .u8 x1.Graph.States), .d (.int .u8 x1.Graph.Marks), .d (.int .u8 x1.Graph.To.1.1), .d (.int .u8 x1.Graph.To.1.2.1), .d (.int .u8 x1.Graph.To.1.2.2.1), .d (.int .u8 x1.Graph.To.1.2.2.2.1), .d (.int .u8 x1.Graph.To.1.2.2.2.2), .d (.int .u8 x1.Graph.To.2.1.1), .d (.int .u8 x1.Graph.To.2.1.2.1), .d (.int .u8 x1.Graph.To.2.1.2.2.1), .d (.int .u8 x1.Graph.To.2.1.2.2.2.1), .d (.int .u8 x1.Graph.To.2.1.2.2.2.2), .d (.int .u8 x1.Graph.To.2.2.1.1), .d (.int .u8 x1.Graph.To.2.2.1.2.1), .d (.int .u8 x1.Graph.To.2.2.1.2.2.1), .d (.int .u8 x1.Graph.To.2.2.1.2.2.2.1), .d (.int .u8 x1.Graph.To.2.2.1.2.2.2.2), .d (.int .u8 x1.Graph.To.2.2.2.1.1), .d (.int .u8 x1.Graph.To.2.2.2.1.2.1), .d (.int .u8 x1.Graph.To.2.2.2.1.2.2.1), .d (.int .u8 x1.Graph.To.2.2.2.1.2.2.2.1), .d (.int .u8 x1.Graph.To.2.2.2.1.2.2.2.2), .d (.int .u8 x1.Graph.To.2.2.2.2.1), .d (.int .u8 x1.Graph.To.2.2.2.2.2.1), .d (.int .u8 x1.Graph.To.2.2.2.2.2.2.1), .d (.int .u8 x1.Graph.To.2.2.2.2.2.2.2.1), .d (.int .u8 x1.Graph.To.2.2.2.2.2.2.2.2), .d (.int .i64 x1.State), .d (.lst 1 (List.map (eI .i64) x1.Word))])] rfl ?_
 unfold f_overseerlaw21_RequirementAsks at h
 unfold F_overseerlaw21_RequirementAsks
 refine sr ((Rn.box (v := .agg [.d (.int .u8 x1.Set), .d (.int .u8 x1.Graph.States), .d (.int .u8 x1.Graph.Marks), .d (.int .u8 x1.Graph.To.1.1), .d (.int .u8 x1.Graph.To.1.2.1), .d (.int .u8 x1.Graph.To.1.2.2.1), .d (.int .u8 x1.Graph.To.1.2.2.2.1), .d (.int .u8 x1.Graph.To.1.2.2.2.2), .d (.int .u8 x1.Graph.To.2.1.1), .d (.int .u8 x1.Graph.To.2.1.2.1), .d (.int .u8 x1.Graph.To.2.1.2.2.1), .d (.int .u8 x1.Graph.To.2.1.2.2.2.1), .d (.int .u8 x1.Graph.To.2.1.2.2.2.2), .d (.int .u8 x1.Graph.To.2.2.1.1), .d (.int .u8 x1.Graph.To.2.2.1.2.1), .d (.int .u8 x1.Graph.To.2.2.1.2.2.1), .d (.int .u8 x1.Graph.To.2.2.1.2.2.2.1), .d (.int .u8 x1.Graph.To.2.2.1.2.2.2.2), .d (.int .u8 x1.Graph.To.2.2.2.1.1), .d (.int .u8 x1.Graph.To.2.2.2.1.2.1), .d (.int .u8 x1.Graph.To.2.2.2.1.2.2.1), .d (.int .u8 x1.Graph.To.2.2.2.1.2.2.2.1), .d (.int .u8 x1.Graph.To.2.2.2.1.2.2.2.2), .d (.int .u8 x1.Graph.To.2.2.2.2.1), .d (.int .u8 x1.Graph.To.2.2.2.2.2.1), .d (.int .u8 x1.Graph.To.2.2.2.2.2.2.1), .d (.int .u8 x1.Graph.To.2.2.2.2.2.2.2.1), .d (.int .u8 x1.Graph.To.2.2.2.2.2.2.2.2), .d (.int .i64 x1.State), .d (.lst 1 (List.map (eI .i64) x1.Word))]) (cs := [.d (.int .u8 x1.Set), .d (.int .u8 x1.Graph.States), .d (.int .u8 x1.Graph.Marks), .d (.int .u8 x1.Graph.To.1.1), .d (.int .u8 x1.Graph.To.1.2.1), .d (.int .u8 x1.Graph.To.1.2.2.1), .d (.int .u8 x1.Graph.To.1.2.2.2.1), .d (.int .u8 x1.Graph.To.1.2.2.2.2), .d (.int .u8 x1.Graph.To.2.1.1), .d (.int .u8 x1.Graph.To.2.1.2.1), .d (.int .u8 x1.Graph.To.2.1.2.2.1), .d (.int .u8 x1.Graph.To.2.1.2.2.2.1), .d (.int .u8 x1.Graph.To.2.1.2.2.2.2), .d (.int .u8 x1.Graph.To.2.2.1.1), .d (.int .u8 x1.Graph.To.2.2.1.2.1), .d (.int .u8 x1.Graph.To.2.2.1.2.2.1), .d (.int .u8 x1.Graph.To.2.2.1.2.2.2.1), .d (.int .u8 x1.Graph.To.2.2.1.2.2.2.2), .d (.int .u8 x1.Graph.To.2.2.2.1.1), .d (.int .u8 x1.Graph.To.2.2.2.1.2.1), .d (.int .u8 x1.Graph.To.2.2.2.1.2.2.1), .d (.int .u8 x1.Graph.To.2.2.2.1.2.2.2.1), .d (.int .u8 x1.Graph.To.2.2.2.1.2.2.2.2), .d (.int .u8 x1.Graph.To.2.2.2.2.1), .d (.int .u8 x1.Graph.To.2.2.2.2.2.1), .d (.int .u8 x1.Graph.To.2.2.2.2.2.2.1), .d (.int .u8 x1.Graph.To.2.2.2.2.2.2.2.1), .d (.int .u8 x1.Graph.To.2.2.2.2.2.2.2.2), .d (.int .i64 x1.State), .d (.lst 1 (List.map (eI .i64) x1.Word))]) trivial rfl rfl rfl rfl rfl (md rfl (nt ((Tr.seq ?_))))))
 refine Tr.cutB (fun (x7 : Bool) => ⟨look [(1, .ptr (Γ.n0 + 1) 0), (36, .d (.bool x7))], memOf Γ.n0 (bxs [(1, .cells ([.d (.int .u8 x1.Set), .d (.int .u8 x1.Graph.States), .d (.int .u8 x1.Graph.Marks), .d (.int .u8 x1.Graph.To.1.1), .d (.int .u8 x1.Graph.To.1.2.1), .d (.int .u8 x1.Graph.To.1.2.2.1), .d (.int .u8 x1.Graph.To.1.2.2.2.1), .d (.int .u8 x1.Graph.To.1.2.2.2.2), .d (.int .u8 x1.Graph.To.2.1.1), .d (.int .u8 x1.Graph.To.2.1.2.1), .d (.int .u8 x1.Graph.To.2.1.2.2.1), .d (.int .u8 x1.Graph.To.2.1.2.2.2.1), .d (.int .u8 x1.Graph.To.2.1.2.2.2.2), .d (.int .u8 x1.Graph.To.2.2.1.1), .d (.int .u8 x1.Graph.To.2.2.1.2.1), .d (.int .u8 x1.Graph.To.2.2.1.2.2.1), .d (.int .u8 x1.Graph.To.2.2.1.2.2.2.1), .d (.int .u8 x1.Graph.To.2.2.1.2.2.2.2), .d (.int .u8 x1.Graph.To.2.2.2.1.1), .d (.int .u8 x1.Graph.To.2.2.2.1.2.1), .d (.int .u8 x1.Graph.To.2.2.2.1.2.2.1), .d (.int .u8 x1.Graph.To.2.2.2.1.2.2.2.1), .d (.int .u8 x1.Graph.To.2.2.2.1.2.2.2.2), .d (.int .u8 x1.Graph.To.2.2.2.2.1), .d (.int .u8 x1.Graph.To.2.2.2.2.2.1), .d (.int .u8 x1.Graph.To.2.2.2.2.2.2.1), .d (.int .u8 x1.Graph.To.2.2.2.2.2.2.2.1), .d (.int .u8 x1.Graph.To.2.2.2.2.2.2.2.2), .d (.int .i64 x1.State), .d (.lst 1 (List.map (eI .i64) x1.Word))]))]) M, Γ.n0 + 156⟩) h (fun z h => ?_) (fun z h => ?_)
 ·refine Tr.rgn ?_
  obtain ⟨x3, h2, h⟩ := bnd h
  refine Rn.call (args := []) trivial rfl (H_overseerlaw21_known _ h2) pc9 (Rn.un trivial rfl rfl (md rfl ?_))
  refine bsplit x3 (fun hb4 => ?_) (fun hb4 => ?_)
  ·replace h := bT hb4 h
   refine Rn.fldP (o' := 29) (gw rfl (nT hb4)) rfl rfl (Rn.load (v := .d (.lst 1 (List.map (eI .i64) x1.Word))) (gw rfl (nT hb4)) rfl (boxOwn rfl) rfl rfl (Rn.lenD (gw rfl (nT hb4)) rfl (Rn.bin (gw rfl (nT hb4)) rfl rfl rfl (Rn.movD (gw rfl (nT hb4)) rfl ?_))))
   refine bsplit (decide ((x1.Word.length : Int) > 10)) (fun hb5 => ?_) (fun hb5 => ?_)
   ·replace h := ifT hb5 h
    refine Rn.fldP (o' := 29) (gw rfl hb5) rfl rfl (Rn.load (v := .d (.lst 1 (List.map (eI .i64) x1.Word))) (gw rfl hb5) rfl (boxOwn rfl) rfl rfl (Rn.lenD (gw rfl hb5) rfl (Rn.bin (gw rfl hb5) rfl rfl rfl (Rn.pickT (v := .d (.bool (decide ((x1.Word.length : Int) ≤ 4096)))) (gw rfl (nT hb4)) rfl hb5 rfl (Rn.pickF (v := .d (.bool (decide ((x1.Word.length : Int) ≤ 4096)))) trivial rfl (nT hb4) rfl (md rfl ?_))))))
    refine bsplit (decide ((x1.Word.length : Int) ≤ 4096)) (fun hb6 => ?_) (fun hb6 => ?_)
    ·replace h := ifT hb6 h
     refine Rn.sk (nw rfl hb6) (Rn.sk (nw rfl hb6) (Rn.sk (nw rfl hb6) (Rn.sk (nw rfl hb6) (Rn.pickT (v := .d (.bool true)) trivial rfl hb6 rfl (Rn.nil ?_)))))
     replace h := si h; subst h
     show WeakSt Γ _ ⟨look _, memOf _ (bxs _) _, _⟩; exact weak_cut [] ⟨(kPtr rfl), ⟨(.same rfl), trivial⟩⟩ ⟨⟨_, rfl, rfl, (.same rfl)⟩, trivial⟩ rfl
    ·replace h := ifF hb6 h
     refine Rn.fldP (o' := 29) (gw rfl hb6) rfl rfl (Rn.load (v := .d (.lst 1 (List.map (eI .i64) x1.Word))) (gw rfl hb6) rfl (boxOwn rfl) rfl rfl (Rn.lenD (gw rfl hb6) rfl (Rn.bin (gw rfl hb6) rfl rfl rfl (Rn.pickF (v := .d (.bool (decide ((x1.Word.length : Int) > 4098)))) trivial rfl hb6 rfl (Rn.nil ?_)))))
     replace h := si h; subst h
     show WeakSt Γ _ ⟨look _, memOf _ (bxs _) _, _⟩; exact weak_cut [] ⟨(kPtr rfl), ⟨(.same rfl), trivial⟩⟩ ⟨⟨_, rfl, rfl, (.same rfl)⟩, trivial⟩ rfl
   ·replace h := ifF hb5 h
    refine Rn.sk (nw rfl hb5) (Rn.sk (nw rfl hb5) (Rn.sk (nw rfl hb5) (Rn.sk (nw rfl hb5) (Rn.pickF (v := .d (.bool false)) (gw rfl (nT hb4)) rfl hb5 rfl (Rn.pickF (v := .d (.bool false)) trivial rfl (nT hb4) rfl (md rfl (Rn.fldP (o' := 29) (gw (b := false) rfl rfl) rfl rfl (Rn.load (v := .d (.lst 1 (List.map (eI .i64) x1.Word))) (gw (b := false) rfl rfl) rfl (boxOwn rfl) rfl rfl (Rn.lenD (gw (b := false) rfl rfl) rfl (Rn.bin (gw (b := false) rfl rfl) rfl rfl rfl (Rn.pickF (v := .d (.bool (decide ((x1.Word.length : Int) > 4098)))) trivial rfl rfl rfl (Rn.nil ?_))))))))))))
    replace h := si h; subst h
    show WeakSt Γ _ ⟨look _, memOf _ (bxs _) _, _⟩; exact weak_cut [] ⟨(kPtr rfl), ⟨(.same rfl), trivial⟩⟩ ⟨⟨_, rfl, rfl, (.same rfl)⟩, trivial⟩ rfl
  ·replace h := bF hb4 h
   refine Rn.sk (nw rfl (nF hb4)) (Rn.sk (nw rfl (nF hb4)) (Rn.sk (nw rfl (nF hb4)) (Rn.sk (nw rfl (nF hb4)) (Rn.sk (nw rfl (nF hb4)) (Rn.sk (nu rfl) (Rn.sk (nu rfl) (Rn.sk (nu rfl) (Rn.sk (nu rfl) (Rn.sk (nw rfl (nF hb4)) (Rn.pickT (v := .d (.bool true)) trivial rfl (nF hb4) rfl (md rfl (Rn.sk (nw (b := true) rfl rfl) (Rn.sk (nw (b := true) rfl rfl) (Rn.sk (nw (b := true) rfl rfl) (Rn.sk (nw (b := true) rfl rfl) (Rn.pickT (v := .d (.bool true)) trivial rfl rfl rfl (Rn.nil ?_)))))))))))))))))
   replace h := si h; subst h
   show WeakSt Γ _ ⟨look _, memOf _ (bxs _) _, _⟩; exact weak_cut [] ⟨(kPtr rfl), ⟨(.same rfl), trivial⟩⟩ ⟨⟨_, rfl, rfl, (.same rfl)⟩, trivial⟩ rfl
 ·obtain ⟨x7, rfl⟩ : ∃ x, x = z := ⟨_, rfl⟩
  refine Tr.cond rfl (fun hb8 => ?_) (fun hb8 => ?_)
  ·replace h := bT hb8 h
   refine Tr.seq (Tr.rgn ?_)
   obtain ⟨x10, h9, h⟩ := bnd h
   refine Rn.call (args := []) trivial rfl (H_overseerlaw21_known _ h9) pc9 (md rfl (nt ((Tr.ret ?_))))
   replace h := si h; subst h
   exact ⟨.inr rfl, (.d (.bool x10)), rfl, fun _ _ _ _ h => h, trivial, fun k hk => memOf_base hk⟩
  ·replace h := bF hb8 h
   refine Tr.skip (toN (Tr.seq ?_))
   refine Tr.rgnD (by decide) ?_
   refine Rn.fldP (o' := 0) trivial rfl rfl (Rn.load (v := .d (.int .u8 x1.Set)) trivial rfl (boxOwn rfl) rfl rfl ?_)
   obtain ⟨x12, h11, h⟩ := bnd h
   refine Rn.call (args := [.d (.int .u8 x1.Set)]) trivial rfl (H_overseerlaw03_Set_Events _ _ h11) (fun _ => memOut hM rfl) (Rn.fldP (o' := 1) trivial rfl rfl (Rn.load (v := .agg [.d (.int .u8 x1.Graph.States), .d (.int .u8 x1.Graph.Marks), .d (.int .u8 x1.Graph.To.1.1), .d (.int .u8 x1.Graph.To.1.2.1), .d (.int .u8 x1.Graph.To.1.2.2.1), .d (.int .u8 x1.Graph.To.1.2.2.2.1), .d (.int .u8 x1.Graph.To.1.2.2.2.2), .d (.int .u8 x1.Graph.To.2.1.1), .d (.int .u8 x1.Graph.To.2.1.2.1), .d (.int .u8 x1.Graph.To.2.1.2.2.1), .d (.int .u8 x1.Graph.To.2.1.2.2.2.1), .d (.int .u8 x1.Graph.To.2.1.2.2.2.2), .d (.int .u8 x1.Graph.To.2.2.1.1), .d (.int .u8 x1.Graph.To.2.2.1.2.1), .d (.int .u8 x1.Graph.To.2.2.1.2.2.1), .d (.int .u8 x1.Graph.To.2.2.1.2.2.2.1), .d (.int .u8 x1.Graph.To.2.2.1.2.2.2.2), .d (.int .u8 x1.Graph.To.2.2.2.1.1), .d (.int .u8 x1.Graph.To.2.2.2.1.2.1), .d (.int .u8 x1.Graph.To.2.2.2.1.2.2.1), .d (.int .u8 x1.Graph.To.2.2.2.1.2.2.2.1), .d (.int .u8 x1.Graph.To.2.2.2.1.2.2.2.2), .d (.int .u8 x1.Graph.To.2.2.2.2.1), .d (.int .u8 x1.Graph.To.2.2.2.2.2.1), .d (.int .u8 x1.Graph.To.2.2.2.2.2.2.1), .d (.int .u8 x1.Graph.To.2.2.2.2.2.2.2.1), .d (.int .u8 x1.Graph.To.2.2.2.2.2.2.2.2)]) trivial rfl (boxOwn rfl) rfl rfl ?_))
   obtain ⟨x14, h13, h⟩ := bnd h
   refine Rn.call (args := [.d (.lst 1 (List.map (eI .i64) x12)), .agg [.d (.int .u8 x1.Graph.States), .d (.int .u8 x1.Graph.Marks), .d (.int .u8 x1.Graph.To.1.1), .d (.int .u8 x1.Graph.To.1.2.1), .d (.int .u8 x1.Graph.To.1.2.2.1), .d (.int .u8 x1.Graph.To.1.2.2.2.1), .d (.int .u8 x1.Graph.To.1.2.2.2.2), .d (.int .u8 x1.Graph.To.2.1.1), .d (.int .u8 x1.Graph.To.2.1.2.1), .d (.int .u8 x1.Graph.To.2.1.2.2.1), .d (.int .u8 x1.Graph.To.2.1.2.2.2.1), .d (.int .u8 x1.Graph.To.2.1.2.2.2.2), .d (.int .u8 x1.Graph.To.2.2.1.1), .d (.int .u8 x1.Graph.To.2.2.1.2.1), .d (.int .u8 x1.Graph.To.2.2.1.2.2.1), .d (.int .u8 x1.Graph.To.2.2.1.2.2.2.1), .d (.int .u8 x1.Graph.To.2.2.1.2.2.2.2), .d (.int .u8 x1.Graph.To.2.2.2.1.1), .d (.int .u8 x1.Graph.To.2.2.2.1.2.1), .d (.int .u8 x1.Graph.To.2.2.2.1.2.2.1), .d (.int .u8 x1.Graph.To.2.2.2.1.2.2.2.1), .d (.int .u8 x1.Graph.To.2.2.2.1.2.2.2.2), .d (.int .u8 x1.Graph.To.2.2.2.2.1), .d (.int .u8 x1.Graph.To.2.2.2.2.2.1), .d (.int .u8 x1.Graph.To.2.2.2.2.2.2.1), .d (.int .u8 x1.Graph.To.2.2.2.2.2.2.2.1), .d (.int .u8 x1.Graph.To.2.2.2.2.2.2.2.2)]]) trivial rfl (H_overseerlaw03_Make _ _ _ h13) (fun _ => memOut hM rfl) (Rn.alloc trivial rfl (Rn.store (v := .agg [.d (.lst 1 (List.map (eI .i64) x14.Alphabet)), .d (.int .i64 x14.States), .d (.lst 1 (List.map (eI .i64) x14.Marked)), .d (.lst 3 (List.map e_api_Edge x14.Edges))]) (cs' := [.d (.lst 1 (List.map (eI .i64) x14.Alphabet)), .d (.int .i64 x14.States), .d (.lst 1 (List.map (eI .i64) x14.Marked)), .d (.lst 3 (List.map e_api_Edge x14.Edges))]) trivial rfl rfl rfl rfl rfl rfl ?_))
   refine Rn.nil ⟨rfl, ?_⟩
   refine toN (sr ((Rn.load (v := .agg [.d (.lst 1 (List.map (eI .i64) x14.Alphabet)), .d (.int .i64 x14.States), .d (.lst 1 (List.map (eI .i64) x14.Marked)), .d (.lst 3 (List.map e_api_Edge x14.Edges))]) trivial rfl (boxOwn rfl) rfl rfl ?_)))
   obtain ⟨⟨r16, r17⟩, h15, h⟩ := bnd h
   refine Rn.call (args := [.agg [.d (.lst 1 (List.map (eI .i64) x14.Alphabet)), .d (.int .i64 x14.States), .d (.lst 1 (List.map (eI .i64) x14.Marked)), .d (.lst 3 (List.map e_api_Edge x14.Edges))]]) trivial rfl (H_requirement_Idle _ _ h15) pc9 (Rn.mov (v := .tup [.d (.lst 1 (List.map (eI .i64) r16)), .d (.int .i64 r17)]) trivial rfl (Rn.extTD (vs := [.d (.lst 1 (List.map (eI .i64) r16)), .d (.int .i64 r17)]) trivial rfl rfl rfl (Rn.ext (v := .d (.int .i64 r17)) (vs := [.d (.lst 1 (List.map (eI .i64) r16)), .d (.int .i64 r17)]) trivial rfl rfl rfl (Rn.movTD trivial rfl (md rfl (nt ((sr ((Rn.load (v := .agg [.d (.lst 1 (List.map (eI .i64) x14.Alphabet)), .d (.int .i64 x14.States), .d (.lst 1 (List.map (eI .i64) x14.Marked)), .d (.lst 3 (List.map e_api_Edge x14.Edges))]) trivial rfl (boxOwn rfl) rfl rfl (Rn.fldP (o' := 28) trivial rfl rfl (Rn.load (v := .d (.int .i64 x1.State)) trivial rfl (boxOwn rfl) rfl rfl ?_))))))))))))
   obtain ⟨⟨r19, r20⟩, h18, h⟩ := bnd h
   refine Rn.call (args := [.agg [.d (.lst 1 (List.map (eI .i64) x14.Alphabet)), .d (.int .i64 x14.States), .d (.lst 1 (List.map (eI .i64) x14.Marked)), .d (.lst 3 (List.map e_api_Edge x14.Edges))], .d (.int .i64 x1.State)]) trivial rfl (H_requirement_Refused _ _ _ h18) pc9 (Rn.mov (v := .tup [.d (.lst 1 (List.map (eI .i64) r19)), .d (.int .i64 r20)]) trivial rfl (Rn.extTD (vs := [.d (.lst 1 (List.map (eI .i64) r19)), .d (.int .i64 r20)]) trivial rfl rfl rfl (Rn.ext (v := .d (.int .i64 r20)) (vs := [.d (.lst 1 (List.map (eI .i64) r19)), .d (.int .i64 r20)]) trivial rfl rfl rfl (Rn.movTD trivial rfl (md rfl (nt ((sr ((Rn.load (v := .agg [.d (.lst 1 (List.map (eI .i64) x14.Alphabet)), .d (.int .i64 x14.States), .d (.lst 1 (List.map (eI .i64) x14.Marked)), .d (.lst 3 (List.map e_api_Edge x14.Edges))]) trivial rfl (boxOwn rfl) rfl rfl (Rn.fldP (o' := 29) trivial rfl rfl (Rn.load (v := .d (.lst 1 (List.map (eI .i64) x1.Word))) trivial rfl (boxOwn rfl) rfl rfl ?_))))))))))))
   obtain ⟨⟨r22, r23⟩, h21, h⟩ := bnd h
   refine Rn.call (args := [.agg [.d (.lst 1 (List.map (eI .i64) x14.Alphabet)), .d (.int .i64 x14.States), .d (.lst 1 (List.map (eI .i64) x14.Marked)), .d (.lst 3 (List.map e_api_Edge x14.Edges))], .d (.lst 1 (List.map (eI .i64) x1.Word))]) trivial rfl (H_requirement_Allows _ _ _ h21) pc9 (Rn.mov (v := .tup [.d (.bool r22), .d (.int .i64 r23)]) trivial rfl (Rn.ext (v := .d (.bool r22)) (vs := [.d (.bool r22), .d (.int .i64 r23)]) trivial rfl rfl rfl (Rn.ext (v := .d (.int .i64 r23)) (vs := [.d (.bool r22), .d (.int .i64 r23)]) trivial rfl rfl rfl (md rfl (md rfl (nt ((sr ((Rn.movTC (v := .nils 1) trivial (Rn.movTC (v := .nils 1) trivial (Rn.nil (toN ?_)))))))))))))
   refine Tr.cutB (fun ((quiet55, no56) : (List Int) × (List Int)) => ⟨look [(1, .ptr (Γ.n0 + 1) 0), (3, .ptr (Γ.n0 + 3) 0), (4, .d (.lst 1 (List.map (eI .i64) r16))), (5, .d (.int .i64 r17)), (6, .d (.lst 1 (List.map (eI .i64) r19))), (7, .d (.int .i64 r20)), (8, .d (.bool r22)), (9, .d (.int .i64 r23)), (10, .own 1 (List.map (eI .i64) quiet55)), (11, .own 1 (List.map (eI .i64) no56))], memOf Γ.n0 (bxs [(1, .cells ([.d (.int .u8 x1.Set), .d (.int .u8 x1.Graph.States), .d (.int .u8 x1.Graph.Marks), .d (.int .u8 x1.Graph.To.1.1), .d (.int .u8 x1.Graph.To.1.2.1), .d (.int .u8 x1.Graph.To.1.2.2.1), .d (.int .u8 x1.Graph.To.1.2.2.2.1), .d (.int .u8 x1.Graph.To.1.2.2.2.2), .d (.int .u8 x1.Graph.To.2.1.1), .d (.int .u8 x1.Graph.To.2.1.2.1), .d (.int .u8 x1.Graph.To.2.1.2.2.1), .d (.int .u8 x1.Graph.To.2.1.2.2.2.1), .d (.int .u8 x1.Graph.To.2.1.2.2.2.2), .d (.int .u8 x1.Graph.To.2.2.1.1), .d (.int .u8 x1.Graph.To.2.2.1.2.1), .d (.int .u8 x1.Graph.To.2.2.1.2.2.1), .d (.int .u8 x1.Graph.To.2.2.1.2.2.2.1), .d (.int .u8 x1.Graph.To.2.2.1.2.2.2.2), .d (.int .u8 x1.Graph.To.2.2.2.1.1), .d (.int .u8 x1.Graph.To.2.2.2.1.2.1), .d (.int .u8 x1.Graph.To.2.2.2.1.2.2.1), .d (.int .u8 x1.Graph.To.2.2.2.1.2.2.2.1), .d (.int .u8 x1.Graph.To.2.2.2.1.2.2.2.2), .d (.int .u8 x1.Graph.To.2.2.2.2.1), .d (.int .u8 x1.Graph.To.2.2.2.2.2.1), .d (.int .u8 x1.Graph.To.2.2.2.2.2.2.1), .d (.int .u8 x1.Graph.To.2.2.2.2.2.2.2.1), .d (.int .u8 x1.Graph.To.2.2.2.2.2.2.2.2), .d (.int .i64 x1.State), .d (.lst 1 (List.map (eI .i64) x1.Word))])), (3, .cells ([.d (.lst 1 (List.map (eI .i64) x14.Alphabet)), .d (.int .i64 x14.States), .d (.lst 1 (List.map (eI .i64) x14.Marked)), .d (.lst 3 (List.map e_api_Edge x14.Edges))]))]) M, Γ.n0 + 156⟩) h (fun z h => ?_) (fun z h => ?_)
   ·refine sr ((Rn.fldP (o' := 0) trivial rfl rfl (Rn.load (v := .d (.lst 1 (List.map (eI .i64) x14.Alphabet))) trivial rfl (boxOwn rfl) rfl rfl (Rn.lenD trivial rfl (md rfl (nt ((Tr.block ?_))))))))
    refine Tr.loop (mk := fun ((quiet24, no25, x26) : (List Int) × (List Int) × Int) => ⟨look [(1, .ptr (Γ.n0 + 1) 0), (3, .ptr (Γ.n0 + 3) 0), (4, .d (.lst 1 (List.map (eI .i64) r16))), (5, .d (.int .i64 r17)), (6, .d (.lst 1 (List.map (eI .i64) r19))), (7, .d (.int .i64 r20)), (8, .d (.bool r22)), (9, .d (.int .i64 r23)), (10, .own 1 (List.map (eI .i64) quiet24)), (11, .own 1 (List.map (eI .i64) no25)), (64, .d (.lst 1 (List.map (eI .i64) x14.Alphabet))), (65, .d (.int .i64 (x14.Alphabet.length : Int))), (66, .d (.int .i64 x26))], memOf Γ.n0 (bxs [(1, .cells ([.d (.int .u8 x1.Set), .d (.int .u8 x1.Graph.States), .d (.int .u8 x1.Graph.Marks), .d (.int .u8 x1.Graph.To.1.1), .d (.int .u8 x1.Graph.To.1.2.1), .d (.int .u8 x1.Graph.To.1.2.2.1), .d (.int .u8 x1.Graph.To.1.2.2.2.1), .d (.int .u8 x1.Graph.To.1.2.2.2.2), .d (.int .u8 x1.Graph.To.2.1.1), .d (.int .u8 x1.Graph.To.2.1.2.1), .d (.int .u8 x1.Graph.To.2.1.2.2.1), .d (.int .u8 x1.Graph.To.2.1.2.2.2.1), .d (.int .u8 x1.Graph.To.2.1.2.2.2.2), .d (.int .u8 x1.Graph.To.2.2.1.1), .d (.int .u8 x1.Graph.To.2.2.1.2.1), .d (.int .u8 x1.Graph.To.2.2.1.2.2.1), .d (.int .u8 x1.Graph.To.2.2.1.2.2.2.1), .d (.int .u8 x1.Graph.To.2.2.1.2.2.2.2), .d (.int .u8 x1.Graph.To.2.2.2.1.1), .d (.int .u8 x1.Graph.To.2.2.2.1.2.1), .d (.int .u8 x1.Graph.To.2.2.2.1.2.2.1), .d (.int .u8 x1.Graph.To.2.2.2.1.2.2.2.1), .d (.int .u8 x1.Graph.To.2.2.2.1.2.2.2.2), .d (.int .u8 x1.Graph.To.2.2.2.2.1), .d (.int .u8 x1.Graph.To.2.2.2.2.2.1), .d (.int .u8 x1.Graph.To.2.2.2.2.2.2.1), .d (.int .u8 x1.Graph.To.2.2.2.2.2.2.2.1), .d (.int .u8 x1.Graph.To.2.2.2.2.2.2.2.2), .d (.int .i64 x1.State), .d (.lst 1 (List.map (eI .i64) x1.Word))])), (3, .cells ([.d (.lst 1 (List.map (eI .i64) x14.Alphabet)), .d (.int .i64 x14.States), .d (.lst 1 (List.map (eI .i64) x14.Marked)), .d (.lst 3 (List.map e_api_Edge x14.Edges))]))]) M, Γ.n0 + 156⟩) h (by show WeakSt Γ (clean _ _ _) ⟨look _, memOf _ (bxs _) _, _⟩; exact weak_clean ⟨(kPtr rfl), ⟨(kPtr rfl), ⟨(.same rfl), ⟨(.same rfl), ⟨(.same rfl), ⟨(.same rfl), ⟨(.same rfl), ⟨(.same rfl), ⟨(WkV.nilsO _), ⟨(WkV.nilsO _), ⟨(.same rfl), ⟨(.same rfl), ⟨(.same rfl), trivial⟩⟩⟩⟩⟩⟩⟩⟩⟩⟩⟩⟩⟩ ⟨⟨_, rfl, rfl, (.same rfl)⟩, ⟨⟨_, rfl, rfl, (.same rfl)⟩, trivial⟩⟩ rfl) (fun k27 z h => ?_)
    ·obtain ⟨quiet24, no25, x26⟩ := z
     replace h : _ = some _ := h
     refine sr ((Rn.bin trivial rfl rfl rfl (nt ((Tr.seq ?_)))))
     refine Tr.cond rfl (fun hb28 => ?_) (fun hb28 => ?_)
     ·replace h := ifT hb28 h
      refine Tr.skip (toN ?_)
      refine Tr.cutB (fun ((quiet52, no53, event54) : (List Int) × (List Int) × Int) => ⟨look [(1, .ptr (Γ.n0 + 1) 0), (3, .ptr (Γ.n0 + 3) 0), (4, .d (.lst 1 (List.map (eI .i64) r16))), (5, .d (.int .i64 r17)), (6, .d (.lst 1 (List.map (eI .i64) r19))), (7, .d (.int .i64 r20)), (8, .d (.bool r22)), (9, .d (.int .i64 r23)), (10, .own 1 (List.map (eI .i64) quiet52)), (11, .own 1 (List.map (eI .i64) no53)), (64, .d (.lst 1 (List.map (eI .i64) x14.Alphabet))), (65, .d (.int .i64 (x14.Alphabet.length : Int))), (66, .d (.int .i64 x26))], memOf Γ.n0 (bxs [(1, .cells ([.d (.int .u8 x1.Set), .d (.int .u8 x1.Graph.States), .d (.int .u8 x1.Graph.Marks), .d (.int .u8 x1.Graph.To.1.1), .d (.int .u8 x1.Graph.To.1.2.1), .d (.int .u8 x1.Graph.To.1.2.2.1), .d (.int .u8 x1.Graph.To.1.2.2.2.1), .d (.int .u8 x1.Graph.To.1.2.2.2.2), .d (.int .u8 x1.Graph.To.2.1.1), .d (.int .u8 x1.Graph.To.2.1.2.1), .d (.int .u8 x1.Graph.To.2.1.2.2.1), .d (.int .u8 x1.Graph.To.2.1.2.2.2.1), .d (.int .u8 x1.Graph.To.2.1.2.2.2.2), .d (.int .u8 x1.Graph.To.2.2.1.1), .d (.int .u8 x1.Graph.To.2.2.1.2.1), .d (.int .u8 x1.Graph.To.2.2.1.2.2.1), .d (.int .u8 x1.Graph.To.2.2.1.2.2.2.1), .d (.int .u8 x1.Graph.To.2.2.1.2.2.2.2), .d (.int .u8 x1.Graph.To.2.2.2.1.1), .d (.int .u8 x1.Graph.To.2.2.2.1.2.1), .d (.int .u8 x1.Graph.To.2.2.2.1.2.2.1), .d (.int .u8 x1.Graph.To.2.2.2.1.2.2.2.1), .d (.int .u8 x1.Graph.To.2.2.2.1.2.2.2.2), .d (.int .u8 x1.Graph.To.2.2.2.2.1), .d (.int .u8 x1.Graph.To.2.2.2.2.2.1), .d (.int .u8 x1.Graph.To.2.2.2.2.2.2.1), .d (.int .u8 x1.Graph.To.2.2.2.2.2.2.2.1), .d (.int .u8 x1.Graph.To.2.2.2.2.2.2.2.2), .d (.int .i64 x1.State), .d (.lst 1 (List.map (eI .i64) x1.Word))])), (3, .cells ([.d (.lst 1 (List.map (eI .i64) x14.Alphabet)), .d (.int .i64 x14.States), .d (.lst 1 (List.map (eI .i64) x14.Marked)), .d (.lst 3 (List.map e_api_Edge x14.Edges))])), (13, .cells ([.d (.int .i64 event54)]))]) M, Γ.n0 + 156⟩) h (fun z h => ?_) (fun z h => ?_)
      ·refine Tr.block (Tr.seq (Tr.rgn ?_))
       obtain ⟨x29, h30, h⟩ := bnd h
       refine Rn.idxD (e := (eI .i64)) trivial rfl rfl h30 (Rn.loadC (x := .int .i64 x29) trivial rfl (Rn.alloc trivial rfl (Rn.store (v := .d (.int .i64 x29)) (cs' := [.d (.int .i64 x29)]) trivial rfl rfl rfl rfl rfl rfl (nt ((sr ((md rfl (Rn.nil (toN ?_))))))))))
       refine Tr.cutB (fun (loops39 : Bool) => ⟨look [(1, .ptr (Γ.n0 + 1) 0), (3, .ptr (Γ.n0 + 3) 0), (4, .d (.lst 1 (List.map (eI .i64) r16))), (5, .d (.int .i64 r17)), (6, .d (.lst 1 (List.map (eI .i64) r19))), (7, .d (.int .i64 r20)), (8, .d (.bool r22)), (9, .d (.int .i64 r23)), (10, .own 1 (List.map (eI .i64) quiet24)), (11, .own 1 (List.map (eI .i64) no25)), (13, .ptr (Γ.n0 + 13) 0), (14, .d (.bool loops39)), (64, .d (.lst 1 (List.map (eI .i64) x14.Alphabet))), (65, .d (.int .i64 (x14.Alphabet.length : Int))), (66, .d (.int .i64 x26))], memOf Γ.n0 (bxs [(1, .cells ([.d (.int .u8 x1.Set), .d (.int .u8 x1.Graph.States), .d (.int .u8 x1.Graph.Marks), .d (.int .u8 x1.Graph.To.1.1), .d (.int .u8 x1.Graph.To.1.2.1), .d (.int .u8 x1.Graph.To.1.2.2.1), .d (.int .u8 x1.Graph.To.1.2.2.2.1), .d (.int .u8 x1.Graph.To.1.2.2.2.2), .d (.int .u8 x1.Graph.To.2.1.1), .d (.int .u8 x1.Graph.To.2.1.2.1), .d (.int .u8 x1.Graph.To.2.1.2.2.1), .d (.int .u8 x1.Graph.To.2.1.2.2.2.1), .d (.int .u8 x1.Graph.To.2.1.2.2.2.2), .d (.int .u8 x1.Graph.To.2.2.1.1), .d (.int .u8 x1.Graph.To.2.2.1.2.1), .d (.int .u8 x1.Graph.To.2.2.1.2.2.1), .d (.int .u8 x1.Graph.To.2.2.1.2.2.2.1), .d (.int .u8 x1.Graph.To.2.2.1.2.2.2.2), .d (.int .u8 x1.Graph.To.2.2.2.1.1), .d (.int .u8 x1.Graph.To.2.2.2.1.2.1), .d (.int .u8 x1.Graph.To.2.2.2.1.2.2.1), .d (.int .u8 x1.Graph.To.2.2.2.1.2.2.2.1), .d (.int .u8 x1.Graph.To.2.2.2.1.2.2.2.2), .d (.int .u8 x1.Graph.To.2.2.2.2.1), .d (.int .u8 x1.Graph.To.2.2.2.2.2.1), .d (.int .u8 x1.Graph.To.2.2.2.2.2.2.1), .d (.int .u8 x1.Graph.To.2.2.2.2.2.2.2.1), .d (.int .u8 x1.Graph.To.2.2.2.2.2.2.2.2), .d (.int .i64 x1.State), .d (.lst 1 (List.map (eI .i64) x1.Word))])), (3, .cells ([.d (.lst 1 (List.map (eI .i64) x14.Alphabet)), .d (.int .i64 x14.States), .d (.lst 1 (List.map (eI .i64) x14.Marked)), .d (.lst 3 (List.map e_api_Edge x14.Edges))])), (13, .cells ([.d (.int .i64 x29)]))]) M, Γ.n0 + 156⟩) h (fun z h => ?_) (fun z h => ?_)
       ·refine sr ((Rn.fldP (o' := 1) trivial rfl rfl (Rn.load (v := .d (.int .i64 x14.States)) trivial rfl (boxOwn rfl) rfl rfl (md rfl (nt ((Tr.block ?_)))))))
        refine Tr.loop (mk := fun ((loops31, x32) : Bool × Int) => ⟨look [(1, .ptr (Γ.n0 + 1) 0), (3, .ptr (Γ.n0 + 3) 0), (4, .d (.lst 1 (List.map (eI .i64) r16))), (5, .d (.int .i64 r17)), (6, .d (.lst 1 (List.map (eI .i64) r19))), (7, .d (.int .i64 r20)), (8, .d (.bool r22)), (9, .d (.int .i64 r23)), (10, .own 1 (List.map (eI .i64) quiet24)), (11, .own 1 (List.map (eI .i64) no25)), (13, .ptr (Γ.n0 + 13) 0), (14, .d (.bool loops31)), (64, .d (.lst 1 (List.map (eI .i64) x14.Alphabet))), (65, .d (.int .i64 (x14.Alphabet.length : Int))), (66, .d (.int .i64 x26)), (71, .d (.int .i64 x14.States)), (72, .d (.int .i64 x32))], memOf Γ.n0 (bxs [(1, .cells ([.d (.int .u8 x1.Set), .d (.int .u8 x1.Graph.States), .d (.int .u8 x1.Graph.Marks), .d (.int .u8 x1.Graph.To.1.1), .d (.int .u8 x1.Graph.To.1.2.1), .d (.int .u8 x1.Graph.To.1.2.2.1), .d (.int .u8 x1.Graph.To.1.2.2.2.1), .d (.int .u8 x1.Graph.To.1.2.2.2.2), .d (.int .u8 x1.Graph.To.2.1.1), .d (.int .u8 x1.Graph.To.2.1.2.1), .d (.int .u8 x1.Graph.To.2.1.2.2.1), .d (.int .u8 x1.Graph.To.2.1.2.2.2.1), .d (.int .u8 x1.Graph.To.2.1.2.2.2.2), .d (.int .u8 x1.Graph.To.2.2.1.1), .d (.int .u8 x1.Graph.To.2.2.1.2.1), .d (.int .u8 x1.Graph.To.2.2.1.2.2.1), .d (.int .u8 x1.Graph.To.2.2.1.2.2.2.1), .d (.int .u8 x1.Graph.To.2.2.1.2.2.2.2), .d (.int .u8 x1.Graph.To.2.2.2.1.1), .d (.int .u8 x1.Graph.To.2.2.2.1.2.1), .d (.int .u8 x1.Graph.To.2.2.2.1.2.2.1), .d (.int .u8 x1.Graph.To.2.2.2.1.2.2.2.1), .d (.int .u8 x1.Graph.To.2.2.2.1.2.2.2.2), .d (.int .u8 x1.Graph.To.2.2.2.2.1), .d (.int .u8 x1.Graph.To.2.2.2.2.2.1), .d (.int .u8 x1.Graph.To.2.2.2.2.2.2.1), .d (.int .u8 x1.Graph.To.2.2.2.2.2.2.2.1), .d (.int .u8 x1.Graph.To.2.2.2.2.2.2.2.2), .d (.int .i64 x1.State), .d (.lst 1 (List.map (eI .i64) x1.Word))])), (3, .cells ([.d (.lst 1 (List.map (eI .i64) x14.Alphabet)), .d (.int .i64 x14.States), .d (.lst 1 (List.map (eI .i64) x14.Marked)), .d (.lst 3 (List.map e_api_Edge x14.Edges))])), (13, .cells ([.d (.int .i64 x29)]))]) M, Γ.n0 + 156⟩) h (by show WeakSt Γ (clean _ _ _) ⟨look _, memOf _ (bxs _) _, _⟩; exact weak_clean ⟨(kPtr rfl), ⟨(kPtr rfl), ⟨(.same rfl), ⟨(.same rfl), ⟨(.same rfl), ⟨(.same rfl), ⟨(.same rfl), ⟨(.same rfl), ⟨(.same rfl), ⟨(.same rfl), ⟨(kPtr rfl), ⟨(.same rfl), ⟨(.same rfl), ⟨(.same rfl), ⟨(.same rfl), ⟨(.same rfl), ⟨(.same rfl), trivial⟩⟩⟩⟩⟩⟩⟩⟩⟩⟩⟩⟩⟩⟩⟩⟩⟩ ⟨⟨_, rfl, rfl, (.same rfl)⟩, ⟨⟨_, rfl, rfl, (.same rfl)⟩, ⟨⟨_, rfl, rfl, (.same rfl)⟩, trivial⟩⟩⟩ rfl) (fun k33 z h => ?_)
        ·obtain ⟨loops31, x32⟩ := z
         replace h : _ = some _ := h
         refine sr ((Rn.bin trivial rfl rfl rfl (nt ((Tr.seq ?_)))))
         refine Tr.cond rfl (fun hb34 => ?_) (fun hb34 => ?_)
         ·replace h := ifT hb34 h
          refine Tr.skip (toN ?_)
          refine Tr.cutB (fun (loops38 : Bool) => ⟨look [(1, .ptr (Γ.n0 + 1) 0), (3, .ptr (Γ.n0 + 3) 0), (4, .d (.lst 1 (List.map (eI .i64) r16))), (5, .d (.int .i64 r17)), (6, .d (.lst 1 (List.map (eI .i64) r19))), (7, .d (.int .i64 r20)), (8, .d (.bool r22)), (9, .d (.int .i64 r23)), (10, .own 1 (List.map (eI .i64) quiet24)), (11, .own 1 (List.map (eI .i64) no25)), (13, .ptr (Γ.n0 + 13) 0), (14, .d (.bool loops38)), (64, .d (.lst 1 (List.map (eI .i64) x14.Alphabet))), (65, .d (.int .i64 (x14.Alphabet.length : Int))), (66, .d (.int .i64 x26)), (71, .d (.int .i64 x14.States)), (72, .d (.int .i64 x32))], memOf Γ.n0 (bxs [(1, .cells ([.d (.int .u8 x1.Set), .d (.int .u8 x1.Graph.States), .d (.int .u8 x1.Graph.Marks), .d (.int .u8 x1.Graph.To.1.1), .d (.int .u8 x1.Graph.To.1.2.1), .d (.int .u8 x1.Graph.To.1.2.2.1), .d (.int .u8 x1.Graph.To.1.2.2.2.1), .d (.int .u8 x1.Graph.To.1.2.2.2.2), .d (.int .u8 x1.Graph.To.2.1.1), .d (.int .u8 x1.Graph.To.2.1.2.1), .d (.int .u8 x1.Graph.To.2.1.2.2.1), .d (.int .u8 x1.Graph.To.2.1.2.2.2.1), .d (.int .u8 x1.Graph.To.2.1.2.2.2.2), .d (.int .u8 x1.Graph.To.2.2.1.1), .d (.int .u8 x1.Graph.To.2.2.1.2.1), .d (.int .u8 x1.Graph.To.2.2.1.2.2.1), .d (.int .u8 x1.Graph.To.2.2.1.2.2.2.1), .d (.int .u8 x1.Graph.To.2.2.1.2.2.2.2), .d (.int .u8 x1.Graph.To.2.2.2.1.1), .d (.int .u8 x1.Graph.To.2.2.2.1.2.1), .d (.int .u8 x1.Graph.To.2.2.2.1.2.2.1), .d (.int .u8 x1.Graph.To.2.2.2.1.2.2.2.1), .d (.int .u8 x1.Graph.To.2.2.2.1.2.2.2.2), .d (.int .u8 x1.Graph.To.2.2.2.2.1), .d (.int .u8 x1.Graph.To.2.2.2.2.2.1), .d (.int .u8 x1.Graph.To.2.2.2.2.2.2.1), .d (.int .u8 x1.Graph.To.2.2.2.2.2.2.2.1), .d (.int .u8 x1.Graph.To.2.2.2.2.2.2.2.2), .d (.int .i64 x1.State), .d (.lst 1 (List.map (eI .i64) x1.Word))])), (3, .cells ([.d (.lst 1 (List.map (eI .i64) x14.Alphabet)), .d (.int .i64 x14.States), .d (.lst 1 (List.map (eI .i64) x14.Marked)), .d (.lst 3 (List.map e_api_Edge x14.Edges))])), (13, .cells ([.d (.int .i64 x29)]))]) M, Γ.n0 + 156⟩) h (fun z h => ?_) (fun z h => ?_)
          ·refine Tr.block (sr ((md rfl (md rfl (nt ((Tr.rgn (md rfl (md rfl ?_)))))))))
           refine bsplit loops31 (fun hb35 => ?_) (fun hb35 => ?_)
           ·replace h := bT hb35 h
            refine Rn.fldP (o' := 3) (gw rfl hb35) rfl rfl (Rn.load (v := .d (.lst 3 (List.map e_api_Edge x14.Edges))) (gw rfl hb35) rfl (boxOwn rfl) rfl rfl (Rn.movD (gw rfl hb35) rfl (Rn.load (v := .d (.int .i64 x29)) (gw rfl hb35) rfl (boxOwn rfl) rfl rfl (Rn.movD (gw rfl hb35) rfl (Rn.build (v := .agg [.d (.int .i64 x32), .d (.int .i64 x29), .d (.int .i64 x32)]) (gw rfl hb35) rfl ?_)))))
            obtain ⟨x37, h36, h⟩ := bnd h
            refine Rn.call (args := [.d (.lst 3 (List.map e_api_Edge x14.Edges)), .agg [.d (.int .i64 x32), .d (.int .i64 x29), .d (.int .i64 x32)]]) (gw rfl hb35) rfl (H_slices_Contains_Edge _ _ _ h36) pc9 (Rn.pickT (v := .d (.bool x37)) trivial rfl hb35 rfl (md rfl (Rn.nil ?_)))
            replace h := si h; subst h
            show WeakSt Γ _ ⟨look _, memOf _ (bxs _) _, _⟩; exact weak_cut [] ⟨(kPtr rfl), ⟨(kPtr rfl), ⟨(.same rfl), ⟨(.same rfl), ⟨(.same rfl), ⟨(.same rfl), ⟨(.same rfl), ⟨(.same rfl), ⟨(.same rfl), ⟨(.same rfl), ⟨(kPtr rfl), ⟨(.same rfl), ⟨(.same rfl), ⟨(.same rfl), ⟨(.same rfl), ⟨(.same rfl), ⟨(.same rfl), trivial⟩⟩⟩⟩⟩⟩⟩⟩⟩⟩⟩⟩⟩⟩⟩⟩⟩ ⟨⟨_, rfl, rfl, (.same rfl)⟩, ⟨⟨_, rfl, rfl, (.same rfl)⟩, ⟨⟨_, rfl, rfl, (.same rfl)⟩, trivial⟩⟩⟩ rfl
           ·replace h := bF hb35 h
            refine Rn.sk (nw rfl hb35) (Rn.sk (nw rfl hb35) (Rn.sk (nw rfl hb35) (Rn.sk (nw rfl hb35) (Rn.sk (nw rfl hb35) (Rn.sk (nw rfl hb35) (Rn.sk (nw rfl hb35) (Rn.pickF (v := .d (.bool false)) trivial rfl hb35 rfl (md rfl (Rn.nil ?_)))))))))
            replace h := si h; subst h
            show WeakSt Γ _ ⟨look _, memOf _ (bxs _) _, _⟩; exact weak_cut [] ⟨(kPtr rfl), ⟨(kPtr rfl), ⟨(.same rfl), ⟨(.same rfl), ⟨(.same rfl), ⟨(.same rfl), ⟨(.same rfl), ⟨(.same rfl), ⟨(.same rfl), ⟨(.same rfl), ⟨(kPtr rfl), ⟨(.same rfl), ⟨(.same rfl), ⟨(.same rfl), ⟨(.same rfl), ⟨(.same rfl), ⟨(.same rfl), trivial⟩⟩⟩⟩⟩⟩⟩⟩⟩⟩⟩⟩⟩⟩⟩⟩⟩ ⟨⟨_, rfl, rfl, (.same rfl)⟩, ⟨⟨_, rfl, rfl, (.same rfl)⟩, ⟨⟨_, rfl, rfl, (.same rfl)⟩, trivial⟩⟩⟩ rfl
          ·obtain ⟨loops38, rfl⟩ : ∃ x, x = z := ⟨_, rfl⟩
           refine Tr.rgn (Rn.bin trivial rfl rfl rfl (md rfl (Rn.nil ?_)))
           exact ⟨_, h, (by show WeakSt Γ (clean _ _ _) ⟨look _, memOf _ (bxs _) _, _⟩; exact weak_clean ⟨(kPtr rfl), ⟨(kPtr rfl), ⟨(.same rfl), ⟨(.same rfl), ⟨(.same rfl), ⟨(.same rfl), ⟨(.same rfl), ⟨(.same rfl), ⟨(.same rfl), ⟨(.same rfl), ⟨(kPtr rfl), ⟨(.same rfl), ⟨(.same rfl), ⟨(.same rfl), ⟨(.same rfl), ⟨(.same rfl), ⟨(.same rfl), trivial⟩⟩⟩⟩⟩⟩⟩⟩⟩⟩⟩⟩⟩⟩⟩⟩⟩ ⟨⟨_, rfl, rfl, (.same rfl)⟩, ⟨⟨_, rfl, rfl, (.same rfl)⟩, ⟨⟨_, rfl, rfl, (.same rfl)⟩, trivial⟩⟩⟩ rfl)⟩
         ·replace h := ifF hb34 h
          refine Tr.exit ?_
          replace h := si h; subst h
          show WeakSt Γ _ ⟨look _, memOf _ (bxs _) _, _⟩; exact weak_cut [] ⟨(kPtr rfl), ⟨(kPtr rfl), ⟨(.same rfl), ⟨(.same rfl), ⟨(.same rfl), ⟨(.same rfl), ⟨(.same rfl), ⟨(.same rfl), ⟨(.same rfl), ⟨(.same rfl), ⟨(kPtr rfl), ⟨(.same rfl), ⟨(.same rfl), ⟨(.same rfl), ⟨(.same rfl), trivial⟩⟩⟩⟩⟩⟩⟩⟩⟩⟩⟩⟩⟩⟩⟩ ⟨⟨_, rfl, rfl, (.same rfl)⟩, ⟨⟨_, rfl, rfl, (.same rfl)⟩, ⟨⟨_, rfl, rfl, (.same rfl)⟩, trivial⟩⟩⟩ rfl
       ·obtain ⟨loops39, rfl⟩ : ∃ x, x = z := ⟨_, rfl⟩
        refine Tr.cutB (fun (quiet43 : List Int) => ⟨look [(1, .ptr (Γ.n0 + 1) 0), (3, .ptr (Γ.n0 + 3) 0), (4, .d (.lst 1 (List.map (eI .i64) r16))), (5, .d (.int .i64 r17)), (6, .d (.lst 1 (List.map (eI .i64) r19))), (7, .d (.int .i64 r20)), (8, .d (.bool r22)), (9, .d (.int .i64 r23)), (10, .own 1 (List.map (eI .i64) quiet43)), (11, .own 1 (List.map (eI .i64) no25)), (13, .ptr (Γ.n0 + 13) 0), (64, .d (.lst 1 (List.map (eI .i64) x14.Alphabet))), (65, .d (.int .i64 (x14.Alphabet.length : Int))), (66, .d (.int .i64 x26))], memOf Γ.n0 (bxs [(1, .cells ([.d (.int .u8 x1.Set), .d (.int .u8 x1.Graph.States), .d (.int .u8 x1.Graph.Marks), .d (.int .u8 x1.Graph.To.1.1), .d (.int .u8 x1.Graph.To.1.2.1), .d (.int .u8 x1.Graph.To.1.2.2.1), .d (.int .u8 x1.Graph.To.1.2.2.2.1), .d (.int .u8 x1.Graph.To.1.2.2.2.2), .d (.int .u8 x1.Graph.To.2.1.1), .d (.int .u8 x1.Graph.To.2.1.2.1), .d (.int .u8 x1.Graph.To.2.1.2.2.1), .d (.int .u8 x1.Graph.To.2.1.2.2.2.1), .d (.int .u8 x1.Graph.To.2.1.2.2.2.2), .d (.int .u8 x1.Graph.To.2.2.1.1), .d (.int .u8 x1.Graph.To.2.2.1.2.1), .d (.int .u8 x1.Graph.To.2.2.1.2.2.1), .d (.int .u8 x1.Graph.To.2.2.1.2.2.2.1), .d (.int .u8 x1.Graph.To.2.2.1.2.2.2.2), .d (.int .u8 x1.Graph.To.2.2.2.1.1), .d (.int .u8 x1.Graph.To.2.2.2.1.2.1), .d (.int .u8 x1.Graph.To.2.2.2.1.2.2.1), .d (.int .u8 x1.Graph.To.2.2.2.1.2.2.2.1), .d (.int .u8 x1.Graph.To.2.2.2.1.2.2.2.2), .d (.int .u8 x1.Graph.To.2.2.2.2.1), .d (.int .u8 x1.Graph.To.2.2.2.2.2.1), .d (.int .u8 x1.Graph.To.2.2.2.2.2.2.1), .d (.int .u8 x1.Graph.To.2.2.2.2.2.2.2.1), .d (.int .u8 x1.Graph.To.2.2.2.2.2.2.2.2), .d (.int .i64 x1.State), .d (.lst 1 (List.map (eI .i64) x1.Word))])), (3, .cells ([.d (.lst 1 (List.map (eI .i64) x14.Alphabet)), .d (.int .i64 x14.States), .d (.lst 1 (List.map (eI .i64) x14.Marked)), .d (.lst 3 (List.map e_api_Edge x14.Edges))])), (13, .cells ([.d (.int .i64 x29)]))]) M, Γ.n0 + 156⟩) h (fun z h => ?_) (fun z h => ?_)
        ·refine sr ((md rfl (Rn.nil (toN ?_))))
         refine Tr.cond rfl (fun hb40 => ?_) (fun hb40 => ?_)
         ·replace h := bT hb40 h
          refine Tr.rgn (Rn.movTO trivial rfl (Rn.load (v := .d (.int .i64 x29)) trivial rfl (boxOwn rfl) rfl rfl (Rn.bslice (xs := [.d (.int .i64 x29)]) (cs := [.d (.int .i64 x29)]) trivial rfl rfl rfl rfl ?_)))
          obtain ⟨x41, h42, h⟩ := bnd h
          refine Rn.app (e := (eI .i64)) trivial rfl rfl rfl (elems_box rfl rfl rfl) h42 rfl (Rn.movTO trivial rfl (Rn.nil ?_))
          replace h := si h; subst h
          show WeakSt Γ _ ⟨look _, memOf _ (bxs _) _, _⟩; exact weak_cut [89] ⟨(kPtr rfl), ⟨(kPtr rfl), ⟨(.same rfl), ⟨(.same rfl), ⟨(.same rfl), ⟨(.same rfl), ⟨(.same rfl), ⟨(.same rfl), ⟨(.same rfl), ⟨(.same rfl), ⟨(kPtr rfl), ⟨(.same rfl), ⟨(.same rfl), ⟨(.same rfl), trivial⟩⟩⟩⟩⟩⟩⟩⟩⟩⟩⟩⟩⟩⟩ ⟨⟨_, rfl, rfl, (.same rfl)⟩, ⟨⟨_, rfl, rfl, (.same rfl)⟩, ⟨⟨_, rfl, rfl, (.same rfl)⟩, trivial⟩⟩⟩ rfl
         ·replace h := bF hb40 h
          refine Tr.skip ?_
          replace h := si h; subst h
          show WeakSt Γ _ ⟨look _, memOf _ (bxs _) _, _⟩; exact weak_cut [] ⟨(kPtr rfl), ⟨(kPtr rfl), ⟨(.same rfl), ⟨(.same rfl), ⟨(.same rfl), ⟨(.same rfl), ⟨(.same rfl), ⟨(.same rfl), ⟨(.same rfl), ⟨(.same rfl), ⟨(kPtr rfl), ⟨(.same rfl), ⟨(.same rfl), ⟨(.same rfl), trivial⟩⟩⟩⟩⟩⟩⟩⟩⟩⟩⟩⟩⟩⟩ ⟨⟨_, rfl, rfl, (.same rfl)⟩, ⟨⟨_, rfl, rfl, (.same rfl)⟩, ⟨⟨_, rfl, rfl, (.same rfl)⟩, trivial⟩⟩⟩ rfl
        ·obtain ⟨quiet43, rfl⟩ : ∃ x, x = z := ⟨_, rfl⟩
         refine sr ((Rn.fldP (o' := 3) trivial rfl rfl (Rn.load (v := .d (.lst 3 (List.map e_api_Edge x14.Edges))) trivial rfl (boxOwn rfl) rfl rfl (Rn.k (v := .clo 39 [.ptr (Γ.n0 + 1) 0, .ptr (Γ.n0 + 13) 0]) trivial rfl rfl rfl ?_))))
         obtain ⟨x48, h47, h⟩ := bnd h
         refine Rn.callM (args := [.d (.lst 3 (List.map e_api_Edge x14.Edges)), .clo 39 [.ptr (Γ.n0 + 1) 0, .ptr (Γ.n0 + 13) 0]]) trivial rfl (fun M2 nb2 hn hx => H_slices_ContainsFunc_Edge _ _ 39 [.ptr (Γ.n0 + 1) 0, .ptr (Γ.n0 + 13) 0] _ h47 M2 nb2 rfl ⟨thereOf (hx _ _ (boxOwn rfl)), thereOf (hx _ _ (boxOwn rfl)), trivial⟩ (fun a44 r45 h46 M3 nb3 hn3 hx3 => H_overseerlaw21_RequirementAsks_1 a44 (overseerlaw21_Asked.mk x1.Set (overseerlaw03_Graph.mk x1.Graph.States x1.Graph.Marks ((x1.Graph.To.1.1, x1.Graph.To.1.2.1, x1.Graph.To.1.2.2.1, x1.Graph.To.1.2.2.2.1, x1.Graph.To.1.2.2.2.2), (x1.Graph.To.2.1.1, x1.Graph.To.2.1.2.1, x1.Graph.To.2.1.2.2.1, x1.Graph.To.2.1.2.2.2.1, x1.Graph.To.2.1.2.2.2.2), (x1.Graph.To.2.2.1.1, x1.Graph.To.2.2.1.2.1, x1.Graph.To.2.2.1.2.2.1, x1.Graph.To.2.2.1.2.2.2.1, x1.Graph.To.2.2.1.2.2.2.2), (x1.Graph.To.2.2.2.1.1, x1.Graph.To.2.2.2.1.2.1, x1.Graph.To.2.2.2.1.2.2.1, x1.Graph.To.2.2.2.1.2.2.2.1, x1.Graph.To.2.2.2.1.2.2.2.2), (x1.Graph.To.2.2.2.2.1, x1.Graph.To.2.2.2.2.2.1, x1.Graph.To.2.2.2.2.2.2.1, x1.Graph.To.2.2.2.2.2.2.2.1, x1.Graph.To.2.2.2.2.2.2.2.2))) x1.State x1.Word) x29 (Γ.n0 + 1) (Γ.n0 + 13) r45 h46 M3 nb3 ((hx.trans hx3) _ _ (boxOwn rfl)) ((hx.trans hx3) _ _ (boxOwn rfl)))) rfl pc9 ?_
         refine Rn.un trivial rfl rfl (Rn.nil (toN ?_))
         refine Tr.cond rfl (fun hb49 => ?_) (fun hb49 => ?_)
         ·have hb49 := nT' hb49
          replace h := bF hb49 h
          refine Tr.rgn (Rn.movTO trivial rfl (Rn.load (v := .d (.int .i64 x29)) trivial rfl (boxOwn rfl) rfl rfl (Rn.bslice (xs := [.d (.int .i64 x29)]) (cs := [.d (.int .i64 x29)]) trivial rfl rfl rfl rfl ?_)))
          obtain ⟨x50, h51, h⟩ := bnd h
          refine Rn.app (e := (eI .i64)) trivial rfl rfl rfl (elems_box rfl rfl rfl) h51 rfl (Rn.movTO trivial rfl (Rn.nil ?_))
          replace h := si h; subst h
          show WeakSt Γ _ ⟨look _, memOf _ (bxs _) _, _⟩; exact weak_cut [98] ⟨(kPtr rfl), ⟨(kPtr rfl), ⟨(.same rfl), ⟨(.same rfl), ⟨(.same rfl), ⟨(.same rfl), ⟨(.same rfl), ⟨(.same rfl), ⟨(.same rfl), ⟨(.same rfl), ⟨(.same rfl), ⟨(.same rfl), ⟨(.same rfl), trivial⟩⟩⟩⟩⟩⟩⟩⟩⟩⟩⟩⟩⟩ ⟨⟨_, rfl, rfl, (.same rfl)⟩, ⟨⟨_, rfl, rfl, (.same rfl)⟩, ⟨⟨_, rfl, rfl, (.same rfl)⟩, trivial⟩⟩⟩ rfl
         ·have hb49 := nF' hb49
          replace h := bT hb49 h
          refine Tr.skip ?_
          replace h := si h; subst h
          show WeakSt Γ _ ⟨look _, memOf _ (bxs _) _, _⟩; exact weak_cut [] ⟨(kPtr rfl), ⟨(kPtr rfl), ⟨(.same rfl), ⟨(.same rfl), ⟨(.same rfl), ⟨(.same rfl), ⟨(.same rfl), ⟨(.same rfl), ⟨(.same rfl), ⟨(.same rfl), ⟨(.same rfl), ⟨(.same rfl), ⟨(.same rfl), trivial⟩⟩⟩⟩⟩⟩⟩⟩⟩⟩⟩⟩⟩ ⟨⟨_, rfl, rfl, (.same rfl)⟩, ⟨⟨_, rfl, rfl, (.same rfl)⟩, ⟨⟨_, rfl, rfl, (.same rfl)⟩, trivial⟩⟩⟩ rfl
      ·obtain ⟨quiet52, no53, event54⟩ := z
       refine Tr.rgn (Rn.bin trivial rfl rfl rfl (md rfl (Rn.nil ?_)))
       exact ⟨_, h, (by show WeakSt Γ (clean _ _ _) ⟨look _, memOf _ (bxs _) _, _⟩; exact weak_clean ⟨(kPtr rfl), ⟨(kPtr rfl), ⟨(.same rfl), ⟨(.same rfl), ⟨(.same rfl), ⟨(.same rfl), ⟨(.same rfl), ⟨(.same rfl), ⟨(.same rfl), ⟨(.same rfl), ⟨(.same rfl), ⟨(.same rfl), ⟨(.same rfl), trivial⟩⟩⟩⟩⟩⟩⟩⟩⟩⟩⟩⟩⟩ ⟨⟨_, rfl, rfl, (.same rfl)⟩, ⟨⟨_, rfl, rfl, (.same rfl)⟩, trivial⟩⟩ rfl)⟩
     ·replace h := ifF hb28 h
      refine Tr.exit ?_
      replace h := si h; subst h
      show WeakSt Γ _ ⟨look _, memOf _ (bxs _) _, _⟩; exact weak_cut [] ⟨(kPtr rfl), ⟨(kPtr rfl), ⟨(.same rfl), ⟨(.same rfl), ⟨(.same rfl), ⟨(.same rfl), ⟨(.same rfl), ⟨(.same rfl), ⟨(.same rfl), ⟨(.same rfl), trivial⟩⟩⟩⟩⟩⟩⟩⟩⟩⟩ ⟨⟨_, rfl, rfl, (.same rfl)⟩, ⟨⟨_, rfl, rfl, (.same rfl)⟩, trivial⟩⟩ rfl
   ·obtain ⟨quiet55, no56⟩ := z
    refine Tr.seq ?_
    refine Tr.cutB (fun (x60 : Bool) => ⟨look [(1, .ptr (Γ.n0 + 1) 0), (3, .ptr (Γ.n0 + 3) 0), (6, .d (.lst 1 (List.map (eI .i64) r19))), (7, .d (.int .i64 r20)), (8, .d (.bool r22)), (9, .d (.int .i64 r23)), (11, .own 1 (List.map (eI .i64) no56)), (108, .d (.bool x60))], memOf Γ.n0 (bxs [(1, .cells ([.d (.int .u8 x1.Set), .d (.int .u8 x1.Graph.States), .d (.int .u8 x1.Graph.Marks), .d (.int .u8 x1.Graph.To.1.1), .d (.int .u8 x1.Graph.To.1.2.1), .d (.int .u8 x1.Graph.To.1.2.2.1), .d (.int .u8 x1.Graph.To.1.2.2.2.1), .d (.int .u8 x1.Graph.To.1.2.2.2.2), .d (.int .u8 x1.Graph.To.2.1.1), .d (.int .u8 x1.Graph.To.2.1.2.1), .d (.int .u8 x1.Graph.To.2.1.2.2.1), .d (.int .u8 x1.Graph.To.2.1.2.2.2.1), .d (.int .u8 x1.Graph.To.2.1.2.2.2.2), .d (.int .u8 x1.Graph.To.2.2.1.1), .d (.int .u8 x1.Graph.To.2.2.1.2.1), .d (.int .u8 x1.Graph.To.2.2.1.2.2.1), .d (.int .u8 x1.Graph.To.2.2.1.2.2.2.1), .d (.int .u8 x1.Graph.To.2.2.1.2.2.2.2), .d (.int .u8 x1.Graph.To.2.2.2.1.1), .d (.int .u8 x1.Graph.To.2.2.2.1.2.1), .d (.int .u8 x1.Graph.To.2.2.2.1.2.2.1), .d (.int .u8 x1.Graph.To.2.2.2.1.2.2.2.1), .d (.int .u8 x1.Graph.To.2.2.2.1.2.2.2.2), .d (.int .u8 x1.Graph.To.2.2.2.2.1), .d (.int .u8 x1.Graph.To.2.2.2.2.2.1), .d (.int .u8 x1.Graph.To.2.2.2.2.2.2.1), .d (.int .u8 x1.Graph.To.2.2.2.2.2.2.2.1), .d (.int .u8 x1.Graph.To.2.2.2.2.2.2.2.2), .d (.int .i64 x1.State), .d (.lst 1 (List.map (eI .i64) x1.Word))])), (3, .cells ([.d (.lst 1 (List.map (eI .i64) x14.Alphabet)), .d (.int .i64 x14.States), .d (.lst 1 (List.map (eI .i64) x14.Marked)), .d (.lst 3 (List.map e_api_Edge x14.Edges))]))]) M, Γ.n0 + 156⟩) h (fun z h => ?_) (fun z h => ?_)
    ·refine Tr.rgn (md rfl (Rn.bin trivial rfl rfl rfl (md rfl ?_)))
     refine bsplit (r17 != 0) (fun hb57 => ?_) (fun hb57 => ?_)
     ·replace h := bT hb57 h
      refine Rn.sk (nw rfl hb57) (Rn.sk (nw rfl hb57) (Rn.sk (nw rfl hb57) (Rn.sk (nw rfl hb57) (Rn.pickT (v := .d (.bool true)) trivial rfl hb57 rfl (Rn.nil ?_)))))
      replace h := si h; subst h
      show WeakSt Γ _ ⟨look _, memOf _ (bxs _) _, _⟩; exact weak_cut [] ⟨(kPtr rfl), ⟨(kPtr rfl), ⟨(.same rfl), ⟨(.same rfl), ⟨(.same rfl), ⟨(.same rfl), ⟨(.same rfl), ⟨(.same rfl), trivial⟩⟩⟩⟩⟩⟩⟩⟩ ⟨⟨_, rfl, rfl, (.same rfl)⟩, ⟨⟨_, rfl, rfl, (.same rfl)⟩, trivial⟩⟩ rfl
     ·replace h := bF hb57 h
      refine Rn.movD (gw rfl hb57) rfl (Rn.mov (v := .d (.lst 1 (List.map (eI .i64) quiet55))) (gw rfl hb57) rfl ?_)
      obtain ⟨x59, h58, h⟩ := bnd h
      refine Rn.call (args := [.d (.lst 1 (List.map (eI .i64) r16)), .d (.lst 1 (List.map (eI .i64) quiet55))]) (gw rfl hb57) rfl (H_slices_Equal_int _ _ _ h58) pc9 (Rn.un (gw rfl hb57) rfl rfl (Rn.pickF (v := .d (.bool (!x59))) trivial rfl hb57 rfl (Rn.nil ?_)))
      replace h := si h; subst h
      show WeakSt Γ _ ⟨look _, memOf _ (bxs _) _, _⟩; exact weak_cut [] ⟨(kPtr rfl), ⟨(kPtr rfl), ⟨(.same rfl), ⟨(.same rfl), ⟨(.same rfl), ⟨(.same rfl), ⟨(.same rfl), ⟨(.same rfl), trivial⟩⟩⟩⟩⟩⟩⟩⟩ ⟨⟨_, rfl, rfl, (.same rfl)⟩, ⟨⟨_, rfl, rfl, (.same rfl)⟩, trivial⟩⟩ rfl
    ·obtain ⟨x60, rfl⟩ : ∃ x, x = z := ⟨_, rfl⟩
     refine Tr.cond rfl (fun hb61 => ?_) (fun hb61 => ?_)
     ·replace h := bT hb61 h
      refine sr ((md rfl (nt ((Tr.ret ?_)))))
      replace h := si h; subst h
      exact ⟨.inr rfl, (.d (.bool false)), rfl, fun _ _ _ _ h => h, trivial, fun k hk => memOf_base hk⟩
     ·replace h := bF hb61 h
      refine Tr.skip (toN ?_)
      refine Tr.cutJ (fun (_ : Unit) => ⟨look [(1, .ptr (Γ.n0 + 1) 0), (3, .ptr (Γ.n0 + 3) 0), (8, .d (.bool r22)), (9, .d (.int .i64 r23))], memOf Γ.n0 (bxs [(1, .cells ([.d (.int .u8 x1.Set), .d (.int .u8 x1.Graph.States), .d (.int .u8 x1.Graph.Marks), .d (.int .u8 x1.Graph.To.1.1), .d (.int .u8 x1.Graph.To.1.2.1), .d (.int .u8 x1.Graph.To.1.2.2.1), .d (.int .u8 x1.Graph.To.1.2.2.2.1), .d (.int .u8 x1.Graph.To.1.2.2.2.2), .d (.int .u8 x1.Graph.To.2.1.1), .d (.int .u8 x1.Graph.To.2.1.2.1), .d (.int .u8 x1.Graph.To.2.1.2.2.1), .d (.int .u8 x1.Graph.To.2.1.2.2.2.1), .d (.int .u8 x1.Graph.To.2.1.2.2.2.2), .d (.int .u8 x1.Graph.To.2.2.1.1), .d (.int .u8 x1.Graph.To.2.2.1.2.1), .d (.int .u8 x1.Graph.To.2.2.1.2.2.1), .d (.int .u8 x1.Graph.To.2.2.1.2.2.2.1), .d (.int .u8 x1.Graph.To.2.2.1.2.2.2.2), .d (.int .u8 x1.Graph.To.2.2.2.1.1), .d (.int .u8 x1.Graph.To.2.2.2.1.2.1), .d (.int .u8 x1.Graph.To.2.2.2.1.2.2.1), .d (.int .u8 x1.Graph.To.2.2.2.1.2.2.2.1), .d (.int .u8 x1.Graph.To.2.2.2.1.2.2.2.2), .d (.int .u8 x1.Graph.To.2.2.2.2.1), .d (.int .u8 x1.Graph.To.2.2.2.2.2.1), .d (.int .u8 x1.Graph.To.2.2.2.2.2.2.1), .d (.int .u8 x1.Graph.To.2.2.2.2.2.2.2.1), .d (.int .u8 x1.Graph.To.2.2.2.2.2.2.2.2), .d (.int .i64 x1.State), .d (.lst 1 (List.map (eI .i64) x1.Word))])), (3, .cells ([.d (.lst 1 (List.map (eI .i64) x14.Alphabet)), .d (.int .i64 x14.States), .d (.lst 1 (List.map (eI .i64) x14.Marked)), .d (.lst 3 (List.map e_api_Edge x14.Edges))]))]) M, Γ.n0 + 156⟩) h (fun J85 h => ?_) (fun z h => ?_)
      ·refine Tr.cutB (fun (x63 : Bool) => ⟨look [(1, .ptr (Γ.n0 + 1) 0), (3, .ptr (Γ.n0 + 3) 0), (6, .d (.lst 1 (List.map (eI .i64) r19))), (7, .d (.int .i64 r20)), (8, .d (.bool r22)), (9, .d (.int .i64 r23)), (11, .own 1 (List.map (eI .i64) no56)), (118, .d (.bool x63))], memOf Γ.n0 (bxs [(1, .cells ([.d (.int .u8 x1.Set), .d (.int .u8 x1.Graph.States), .d (.int .u8 x1.Graph.Marks), .d (.int .u8 x1.Graph.To.1.1), .d (.int .u8 x1.Graph.To.1.2.1), .d (.int .u8 x1.Graph.To.1.2.2.1), .d (.int .u8 x1.Graph.To.1.2.2.2.1), .d (.int .u8 x1.Graph.To.1.2.2.2.2), .d (.int .u8 x1.Graph.To.2.1.1), .d (.int .u8 x1.Graph.To.2.1.2.1), .d (.int .u8 x1.Graph.To.2.1.2.2.1), .d (.int .u8 x1.Graph.To.2.1.2.2.2.1), .d (.int .u8 x1.Graph.To.2.1.2.2.2.2), .d (.int .u8 x1.Graph.To.2.2.1.1), .d (.int .u8 x1.Graph.To.2.2.1.2.1), .d (.int .u8 x1.Graph.To.2.2.1.2.2.1), .d (.int .u8 x1.Graph.To.2.2.1.2.2.2.1), .d (.int .u8 x1.Graph.To.2.2.1.2.2.2.2), .d (.int .u8 x1.Graph.To.2.2.2.1.1), .d (.int .u8 x1.Graph.To.2.2.2.1.2.1), .d (.int .u8 x1.Graph.To.2.2.2.1.2.2.1), .d (.int .u8 x1.Graph.To.2.2.2.1.2.2.2.1), .d (.int .u8 x1.Graph.To.2.2.2.1.2.2.2.2), .d (.int .u8 x1.Graph.To.2.2.2.2.1), .d (.int .u8 x1.Graph.To.2.2.2.2.2.1), .d (.int .u8 x1.Graph.To.2.2.2.2.2.2.1), .d (.int .u8 x1.Graph.To.2.2.2.2.2.2.2.1), .d (.int .u8 x1.Graph.To.2.2.2.2.2.2.2.2), .d (.int .i64 x1.State), .d (.lst 1 (List.map (eI .i64) x1.Word))])), (3, .cells ([.d (.lst 1 (List.map (eI .i64) x14.Alphabet)), .d (.int .i64 x14.States), .d (.lst 1 (List.map (eI .i64) x14.Marked)), .d (.lst 3 (List.map e_api_Edge x14.Edges))]))]) M, Γ.n0 + 156⟩) h (fun z h => ?_) (fun z h => ?_)
       ·refine Tr.rgn (Rn.fldP (o' := 28) trivial rfl rfl (Rn.load (v := .d (.int .i64 x1.State)) trivial rfl (boxOwn rfl) rfl rfl (Rn.bin trivial rfl rfl rfl (md rfl ?_))))
        refine bsplit (decide (x1.State < 0)) (fun hb62 => ?_) (fun hb62 => ?_)
        ·replace h := ifT hb62 h
         refine Rn.sk (nw rfl hb62) (Rn.sk (nw rfl hb62) (Rn.sk (nw rfl hb62) (Rn.sk (nw rfl hb62) (Rn.sk (nw rfl hb62) (Rn.pickT (v := .d (.bool true)) trivial rfl hb62 rfl (Rn.nil ?_))))))
         replace h := si h; subst h
         show WeakSt Γ _ ⟨look _, memOf _ (bxs _) _, _⟩; exact weak_cut [] ⟨(kPtr rfl), ⟨(kPtr rfl), ⟨(.same rfl), ⟨(.same rfl), ⟨(.same rfl), ⟨(.same rfl), ⟨(.same rfl), ⟨(.same rfl), trivial⟩⟩⟩⟩⟩⟩⟩⟩ ⟨⟨_, rfl, rfl, (.same rfl)⟩, ⟨⟨_, rfl, rfl, (.same rfl)⟩, trivial⟩⟩ rfl
        ·replace h := ifF hb62 h
         refine Rn.fldP (o' := 28) (gw rfl hb62) rfl rfl (Rn.load (v := .d (.int .i64 x1.State)) (gw rfl hb62) rfl (boxOwn rfl) rfl rfl (Rn.fldP (o' := 1) (gw rfl hb62) rfl rfl (Rn.load (v := .d (.int .i64 x14.States)) (gw rfl hb62) rfl (boxOwn rfl) rfl rfl (Rn.bin (gw rfl hb62) rfl rfl rfl (Rn.pickF (v := .d (.bool (decide (x1.State ≥ x14.States)))) trivial rfl hb62 rfl (Rn.nil ?_))))))
         replace h := si h; subst h
         show WeakSt Γ _ ⟨look _, memOf _ (bxs _) _, _⟩; exact weak_cut [] ⟨(kPtr rfl), ⟨(kPtr rfl), ⟨(.same rfl), ⟨(.same rfl), ⟨(.same rfl), ⟨(.same rfl), ⟨(.same rfl), ⟨(.same rfl), trivial⟩⟩⟩⟩⟩⟩⟩⟩ ⟨⟨_, rfl, rfl, (.same rfl)⟩, ⟨⟨_, rfl, rfl, (.same rfl)⟩, trivial⟩⟩ rfl
       ·obtain ⟨x63, rfl⟩ : ∃ x, x = z := ⟨_, rfl⟩
        refine Tr.cond rfl (fun hb64 => ?_) (fun hb64 => ?_)
        ·replace h := bT hb64 h
         refine Tr.cutB (fun (x66 : Bool) => ⟨look [(1, .ptr (Γ.n0 + 1) 0), (3, .ptr (Γ.n0 + 3) 0), (8, .d (.bool r22)), (9, .d (.int .i64 r23)), (125, .d (.bool x66))], memOf Γ.n0 (bxs [(1, .cells ([.d (.int .u8 x1.Set), .d (.int .u8 x1.Graph.States), .d (.int .u8 x1.Graph.Marks), .d (.int .u8 x1.Graph.To.1.1), .d (.int .u8 x1.Graph.To.1.2.1), .d (.int .u8 x1.Graph.To.1.2.2.1), .d (.int .u8 x1.Graph.To.1.2.2.2.1), .d (.int .u8 x1.Graph.To.1.2.2.2.2), .d (.int .u8 x1.Graph.To.2.1.1), .d (.int .u8 x1.Graph.To.2.1.2.1), .d (.int .u8 x1.Graph.To.2.1.2.2.1), .d (.int .u8 x1.Graph.To.2.1.2.2.2.1), .d (.int .u8 x1.Graph.To.2.1.2.2.2.2), .d (.int .u8 x1.Graph.To.2.2.1.1), .d (.int .u8 x1.Graph.To.2.2.1.2.1), .d (.int .u8 x1.Graph.To.2.2.1.2.2.1), .d (.int .u8 x1.Graph.To.2.2.1.2.2.2.1), .d (.int .u8 x1.Graph.To.2.2.1.2.2.2.2), .d (.int .u8 x1.Graph.To.2.2.2.1.1), .d (.int .u8 x1.Graph.To.2.2.2.1.2.1), .d (.int .u8 x1.Graph.To.2.2.2.1.2.2.1), .d (.int .u8 x1.Graph.To.2.2.2.1.2.2.2.1), .d (.int .u8 x1.Graph.To.2.2.2.1.2.2.2.2), .d (.int .u8 x1.Graph.To.2.2.2.2.1), .d (.int .u8 x1.Graph.To.2.2.2.2.2.1), .d (.int .u8 x1.Graph.To.2.2.2.2.2.2.1), .d (.int .u8 x1.Graph.To.2.2.2.2.2.2.2.1), .d (.int .u8 x1.Graph.To.2.2.2.2.2.2.2.2), .d (.int .i64 x1.State), .d (.lst 1 (List.map (eI .i64) x1.Word))])), (3, .cells ([.d (.lst 1 (List.map (eI .i64) x14.Alphabet)), .d (.int .i64 x14.States), .d (.lst 1 (List.map (eI .i64) x14.Marked)), .d (.lst 3 (List.map e_api_Edge x14.Edges))]))]) M, Γ.n0 + 156⟩) h (fun z h => ?_) (fun z h => ?_)
         ·refine Tr.rgn (md rfl (Rn.bin trivial rfl rfl rfl (md rfl ?_)))
          refine bsplit (r20 != 2) (fun hb65 => ?_) (fun hb65 => ?_)
          ·replace h := bT hb65 h
           refine Rn.sk (nw rfl hb65) (Rn.sk (nw rfl hb65) (Rn.sk (nw rfl hb65) (Rn.pickT (v := .d (.bool true)) trivial rfl hb65 rfl (Rn.nil ?_))))
           replace h := si h; subst h
           show WeakSt Γ _ ⟨look _, memOf _ (bxs _) _, _⟩; exact weak_cut [] ⟨(kPtr rfl), ⟨(kPtr rfl), ⟨(.same rfl), ⟨(.same rfl), ⟨(.same rfl), trivial⟩⟩⟩⟩⟩ ⟨⟨_, rfl, rfl, (.same rfl)⟩, ⟨⟨_, rfl, rfl, (.same rfl)⟩, trivial⟩⟩ rfl
          ·replace h := bF hb65 h
           refine Rn.movD (gw rfl hb65) rfl (Rn.lenD (gw rfl hb65) rfl (Rn.bin (gw rfl hb65) rfl rfl rfl (Rn.pickF (v := .d (.bool (decide ((r19.length : Int) > 0)))) trivial rfl hb65 rfl (Rn.nil ?_))))
           replace h := si h; subst h
           show WeakSt Γ _ ⟨look _, memOf _ (bxs _) _, _⟩; exact weak_cut [] ⟨(kPtr rfl), ⟨(kPtr rfl), ⟨(.same rfl), ⟨(.same rfl), ⟨(.same rfl), trivial⟩⟩⟩⟩⟩ ⟨⟨_, rfl, rfl, (.same rfl)⟩, ⟨⟨_, rfl, rfl, (.same rfl)⟩, trivial⟩⟩ rfl
         ·obtain ⟨x66, rfl⟩ : ∃ x, x = z := ⟨_, rfl⟩
          refine Tr.cond rfl (fun hb67 => ?_) (fun hb67 => ?_)
          ·replace h := bT hb67 h
           refine sr ((md rfl (nt ((Tr.ret ?_)))))
           replace h := si h; subst h
           exact ⟨.inr rfl, (.d (.bool false)), rfl, fun _ _ _ _ h => h, trivial, fun k hk => memOf_base hk⟩
          ·replace h := bF hb67 h
           refine Tr.skip ?_
           exact ⟨_, h, (by show WeakSt Γ _ ⟨look _, memOf _ (bxs _) _, _⟩; exact weak_cut [] ⟨(kPtr rfl), ⟨(kPtr rfl), ⟨(.same rfl), ⟨(.same rfl), trivial⟩⟩⟩⟩ ⟨⟨_, rfl, rfl, (.same rfl)⟩, ⟨⟨_, rfl, rfl, (.same rfl)⟩, trivial⟩⟩ rfl)⟩
        ·replace h := bF hb64 h
         refine Tr.cutB (fun (x71 : Bool) => ⟨look [(1, .ptr (Γ.n0 + 1) 0), (3, .ptr (Γ.n0 + 3) 0), (8, .d (.bool r22)), (9, .d (.int .i64 r23)), (133, .d (.bool x71))], memOf Γ.n0 (bxs [(1, .cells ([.d (.int .u8 x1.Set), .d (.int .u8 x1.Graph.States), .d (.int .u8 x1.Graph.Marks), .d (.int .u8 x1.Graph.To.1.1), .d (.int .u8 x1.Graph.To.1.2.1), .d (.int .u8 x1.Graph.To.1.2.2.1), .d (.int .u8 x1.Graph.To.1.2.2.2.1), .d (.int .u8 x1.Graph.To.1.2.2.2.2), .d (.int .u8 x1.Graph.To.2.1.1), .d (.int .u8 x1.Graph.To.2.1.2.1), .d (.int .u8 x1.Graph.To.2.1.2.2.1), .d (.int .u8 x1.Graph.To.2.1.2.2.2.1), .d (.int .u8 x1.Graph.To.2.1.2.2.2.2), .d (.int .u8 x1.Graph.To.2.2.1.1), .d (.int .u8 x1.Graph.To.2.2.1.2.1), .d (.int .u8 x1.Graph.To.2.2.1.2.2.1), .d (.int .u8 x1.Graph.To.2.2.1.2.2.2.1), .d (.int .u8 x1.Graph.To.2.2.1.2.2.2.2), .d (.int .u8 x1.Graph.To.2.2.2.1.1), .d (.int .u8 x1.Graph.To.2.2.2.1.2.1), .d (.int .u8 x1.Graph.To.2.2.2.1.2.2.1), .d (.int .u8 x1.Graph.To.2.2.2.1.2.2.2.1), .d (.int .u8 x1.Graph.To.2.2.2.1.2.2.2.2), .d (.int .u8 x1.Graph.To.2.2.2.2.1), .d (.int .u8 x1.Graph.To.2.2.2.2.2.1), .d (.int .u8 x1.Graph.To.2.2.2.2.2.2.1), .d (.int .u8 x1.Graph.To.2.2.2.2.2.2.2.1), .d (.int .u8 x1.Graph.To.2.2.2.2.2.2.2.2), .d (.int .i64 x1.State), .d (.lst 1 (List.map (eI .i64) x1.Word))])), (3, .cells ([.d (.lst 1 (List.map (eI .i64) x14.Alphabet)), .d (.int .i64 x14.States), .d (.lst 1 (List.map (eI .i64) x14.Marked)), .d (.lst 3 (List.map e_api_Edge x14.Edges))]))]) M, Γ.n0 + 156⟩) h (fun z h => ?_) (fun z h => ?_)
         ·refine Tr.rgn (md rfl (Rn.bin trivial rfl rfl rfl (md rfl ?_)))
          refine bsplit (r20 != 0) (fun hb68 => ?_) (fun hb68 => ?_)
          ·replace h := bT hb68 h
           refine Rn.sk (nw rfl hb68) (Rn.sk (nw rfl hb68) (Rn.sk (nw rfl hb68) (Rn.sk (nw rfl hb68) (Rn.pickT (v := .d (.bool true)) trivial rfl hb68 rfl (Rn.nil ?_)))))
           replace h := si h; subst h
           show WeakSt Γ _ ⟨look _, memOf _ (bxs _) _, _⟩; exact weak_cut [] ⟨(kPtr rfl), ⟨(kPtr rfl), ⟨(.same rfl), ⟨(.same rfl), ⟨(.same rfl), trivial⟩⟩⟩⟩⟩ ⟨⟨_, rfl, rfl, (.same rfl)⟩, ⟨⟨_, rfl, rfl, (.same rfl)⟩, trivial⟩⟩ rfl
          ·replace h := bF hb68 h
           refine Rn.movD (gw rfl hb68) rfl (Rn.mov (v := .d (.lst 1 (List.map (eI .i64) no56))) (gw rfl hb68) rfl ?_)
           obtain ⟨x70, h69, h⟩ := bnd h
           refine Rn.call (args := [.d (.lst 1 (List.map (eI .i64) r19)), .d (.lst 1 (List.map (eI .i64) no56))]) (gw rfl hb68) rfl (H_slices_Equal_int _ _ _ h69) pc9 (Rn.un (gw rfl hb68) rfl rfl (Rn.pickF (v := .d (.bool (!x70))) trivial rfl hb68 rfl (Rn.nil ?_)))
           replace h := si h; subst h
           show WeakSt Γ _ ⟨look _, memOf _ (bxs _) _, _⟩; exact weak_cut [] ⟨(kPtr rfl), ⟨(kPtr rfl), ⟨(.same rfl), ⟨(.same rfl), ⟨(.same rfl), trivial⟩⟩⟩⟩⟩ ⟨⟨_, rfl, rfl, (.same rfl)⟩, ⟨⟨_, rfl, rfl, (.same rfl)⟩, trivial⟩⟩ rfl
         ·obtain ⟨x71, rfl⟩ : ∃ x, x = z := ⟨_, rfl⟩
          refine Tr.cond rfl (fun hb72 => ?_) (fun hb72 => ?_)
          ·replace h := bT hb72 h
           refine sr ((md rfl (nt ((Tr.ret ?_)))))
           replace h := si h; subst h
           exact ⟨.inr rfl, (.d (.bool false)), rfl, fun _ _ _ _ h => h, trivial, fun k hk => memOf_base hk⟩
          ·replace h := bF hb72 h
           refine Tr.skip ?_
           exact ⟨_, h, (by show WeakSt Γ _ ⟨look _, memOf _ (bxs _) _, _⟩; exact weak_cut [] ⟨(kPtr rfl), ⟨(kPtr rfl), ⟨(.same rfl), ⟨(.same rfl), trivial⟩⟩⟩⟩ ⟨⟨_, rfl, rfl, (.same rfl)⟩, ⟨⟨_, rfl, rfl, (.same rfl)⟩, trivial⟩⟩ rfl)⟩
      ·refine sr ((md rfl (Rn.nil (toN ?_))))
       refine Tr.cutB (fun (want80 : Int) => ⟨look [(1, .ptr (Γ.n0 + 1) 0), (3, .ptr (Γ.n0 + 3) 0), (8, .d (.bool r22)), (9, .d (.int .i64 r23)), (16, .d (.int .i64 want80))], memOf Γ.n0 (bxs [(1, .cells ([.d (.int .u8 x1.Set), .d (.int .u8 x1.Graph.States), .d (.int .u8 x1.Graph.Marks), .d (.int .u8 x1.Graph.To.1.1), .d (.int .u8 x1.Graph.To.1.2.1), .d (.int .u8 x1.Graph.To.1.2.2.1), .d (.int .u8 x1.Graph.To.1.2.2.2.1), .d (.int .u8 x1.Graph.To.1.2.2.2.2), .d (.int .u8 x1.Graph.To.2.1.1), .d (.int .u8 x1.Graph.To.2.1.2.1), .d (.int .u8 x1.Graph.To.2.1.2.2.1), .d (.int .u8 x1.Graph.To.2.1.2.2.2.1), .d (.int .u8 x1.Graph.To.2.1.2.2.2.2), .d (.int .u8 x1.Graph.To.2.2.1.1), .d (.int .u8 x1.Graph.To.2.2.1.2.1), .d (.int .u8 x1.Graph.To.2.2.1.2.2.1), .d (.int .u8 x1.Graph.To.2.2.1.2.2.2.1), .d (.int .u8 x1.Graph.To.2.2.1.2.2.2.2), .d (.int .u8 x1.Graph.To.2.2.2.1.1), .d (.int .u8 x1.Graph.To.2.2.2.1.2.1), .d (.int .u8 x1.Graph.To.2.2.2.1.2.2.1), .d (.int .u8 x1.Graph.To.2.2.2.1.2.2.2.1), .d (.int .u8 x1.Graph.To.2.2.2.1.2.2.2.2), .d (.int .u8 x1.Graph.To.2.2.2.2.1), .d (.int .u8 x1.Graph.To.2.2.2.2.2.1), .d (.int .u8 x1.Graph.To.2.2.2.2.2.2.1), .d (.int .u8 x1.Graph.To.2.2.2.2.2.2.2.1), .d (.int .u8 x1.Graph.To.2.2.2.2.2.2.2.2), .d (.int .i64 x1.State), .d (.lst 1 (List.map (eI .i64) x1.Word))])), (3, .cells ([.d (.lst 1 (List.map (eI .i64) x14.Alphabet)), .d (.int .i64 x14.States), .d (.lst 1 (List.map (eI .i64) x14.Marked)), .d (.lst 3 (List.map e_api_Edge x14.Edges))]))]) M, Γ.n0 + 156⟩) h (fun z h => ?_) (fun z h => ?_)
       ·refine sr ((Rn.fldP (o' := 29) trivial rfl rfl (Rn.load (v := .d (.lst 1 (List.map (eI .i64) x1.Word))) trivial rfl (boxOwn rfl) rfl rfl (Rn.lenD trivial rfl (Rn.bin trivial rfl rfl rfl (Rn.nil (toN ?_)))))))
        refine Tr.cond rfl (fun hb73 => ?_) (fun hb73 => ?_)
        ·replace h := ifT hb73 h
         refine Tr.rgn (md rfl (Rn.nil ?_))
         replace h := si h; subst h
         show WeakSt Γ _ ⟨look _, memOf _ (bxs _) _, _⟩; exact weak_cut [] ⟨(kPtr rfl), ⟨(kPtr rfl), ⟨(.same rfl), ⟨(.same rfl), ⟨(.same rfl), trivial⟩⟩⟩⟩⟩ ⟨⟨_, rfl, rfl, (.same rfl)⟩, ⟨⟨_, rfl, rfl, (.same rfl)⟩, trivial⟩⟩ rfl
        ·replace h := ifF hb73 h
         refine sr ((Rn.fldP (o' := 29) trivial rfl rfl (Rn.load (v := .d (.lst 1 (List.map (eI .i64) x1.Word))) trivial rfl (boxOwn rfl) rfl rfl ?_)))
         obtain ⟨x78, h77, h⟩ := bnd h
         refine Rn.callM (args := [.d (.lst 1 (List.map (eI .i64) x1.Word)), .clo 41 []]) trivial rfl (fun M2 nb2 hn hx => H_slices_ContainsFunc_int _ _ 41 [] _ h77 M2 nb2 rfl trivial (fun a74 r75 h76 M3 nb3 hn3 hx3 => H_overseerlaw21_RequirementAsks_2 a74 r75 h76 M3 nb3 )) rfl pc9 ?_
         refine Rn.nil (toN ?_)
         refine Tr.cond rfl (fun hb79 => ?_) (fun hb79 => ?_)
         ·replace h := bT hb79 h
          refine Tr.rgn (md rfl (Rn.nil ?_))
          replace h := si h; subst h
          show WeakSt Γ _ ⟨look _, memOf _ (bxs _) _, _⟩; exact weak_cut [] ⟨(kPtr rfl), ⟨(kPtr rfl), ⟨(.same rfl), ⟨(.same rfl), ⟨(.same rfl), trivial⟩⟩⟩⟩⟩ ⟨⟨_, rfl, rfl, (.same rfl)⟩, ⟨⟨_, rfl, rfl, (.same rfl)⟩, trivial⟩⟩ rfl
         ·replace h := bF hb79 h
          refine Tr.skip ?_
          replace h := si h; subst h
          show WeakSt Γ _ ⟨look _, memOf _ (bxs _) _, _⟩; exact weak_cut [] ⟨(kPtr rfl), ⟨(kPtr rfl), ⟨(.same rfl), ⟨(.same rfl), ⟨(.same rfl), trivial⟩⟩⟩⟩⟩ ⟨⟨_, rfl, rfl, (.same rfl)⟩, ⟨⟨_, rfl, rfl, (.same rfl)⟩, trivial⟩⟩ rfl
       ·obtain ⟨want80, rfl⟩ : ∃ x, x = z := ⟨_, rfl⟩
        refine sr ((md rfl (md rfl (Rn.bin trivial rfl rfl rfl (md rfl ?_)))))
        refine bsplit (r23 == want80) (fun hb81 => ?_) (fun hb81 => ?_)
        ·replace h := bT hb81 h
         refine Rn.movD (gw rfl hb81) rfl (Rn.movD (gw rfl hb81) rfl (Rn.bin (gw rfl hb81) rfl rfl rfl (Rn.movD (gw rfl hb81) rfl ?_)))
         refine bsplit (want80 == 0) (fun hb82 => ?_) (fun hb82 => ?_)
         ·replace h := bT hb82 h
          refine Rn.load (v := .agg [.d (.lst 1 (List.map (eI .i64) x14.Alphabet)), .d (.int .i64 x14.States), .d (.lst 1 (List.map (eI .i64) x14.Marked)), .d (.lst 3 (List.map e_api_Edge x14.Edges))]) (gw rfl hb82) rfl (boxOwn rfl) rfl rfl (Rn.fldP (o' := 29) (gw rfl hb82) rfl rfl (Rn.load (v := .d (.lst 1 (List.map (eI .i64) x1.Word))) (gw rfl hb82) rfl (boxOwn rfl) rfl rfl ?_))
          obtain ⟨x84, h83, h⟩ := bnd h
          refine Rn.call (args := [.agg [.d (.lst 1 (List.map (eI .i64) x14.Alphabet)), .d (.int .i64 x14.States), .d (.lst 1 (List.map (eI .i64) x14.Marked)), .d (.lst 3 (List.map e_api_Edge x14.Edges))], .d (.lst 1 (List.map (eI .i64) x1.Word))]) (gw rfl hb82) rfl (H_overseerlaw21_permits _ _ _ h83) pc9 (Rn.pickT (v := .d (.bool x84)) (gw rfl hb81) rfl hb82 rfl (Rn.bin (gw rfl hb81) rfl rfl rfl (Rn.pickT (v := .d (.bool (r22 == x84))) trivial rfl hb81 rfl (md rfl (nt ((Tr.ret ?_)))))))
          replace h := si h; subst h
          exact ⟨.inr rfl, (.d (.bool (r22 == x84))), rfl, fun _ _ _ _ h => h, trivial, fun k hk => memOf_base hk⟩
         ·replace h := bF hb82 h
          refine Rn.sk (nw rfl hb82) (Rn.sk (nw rfl hb82) (Rn.sk (nw rfl hb82) (Rn.sk (nw rfl hb82) (Rn.pickF (v := .d (.bool false)) (gw rfl hb81) rfl hb82 rfl (Rn.bin (gw rfl hb81) rfl rfl rfl (Rn.pickT (v := .d (.bool (r22 == false))) trivial rfl hb81 rfl (md rfl (nt ((Tr.ret ?_))))))))))
          replace h := si h; subst h
          exact ⟨.inr rfl, (.d (.bool (r22 == false))), rfl, fun _ _ _ _ h => h, trivial, fun k hk => memOf_base hk⟩
        ·replace h := bF hb81 h
         refine Rn.sk (nw rfl hb81) (Rn.sk (nw rfl hb81) (Rn.sk (nw rfl hb81) (Rn.sk (nw rfl hb81) (Rn.sk (nu rfl) (Rn.sk (nu rfl) (Rn.sk (nu rfl) (Rn.sk (nu rfl) (Rn.sk (nw rfl hb81) (Rn.sk (nw rfl hb81) (Rn.pickF (v := .d (.bool false)) trivial rfl hb81 rfl (md rfl (nt ((Tr.ret ?_))))))))))))))
         replace h := si h; subst h
         exact ⟨.inr rfl, (.d (.bool false)), rfl, fun _ _ _ _ h => h, trivial, fun k hk => memOf_base hk⟩
end Go.Abs
end
section
namespace Go.Proofs
open Go.Abs
set_option maxRecDepth 100000
theorem C_overseerlaw21_RequirementAsks : compFn Try.prog 8 = some F_overseerlaw21_RequirementAsks := by kernel_rfl
theorem C_overseerlaw21_known : compFn Try.prog 10 = some F_overseerlaw21_known := by kernel_rfl
theorem C_requirement_AtMost : compFn Try.prog 11 = some F_requirement_AtMost := by kernel_rfl
theorem C_overseerlaw21_in : compFn Try.prog 12 = some F_overseerlaw21_in := by kernel_rfl
theorem C_slices_Contains_int : compFn Try.prog 13 = some F_slices_Contains_int := by kernel_rfl
theorem C_requirement_Buffer : compFn Try.prog 19 = some F_requirement_Buffer := by kernel_rfl
theorem C_alphabet_CheckSet : compFn Try.prog 20 = some F_alphabet_CheckSet := by kernel_rfl
theorem C_slices_ContainsFunc_int : compFn Try.prog 21 = some F_slices_ContainsFunc_int := by kernel_rfl
theorem C_slices_Clone_int : compFn Try.prog 23 = some F_slices_Clone_int := by kernel_rfl
theorem C_requirement_Alternate : compFn Try.prog 31 = some F_requirement_Alternate := by kernel_rfl
theorem C_requirement_Allows : compFn Try.prog 32 = some F_requirement_Allows := by kernel_rfl
theorem C_overseerlaw03_Make : compFn Try.prog 33 = some F_overseerlaw03_Make := by kernel_rfl
theorem C_overseerlaw03_Set_Events : compFn Try.prog 34 = some F_overseerlaw03_Set_Events := by kernel_rfl
theorem C_requirement_Idle : compFn Try.prog 35 = some F_requirement_Idle := by kernel_rfl
theorem C_requirement_Refused : compFn Try.prog 36 = some F_requirement_Refused := by kernel_rfl
theorem C_slices_Contains_Edge : compFn Try.prog 37 = some F_slices_Contains_Edge := by kernel_rfl
theorem C_slices_ContainsFunc_Edge : compFn Try.prog 38 = some F_slices_ContainsFunc_Edge := by kernel_rfl
theorem C_overseerlaw21_RequirementAsks_1 : compFn Try.prog 39 = some F_overseerlaw21_RequirementAsks_1 := by kernel_rfl
theorem C_slices_Equal_int : compFn Try.prog 40 = some F_slices_Equal_int := by kernel_rfl
theorem C_overseerlaw21_RequirementAsks_2 : compFn Try.prog 41 = some F_overseerlaw21_RequirementAsks_2 := by kernel_rfl
theorem C_overseerlaw21_permits : compFn Try.prog 42 = some F_overseerlaw21_permits := by kernel_rfl
theorem C_slices_IndexFunc_Edge : compFn Try.prog 44 = some F_slices_IndexFunc_Edge := by kernel_rfl
theorem C_slices_Equal_Edge : compFn Try.prog 46 = some F_slices_Equal_Edge := by kernel_rfl
theorem C_requirement_distinct : compFn Try.prog 47 = some F_requirement_distinct := by kernel_rfl
theorem C_requirement_explore : compFn Try.prog 48 = some F_requirement_explore := by kernel_rfl
theorem C_requirement_sorted : compFn Try.prog 49 = some F_requirement_sorted := by kernel_rfl
theorem C_requirement_all : compFn Try.prog 50 = some F_requirement_all := by kernel_rfl
theorem C_requirement_AtMost_1 : compFn Try.prog 51 = some F_requirement_AtMost_1 := by kernel_rfl
theorem C_slices_Index_int : compFn Try.prog 52 = some F_slices_Index_int := by kernel_rfl
theorem C_bits_OnesCount : compFn Try.prog 53 = some F_bits_OnesCount := by kernel_rfl
theorem C_requirement_sets : compFn Try.prog 58 = some F_requirement_sets := by kernel_rfl
theorem C_alphabet_Union : compFn Try.prog 59 = some F_alphabet_Union := by kernel_rfl
theorem C_requirement_first : compFn Try.prog 60 = some F_requirement_first := by kernel_rfl
theorem C_requirement_Buffer_1 : compFn Try.prog 61 = some F_requirement_Buffer_1 := by kernel_rfl
theorem C_alphabet_Contains : compFn Try.prog 62 = some F_alphabet_Contains := by kernel_rfl
theorem C_slices_IndexFunc_int : compFn Try.prog 63 = some F_slices_IndexFunc_int := by kernel_rfl
theorem C_requirement_Alternate_1 : compFn Try.prog 67 = some F_requirement_Alternate_1 := by kernel_rfl
theorem C_automaton_Check : compFn Try.prog 68 = some F_automaton_Check := by kernel_rfl
theorem C_automaton_Generates : compFn Try.prog 69 = some F_automaton_Generates := by kernel_rfl
theorem C_overseerref03_Empty : compFn Try.prog 70 = some F_overseerref03_Empty := by kernel_rfl
theorem C_overseerref03_Canonical : compFn Try.prog 71 = some F_overseerref03_Canonical := by kernel_rfl
theorem C_automaton_Enabled : compFn Try.prog 72 = some F_automaton_Enabled := by kernel_rfl
theorem C_alphabet_Minus : compFn Try.prog 73 = some F_alphabet_Minus := by kernel_rfl
theorem C_slices_Index_Edge : compFn Try.prog 74 = some F_slices_Index_Edge := by kernel_rfl
theorem C_overseerlaw21_permits_1 : compFn Try.prog 75 = some F_overseerlaw21_permits_1 := by kernel_rfl
theorem C_bits_OnesCount64 : compFn Try.prog 78 = some F_bits_OnesCount64 := by kernel_rfl
theorem C_alphabet_Intersect : compFn Try.prog 82 = some F_alphabet_Intersect := by kernel_rfl
theorem C_alphabet_merge : compFn Try.prog 83 = some F_alphabet_merge := by kernel_rfl
theorem C_alphabet_Union_1 : compFn Try.prog 84 = some F_alphabet_Union_1 := by kernel_rfl
theorem C_slices_BinarySearch_int : compFn Try.prog 85 = some F_slices_BinarySearch_int := by kernel_rfl
theorem C_automaton_checkSet : compFn Try.prog 86 = some F_automaton_checkSet := by kernel_rfl
theorem C_automaton_checkEdges : compFn Try.prog 87 = some F_automaton_checkEdges := by kernel_rfl
theorem C_automaton_reached : compFn Try.prog 88 = some F_automaton_reached := by kernel_rfl
theorem C_overseerref03_Found : compFn Try.prog 89 = some F_overseerref03_Found := by kernel_rfl
theorem C_overseerref03_has : compFn Try.prog 90 = some F_overseerref03_has := by kernel_rfl
theorem C_overseerref03_Step : compFn Try.prog 91 = some F_overseerref03_Step := by kernel_rfl
theorem C_overseerref03_index : compFn Try.prog 92 = some F_overseerref03_index := by kernel_rfl
theorem C_automaton_checkState : compFn Try.prog 93 = some F_automaton_checkState := by kernel_rfl
theorem C_automaton_out : compFn Try.prog 94 = some F_automaton_out := by kernel_rfl
theorem C_alphabet_Minus_1 : compFn Try.prog 95 = some F_alphabet_Minus_1 := by kernel_rfl
theorem C_cmp_Less_int : compFn Try.prog 108 = some F_cmp_Less_int := by kernel_rfl
theorem C_alphabet_Intersect_1 : compFn Try.prog 113 = some F_alphabet_Intersect_1 := by kernel_rfl
theorem C_slices_isNaN_int : compFn Try.prog 114 = some F_slices_isNaN_int := by kernel_rfl
theorem C_automaton_follow : compFn Try.prog 115 = some F_automaton_follow := by kernel_rfl
theorem C_slices_BinarySearchFunc_int : compFn Try.prog 116 = some F_slices_BinarySearchFunc_int := by kernel_rfl
theorem C_automaton_out_1 : compFn Try.prog 117 = some F_automaton_out_1 := by kernel_rfl
theorem C_automaton_out_2 : compFn Try.prog 118 = some F_automaton_out_2 := by kernel_rfl
theorem C_cmp_isNaN_int : compFn Try.prog 128 = some F_cmp_isNaN_int := by kernel_rfl
theorem C_automaton_next : compFn Try.prog 129 = some F_automaton_next := by kernel_rfl
theorem C_automaton_next_1 : compFn Try.prog 139 = some F_automaton_next_1 := by kernel_rfl
end Go.Proofs
end
section
namespace Go.Abs
open Go Go.Sort Go.Shelf Go.RowKit Go.Lib Go.Proofs
set_option linter.unusedVariables false
set_option linter.unusedSectionVars false
section plain
variable {β : Type}
def insB (lt : β → β → Bool) (x : β) : List β → List β
  | [] => [x]
  | y :: ys => if lt y x then y :: insB lt x ys else x :: y :: ys
def isortB (lt : β → β → Bool) : List β → List β
  | [] => []
  | x :: xs => insB lt x (isortB lt xs)
theorem insB_perm (lt : β → β → Bool) (x : β) : ∀ l, (insB lt x l).Perm (x :: l)
  | [] => .refl _
  | y :: ys => by
    unfold insB; split
    · exact ((insB_perm lt x ys).cons y).trans (.swap x y ys)
    · exact .refl _
theorem isortB_perm (lt : β → β → Bool) : ∀ l, (isortB lt l).Perm l
  | [] => .refl _
  | x :: xs => (insB_perm lt x _).trans ((isortB_perm lt xs).cons x)
theorem isortB_length (lt : β → β → Bool) (l : List β) : (isortB lt l).length = l.length := (isortB_perm lt l).length_eq
theorem insB_sorted {lt : β → β → Bool} (h : SWO lt) (x : β) : ∀ l, l.Pairwise (fun a b => lt b a = false) → (insB lt x l).Pairwise fun a b => lt b a = false
  | [], _ => by simp [insB]
  | y :: ys, hl => by
    obtain ⟨h1, h2⟩ := List.pairwise_cons.1 hl
    unfold insB; split
    · rename_i hc
      refine List.pairwise_cons.2 ⟨fun z hz => ?_, insB_sorted h x ys h2⟩
      rcases List.mem_cons.1 ((insB_perm lt x ys).mem_iff.1 hz) with rfl | hz
      · cases hb : lt z y with
        | false => rfl
        | true => have := h.trans _ _ _ hc hb; rw [h.irrefl] at this; cases this
      · exact h1 z hz
    · rename_i hc
      have hc : lt y x = false := by cases h : lt y x <;> simp_all
      refine List.pairwise_cons.2 ⟨fun z hz => ?_, hl⟩
      rcases List.mem_cons.1 hz with rfl | hz
      · exact hc
      · exact h.ntrans _ _ _ (h1 z hz) hc
theorem isortB_sorted {lt : β → β → Bool} (h : SWO lt) : ∀ l, (isortB lt l).Pairwise fun a b => lt b a = false
  | [] => .nil
  | x :: xs => insB_sorted h x _ (isortB_sorted h xs)
end plain
theorem acalls_none {P : Program} {f : FuncId} {ex : Array Value} {exV : List V} {sz nb : Nat} {M : Mem} (hb : HasBody P f = true) (hex : ∀ g w us, RFs g w exV us → us = ex.toList)
    (h : ∀ (p : Option Addr) (cap : Nat) (w : World), Calls P f (#[.slice p 0 cap] ++ ex) w fun e' w' => e' = .returned (.tuple #[]) ∧ w' = w) :
    ACalls P f (.d (.lst sz []) :: exV) M nb (.tup []) M nb := by
  refine ⟨hb, Nat.le_refl _, fun w g us hm hMon hfresh hus hfl hons => ?_⟩
  obtain ⟨u0, us', rfl, hu0, hus'⟩ := hus
  have h1 := hex _ _ _ hus'
  subst h1
  have h2 : ∃ p cap, u0 = .slice p 0 cap := by
    have := RF_d.1 hu0
    obtain ⟨a, cap, rfl, _, _⟩ := this
    exact ⟨a, cap, rfl⟩
  obtain ⟨p, cap, rfl⟩ := h2
  have e1 : (Value.slice p 0 cap :: ex.toList).toArray = #[.slice p 0 cap] ++ ex := by apply Array.ext'; simp
  rw [e1]
  refine (h p cap w).mono ?_
  rintro e' w' ⟨rfl, rfl⟩
  exact ⟨_, g, rfl, hm, ⟨[], rfl, rfl⟩, trivial, hMon, Fr.refl _ _ _⟩
section
variable {α : Type} [Inhabited α]
end
end Go.Abs
end
section
namespace Go.Abs
open Go Go.RowKit
set_option linter.unusedVariables false
def ltInt' (a b : Int) : Bool := decide (a < b)
theorem merge_isort (l : List Int) : (l.mergeSort fun x y => decide (x ≤ y)) = isortB ltInt' l := by
  have hO : Go.Sort.SWO ltInt' := ⟨fun x => by simp [ltInt'], fun x y z h1 h2 => by simp [ltInt'] at *; omega, fun x y z h1 h2 => by simp [ltInt'] at *; omega⟩
  refine List.Perm.eq_of_pairwise (le := fun a b => ltInt' b a = false) (fun a b _ _ h1 h2 => by simp [ltInt'] at *; omega) ?_ (isortB_sorted hO l) ((List.mergeSort_perm _ _).trans (isortB_perm _ l).symm)
  have := List.pairwise_mergeSort (le := fun x y : Int => decide (x ≤ y)) (fun a b c h1 h2 => by simp at *; omega) (fun a b => by simp; omega) l
  exact this.imp fun h => by simp [ltInt'] at *; omega
end Go.Abs
end
section
namespace Go.Abs
def sortI (l : List Int) : Option (List Int) := if l.length ≤ lim then some (isortB ltInt' l) else none
end Go.Abs
end
section
namespace Go.Abs
open Go Go.Abs
set_option linter.unusedVariables false
set_option maxRecDepth 10000
set_option maxHeartbeats 4000000
def fuel0 : Nat := 1099511627776
def g_slices_Index_int := f_slices_Index_int fuel0
def g_slices_Contains_int := f_slices_Contains_int g_slices_Index_int
def g_requirement_distinct := f_requirement_distinct g_slices_Contains_int fuel0
def g_slices_Clone_int := f_slices_Clone_int
def g_requirement_sorted := f_requirement_sorted g_slices_Clone_int sortI
def g_requirement_Alternate_1 := f_requirement_Alternate_1
def g_requirement_explore := f_requirement_explore fuel0
def g_requirement_first := f_requirement_first
def g_requirement_Alternate := f_requirement_Alternate g_requirement_distinct g_requirement_explore g_requirement_sorted g_requirement_first g_requirement_Alternate_1
def g_alphabet_CheckSet := f_alphabet_CheckSet fuel0
def g_alphabet_merge := f_alphabet_merge fuel0
def g_alphabet_Intersect_1 := f_alphabet_Intersect_1
def g_alphabet_Intersect := f_alphabet_Intersect g_alphabet_merge g_alphabet_Intersect_1
def g_requirement_sets := f_requirement_sets g_alphabet_CheckSet g_alphabet_Intersect fuel0
def g_alphabet_Union_1 := f_alphabet_Union_1
def g_alphabet_Union := f_alphabet_Union g_alphabet_merge g_alphabet_Union_1
def g_cmp_isNaN_int := f_cmp_isNaN_int
def g_cmp_Less_int := f_cmp_Less_int g_cmp_isNaN_int
def g_slices_isNaN_int := f_slices_isNaN_int
def g_slices_BinarySearch_int := f_slices_BinarySearch_int g_cmp_Less_int g_slices_isNaN_int fuel0
def g_alphabet_Contains := f_alphabet_Contains g_slices_BinarySearch_int
def g_requirement_Buffer_1 := f_requirement_Buffer_1 g_alphabet_Contains
def g_requirement_Buffer := f_requirement_Buffer g_requirement_explore g_requirement_sets g_alphabet_Union g_requirement_first g_requirement_Buffer_1
def g_bits_OnesCount64 := f_bits_OnesCount64
def g_bits_OnesCount := f_bits_OnesCount g_bits_OnesCount64
def g_requirement_AtMost_1 := f_requirement_AtMost_1 g_slices_Index_int g_bits_OnesCount
def g_requirement_all := f_requirement_all
def g_requirement_AtMost := f_requirement_AtMost g_requirement_distinct g_requirement_explore g_requirement_sorted g_requirement_all g_requirement_AtMost_1 fuel0
def g_automaton_checkSet := f_automaton_checkSet fuel0
def g_automaton_checkEdges := f_automaton_checkEdges g_slices_Contains_int fuel0
def g_automaton_Check := f_automaton_Check g_automaton_checkSet g_automaton_checkEdges
def g_automaton_checkState := f_automaton_checkState g_automaton_Check
def g_slices_BinarySearchFunc_int := f_slices_BinarySearchFunc_int fuel0
def g_automaton_out_1 := f_automaton_out_1
def g_automaton_out_2 := f_automaton_out_2
def g_automaton_out := f_automaton_out g_slices_BinarySearchFunc_int g_automaton_out_1 g_automaton_out_2
def g_automaton_Enabled := f_automaton_Enabled g_automaton_checkState g_automaton_out fuel0
def g_alphabet_Minus_1 := f_alphabet_Minus_1
def g_alphabet_Minus := f_alphabet_Minus g_alphabet_merge g_alphabet_Minus_1
def g_requirement_Refused := f_requirement_Refused g_automaton_Enabled g_alphabet_Minus
def g_slices_Equal_int := f_slices_Equal_int fuel0
def g_slices_Equal_Edge := f_slices_Equal_Edge fuel0
def g_overseerlaw21_known := f_overseerlaw21_known g_requirement_AtMost g_requirement_Buffer g_requirement_Alternate g_requirement_Refused g_slices_Equal_int g_slices_Equal_Edge
def g_overseerlaw03_Set_Events := f_overseerlaw03_Set_Events fuel0
def g_overseerref03_Empty := f_overseerref03_Empty
def g_overseerref03_Step := f_overseerref03_Step fuel0
def g_overseerref03_has := f_overseerref03_has fuel0
def g_overseerref03_Found := f_overseerref03_Found g_overseerref03_has g_overseerref03_Step fuel0
def g_overseerref03_index := f_overseerref03_index fuel0
def g_overseerref03_Canonical := f_overseerref03_Canonical g_overseerref03_Empty g_overseerref03_Found g_overseerref03_has g_overseerref03_Step g_overseerref03_index fuel0
def g_overseerlaw03_Make := f_overseerlaw03_Make g_overseerref03_Empty g_overseerref03_Canonical fuel0
def g_requirement_Idle := f_requirement_Idle g_automaton_Check fuel0
def g_automaton_next_1 := f_automaton_next_1
def g_slices_IndexFunc_Edge := f_slices_IndexFunc_Edge fuel0
def g_automaton_next := f_automaton_next g_slices_IndexFunc_Edge g_automaton_out g_automaton_next_1
def g_automaton_follow := f_automaton_follow g_automaton_next fuel0
def g_automaton_reached := f_automaton_reached g_automaton_follow
def g_automaton_Generates := f_automaton_Generates g_automaton_Check g_automaton_reached
def g_requirement_Allows := f_requirement_Allows g_alphabet_Contains g_automaton_Check g_automaton_Generates fuel0
def g_slices_Index_Edge := f_slices_Index_Edge fuel0
def g_slices_Contains_Edge := f_slices_Contains_Edge g_slices_Index_Edge
def g_overseerlaw21_RequirementAsks_1 := f_overseerlaw21_RequirementAsks_1
def g_slices_ContainsFunc_Edge := f_slices_ContainsFunc_Edge g_slices_IndexFunc_Edge
def g_slices_IndexFunc_int := f_slices_IndexFunc_int fuel0
def g_slices_ContainsFunc_int := f_slices_ContainsFunc_int g_slices_IndexFunc_int
def g_overseerlaw21_in := f_overseerlaw21_in
def g_overseerlaw21_RequirementAsks_2 := f_overseerlaw21_RequirementAsks_2 g_overseerlaw21_in
def g_overseerlaw21_permits_1 := f_overseerlaw21_permits_1
def g_overseerlaw21_permits := f_overseerlaw21_permits g_slices_Contains_int g_slices_IndexFunc_Edge g_overseerlaw21_permits_1 fuel0
def g_overseerlaw21_RequirementAsks := f_overseerlaw21_RequirementAsks g_overseerlaw21_known g_slices_ContainsFunc_int g_requirement_Allows g_overseerlaw03_Make g_overseerlaw03_Set_Events g_requirement_Idle g_requirement_Refused g_slices_Contains_Edge g_slices_ContainsFunc_Edge g_overseerlaw21_RequirementAsks_1 g_slices_Equal_int g_overseerlaw21_RequirementAsks_2 g_overseerlaw21_permits fuel0
end Go.Abs
end
section
namespace Go.Abs
open Go Go.Sort Go.RowKit Go.Lib Go.Proofs
set_option linter.unusedVariables false
theorem rowV_ints (xs : List Int) : rowV (eI .i64) xs = xs.map (Value.int .i64) := by
  unfold rowV
  induction xs with
  | nil => rfl
  | cons x xs ih => simp only [List.map_cons, List.flatten_cons, List.map_append, ih]; rfl
theorem rowK_ints {P : Program} {c : Nat} (hb : HasBody P c = true)
    (hs : ∀ (blk off cap : Nat) (zs : List Int) (w : World), Holds (Value.int .i64) w blk off zs.toArray → blk < w.heap.size → zs.length < 4611686018427387904 →
      Calls P c #[.slice (some ⟨blk, off, none⟩) zs.length cap] w fun e w' => e = .returned (.tuple #[]) ∧ ∃ n os, w' = grow (putRow (Value.int .i64) (Sort.ahead w n) blk off (zs.mergeSort fun x y => decide (x ≤ y)).toArray) os)
    (hnone : ∀ (p : Option Addr) (cap : Nat) (w : World), Calls P c (#[.slice p 0 cap] ++ #[]) w fun e' w' => e' = .returned (.tuple #[]) ∧ w' = w) :
    RowK P c (eI .i64) 1 [] (fun l => if l.length ≤ lim then some (isortB ltInt' l) else none) := by
  have hrow : RowFn P c (eI .i64) #[] (fun xs => isortB ltInt' xs) := by
    intro blk cap xs w hcell hblk hsz
    refine Calls.mono (hs blk 0 cap xs w ?_ hblk hsz) ?_
    · intro j hj
      have hj' : j < xs.length := by simpa using hj
      have := hcell j (by rw [rowV_ints]; simpa using hj')
      rw [rowV_ints] at this
      rw [Nat.zero_add]
      refine ⟨?_, this.2⟩
      rw [this.1, getElem!_pos xs.toArray j hj]
      simp [hj']
    · rintro e w' ⟨rfl, n, os, rfl⟩
      refine ⟨rfl, n, os, ?_⟩
      rw [merge_isort, rowV_ints]
      congr 1
      unfold putRow
      congr 1
      funext c
      unfold putCells
      congr 1
      funext k x
      simp only [List.size_toArray, List.length_map]
      split
      · rename_i h
        simp only [id]
        rw [getElem!_pos _ _ (by simp; omega), getElem!_pos _ _ (by simp; omega)]
        simp
      · rfl
  intro xs ys h
  dsimp only at h
  split at h <;> cases h
  rename_i hl
  refine ⟨isortB_length _ _, fun h0 => ?_, fun hl2 cap k0 M nb hM => ?_⟩
  · subst h0
    exact ⟨rfl, fun M nb => acalls_none (ex := #[]) (exV := []) hb (fun _ _ _ h => h) hnone⟩
  · exact acalls_row (e := eI .i64) (fun _ => rfl) (fun _ => rfl) (fun xs => isortB_length _ _) (ex := #[]) (exV := []) (fun _ _ _ h => h) hb hrow xs cap k0 M nb hM (by unfold lim at hl; omega)
end Go.Abs
end
section
namespace Go.Proofs
open Go.Shelf
def Try.laysSlM5_f56_ren : Go.Shelf.Ren := ⟨fun | 5 => 56 | 8 => 81 | 7 => 80 | 19 => 111 | 20 => 112 | 10 => 102 | 11 => 103 | 12 => 104 | 13 => 105 | 14 => 106 | 15 => 107 | 16 => 108 | 17 => 109 | 18 => 110 | 30 => 123 | 31 => 124 | 32 => 125 | 33 => 126 | 34 => 127 | 35 => 128 | 40 => 138 | n => n, fun | 23 => 24 | 25 => 3 | 3 => 3 | 32 => 82 | 22 => 24 | 0 => 0 | 44 => 96 | 46 => 98 | 4 => 4 | 36 => 117 | 35 => 116 | 41 => 94 | 5 => 5 | 9 => 9 | 53 => 129 | 57 => 133 | 63 => 140 | 64 => 122 | n => n, fun | n => n⟩
theorem Try.laysSlM5_f56 : Go.Proofs.SlLaysM.n5 Try.prog Try.laysSlM5_f56_ren := {
  mixed := by kernel_rfl
  f5 := ⟨Try.f56.name, by decide, Try.func56.trans (congrArg some (by kernel_rfl))⟩
  f7 := ⟨Try.f80.name, by decide, Try.func80.trans (congrArg some (by kernel_rfl))⟩
  f8 := Try.func81.trans (congrArg some (by kernel_rfl))
  f10 := ⟨Try.f102.name, by decide, Try.func102.trans (congrArg some (by kernel_rfl))⟩
  f11 := ⟨Try.f103.name, by decide, Try.func103.trans (congrArg some (by kernel_rfl))⟩
  f12 := ⟨Try.f104.name, by decide, Try.func104.trans (congrArg some (by kernel_rfl))⟩
  f13 := ⟨Try.f105.name, by decide, Try.func105.trans (congrArg some (by kernel_rfl))⟩
  f14 := ⟨Try.f106.name, by decide, Try.func106.trans (congrArg some (by kernel_rfl))⟩
  f15 := ⟨Try.f107.name, by decide, Try.func107.trans (congrArg some (by kernel_rfl))⟩
  f16 := ⟨Try.f108.name, by decide, Try.func108.trans (congrArg some (by kernel_rfl))⟩
  f17 := ⟨Try.f109.name, by decide, Try.func109.trans (congrArg some (by kernel_rfl))⟩
  f18 := ⟨Try.f110.name, by decide, Try.func110.trans (congrArg some (by kernel_rfl))⟩
  f19 := Try.func111.trans (congrArg some (by kernel_rfl))
  f20 := Try.func112.trans (congrArg some (by kernel_rfl))
  f30 := ⟨Try.f123.name, by decide, Try.func123.trans (congrArg some (by kernel_rfl))⟩
  f31 := Try.func124.trans (congrArg some (by kernel_rfl))
  f32 := Try.func125.trans (congrArg some (by kernel_rfl))
  f33 := ⟨Try.f126.name, by decide, Try.func126.trans (congrArg some (by kernel_rfl))⟩
  f34 := ⟨Try.f127.name, by decide, Try.func127.trans (congrArg some (by kernel_rfl))⟩
  f35 := ⟨Try.f128.name, by decide, Try.func128.trans (congrArg some (by kernel_rfl))⟩
  f40 := ⟨Try.f138.name, by decide, Try.func138.trans (congrArg some (by kernel_rfl))⟩
  t0 := Try.underlying0
  a0 := Try.isAgg0
  z0 := Try.sizeOf0
  v0 := Try.zeroValue0
  t3 := Try.underlying3
  a3 := Try.isAgg3
  z3 := Try.sizeOf3
  v3 := Try.zeroValue3
  t4 := Try.underlying4
  a4 := Try.isAgg4
  z4 := Try.sizeOf4
  v4 := Try.zeroValue4
  t5 := Try.underlying5
  a5 := Try.isAgg5
  z5 := Try.sizeOf5
  v5 := Try.zeroValue5
  t9 := Try.underlying9
  a9 := Try.isAgg9
  z9 := Try.sizeOf9
  v9 := Try.zeroValue9
  t22 := Try.underlying24
  a22 := Try.isAgg24
  z22 := Try.sizeOf24
  v22 := Try.zeroValue24
  t23 := Try.underlying24
  a23 := Try.isAgg24
  z23 := Try.sizeOf24
  v23 := Try.zeroValue24
  t25 := Try.underlying3
  a25 := Try.isAgg3
  z25 := Try.sizeOf3
  v25 := Try.zeroValue3
  t32 := Try.underlying82
  a32 := Try.isAgg82
  z32 := Try.sizeOf82
  v32 := Try.zeroValue82
  t35 := Try.underlying116
  a35 := Try.isAgg116
  z35 := Try.sizeOf116
  v35 := Try.zeroValue116
  t36 := Try.underlying117
  a36 := Try.isAgg117
  z36 := Try.sizeOf117
  v36 := Try.zeroValue117
  t41 := Try.underlying94
  a41 := Try.isAgg94
  z41 := Try.sizeOf94
  v41 := Try.zeroValue94
  t44 := Try.underlying96
  a44 := Try.isAgg96
  z44 := Try.sizeOf96
  v44 := Try.zeroValue96
  t46 := Try.underlying98
  a46 := Try.isAgg98
  z46 := Try.sizeOf98
  v46 := Try.zeroValue98
  t53 := Try.underlying129
  a53 := Try.isAgg129
  z53 := Try.sizeOf129
  v53 := Try.zeroValue129
  t57 := Try.underlying133
  a57 := Try.isAgg133
  z57 := Try.sizeOf133
  v57 := Try.zeroValue133
  t63 := Try.underlying140
  a63 := Try.isAgg140
  z63 := Try.sizeOf140
  v63 := Try.zeroValue140
  t64 := Try.underlying122
  a64 := Try.isAgg122
  z64 := Try.sizeOf122
  v64 := Try.zeroValue122 }
open Go.Sort Go.RowKit in
theorem Try.slices_Sort_int (blk off cap : Nat) (zs : List Int) (w : World) (hH : Holds (Value.int .i64) w blk off zs.toArray) (hblk : blk < w.heap.size) (hsz : zs.length < 4611686018427387904) :
    Calls Try.prog 56 #[.slice (some ⟨blk, off, none⟩) zs.length cap] w fun e w' =>
      e = .returned (.tuple #[]) ∧ ∃ n os, w' = grow (putRow (Value.int .i64) (Sort.ahead w n) blk off (zs.mergeSort fun x y => decide (x ≤ y)).toArray) os := AnyM.slices_Sort_int Try.laysSlM5_f56 blk off cap zs w hH hblk hsz
open Go.RowKit Go.Sort in
theorem Try.slices_Sort_int_none (p : Option Addr) (cap : Nat) (w : World) :
    Calls Try.prog 56 #[.slice p 0 cap] w fun e w' => e = .returned (.tuple #[]) ∧ w' = w := AnyM.slices_Sort_int_none Try.laysSlM5_f56 p cap w
end Go.Proofs
end
section
namespace Go.Proofs
open Go.Abs
theorem Try.rowK56 : Go.Abs.RowK Try.prog 56 (eI .i64) 1 [] sortI :=
  rowK_ints (by kernel_rfl) Try.slices_Sort_int Try.slices_Sort_int_none
end Go.Proofs
end
section
namespace Go.Proofs
open Go Go.Abs
set_option linter.unusedVariables false
set_option maxRecDepth 10000
set_option maxHeartbeats 4000000
theorem ok_slices_Index_int : K_slices_Index_int Try.prog 52 g_slices_Index_int := slices_Index_int_walk C_slices_Index_int fuel0
theorem ok_slices_Contains_int : K_slices_Contains_int Try.prog 13 g_slices_Contains_int := slices_Contains_int_walk ok_slices_Index_int C_slices_Contains_int
theorem ok_requirement_distinct : K_requirement_distinct Try.prog 47 g_requirement_distinct := requirement_distinct_walk ok_slices_Contains_int C_requirement_distinct fuel0
theorem ok_slices_Clone_int : K_slices_Clone_int Try.prog 23 g_slices_Clone_int := slices_Clone_int_walk C_slices_Clone_int
theorem ok_requirement_sorted : K_requirement_sorted Try.prog 49 g_requirement_sorted := requirement_sorted_walk ok_slices_Clone_int Try.rowK56 C_requirement_sorted
theorem ok_requirement_Alternate_1 : K_requirement_Alternate_1 Try.prog 67 g_requirement_Alternate_1 := requirement_Alternate_1_walk C_requirement_Alternate_1
theorem ok_requirement_explore : K_requirement_explore Try.prog 48 g_requirement_explore := requirement_explore_walk C_requirement_explore fuel0
theorem ok_requirement_first : K_requirement_first Try.prog 60 g_requirement_first := requirement_first_walk C_requirement_first
theorem ok_requirement_Alternate : K_requirement_Alternate Try.prog 31 g_requirement_Alternate := requirement_Alternate_walk ok_requirement_distinct ok_requirement_explore ok_requirement_sorted ok_requirement_first ok_requirement_Alternate_1 C_requirement_Alternate
theorem ok_alphabet_CheckSet : K_alphabet_CheckSet Try.prog 20 g_alphabet_CheckSet := alphabet_CheckSet_walk C_alphabet_CheckSet fuel0
theorem ok_alphabet_merge : K_alphabet_merge Try.prog 83 g_alphabet_merge := alphabet_merge_walk C_alphabet_merge fuel0
theorem ok_alphabet_Intersect_1 : K_alphabet_Intersect_1 Try.prog 113 g_alphabet_Intersect_1 := alphabet_Intersect_1_walk C_alphabet_Intersect_1
theorem ok_alphabet_Intersect : K_alphabet_Intersect Try.prog 82 g_alphabet_Intersect := alphabet_Intersect_walk ok_alphabet_merge ok_alphabet_Intersect_1 C_alphabet_Intersect
theorem ok_requirement_sets : K_requirement_sets Try.prog 58 g_requirement_sets := requirement_sets_walk ok_alphabet_CheckSet ok_alphabet_Intersect C_requirement_sets fuel0
theorem ok_alphabet_Union_1 : K_alphabet_Union_1 Try.prog 84 g_alphabet_Union_1 := alphabet_Union_1_walk C_alphabet_Union_1
theorem ok_alphabet_Union : K_alphabet_Union Try.prog 59 g_alphabet_Union := alphabet_Union_walk ok_alphabet_merge ok_alphabet_Union_1 C_alphabet_Union
theorem ok_cmp_isNaN_int : K_cmp_isNaN_int Try.prog 128 g_cmp_isNaN_int := cmp_isNaN_int_walk C_cmp_isNaN_int
theorem ok_cmp_Less_int : K_cmp_Less_int Try.prog 108 g_cmp_Less_int := cmp_Less_int_walk ok_cmp_isNaN_int C_cmp_Less_int
theorem ok_slices_isNaN_int : K_slices_isNaN_int Try.prog 114 g_slices_isNaN_int := slices_isNaN_int_walk C_slices_isNaN_int
theorem ok_slices_BinarySearch_int : K_slices_BinarySearch_int Try.prog 85 g_slices_BinarySearch_int := slices_BinarySearch_int_walk ok_cmp_Less_int ok_slices_isNaN_int C_slices_BinarySearch_int fuel0
theorem ok_alphabet_Contains : K_alphabet_Contains Try.prog 62 g_alphabet_Contains := alphabet_Contains_walk ok_slices_BinarySearch_int C_alphabet_Contains
theorem ok_requirement_Buffer_1 : K_requirement_Buffer_1 Try.prog 61 g_requirement_Buffer_1 := requirement_Buffer_1_walk ok_alphabet_Contains C_requirement_Buffer_1
theorem ok_requirement_Buffer : K_requirement_Buffer Try.prog 19 g_requirement_Buffer := requirement_Buffer_walk ok_requirement_explore ok_requirement_sets ok_alphabet_Union ok_requirement_first ok_requirement_Buffer_1 C_requirement_Buffer
theorem ok_bits_OnesCount64 : K_bits_OnesCount64 Try.prog 78 g_bits_OnesCount64 := bits_OnesCount64_walk C_bits_OnesCount64
theorem ok_bits_OnesCount : K_bits_OnesCount Try.prog 53 g_bits_OnesCount := bits_OnesCount_walk ok_bits_OnesCount64 C_bits_OnesCount
theorem ok_requirement_AtMost_1 : K_requirement_AtMost_1 Try.prog 51 g_requirement_AtMost_1 := requirement_AtMost_1_walk ok_slices_Index_int ok_bits_OnesCount C_requirement_AtMost_1
theorem ok_requirement_all : K_requirement_all Try.prog 50 g_requirement_all := requirement_all_walk C_requirement_all
theorem ok_requirement_AtMost : K_requirement_AtMost Try.prog 11 g_requirement_AtMost := requirement_AtMost_walk ok_requirement_distinct ok_requirement_explore ok_requirement_sorted ok_requirement_all ok_requirement_AtMost_1 C_requirement_AtMost fuel0
theorem ok_automaton_checkSet : K_automaton_checkSet Try.prog 86 g_automaton_checkSet := automaton_checkSet_walk C_automaton_checkSet fuel0
theorem ok_automaton_checkEdges : K_automaton_checkEdges Try.prog 87 g_automaton_checkEdges := automaton_checkEdges_walk ok_slices_Contains_int C_automaton_checkEdges fuel0
theorem ok_automaton_Check : K_automaton_Check Try.prog 68 g_automaton_Check := automaton_Check_walk ok_automaton_checkSet ok_automaton_checkEdges C_automaton_Check
theorem ok_automaton_checkState : K_automaton_checkState Try.prog 93 g_automaton_checkState := automaton_checkState_walk ok_automaton_Check C_automaton_checkState
theorem ok_slices_BinarySearchFunc_int : K_slices_BinarySearchFunc_int Try.prog 116 g_slices_BinarySearchFunc_int := slices_BinarySearchFunc_int_walk C_slices_BinarySearchFunc_int fuel0
theorem ok_automaton_out_1 : K_automaton_out_1 Try.prog 117 g_automaton_out_1 := automaton_out_1_walk C_automaton_out_1
theorem ok_automaton_out_2 : K_automaton_out_2 Try.prog 118 g_automaton_out_2 := automaton_out_2_walk C_automaton_out_2
theorem ok_automaton_out : K_automaton_out Try.prog 94 g_automaton_out := automaton_out_walk ok_slices_BinarySearchFunc_int ok_automaton_out_1 ok_automaton_out_2 C_automaton_out
theorem ok_automaton_Enabled : K_automaton_Enabled Try.prog 72 g_automaton_Enabled := automaton_Enabled_walk ok_automaton_checkState ok_automaton_out C_automaton_Enabled fuel0
theorem ok_alphabet_Minus_1 : K_alphabet_Minus_1 Try.prog 95 g_alphabet_Minus_1 := alphabet_Minus_1_walk C_alphabet_Minus_1
theorem ok_alphabet_Minus : K_alphabet_Minus Try.prog 73 g_alphabet_Minus := alphabet_Minus_walk ok_alphabet_merge ok_alphabet_Minus_1 C_alphabet_Minus
theorem ok_requirement_Refused : K_requirement_Refused Try.prog 36 g_requirement_Refused := requirement_Refused_walk ok_automaton_Enabled ok_alphabet_Minus C_requirement_Refused
theorem ok_slices_Equal_int : K_slices_Equal_int Try.prog 40 g_slices_Equal_int := slices_Equal_int_walk C_slices_Equal_int fuel0
theorem ok_slices_Equal_Edge : K_slices_Equal_Edge Try.prog 46 g_slices_Equal_Edge := slices_Equal_Edge_walk C_slices_Equal_Edge fuel0
theorem ok_overseerlaw21_known : K_overseerlaw21_known Try.prog 10 g_overseerlaw21_known := overseerlaw21_known_walk ok_requirement_AtMost ok_requirement_Buffer ok_requirement_Alternate ok_requirement_Refused ok_slices_Equal_int ok_slices_Equal_Edge C_overseerlaw21_known
theorem ok_overseerlaw03_Set_Events : K_overseerlaw03_Set_Events Try.prog 34 g_overseerlaw03_Set_Events := overseerlaw03_Set_Events_walk C_overseerlaw03_Set_Events fuel0
theorem ok_overseerref03_Empty : K_overseerref03_Empty Try.prog 70 g_overseerref03_Empty := overseerref03_Empty_walk C_overseerref03_Empty
theorem ok_overseerref03_Step : K_overseerref03_Step Try.prog 91 g_overseerref03_Step := overseerref03_Step_walk C_overseerref03_Step fuel0
theorem ok_overseerref03_has : K_overseerref03_has Try.prog 90 g_overseerref03_has := overseerref03_has_walk C_overseerref03_has fuel0
theorem ok_overseerref03_Found : K_overseerref03_Found Try.prog 89 g_overseerref03_Found := overseerref03_Found_walk ok_overseerref03_has ok_overseerref03_Step C_overseerref03_Found fuel0
theorem ok_overseerref03_index : K_overseerref03_index Try.prog 92 g_overseerref03_index := overseerref03_index_walk C_overseerref03_index fuel0
theorem ok_overseerref03_Canonical : K_overseerref03_Canonical Try.prog 71 g_overseerref03_Canonical := overseerref03_Canonical_walk ok_overseerref03_Empty ok_overseerref03_Found ok_overseerref03_has ok_overseerref03_Step ok_overseerref03_index C_overseerref03_Canonical fuel0
theorem ok_overseerlaw03_Make : K_overseerlaw03_Make Try.prog 33 g_overseerlaw03_Make := overseerlaw03_Make_walk ok_overseerref03_Empty ok_overseerref03_Canonical C_overseerlaw03_Make fuel0
theorem ok_requirement_Idle : K_requirement_Idle Try.prog 35 g_requirement_Idle := requirement_Idle_walk ok_automaton_Check C_requirement_Idle fuel0
theorem ok_automaton_next_1 : K_automaton_next_1 Try.prog 139 g_automaton_next_1 := automaton_next_1_walk C_automaton_next_1
theorem ok_slices_IndexFunc_Edge : K_slices_IndexFunc_Edge Try.prog 44 g_slices_IndexFunc_Edge := slices_IndexFunc_Edge_walk C_slices_IndexFunc_Edge fuel0
theorem ok_automaton_next : K_automaton_next Try.prog 129 g_automaton_next := automaton_next_walk ok_slices_IndexFunc_Edge ok_automaton_out ok_automaton_next_1 C_automaton_next
theorem ok_automaton_follow : K_automaton_follow Try.prog 115 g_automaton_follow := automaton_follow_walk ok_automaton_next C_automaton_follow fuel0
theorem ok_automaton_reached : K_automaton_reached Try.prog 88 g_automaton_reached := automaton_reached_walk ok_automaton_follow C_automaton_reached
theorem ok_automaton_Generates : K_automaton_Generates Try.prog 69 g_automaton_Generates := automaton_Generates_walk ok_automaton_Check ok_automaton_reached C_automaton_Generates
theorem ok_requirement_Allows : K_requirement_Allows Try.prog 32 g_requirement_Allows := requirement_Allows_walk ok_alphabet_Contains ok_automaton_Check ok_automaton_Generates C_requirement_Allows fuel0
theorem ok_slices_Index_Edge : K_slices_Index_Edge Try.prog 74 g_slices_Index_Edge := slices_Index_Edge_walk C_slices_Index_Edge fuel0
theorem ok_slices_Contains_Edge : K_slices_Contains_Edge Try.prog 37 g_slices_Contains_Edge := slices_Contains_Edge_walk ok_slices_Index_Edge C_slices_Contains_Edge
theorem ok_overseerlaw21_RequirementAsks_1 : K_overseerlaw21_RequirementAsks_1 Try.prog 39 g_overseerlaw21_RequirementAsks_1 := overseerlaw21_RequirementAsks_1_walk C_overseerlaw21_RequirementAsks_1
theorem ok_slices_ContainsFunc_Edge : K_slices_ContainsFunc_Edge Try.prog 38 g_slices_ContainsFunc_Edge := slices_ContainsFunc_Edge_walk ok_slices_IndexFunc_Edge C_slices_ContainsFunc_Edge
theorem ok_slices_IndexFunc_int : K_slices_IndexFunc_int Try.prog 63 g_slices_IndexFunc_int := slices_IndexFunc_int_walk C_slices_IndexFunc_int fuel0
theorem ok_slices_ContainsFunc_int : K_slices_ContainsFunc_int Try.prog 21 g_slices_ContainsFunc_int := slices_ContainsFunc_int_walk ok_slices_IndexFunc_int C_slices_ContainsFunc_int
theorem ok_overseerlaw21_in : K_overseerlaw21_in Try.prog 12 g_overseerlaw21_in := overseerlaw21_in_walk C_overseerlaw21_in
theorem ok_overseerlaw21_RequirementAsks_2 : K_overseerlaw21_RequirementAsks_2 Try.prog 41 g_overseerlaw21_RequirementAsks_2 := overseerlaw21_RequirementAsks_2_walk ok_overseerlaw21_in C_overseerlaw21_RequirementAsks_2
theorem ok_overseerlaw21_permits_1 : K_overseerlaw21_permits_1 Try.prog 75 g_overseerlaw21_permits_1 := overseerlaw21_permits_1_walk C_overseerlaw21_permits_1
theorem ok_overseerlaw21_permits : K_overseerlaw21_permits Try.prog 42 g_overseerlaw21_permits := overseerlaw21_permits_walk ok_slices_Contains_int ok_slices_IndexFunc_Edge ok_overseerlaw21_permits_1 C_overseerlaw21_permits fuel0
theorem ok_overseerlaw21_RequirementAsks : K_overseerlaw21_RequirementAsks Try.prog 8 g_overseerlaw21_RequirementAsks := overseerlaw21_RequirementAsks_walk ok_overseerlaw21_known ok_slices_ContainsFunc_int ok_requirement_Allows ok_overseerlaw03_Make ok_overseerlaw03_Set_Events ok_requirement_Idle ok_requirement_Refused ok_slices_Contains_Edge ok_slices_ContainsFunc_Edge ok_overseerlaw21_RequirementAsks_1 ok_slices_Equal_int ok_overseerlaw21_RequirementAsks_2 ok_overseerlaw21_permits C_overseerlaw21_RequirementAsks fuel0
end Go.Proofs
end
section
namespace Go.Abs
open Go Go.ChangeShapes Go.WideShapes Go.ChangeAt Go.RowKit
set_option linter.unusedVariables false
set_option linter.unusedSimpArgs false
def live (w : World) : Nat → Nat → Prop := fun b o => (w.cell? ⟨b, o, none⟩).isSome = true
def RDs (w : World) : List D → List Value → Prop
  | [], vs => vs = []
  | x :: xs, vs => ∃ u us, vs = u :: us ∧ RD (live w) w x u ∧ RDs w xs us
theorem RDs_append {w : World} : ∀ {xs ys : List D} {us vs : List Value}, RDs w xs us → RDs w ys vs → RDs w (xs ++ ys) (us ++ vs)
  | [], ys, us, vs, h, k => by simp only [RDs] at h; subst h; simpa using k
  | x :: xs, ys, us, vs, ⟨u, us', e, r, h⟩, k => by subst e; exact ⟨u, us' ++ vs, by simp, r, RDs_append h k⟩
def RDat (w : World) (cs : List Value) (off : Nat) (xs : List D) : Prop := RDs w xs ((cs.drop off).take xs.length)
theorem RDat.app {w : World} {cs : List Value} {off : Nat} {xs ys : List D} (h : RDat w cs off xs) {n : Nat} (hn : n = off + xs.length) (k : RDat w cs n ys) : RDat w cs off (xs ++ ys) := by
  subst hn
  have := RDs_append h k
  unfold RDat
  rw [List.length_append, List.take_add, List.drop_drop]
  exact this
theorem RDat.nil {w : World} {cs : List Value} {off : Nat} : RDat w cs off [] := by simp [RDat, RDs]
theorem RDat.all {w : World} {cs : List Value} {xs : List D} (h : RDat w cs 0 xs) (hl : cs.length = xs.length) : RDs w xs cs := by
  unfold RDat at h
  rw [List.drop_zero, ← hl, List.take_length] at h
  exact h
theorem RDs_RDc {w : World} {b : Nat} : ∀ {xs : List D} {vs : List Value} {o : Nat}, RDs w xs vs → (∀ i v, vs[i]? = some v → w.cell? ⟨b, o + i, none⟩ = some v) → RDc (live w) w b xs o
  | [], vs, o, _, _ => by simp [RDc]
  | x :: xs, vs, o, ⟨u, us, e, r, h⟩, hc => by
    subst e
    have h0 := hc 0 u rfl
    rw [Nat.add_zero] at h0
    refine ⟨by simp [live, h0], ⟨u, h0, r⟩, RDs_RDc h fun i v hv => ?_⟩
    have := hc (i + 1) v (by simpa using hv)
    rw [show o + 1 + i = o + (i + 1) from by omega]; exact this
def Reads {α : Type} (P : Program) (t : TypeId) (e : α → List D) (wf : α → Prop) : Prop :=
  ∀ {H : Type} {enc : TypeId × Value → H} {w : World} {base : Nat} {spare : Nat → Bool} {held : Bool} {fuel : Nat} {cs : List Value} {x : DataW H × List MemPlace},
    DataW.trod enc P w base spare held fuel t cs = some x → ∃ a, wf a ∧ RDs w (e a) cs
def wfI (k : IntKind) (n : Int) : Prop := (Lit.int k n).wf = true
def wfL {α : Type} (wf : α → Prop) (l : List α) : Prop := l.length ≤ maxLen ∧ ∀ a ∈ l, wf a
variable {P : Program} {t : TypeId}
theorem reads_int {k : IntKind} (ht : P.underlying t = some (.int k)) : Reads P t (fun n : Int => [.int k n]) (wfI k) := by
  intro H enc w base spare held fuel cs x h
  obtain ⟨n, rfl, _, hw⟩ := DataW.trod_int ht h
  exact ⟨n, hw, _, _, rfl, by simp [RD], rfl⟩
theorem cells?_get {w : World} {base : Nat} {a : Addr} {n : Nat} {cs : List Value} (h : w.cells? base a n = some cs) : cs.length = n ∧ ∀ i v, cs[i]? = some v → w.cell? (a.add i) = some v := by
  obtain ⟨h1, h2, h3⟩ := World.cells?_some h
  refine ⟨h2, fun i v hv => ?_⟩
  have hi := (List.getElem?_eq_some_iff.1 hv).1
  have := h3 i (by omega)
  rw [this]; simpa using hv
theorem reads_slice {α : Type} {el : TypeId} {e : α → List D} {wf : α → Prop} {sz : Nat} (ht : P.underlying t = some (.slice el)) (he : Reads P el e wf) (hsz : P.cellsOf el = sz) (hpos : 0 < sz) (hlen : ∀ a, (e a).length = sz) :
    Reads P t (fun l : List α => [.lst sz (l.map e)]) (wfL wf) := by
  intro H enc w base spare held fuel cs x h
  rcases DataW.trod_slice ht h with ⟨rfl, _⟩ | ⟨a, len, cap, elems, rest, n, _, rfl, _, hb, hl, hm, helen, hel, _, _⟩
  · exact ⟨[], ⟨by simp, by simp⟩, _, _, rfl, by simp only [RD, List.map_nil, List.length_nil]; exact ⟨none, 0, rfl, Nat.le_refl _, .inl trivial⟩, rfl⟩
  · have key : ∀ m, m ≤ len → ∃ l : List α, l.length = m ∧ (∀ x ∈ l, wf x) ∧ ∀ i y, l[i]? = some y → ∃ vs, w.cells? base (a.add (i * sz)) sz = some vs ∧ RDs w (e y) vs := by
      intro m
      induction m with
      | zero => exact fun _ => ⟨[], rfl, by simp, by simp⟩
      | succ m ih =>
        intro hm'
        obtain ⟨l, h1, h2, h3⟩ := ih (by omega)
        have h4 := hel m (by omega)
        have h5 : elems[m]? = some elems[m] := List.getElem?_eq_getElem (by omega)
        rw [h5, hsz, Option.bind_eq_some_iff] at h4
        obtain ⟨vs, h6, h7⟩ := h4
        obtain ⟨y, h8, h9⟩ := he h7
        refine ⟨l ++ [y], by simp [h1], ?_, fun i z hz => ?_⟩
        · intro x hx
          rcases List.mem_append.1 hx with hx | hx
          · exact h2 x hx
          · simp at hx; subst hx; exact h8
        · by_cases hi : i < m
          · rw [List.getElem?_append_left (by omega)] at hz; exact h3 i z hz
          · have : i = m := by
              have := (List.getElem?_eq_some_iff.1 hz).1
              simp at this; omega
            subst this
            rw [List.getElem?_append_right (by omega), h1] at hz
            simp at hz; subst hz
            exact ⟨vs, h6, h9⟩
    obtain ⟨l, h1, h2, h3⟩ := key len (Nat.le_refl _)
    have hmax : l.length ≤ maxLen := by omega
    refine ⟨l, ⟨hmax, h2⟩, _, _, rfl, ?_, rfl⟩
    simp only [RD, List.length_map, h1]
    refine ⟨some a, cap, rfl, hl, ?_⟩
    cases l with
    | nil => exact .inl rfl
    | cons y l =>
      right
      have hspot : a.spot = none := by
        obtain ⟨vs, h4, h5⟩ := h3 0 y rfl
        obtain ⟨h6, h7⟩ := cells?_get h4
        have hv : vs[0]? = some vs[0] := List.getElem?_eq_getElem (by omega)
        have := h7 0 _ hv
        cases hs : a.spot with
        | none => rfl
        | some s =>
          unfold World.cell? at this
          split at this
          · simp [Addr.add, hs] at this
          · cases this
      obtain ⟨b, o, sp⟩ := a
      simp only at hspot
      subst hspot
      refine ⟨b, o, rfl, ?_⟩
      have row : ∀ (l : List α) (j : Nat), (∀ i y, l[i]? = some y → ∃ vs, w.cells? base ((⟨b, o, none⟩ : Addr).add ((j + i) * sz)) sz = some vs ∧ RDs w (e y) vs) → RDL (live w) w sz b (l.map e) (o + j * sz) := by
        intro l
        induction l with
        | nil => intro j _; simp [RDL]
        | cons y l ih =>
          intro j h
          obtain ⟨vs, h4, h5⟩ := h 0 y rfl
          obtain ⟨h6, h7⟩ := cells?_get h4
          refine ⟨hlen y, RDs_RDc h5 fun i v hv => ?_, ?_⟩
          · have := h7 i v hv
            rw [addr_add, addr_add] at this
            simpa [Nat.add_assoc] using this
          · have := ih (j + 1) fun i y hy => by
              have := h (i + 1) y (by simpa using hy)
              rw [show j + 1 + i = j + (i + 1) from by omega]; exact this
            rw [show o + j * sz + sz = o + (j + 1) * sz from by rw [Nat.add_mul]; omega]
            exact this
      have := row (y :: l) 0 fun i y hy => by simpa using h3 i y hy
      simpa using this
theorem reads_at {α : Type} {el : TypeId} {e : α → List D} {wf : α → Prop} {sz : Nat} (he : Reads P el e wf) (hsz : P.cellsOf el = sz) (hlen : ∀ a, (e a).length = sz)
    {H : Type} {enc : TypeId × Value → H} {w : World} {base : Nat} {spare : Nat → Bool} {held : Bool} {fuel off : Nat} {cs : List Value} {x : DataW H × List MemPlace}
    (h : DataW.trod enc P w base spare held fuel el ((cs.drop off).take (P.cellsOf el)) = some x) : ∃ a, wf a ∧ RDat w cs off (e a) := by
  obtain ⟨a, h1, h2⟩ := he h
  refine ⟨a, h1, ?_⟩
  unfold RDat
  rw [hlen, ← hsz]; exact h2
theorem struct_at {H : Type} {enc : TypeId × Value → H} {w : World} {base : Nat} {spare : Nat → Bool} {held : Bool} {fuel : Nat} {cs : List Value} {x : DataW H × List MemPlace} {fs : Array Field}
    (ht : P.underlying t = some (.struct fs)) (h : DataW.trod enc P w base spare held fuel t cs = some x) :
    cs.length = P.cellsOf t ∧ ∃ n, ∀ (i : Nat) (f : Field), fs[i]? = some f → ∃ y, DataW.trod enc P w base spare held n f.type ((cs.drop f.offset).take (P.cellsOf f.type)) = some y := by
  obtain ⟨xs, n, _, _, h1, h2, h3⟩ := DataW.trod_struct ht h
  refine ⟨h1, n, fun i f hf => ?_⟩
  have hi : i < fs.size := (Array.getElem?_eq_some_iff.1 hf).1
  exact ⟨xs[i]'(by omega), by rw [h3 i f hf]; exact List.getElem?_eq_getElem (by omega)⟩
theorem array_at {H : Type} {enc : TypeId × Value → H} {w : World} {base : Nat} {spare : Nat → Bool} {held : Bool} {fuel : Nat} {cs : List Value} {x : DataW H × List MemPlace} {n : Nat} {el : TypeId}
    (ht : P.underlying t = some (.array n el)) (h : DataW.trod enc P w base spare held fuel t cs = some x) :
    cs.length = P.cellsOf t ∧ ∃ m, ∀ i, i < n → ∃ y, DataW.trod enc P w base spare held m el ((cs.drop (i * P.cellsOf el)).take (P.cellsOf el)) = some y := by
  obtain ⟨xs, m, _, _, h1, h2, h3⟩ := DataW.trod_array ht h
  exact ⟨h1, m, fun i hi => ⟨xs[i]'(by omega), by rw [h3 i hi]; exact List.getElem?_eq_getElem (by omega)⟩⟩
def ArgReads {α : Type} (P : Program) (t : TypeId) (v : α → V) (wf : α → Prop) : Prop :=
  ∀ {H : Type} {enc : TypeId × Value → H} {w : World} {base b0 : Nat} {spare : Nat → Bool} {held : Bool} {u : Value} {d : DataW H} {ps : List MemPlace},
    Value.okWide P w .any b0 t u → DataW.Trod enc P w base spare held t u d ps → ∃ a, wf a ∧ RF ⟨fun _ => 0, live w, fun _ => .ext⟩ w (v a) u
theorem RD_one {imm : Nat → Nat → Prop} {w : World} {x : D} {u : Value} (h : RD imm w x u) : u.oneCell' = true := by
  cases x with
  | int k n => simp only [RD] at h; subst h; rfl
  | bool b => simp only [RD] at h; subst h; rfl
  | str s => simp only [RD] at h; subst h; rfl
  | lst sz l => simp only [RD] at h; obtain ⟨a, cap, rfl, _⟩ := h; cases a <;> rfl
theorem RDs_RVs {w : World} {g : G} (hg : g.imm = live w) : ∀ {xs : List D} {us : List Value} {ℓ : Owner} {i : Nat}, RDs w xs us → RVs g w (xs.map V.d) ℓ i us ∧ ∀ u ∈ us, u.oneCell' = true
  | [], us, ℓ, i, h => by simp only [RDs] at h; subst h; simp [RVs]
  | x :: xs, us, ℓ, i, ⟨u, us', e, r, h⟩ => by
    subst e
    obtain ⟨h1, h2⟩ := RDs_RVs hg (ℓ := ℓ) (i := i + 1) h
    refine ⟨⟨u, us', rfl, by simpa [RV, hg] using r, h1⟩, fun v hv => ?_⟩
    rcases List.mem_cons.1 hv with rfl | hv
    · exact RD_one r
    · exact h2 v hv
theorem arg_agg {α : Type} {e : α → List D} {wf : α → Prop} (he : Reads P t e wf) (hagg : (∃ fs, P.underlying t = some (.struct fs)) ∨ ∃ n el, P.underlying t = some (.array n el)) : ArgReads P t (fun a => .agg ((e a).map V.d)) wf := by
  intro H enc w base b0 spare held u d ps hok hd
  obtain ⟨cs, rfl⟩ : ∃ cs, u = .agg cs := by
    rcases hagg with ⟨fs, ht⟩ | ⟨n, el, ht⟩
    · simp only [Value.okWide, ht] at hok; obtain ⟨cs, rfl, _⟩ := hok; exact ⟨cs, rfl⟩
    · simp only [Value.okWide, ht] at hok; obtain ⟨cs, rfl, _⟩ := hok; exact ⟨cs, rfl⟩
  obtain ⟨fuel, hf⟩ := hd
  obtain ⟨a, h1, h2⟩ := he hf
  refine ⟨a, h1, fun ℓ => ?_⟩
  simp only [RV]
  obtain ⟨h3, h4⟩ := RDs_RVs (g := ⟨fun _ => 0, live w, fun _ => .ext⟩) rfl (ℓ := ℓ) (i := 0) h2
  exact ⟨cs.toList, by simp, h3, h4⟩
def LawOK (P : Program) (f : FuncId) (ts : List TypeId) : Prop :=
  ∀ {H : Type} {enc : TypeId × Value → H} {w : World} {b0 : Nat} {us : List Value} {ds : List (DataW H)} {ps : List MemPlace},
    (∀ (j : Nat) t u, ts[j]? = some t → us[j]? = some u → Value.okWide P w .any b0 t u) → DataW.TrodAll enc P w 0 (fun _ => true) true ts us ds ps →
    ∃ vs, RFs ⟨fun _ => 0, live w, fun _ => .ext⟩ w vs us ∧ (∀ x ∈ vs, Flat x) ∧ V.lt.go 0 vs = true ∧ ∀ M nb, ACalls P f vs M nb (.d (.bool true)) M nb
theorem trodAll_stays (hl : laidOutB P = true) {W W' : World} {sp : Nat → Bool} {H : Type} {enc : TypeId × Value → H} : ∀ {ts : List TypeId} {us : List Value} {ds : List (DataW H)} {ps : List MemPlace},
    (∀ t ∈ ts, P.readableRec t = true ∧ t < P.types.size) → DataW.TrodAll enc P W 0 (fun _ => true) true ts us ds ps → (∀ p ∈ ps, W.sameAt W' p) → (∀ p ∈ ps, sp p.block = true) → DataW.TrodAll enc P W' 0 sp true ts us ds ps
  | [], [], [], ps, _, h, _, _ => h
  | t :: ts, u :: us, d :: ds, ps, hr, ⟨p, q, h1, h2, e⟩, hs, hp => by
    subst e
    obtain ⟨r1, r2⟩ := hr t (by simp)
    exact ⟨p, q, WideElems.Trod_stays hl r1 r2 h1 (fun x hx => hs x (by simp [hx])) (fun x hx => hp x (by simp [hx])), trodAll_stays hl (fun t ht => hr t (by simp [ht])) h2 (fun x hx => hs x (by simp [hx])) (fun x hx => hp x (by simp [hx])), rfl⟩
  | [], [], _ :: _, _, _, h, _, _ => h.elim
  | [], _ :: _, _, _, _, h, _, _ => h.elim
  | _ :: _, [], _, _, _, h, _, _ => h.elim
  | _ :: _, _ :: _, [], _, _, h, _, _ => h.elim
theorem trodAll_len {W : World} {sp : Nat → Bool} {held : Bool} {base : Nat} {H : Type} {enc : TypeId × Value → H} : ∀ {ts : List TypeId} {us : List Value} {ds : List (DataW H)} {ps : List MemPlace},
    DataW.TrodAll enc P W base sp held ts us ds ps → ds.length = ts.length ∧ us.length = ts.length
  | [], [], [], ps, h => ⟨rfl, rfl⟩
  | t :: ts, u :: us, d :: ds, ps, ⟨p, q, h1, h2, e⟩ => by have := trodAll_len h2; simp [this.1, this.2]
  | [], [], _ :: _, _, h => h.elim
  | [], _ :: _, _, _, h => h.elim
  | _ :: _, [], _, _, h => h.elim
  | _ :: _, _ :: _, [], _, h => h.elim
theorem law_returns {C : Checked} {f : FuncId} {fn : Func} {s : ChangeSpec} {conds : List PathCond} {bt : TypeId} {os : Os} {H : Type} {enc : TypeId × Value → H}
    (own : ownKnob C.prog.godebug = none) (started : os.Started) (noInit : C.prog.inits.idxOf? f = none) (hfn : C.prog.funcs[f]? = some fn)
    (witness : ∃ (w : World) (tape : Tape) (i : Input), w.os = os ∧ (w.forCall tape i).Shaped C.prog ∧ i.vars = [] ∧ Input.okWide C.prog (w.forCall tape i) .any w.heap.size f i ∧
      s.pre6 enc C.prog fn conds false (w.forCall tape i).memory i.args ∧ ({} : Assume).holds C.prog (lone (Frame.enter C.prog f i.args .normal) [] (w.forCall tape i)))
    (hvars : s.vars = []) (hres : fn.resultTypes = #[bt]) (hbt : C.prog.underlying bt = some .bool)
    (hl : laidOutB C.prog = true) (hread : ∀ t ∈ fn.params.toList, C.prog.readableRec t = true ∧ t < C.prog.types.size)
    (hspec : ∀ ds : List (DataW H), ds.length = fn.params.size → s.fn H ds = { results := [.lit (.bool true)], args := ds })
    (law : LawOK C.prog f fn.params.toList) :
    ReturnsInHanded {} C os f .any (s.pre6 enc C.prog fn conds false) (s.post enc C.prog fn false true false false) := by
  refine returnsInHanded_of_change own started noInit hfn witness ?_
  intro W base args ds gs before hval hW hcnd _
  have hW' := hW
  obtain ⟨p, q, hA, hV, hps, hfz, hnd⟩ := hW
  rw [hvars] at hV
  obtain ⟨rfl, rfl⟩ : gs = [] ∧ q = [] := by
    cases gs with
    | nil => exact ⟨rfl, hV⟩
    | cons _ _ => exact hV.elim
  obtain ⟨vs, h1, h2, h3, h4⟩ := law (fun j t u ht hu => hval j t u (by simpa using ht) (by simpa using hu)) hA
  obtain ⟨hb, _, h5⟩ := h4 (fun _ => none) 0
  have hlv : ∀ b o, live W b o → b < W.heap.size := by
    intro b o h
    simp only [live] at h
    obtain ⟨v, hv⟩ := Option.isSome_iff_exists.1 h
    unfold World.cell? at hv
    split at hv
    · rename_i hh; exact (Array.getElem?_eq_some_iff.1 hh).1
    · cases hv
  have hmr : MR ⟨fun _ => 0, live W, fun _ => .ext⟩ W (fun _ => none) 0 := ⟨fun k b h => (by cases h), fun b o h => ⟨hlv b o h, fun k h => by cases h⟩⟩
  have h6 := h5 W ⟨fun _ => 0, live W, fun _ => .ext⟩ args.toList hmr (fun k cs h => by cases h) (fun b => ⟨fun t p h => (by cases h), fun p h => (by cases h)⟩) h1 h2 (ons_mono (fun k hk => absurd hk (Nat.not_lt_zero k)) _ (ons_lt vs h3))
  refine Calls.mono h6 fun e W' ⟨v, g', he, _, hr, _, _, hf⟩ => ?_
  subst he
  have hv : v = .bool true := by simpa [RV, RD] using hr
  subst hv
  have hbelow : Below W.heap.size W W' := ⟨hf.os, hf.tape, hf.output, hf.size, fun k hk => (hf.old k hk trivial).2.1⟩
  have hrl : (Value.bool true).resultList fn.resultTypes.size = [.bool true] := by rw [hres]; rfl
  have hsp : s.fn H (ds ++ []) = { results := [.lit (.bool true)], args := ds } := by
    rw [List.append_nil]
    exact hspec ds (by have := (trodAll_len hA).1; simpa using this)
  have hlt : ∀ p ∈ before, p.block < W.heap.size := fun x hx => hW'.lt x hx
  have hst : ∀ sp : Nat → Bool, (∀ p ∈ before, sp p.block = true) → DataW.TrodAll enc C.prog W' 0 sp true fn.params.toList args.toList ds before := by
    intro sp hsp'
    have e : p = before := by rw [hps, List.append_nil]
    subst e
    exact trodAll_stays hl hread hA (fun x hx => hbelow.same (hlt x hx)) hsp'
  refine ⟨_, rfl, ds, [], before, [], before, [], hW', ?_, ?_, ?_, World.keptBut_mono (fun p hp => ⟨hp, .inr (.inl hp)⟩) (hbelow.frame (· ∈ before)), fun h => by cases h⟩
  · rw [hsp, hrl, hres]
    exact ⟨[], [], ⟨1, by simp [DataW.trod, Value.cells, hbt]⟩, rfl, rfl⟩
  · rw [hsp]
    exact hst _ fun p hp => by simpa using hlt p hp
  · rw [hsp, hvars]; rfl
section
variable {α β γ δ : Type} {f : FuncId} {ta tb tc td : TypeId} {va : α → V} {vb : β → V} {vc : γ → V} {vd : δ → V} {wa : α → Prop} {wb : β → Prop} {wc : γ → Prop} {wd : δ → Prop}
theorem lawOK1 (ra : ArgReads P ta va wa) (fa : ∀ a, (va a).dem = va a) (la : ∀ a, (va a).lt 0 = true) (law : ∀ a, wa a → ∀ M nb, ACalls P f [va a] M nb (.d (.bool true)) M nb) : LawOK P f [ta] := by
  intro H enc w b0 us ds ps hok hT
  match us, ds, hT with
  | [u], [d], ⟨p, q, h1, h2, e⟩ =>
    obtain ⟨a, ha, hra⟩ := ra (hok 0 _ _ rfl rfl) h1
    exact ⟨[va a], ⟨u, [], rfl, hra, rfl⟩, fun x hx => by rw [List.mem_singleton] at hx; subst hx; exact fa a, by simp [V.lt.go, la], law a ha⟩
  | [], _, hT => cases ‹List (DataW H)› <;> exact hT.elim
  | [_], [], hT => exact hT.elim
  | [_], _ :: _ :: _, ⟨_, _, _, h2, _⟩ => exact h2.elim
  | _ :: _ :: _, [], hT => exact hT.elim
  | _ :: _ :: _, [_], ⟨_, _, _, h2, _⟩ => exact h2.elim
  | _ :: _ :: _, _ :: _ :: _, ⟨_, _, _, h2, _⟩ => exact h2.elim
end
theorem arr_at {H : Type} {enc : TypeId × Value → H} {w : World} {base : Nat} {spare : Nat → Bool} {held : Bool} {fuel : Nat} {cs : List Value} {x : DataW H × List MemPlace} {n sz : Nat} {el : TypeId}
    (ht : P.underlying t = some (.array n el)) (hsz : P.cellsOf el = sz) (h : DataW.trod enc P w base spare held fuel t cs = some x) :
    cs.length = P.cellsOf t ∧ ∃ m, ∀ i, i < n → ∃ y, DataW.trod enc P w base spare held m el ((cs.drop (i * sz)).take (P.cellsOf el)) = some y := by
  obtain ⟨h1, m, h2⟩ := array_at ht h
  exact ⟨h1, m, fun i hi => by have := h2 i hi; rwa [show i * P.cellsOf el = i * sz from by rw [hsz]] at this⟩
end Go.Abs
end
section
namespace Go.Proofs
open Go Go.Abs
set_option linter.unusedVariables false
set_option maxRecDepth 100000
def W_55 (x : Int) : Prop := wfI .u8 x
theorem R_55 : Reads Try.prog 55 (eI .u8) W_55 := reads_int Try.underlying55
def W_5 (x : Int) : Prop := wfI .u8 x
theorem R_5 : Reads Try.prog 5 (eI .u8) W_5 := reads_int Try.underlying5
def W_56 (x : Int × Int × Int × Int × Int) : Prop := W_5 x.1 ∧ W_5 x.2.1 ∧ W_5 x.2.2.1 ∧ W_5 x.2.2.2.1 ∧ W_5 x.2.2.2.2
theorem R_56 : Reads Try.prog 56 (fun p => [.int .u8 p.1, .int .u8 p.2.1, .int .u8 p.2.2.1, .int .u8 p.2.2.2.1, .int .u8 p.2.2.2.2]) W_56 := by
  intro H enc w base spare held fuel cs x h
  obtain ⟨hl, n, hf⟩ := arr_at (sz := 1) Try.underlying56 (by kernel_rfl) h
  obtain ⟨y0, h0⟩ := hf 0 (by decide)
  obtain ⟨a0, w0, r0⟩ := reads_at (off := 0 * 1) (sz := 1) R_5 (by kernel_rfl) (fun _ => rfl) h0
  obtain ⟨y1, h1⟩ := hf 1 (by decide)
  obtain ⟨a1, w1, r1⟩ := reads_at (off := 1 * 1) (sz := 1) R_5 (by kernel_rfl) (fun _ => rfl) h1
  obtain ⟨y2, h2⟩ := hf 2 (by decide)
  obtain ⟨a2, w2, r2⟩ := reads_at (off := 2 * 1) (sz := 1) R_5 (by kernel_rfl) (fun _ => rfl) h2
  obtain ⟨y3, h3⟩ := hf 3 (by decide)
  obtain ⟨a3, w3, r3⟩ := reads_at (off := 3 * 1) (sz := 1) R_5 (by kernel_rfl) (fun _ => rfl) h3
  obtain ⟨y4, h4⟩ := hf 4 (by decide)
  obtain ⟨a4, w4, r4⟩ := reads_at (off := 4 * 1) (sz := 1) R_5 (by kernel_rfl) (fun _ => rfl) h4
  exact ⟨(a0, a1, a2, a3, a4), ⟨w0, w1, w2, w3, w4⟩, RDat.all (xs := (fun p => [.int .u8 p.1, .int .u8 p.2.1, .int .u8 p.2.2.1, .int .u8 p.2.2.2.1, .int .u8 p.2.2.2.2]) (a0, a1, a2, a3, a4)) (RDat.app r0 rfl (RDat.app r1 rfl (RDat.app r2 rfl (RDat.app r3 rfl r4)))) (hl.trans (by kernel_rfl))⟩
def W_57 (x : (Int × Int × Int × Int × Int) × (Int × Int × Int × Int × Int) × (Int × Int × Int × Int × Int) × (Int × Int × Int × Int × Int) × (Int × Int × Int × Int × Int)) : Prop := W_56 x.1 ∧ W_56 x.2.1 ∧ W_56 x.2.2.1 ∧ W_56 x.2.2.2.1 ∧ W_56 x.2.2.2.2
theorem R_57 : Reads Try.prog 57 (fun p => [.int .u8 p.1.1, .int .u8 p.1.2.1, .int .u8 p.1.2.2.1, .int .u8 p.1.2.2.2.1, .int .u8 p.1.2.2.2.2, .int .u8 p.2.1.1, .int .u8 p.2.1.2.1, .int .u8 p.2.1.2.2.1, .int .u8 p.2.1.2.2.2.1, .int .u8 p.2.1.2.2.2.2, .int .u8 p.2.2.1.1, .int .u8 p.2.2.1.2.1, .int .u8 p.2.2.1.2.2.1, .int .u8 p.2.2.1.2.2.2.1, .int .u8 p.2.2.1.2.2.2.2, .int .u8 p.2.2.2.1.1, .int .u8 p.2.2.2.1.2.1, .int .u8 p.2.2.2.1.2.2.1, .int .u8 p.2.2.2.1.2.2.2.1, .int .u8 p.2.2.2.1.2.2.2.2, .int .u8 p.2.2.2.2.1, .int .u8 p.2.2.2.2.2.1, .int .u8 p.2.2.2.2.2.2.1, .int .u8 p.2.2.2.2.2.2.2.1, .int .u8 p.2.2.2.2.2.2.2.2]) W_57 := by
  intro H enc w base spare held fuel cs x h
  obtain ⟨hl, n, hf⟩ := arr_at (sz := 5) Try.underlying57 (by kernel_rfl) h
  obtain ⟨y0, h0⟩ := hf 0 (by decide)
  obtain ⟨a0, w0, r0⟩ := reads_at (off := 0 * 5) (sz := 5) R_56 (by kernel_rfl) (fun _ => rfl) h0
  obtain ⟨y1, h1⟩ := hf 1 (by decide)
  obtain ⟨a1, w1, r1⟩ := reads_at (off := 1 * 5) (sz := 5) R_56 (by kernel_rfl) (fun _ => rfl) h1
  obtain ⟨y2, h2⟩ := hf 2 (by decide)
  obtain ⟨a2, w2, r2⟩ := reads_at (off := 2 * 5) (sz := 5) R_56 (by kernel_rfl) (fun _ => rfl) h2
  obtain ⟨y3, h3⟩ := hf 3 (by decide)
  obtain ⟨a3, w3, r3⟩ := reads_at (off := 3 * 5) (sz := 5) R_56 (by kernel_rfl) (fun _ => rfl) h3
  obtain ⟨y4, h4⟩ := hf 4 (by decide)
  obtain ⟨a4, w4, r4⟩ := reads_at (off := 4 * 5) (sz := 5) R_56 (by kernel_rfl) (fun _ => rfl) h4
  exact ⟨(a0, a1, a2, a3, a4), ⟨w0, w1, w2, w3, w4⟩, RDat.all (xs := (fun p => [.int .u8 p.1.1, .int .u8 p.1.2.1, .int .u8 p.1.2.2.1, .int .u8 p.1.2.2.2.1, .int .u8 p.1.2.2.2.2, .int .u8 p.2.1.1, .int .u8 p.2.1.2.1, .int .u8 p.2.1.2.2.1, .int .u8 p.2.1.2.2.2.1, .int .u8 p.2.1.2.2.2.2, .int .u8 p.2.2.1.1, .int .u8 p.2.2.1.2.1, .int .u8 p.2.2.1.2.2.1, .int .u8 p.2.2.1.2.2.2.1, .int .u8 p.2.2.1.2.2.2.2, .int .u8 p.2.2.2.1.1, .int .u8 p.2.2.2.1.2.1, .int .u8 p.2.2.2.1.2.2.1, .int .u8 p.2.2.2.1.2.2.2.1, .int .u8 p.2.2.2.1.2.2.2.2, .int .u8 p.2.2.2.2.1, .int .u8 p.2.2.2.2.2.1, .int .u8 p.2.2.2.2.2.2.1, .int .u8 p.2.2.2.2.2.2.2.1, .int .u8 p.2.2.2.2.2.2.2.2]) (a0, a1, a2, a3, a4)) (RDat.app r0 rfl (RDat.app r1 rfl (RDat.app r2 rfl (RDat.app r3 rfl r4)))) (hl.trans (by kernel_rfl))⟩
def W_59 (x : overseerlaw03_Graph) : Prop := W_5 x.States ∧ W_5 x.Marks ∧ W_57 x.To
theorem R_59 : Reads Try.prog 59 e_overseerlaw03_Graph W_59 := by
  intro H enc w base spare held fuel cs x h
  obtain ⟨hl, n, hf⟩ := struct_at Try.underlying59 h
  obtain ⟨y0, h0⟩ := hf 0 _ rfl
  obtain ⟨a0, w0, r0⟩ := reads_at (off := 0) (sz := 1) R_5 (by kernel_rfl) (fun _ => rfl) h0
  obtain ⟨y1, h1⟩ := hf 1 _ rfl
  obtain ⟨a1, w1, r1⟩ := reads_at (off := 1) (sz := 1) R_5 (by kernel_rfl) (fun _ => rfl) h1
  obtain ⟨y2, h2⟩ := hf 2 _ rfl
  obtain ⟨a2, w2, r2⟩ := reads_at (off := 2) (sz := 25) R_57 (by kernel_rfl) (fun _ => rfl) h2
  exact ⟨⟨a0, a1, a2⟩, ⟨w0, w1, w2⟩, RDat.all (xs := e_overseerlaw03_Graph ⟨a0, a1, a2⟩) (RDat.app r0 rfl (RDat.app r1 rfl r2)) (hl.trans (by kernel_rfl))⟩
def W_3 (x : Int) : Prop := wfI .i64 x
theorem R_3 : Reads Try.prog 3 (eI .i64) W_3 := reads_int Try.underlying3
def W_24 (x : List Int) : Prop := wfL W_3 x
theorem R_24 : Reads Try.prog 24 (eL 1 (eI .i64)) W_24 := reads_slice Try.underlying24 R_3 (by kernel_rfl) (by decide) (fun _ => rfl)
def W_61 (x : overseerlaw21_Asked) : Prop := W_55 x.Set ∧ W_59 x.Graph ∧ W_3 x.State ∧ W_24 x.Word
theorem R_61 : Reads Try.prog 61 e_overseerlaw21_Asked W_61 := by
  intro H enc w base spare held fuel cs x h
  obtain ⟨hl, n, hf⟩ := struct_at Try.underlying61 h
  obtain ⟨y0, h0⟩ := hf 0 _ rfl
  obtain ⟨a0, w0, r0⟩ := reads_at (off := 0) (sz := 1) R_55 (by kernel_rfl) (fun _ => rfl) h0
  obtain ⟨y1, h1⟩ := hf 1 _ rfl
  obtain ⟨a1, w1, r1⟩ := reads_at (off := 1) (sz := 27) R_59 (by kernel_rfl) (fun _ => rfl) h1
  obtain ⟨y2, h2⟩ := hf 2 _ rfl
  obtain ⟨a2, w2, r2⟩ := reads_at (off := 28) (sz := 1) R_3 (by kernel_rfl) (fun _ => rfl) h2
  obtain ⟨y3, h3⟩ := hf 3 _ rfl
  obtain ⟨a3, w3, r3⟩ := reads_at (off := 29) (sz := 1) R_24 (by kernel_rfl) (fun _ => rfl) h3
  exact ⟨⟨a0, a1, a2, a3⟩, ⟨w0, w1, w2, w3⟩, RDat.all (xs := e_overseerlaw21_Asked ⟨a0, a1, a2, a3⟩) (RDat.app r0 rfl (RDat.app r1 rfl (RDat.app r2 rfl r3))) (hl.trans (by kernel_rfl))⟩
theorem A_61 : ArgReads Try.prog 61 (fun (a : overseerlaw21_Asked) => .agg [.d (.int .u8 a.Set), .d (.int .u8 a.Graph.States), .d (.int .u8 a.Graph.Marks), .d (.int .u8 a.Graph.To.1.1), .d (.int .u8 a.Graph.To.1.2.1), .d (.int .u8 a.Graph.To.1.2.2.1), .d (.int .u8 a.Graph.To.1.2.2.2.1), .d (.int .u8 a.Graph.To.1.2.2.2.2), .d (.int .u8 a.Graph.To.2.1.1), .d (.int .u8 a.Graph.To.2.1.2.1), .d (.int .u8 a.Graph.To.2.1.2.2.1), .d (.int .u8 a.Graph.To.2.1.2.2.2.1), .d (.int .u8 a.Graph.To.2.1.2.2.2.2), .d (.int .u8 a.Graph.To.2.2.1.1), .d (.int .u8 a.Graph.To.2.2.1.2.1), .d (.int .u8 a.Graph.To.2.2.1.2.2.1), .d (.int .u8 a.Graph.To.2.2.1.2.2.2.1), .d (.int .u8 a.Graph.To.2.2.1.2.2.2.2), .d (.int .u8 a.Graph.To.2.2.2.1.1), .d (.int .u8 a.Graph.To.2.2.2.1.2.1), .d (.int .u8 a.Graph.To.2.2.2.1.2.2.1), .d (.int .u8 a.Graph.To.2.2.2.1.2.2.2.1), .d (.int .u8 a.Graph.To.2.2.2.1.2.2.2.2), .d (.int .u8 a.Graph.To.2.2.2.2.1), .d (.int .u8 a.Graph.To.2.2.2.2.2.1), .d (.int .u8 a.Graph.To.2.2.2.2.2.2.1), .d (.int .u8 a.Graph.To.2.2.2.2.2.2.2.1), .d (.int .u8 a.Graph.To.2.2.2.2.2.2.2.2), .d (.int .i64 a.State), .d (.lst 1 (List.map (eI .i64) a.Word))]) W_61 := arg_agg R_61 (.inl ⟨_, Try.underlying61⟩)
end Go.Proofs
end
section
namespace Go.Proofs
open Go Go.Abs
theorem wf_u8 {x : Int} (h : wfI .u8 x) : 0 ≤ x ∧ x < 256 := by
  unfold wfI at h
  simp [Lit.wf, IntKind.min, IntKind.max, IntKind.bits, IntKind.signed] at h
  omega
end Go.Proofs
end
section
namespace Go.Abs
open Go
theorem iterF_rule {X R : Type} {F : (X → Option R) → X → Option R} (I : X → Prop) (m : X → Nat) (Q : X → Option R → Prop)
    (step : ∀ (k : X → Option R) (x : X), I x → (∀ y, I y → m y < m x → Q y (k y)) → Q x (F k x)) : ∀ (fuel : Nat) (x : X), I x → m x < fuel → Q x (iterF F fuel x)
  | 0, x, _, h => absurd h (Nat.not_lt_zero _)
  | fuel + 1, x, hi, h => step _ x hi fun y hy hm => iterF_rule I m Q step fuel y hy (by omega)
theorem iterF_to {X R : Type} {F : (X → Option R) → X → Option R} {fuel : Nat} {x : X} (I : X → Prop) (m : X → Nat) (q : Option R) (hi : I x) (hm : m x < fuel)
    (step : ∀ (k : X → Option R) (x : X), I x → (∀ y, I y → m y < m x → k y = q) → F k x = q) : iterF F fuel x = q :=
  iterF_rule I m (fun _ r => r = q) step fuel x hi hm
theorem wrap_id {x : Int} (h1 : -9223372036854775808 ≤ x) (h2 : x ≤ 9223372036854775807) : IntKind.wrap .i64 x = x := by
  simp [IntKind.wrap, IntKind.bits, IntKind.signed]; omega
theorem wrap_succ {n : Nat} (h : n < 9223372036854775807) : IntKind.wrap .i64 ((n : Int) + 1) = ((n + 1 : Nat) : Int) := by
  rw [wrap_id (by omega) (by omega)]; omega
theorem getO_nat {α : Type} {l : List α} {n : Nat} (h : n < l.length) : getO l (n : Int) = some l[n] := by
  simp [getO, h]
theorem getO_some {α : Type} {l : List α} {i : Int} {x : α} : getO l i = some x ↔ 0 ≤ i ∧ l[i.toNat]? = some x := by
  unfold getO; split
  · rename_i h; simp [h]
  · rename_i h; simp only [reduceCtorEq, false_iff, not_and]; exact fun h' => absurd h' h
theorem appO_some {α : Type} {l m : List α} (h : l.length + m.length ≤ lim) : appO l m = some (l ++ m) := by
  unfold appO; rw [if_pos h]
theorem take_eq_succ {α : Type} {s t : List α} {k : Nat} (hs : k < s.length) (ht : k < t.length) (h : s.take k = t.take k) (he : s[k] = t[k]) : s.take (k + 1) = t.take (k + 1) := by
  rw [List.take_add_one, List.take_add_one, h, List.getElem?_eq_getElem hs, List.getElem?_eq_getElem ht, he]
theorem iterF_idx {R : Type} {F : (Int → Option R) → Int → Option R} {len fuel : Nat} (G : Nat → Option R) (hf : len < fuel)
    (step : ∀ (k : Int → Option R) (n : Nat), n < len → k ((n + 1 : Nat) : Int) = G (n + 1) → F k (n : Int) = G n) (last : ∀ k : Int → Option R, F k (len : Int) = G len) : iterF F fuel 0 = G 0 := by
  have := iterF_rule (F := F) (fun x => ∃ n : Nat, x = (n : Int) ∧ n ≤ len) (fun x => len - x.toNat) (fun x r => ∀ n : Nat, x = (n : Int) → r = G n) (fun k x hx ih => by
    obtain ⟨n, rfl, hn⟩ := hx
    intro m hm
    obtain rfl : n = m := by omega
    by_cases h : n < len
    · exact step k n h (ih _ ⟨n + 1, rfl, by omega⟩ (by omega) (n + 1) rfl)
    · obtain rfl : n = len := by omega
      exact last k) fuel 0 ⟨0, rfl, by omega⟩ (by simpa using hf)
  exact this 0 rfl
theorem wrap_pred {n : Nat} (h0 : 0 < n) (h : n < 9223372036854775807) : IntKind.wrap .i64 ((n : Int) - 1) = ((n - 1 : Nat) : Int) := by
  rw [wrap_id (by omega) (by omega)]; omega
theorem iterF_at {X S R : Type} {F : (X → Option R) → X → Option R} {len : Nat} (mk : Nat → S → X) (G : Nat → S → Option R)
    (step : ∀ (k : X → Option R) (n : Nat) (s : S), n < len → (∀ s', k (mk (n + 1) s') = G (n + 1) s') → F k (mk n s) = G n s) (last : ∀ (k : X → Option R) (s : S), F k (mk len s) = G len s) :
    ∀ (fuel n : Nat) (s : S), n ≤ len → len - n < fuel → iterF F fuel (mk n s) = G n s
  | 0, n, s, _, h => by omega
  | fuel + 1, n, s, hn, h => by
    show F (iterF F fuel) (mk n s) = _
    by_cases hlt : n < len
    · exact step _ n s hlt fun s' => iterF_at mk G step last fuel (n + 1) s' (by omega) (by omega)
    · obtain rfl : n = len := by omega
      exact last _ s
theorem mid_ok {i j : Nat} (hi : i < 1000000000000) (hj : j < 1000000000000) : IntKind.wrap .i64 (Int.fdiv (IntKind.wrap .u64 (IntKind.wrap .i64 ((i : Int) + j))) (2 ^ (min (Int.toNat 1) (IntKind.bits .u64)))) = (((i + j) / 2 : Nat) : Int) := by
  have h1 : IntKind.wrap .i64 ((i : Int) + j) = ((i + j : Nat) : Int) := by rw [wrap_id (by omega) (by omega)]; omega
  have h2 : IntKind.wrap .u64 ((i + j : Nat) : Int) = ((i + j : Nat) : Int) := by
    simp [IntKind.wrap, IntKind.bits, IntKind.signed]; omega
  have h3 : (2 : Int) ^ (min (Int.toNat 1) (IntKind.bits .u64)) = 2 := by decide
  rw [h1, h2, h3, Int.fdiv_eq_ediv_of_nonneg _ (by omega), show ((i + j : Nat) : Int) / 2 = (((i + j) / 2 : Nat) : Int) from by omega, wrap_id (by omega) (by omega)]
theorem slcO_nat {α : Type} {l : List α} {i j : Nat} (h : i ≤ j) (hj : j ≤ l.length) : slcO l (i : Int) (j : Int) = some ((l.take j).drop i) := by
  simp [slcO, h, hj]
theorem sorted_ext : ∀ {l m : List Int}, l.Pairwise (· < ·) → m.Pairwise (· < ·) → (∀ x, x ∈ l ↔ x ∈ m) → l = m
  | l, m, h1, h2, h => by
    have n1 : l.Nodup := h1.imp fun h => by omega
    have n2 : m.Nodup := h2.imp fun h => by omega
    have hp : l.Perm m := (List.perm_ext_iff_of_nodup n1 n2).2 h
    exact List.Perm.eq_of_pairwise (le := (· < ·)) (fun a b _ _ h1 h2 => by omega) h1 h2 hp
section
variable {α : Type} {p : α → Bool}
theorem count_mono : ∀ {l : List α}, l.Pairwise (fun a b => p b = true → p a = true) → ∀ (n : Nat) (h : n < l.length), p l[n] = true ↔ n < (l.filter p).length
  | [], _, n, h => by simp at h
  | x :: xs, hs, n, h => by
    obtain ⟨h1, h2⟩ := List.pairwise_cons.1 hs
    cases n with
    | zero =>
      cases hx : p x with
      | true => simp [hx]
      | false =>
        have : xs.filter p = [] := List.filter_eq_nil_iff.2 fun y hy hp => by have := h1 y hy hp; rw [hx] at this; cases this
        simp [hx, this]
    | succ n =>
      have ih := count_mono h2 n (by simpa using h)
      cases hx : p x with
      | true => simp [hx, ih]
      | false =>
        have : xs.filter p = [] := List.filter_eq_nil_iff.2 fun y hy hp => by have := h1 y hy hp; rw [hx] at this; cases this
        rw [this] at ih
        simp [hx, this] at ih ⊢
        exact ih
end
theorem iterF_inv {X S R : Type} {F : (X → Option R) → X → Option R} {len : Nat} (mk : Nat → S → X) (I : Nat → S → Prop) (G : Nat → S → Option R)
    (step : ∀ (k : X → Option R) (n : Nat) (s : S), n < len → I n s → (∀ s', I (n + 1) s' → k (mk (n + 1) s') = G (n + 1) s') → F k (mk n s) = G n s) (last : ∀ (k : X → Option R) (s : S), I len s → F k (mk len s) = G len s) :
    ∀ (fuel n : Nat) (s : S), n ≤ len → len - n < fuel → I n s → iterF F fuel (mk n s) = G n s
  | 0, n, s, _, h, _ => by omega
  | fuel + 1, n, s, hn, h, hi => by
    show F (iterF F fuel) (mk n s) = _
    by_cases hlt : n < len
    · exact step _ n s hlt hi fun s' hi' => iterF_inv mk I G step last fuel (n + 1) s' (by omega) (by omega) hi'
    · obtain rfl : n = len := by omega
      exact last _ s hi
theorem sorted_len : ∀ {l : List Int} {a b : Int}, l.Pairwise (· < ·) → (∀ x ∈ l, a ≤ x ∧ x < b) → l.length ≤ (b - a).toNat
  | [], _, _, _, _ => by simp
  | x :: xs, a, b, h, hr => by
    obtain ⟨h1, h2⟩ := List.pairwise_cons.1 h
    have := sorted_len (a := x + 1) (b := b) h2 fun y hy => ⟨by have := h1 y hy; omega, (hr y (by simp [hy])).2⟩
    have := hr x (by simp)
    simp only [List.length_cons]
    omega
end Go.Abs
end
section
namespace Go.Abs
abbrev big : Nat := 1000000000000
def small (a : api_Automaton) : Prop := a.Alphabet.length < big ∧ a.Marked.length < big ∧ a.Edges.length < big
end Go.Abs
end
