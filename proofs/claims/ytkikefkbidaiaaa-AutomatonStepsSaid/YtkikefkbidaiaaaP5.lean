/-
  Part 5 of the proof: see the last text.
-/
import Derived.Test.YtkikefkbidaiaaaP4
set_option linter.unusedVariables false
set_option linter.unusedSimpArgs false
set_option linter.unusedSectionVars false
namespace Go.Abs
open Go
set_option linter.unusedVariables false
set_option maxRecDepth 10000
set_option maxHeartbeats 4000000
theorem overseerref03_Same_walk {P : Program} {c : Nat} {f_overseerref03_SameInts : (List Int) → (List Int) → Option Bool}
    (H_overseerref03_SameInts : K_overseerref03_SameInts P 38 f_overseerref03_SameInts) (hcf : compFn P c = some F_overseerref03_Same) (fuel : Nat) : K_overseerref03_Same P c (f_overseerref03_Same f_overseerref03_SameInts fuel) := by
  intro a1 b2 r h
  refine fn_trP hcf rfl fun Γ M hP hnt hM => ?_
  subst hP
  refine Tr.init [(0, .agg [.d (.lst 1 (List.map (eI .i64) a1.Alphabet)), .d (.int .i64 a1.States), .d (.lst 1 (List.map (eI .i64) a1.Marked)), .d (.lst 3 (List.map e_api_Edge a1.Edges))]), (1, .agg [.d (.lst 1 (List.map (eI .i64) b2.Alphabet)), .d (.int .i64 b2.States), .d (.lst 1 (List.map (eI .i64) b2.Marked)), .d (.lst 3 (List.map e_api_Edge b2.Edges))])] rfl ?_
  unfold f_overseerref03_Same at h
  unfold F_overseerref03_Same
  refine Tr.seq ?_
  refine Tr.rgn ?_
  refine Rn.box (v := .agg [.d (.lst 1 (List.map (eI .i64) a1.Alphabet)), .d (.int .i64 a1.States), .d (.lst 1 (List.map (eI .i64) a1.Marked)), .d (.lst 3 (List.map e_api_Edge a1.Edges))]) (cs := [.d (.lst 1 (List.map (eI .i64) a1.Alphabet)), .d (.int .i64 a1.States), .d (.lst 1 (List.map (eI .i64) a1.Marked)), .d (.lst 3 (List.map e_api_Edge a1.Edges))]) trivial rfl rfl rfl rfl rfl ?_
  refine Rn.box (v := .agg [.d (.lst 1 (List.map (eI .i64) b2.Alphabet)), .d (.int .i64 b2.States), .d (.lst 1 (List.map (eI .i64) b2.Marked)), .d (.lst 3 (List.map e_api_Edge b2.Edges))]) (cs := [.d (.lst 1 (List.map (eI .i64) b2.Alphabet)), .d (.int .i64 b2.States), .d (.lst 1 (List.map (eI .i64) b2.Marked)), .d (.lst 3 (List.map e_api_Edge b2.Edges))]) trivial rfl rfl rfl rfl rfl ?_
  refine Rn.movD trivial rfl ?_
  refine Rn.nil ?_
  refine toN ?_
  refine Tr.seq ?_
  refine Tr.cutB (fun (x10 : Bool) => ⟨look [(2, .ptr (Γ.n0 + 2) 0), (3, .ptr (Γ.n0 + 3) 0), (35, .d (.bool x10))], memOf Γ.n0 (bxs [(2, [.d (.lst 1 (List.map (eI .i64) a1.Alphabet)), .d (.int .i64 a1.States), .d (.lst 1 (List.map (eI .i64) a1.Marked)), .d (.lst 3 (List.map e_api_Edge a1.Edges))]), (3, [.d (.lst 1 (List.map (eI .i64) b2.Alphabet)), .d (.int .i64 b2.States), .d (.lst 1 (List.map (eI .i64) b2.Marked)), .d (.lst 3 (List.map e_api_Edge b2.Edges))])]) M, Γ.n0 + 54⟩) h (fun z h => ?_) (fun z h => ?_)
  · refine Tr.rgn ?_
    refine Rn.fldP (o' := 0) trivial rfl rfl ?_
    refine Rn.load (v := .d (.lst 1 (List.map (eI .i64) a1.Alphabet))) trivial rfl (boxOwn rfl) rfl rfl ?_
    refine Rn.fldP (o' := 0) trivial rfl rfl ?_
    refine Rn.load (v := .d (.lst 1 (List.map (eI .i64) b2.Alphabet))) trivial rfl (boxOwn rfl) rfl rfl ?_
    replace h := bnd h
    obtain ⟨x4, h3, h⟩ := h
    refine Rn.call (args := [.d (.lst 1 (List.map (eI .i64) a1.Alphabet)), .d (.lst 1 (List.map (eI .i64) b2.Alphabet))]) trivial rfl (H_overseerref03_SameInts _ _ _ h3) pc9 ?_
    refine Rn.un trivial rfl rfl ?_
    refine Rn.movD trivial rfl ?_
    refine bsplit x4 (fun hb5 => ?_) (fun hb5 => ?_)
    · replace h := bT hb5 h
      refine Rn.fldP (o' := 1) (gw rfl (nT hb5)) rfl rfl ?_
      refine Rn.load (v := .d (.int .i64 a1.States)) (gw rfl (nT hb5)) rfl (boxOwn rfl) rfl rfl ?_
      refine Rn.fldP (o' := 1) (gw rfl (nT hb5)) rfl rfl ?_
      refine Rn.load (v := .d (.int .i64 b2.States)) (gw rfl (nT hb5)) rfl (boxOwn rfl) rfl rfl ?_
      refine Rn.bin (gw rfl (nT hb5)) rfl rfl rfl ?_
      refine Rn.pickF (v := .d (.bool (a1.States != b2.States))) trivial rfl (nT hb5) rfl ?_
      refine Rn.movD trivial rfl ?_
      refine bsplit (a1.States != b2.States) (fun hb6 => ?_) (fun hb6 => ?_)
      · replace h := bT hb6 h
        refine Rn.sk (nw rfl hb6) ?_
        refine Rn.sk (nw rfl hb6) ?_
        refine Rn.sk (nw rfl hb6) ?_
        refine Rn.sk (nw rfl hb6) ?_
        refine Rn.sk (nw rfl hb6) ?_
        refine Rn.sk (nw rfl hb6) ?_
        refine Rn.pickT (v := .d (.bool true)) trivial rfl hb6 rfl ?_
        refine Rn.movD trivial rfl ?_
        refine Rn.sk (nw (b := true) rfl rfl) ?_
        refine Rn.sk (nw (b := true) rfl rfl) ?_
        refine Rn.sk (nw (b := true) rfl rfl) ?_
        refine Rn.sk (nw (b := true) rfl rfl) ?_
        refine Rn.sk (nw (b := true) rfl rfl) ?_
        refine Rn.sk (nw (b := true) rfl rfl) ?_
        refine Rn.sk (nw (b := true) rfl rfl) ?_
        refine Rn.pickT (v := .d (.bool true)) trivial rfl rfl rfl ?_
        refine Rn.nil ?_
        replace h := Option.some.inj h
        subst h
        show WeakSt Γ _ ⟨look _, memOf _ (bxs _) _, _⟩; exact weak_cut [] ⟨(kPtr rfl), ⟨(kPtr rfl), ⟨(.same rfl), trivial⟩⟩⟩ ⟨⟨_, rfl, rfl, (.same rfl)⟩, ⟨⟨_, rfl, rfl, (.same rfl)⟩, trivial⟩⟩ rfl
      · replace h := bF hb6 h
        refine Rn.fldP (o' := 2) (gw rfl hb6) rfl rfl ?_
        refine Rn.load (v := .d (.lst 1 (List.map (eI .i64) a1.Marked))) (gw rfl hb6) rfl (boxOwn rfl) rfl rfl ?_
        refine Rn.fldP (o' := 2) (gw rfl hb6) rfl rfl ?_
        refine Rn.load (v := .d (.lst 1 (List.map (eI .i64) b2.Marked))) (gw rfl hb6) rfl (boxOwn rfl) rfl rfl ?_
        replace h := bnd h
        obtain ⟨x8, h7, h⟩ := h
        refine Rn.call (args := [.d (.lst 1 (List.map (eI .i64) a1.Marked)), .d (.lst 1 (List.map (eI .i64) b2.Marked))]) (gw rfl hb6) rfl (H_overseerref03_SameInts _ _ _ h7) pc9 ?_
        refine Rn.un (gw rfl hb6) rfl rfl ?_
        refine Rn.pickF (v := .d (.bool (!x8))) trivial rfl hb6 rfl ?_
        refine Rn.movD trivial rfl ?_
        refine bsplit x8 (fun hb9 => ?_) (fun hb9 => ?_)
        · replace h := bT hb9 h
          refine Rn.fldP (o' := 3) (gw rfl (nT hb9)) rfl rfl ?_
          refine Rn.load (v := .d (.lst 3 (List.map e_api_Edge a1.Edges))) (gw rfl (nT hb9)) rfl (boxOwn rfl) rfl rfl ?_
          refine Rn.lenD (gw rfl (nT hb9)) rfl ?_
          refine Rn.fldP (o' := 3) (gw rfl (nT hb9)) rfl rfl ?_
          refine Rn.load (v := .d (.lst 3 (List.map e_api_Edge b2.Edges))) (gw rfl (nT hb9)) rfl (boxOwn rfl) rfl rfl ?_
          refine Rn.lenD (gw rfl (nT hb9)) rfl ?_
          refine Rn.bin (gw rfl (nT hb9)) rfl rfl rfl ?_
          refine Rn.pickF (v := .d (.bool ((a1.Edges.length : Int) != (b2.Edges.length : Int)))) trivial rfl (nT hb9) rfl ?_
          refine Rn.nil ?_
          replace h := Option.some.inj h
          subst h
          show WeakSt Γ _ ⟨look _, memOf _ (bxs _) _, _⟩; exact weak_cut [] ⟨(kPtr rfl), ⟨(kPtr rfl), ⟨(.same rfl), trivial⟩⟩⟩ ⟨⟨_, rfl, rfl, (.same rfl)⟩, ⟨⟨_, rfl, rfl, (.same rfl)⟩, trivial⟩⟩ rfl
        · replace h := bF hb9 h
          refine Rn.sk (nw rfl (nF hb9)) ?_
          refine Rn.sk (nw rfl (nF hb9)) ?_
          refine Rn.sk (nw rfl (nF hb9)) ?_
          refine Rn.sk (nw rfl (nF hb9)) ?_
          refine Rn.sk (nw rfl (nF hb9)) ?_
          refine Rn.sk (nw rfl (nF hb9)) ?_
          refine Rn.sk (nw rfl (nF hb9)) ?_
          refine Rn.pickT (v := .d (.bool true)) trivial rfl (nF hb9) rfl ?_
          refine Rn.nil ?_
          replace h := Option.some.inj h
          subst h
          show WeakSt Γ _ ⟨look _, memOf _ (bxs _) _, _⟩; exact weak_cut [] ⟨(kPtr rfl), ⟨(kPtr rfl), ⟨(.same rfl), trivial⟩⟩⟩ ⟨⟨_, rfl, rfl, (.same rfl)⟩, ⟨⟨_, rfl, rfl, (.same rfl)⟩, trivial⟩⟩ rfl
    · replace h := bF hb5 h
      refine Rn.sk (nw rfl (nF hb5)) ?_
      refine Rn.sk (nw rfl (nF hb5)) ?_
      refine Rn.sk (nw rfl (nF hb5)) ?_
      refine Rn.sk (nw rfl (nF hb5)) ?_
      refine Rn.sk (nw rfl (nF hb5)) ?_
      refine Rn.pickT (v := .d (.bool true)) trivial rfl (nF hb5) rfl ?_
      refine Rn.movD trivial rfl ?_
      refine Rn.sk (nw (b := true) rfl rfl) ?_
      refine Rn.sk (nw (b := true) rfl rfl) ?_
      refine Rn.sk (nw (b := true) rfl rfl) ?_
      refine Rn.sk (nw (b := true) rfl rfl) ?_
      refine Rn.sk (nw (b := true) rfl rfl) ?_
      refine Rn.sk (nw (b := true) rfl rfl) ?_
      refine Rn.pickT (v := .d (.bool true)) trivial rfl rfl rfl ?_
      refine Rn.movD trivial rfl ?_
      refine Rn.sk (nw (b := true) rfl rfl) ?_
      refine Rn.sk (nw (b := true) rfl rfl) ?_
      refine Rn.sk (nw (b := true) rfl rfl) ?_
      refine Rn.sk (nw (b := true) rfl rfl) ?_
      refine Rn.sk (nw (b := true) rfl rfl) ?_
      refine Rn.sk (nw (b := true) rfl rfl) ?_
      refine Rn.sk (nw (b := true) rfl rfl) ?_
      refine Rn.pickT (v := .d (.bool true)) trivial rfl rfl rfl ?_
      refine Rn.nil ?_
      replace h := Option.some.inj h
      subst h
      show WeakSt Γ _ ⟨look _, memOf _ (bxs _) _, _⟩; exact weak_cut [] ⟨(kPtr rfl), ⟨(kPtr rfl), ⟨(.same rfl), trivial⟩⟩⟩ ⟨⟨_, rfl, rfl, (.same rfl)⟩, ⟨⟨_, rfl, rfl, (.same rfl)⟩, trivial⟩⟩ rfl
  · obtain ⟨x10, rfl⟩ : ∃ x, x = z := ⟨_, rfl⟩
    refine Tr.cond rfl (fun hb11 => ?_) (fun hb11 => ?_)
    · replace h := bT hb11 h
      refine Tr.seq ?_
      refine Tr.rgn ?_
      refine Rn.movD trivial rfl ?_
      refine Rn.nil ?_
      refine toN ?_
      refine Tr.ret ?_
      replace h := Option.some.inj h
      subst h
      exact ⟨.inr rfl, (.d (.bool false)), rfl, fun _ _ _ _ h => h, trivial, fun k hk => memOf_base hk⟩
    · replace h := bF hb11 h
      refine Tr.skip ?_
      refine toN ?_
      refine Tr.seq ?_
      refine Tr.seq ?_
      refine Tr.rgn ?_
      refine Rn.movD trivial rfl ?_
      refine Rn.nil ?_
      refine toN ?_
      refine Tr.block ?_
      refine Tr.loop (mk := fun (i12 : Int) => ⟨look [(2, .ptr (Γ.n0 + 2) 0), (3, .ptr (Γ.n0 + 3) 0), (5, .d (.int .i64 i12))], memOf Γ.n0 (bxs [(2, [.d (.lst 1 (List.map (eI .i64) a1.Alphabet)), .d (.int .i64 a1.States), .d (.lst 1 (List.map (eI .i64) a1.Marked)), .d (.lst 3 (List.map e_api_Edge a1.Edges))]), (3, [.d (.lst 1 (List.map (eI .i64) b2.Alphabet)), .d (.int .i64 b2.States), .d (.lst 1 (List.map (eI .i64) b2.Marked)), .d (.lst 3 (List.map e_api_Edge b2.Edges))])]) M, Γ.n0 + 54⟩) h (by show WeakSt Γ (clean _ _ _) ⟨look _, memOf _ (bxs _) _, _⟩; exact weak_clean ⟨(kPtr rfl), ⟨(kPtr rfl), ⟨(.same rfl), trivial⟩⟩⟩ ⟨⟨_, rfl, rfl, (.same rfl)⟩, ⟨⟨_, rfl, rfl, (.same rfl)⟩, trivial⟩⟩ rfl) (fun k13 z h => ?_)
      · obtain ⟨i12, rfl⟩ : ∃ x, x = z := ⟨_, rfl⟩
        replace h : _ = some _ := h
        refine Tr.seq ?_
        refine Tr.seq ?_
        refine Tr.rgn ?_
        refine Rn.movD trivial rfl ?_
        refine Rn.fldP (o' := 3) trivial rfl rfl ?_
        refine Rn.load (v := .d (.lst 3 (List.map e_api_Edge a1.Edges))) trivial rfl (boxOwn rfl) rfl rfl ?_
        refine Rn.lenD trivial rfl ?_
        refine Rn.bin trivial rfl rfl rfl ?_
        refine Rn.nil ?_
        refine toN ?_
        refine Tr.cond rfl (fun hb14 => ?_) (fun hb14 => ?_)
        · replace h := ifT hb14 h
          refine Tr.skip ?_
          refine toN ?_
          refine Tr.seq ?_
          refine Tr.block ?_
          refine Tr.seq ?_
          refine Tr.rgnD (by decide) ?_
          refine Rn.fldP (o' := 3) trivial rfl rfl ?_
          refine Rn.load (v := .d (.lst 3 (List.map e_api_Edge a1.Edges))) trivial rfl (boxOwn rfl) rfl rfl ?_
          refine Rn.movD trivial rfl ?_
          replace h := bnd h
          obtain ⟨x15, h16, h⟩ := h
          refine Rn.idxD (e := e_api_Edge) trivial rfl rfl h16 ?_
          refine Rn.loadCA (vs := [.d (.int .i64 x15.From), .d (.int .i64 x15.Event), .d (.int .i64 x15.To)]) trivial rfl rfl rfl ?_
          refine Rn.fldP (o' := 3) trivial rfl rfl ?_
          refine Rn.load (v := .d (.lst 3 (List.map e_api_Edge b2.Edges))) trivial rfl (boxOwn rfl) rfl rfl ?_
          refine Rn.movD trivial rfl ?_
          replace h := bnd h
          obtain ⟨x17, h18, h⟩ := h
          refine Rn.idxD (e := e_api_Edge) trivial rfl rfl h18 ?_
          refine Rn.loadCA (vs := [.d (.int .i64 x17.From), .d (.int .i64 x17.Event), .d (.int .i64 x17.To)]) trivial rfl rfl rfl ?_
          refine Rn.eqa (r := ((x15.From == x17.From) && ((x15.Event == x17.Event) && ((x15.To == x17.To) && true)))) trivial rfl rfl rfl ?_
          refine Rn.nil ⟨rfl, ?_⟩
          refine toN ?_
          refine Tr.cond rfl (fun hb19 => ?_) (fun hb19 => ?_)
          · have hb19 := nT' hb19
            replace h := bF hb19 h
            refine Tr.seq ?_
            refine Tr.rgn ?_
            refine Rn.movD trivial rfl ?_
            refine Rn.nil ?_
            refine toN ?_
            refine Tr.ret ?_
            replace h := Option.some.inj h
            subst h
            exact ⟨.inr rfl, (.d (.bool false)), rfl, fun _ _ _ _ h => h, trivial, fun k hk => memOf_base hk⟩
          · have hb19 := nF' hb19
            replace h := bT hb19 h
            refine Tr.skip ?_
            refine toN ?_
            refine Tr.rgn ?_
            refine Rn.movD trivial rfl ?_
            refine Rn.bin trivial rfl rfl rfl ?_
            refine Rn.movD trivial rfl ?_
            refine Rn.nil ?_
            exact ⟨_, h, (by show WeakSt Γ (clean _ _ _) ⟨look _, memOf _ (bxs _) _, _⟩; exact weak_clean ⟨(kPtr rfl), ⟨(kPtr rfl), ⟨(.same rfl), trivial⟩⟩⟩ ⟨⟨_, rfl, rfl, (.same rfl)⟩, ⟨⟨_, rfl, rfl, (.same rfl)⟩, trivial⟩⟩ rfl)⟩
        · replace h := ifF hb14 h
          refine Tr.exit ?_
          refine toN ?_
          refine Tr.seq ?_
          refine Tr.rgn ?_
          refine Rn.movD trivial rfl ?_
          refine Rn.nil ?_
          refine toN ?_
          refine Tr.ret ?_
          replace h := Option.some.inj h
          subst h
          exact ⟨.inr rfl, (.d (.bool true)), rfl, fun _ _ _ _ h => h, trivial, fun k hk => memOf_base hk⟩
theorem overseerlaw03_known_walk {P : Program} {c : Nat} {f_automaton_Words : api_Automaton → Int → Bool → Option ((List (List Int)) × Int)} {f_automaton_Relabel : api_Automaton → (List Int) → Option (api_Automaton × Int)} {f_overseerref03_Same : api_Automaton → api_Automaton → Option Bool} {f_automaton_Canonical : api_Automaton → Option (api_Automaton × Int)} {f_automaton_Run : api_Automaton → Int → (List Int) → Option (Int × Int × Int)} {f_overseerref03_SameInts : (List Int) → (List Int) → Option Bool} {f_overseerlaw03_example : Option api_Automaton}
    (H_automaton_Words : K_automaton_Words P 16 f_automaton_Words)
    (H_automaton_Relabel : K_automaton_Relabel P 20 f_automaton_Relabel)
    (H_overseerref03_Same : K_overseerref03_Same P 23 f_overseerref03_Same)
    (H_automaton_Canonical : K_automaton_Canonical P 29 f_automaton_Canonical)
    (H_automaton_Run : K_automaton_Run P 34 f_automaton_Run)
    (H_overseerref03_SameInts : K_overseerref03_SameInts P 38 f_overseerref03_SameInts)
    (H_overseerlaw03_example : K_overseerlaw03_example P 46 f_overseerlaw03_example) (hcf : compFn P c = some F_overseerlaw03_known) : K_overseerlaw03_known P c (f_overseerlaw03_known f_automaton_Words f_automaton_Relabel f_overseerref03_Same f_automaton_Canonical f_automaton_Run f_overseerref03_SameInts f_overseerlaw03_example) := by
  intro  r h
  refine fn_trP hcf rfl fun Γ M hP hnt hM => ?_
  subst hP
  refine Tr.init [] rfl ?_
  unfold f_overseerlaw03_known at h
  unfold F_overseerlaw03_known
  refine Tr.seq ?_
  refine Tr.rgn ?_
  refine Rn.movD trivial rfl ?_
  refine Rn.nil ?_
  refine toN ?_
  refine Tr.seq ?_
  refine Tr.rgn ?_
  replace h := bnd h
  obtain ⟨x2, h1, h⟩ := h
  refine Rn.call (args := []) trivial rfl (H_overseerlaw03_example _ h1) pc9 ?_
  replace h := bnd h
  obtain ⟨⟨r4, r5⟩, h3, h⟩ := h
  refine Rn.call (args := [.agg [.d (.lst 1 (List.map (eI .i64) x2.Alphabet)), .d (.int .i64 x2.States), .d (.lst 1 (List.map (eI .i64) x2.Marked)), .d (.lst 3 (List.map e_api_Edge x2.Edges))]]) trivial rfl (H_automaton_Canonical _ _ h3) pc9 ?_
  refine Rn.mov (v := .tup [.agg [.d (.lst 1 (List.map (eI .i64) r4.Alphabet)), .d (.int .i64 r4.States), .d (.lst 1 (List.map (eI .i64) r4.Marked)), .d (.lst 3 (List.map e_api_Edge r4.Edges))], .d (.int .i64 r5)]) trivial rfl ?_
  refine Rn.ext (v := .agg [.d (.lst 1 (List.map (eI .i64) r4.Alphabet)), .d (.int .i64 r4.States), .d (.lst 1 (List.map (eI .i64) r4.Marked)), .d (.lst 3 (List.map e_api_Edge r4.Edges))]) (vs := [.agg [.d (.lst 1 (List.map (eI .i64) r4.Alphabet)), .d (.int .i64 r4.States), .d (.lst 1 (List.map (eI .i64) r4.Marked)), .d (.lst 3 (List.map e_api_Edge r4.Edges))], .d (.int .i64 r5)]) trivial rfl rfl rfl ?_
  refine Rn.ext (v := .d (.int .i64 r5)) (vs := [.agg [.d (.lst 1 (List.map (eI .i64) r4.Alphabet)), .d (.int .i64 r4.States), .d (.lst 1 (List.map (eI .i64) r4.Marked)), .d (.lst 3 (List.map e_api_Edge r4.Edges))], .d (.int .i64 r5)]) trivial rfl rfl rfl ?_
  refine Rn.alloc trivial rfl ?_
  refine Rn.store (v := .agg [.d (.lst 1 (List.map (eI .i64) r4.Alphabet)), .d (.int .i64 r4.States), .d (.lst 1 (List.map (eI .i64) r4.Marked)), .d (.lst 3 (List.map e_api_Edge r4.Edges))]) (cs' := [.d (.lst 1 (List.map (eI .i64) r4.Alphabet)), .d (.int .i64 r4.States), .d (.lst 1 (List.map (eI .i64) r4.Marked)), .d (.lst 3 (List.map e_api_Edge r4.Edges))]) trivial rfl rfl rfl rfl rfl rfl ?_
  refine Rn.movD trivial rfl ?_
  refine Rn.nil ?_
  refine toN ?_
  refine Tr.seq ?_
  refine Tr.rgn ?_
  refine Rn.load (v := .agg [.d (.lst 1 (List.map (eI .i64) r4.Alphabet)), .d (.int .i64 r4.States), .d (.lst 1 (List.map (eI .i64) r4.Marked)), .d (.lst 3 (List.map e_api_Edge r4.Edges))]) trivial rfl (boxOwn rfl) rfl rfl ?_
  refine Rn.bslice (xs := [.d (.int .i64 0), .d (.int .i64 0)]) (cs := [.d (.int .i64 0), .d (.int .i64 0)]) trivial rfl rfl rfl rfl ?_
  refine Rn.weak (by show WeakSt Γ _ ⟨look [(0, .d (.bool false)), (1, .ptr (Γ.n0 + 1) 0), (2, .d (.int .i64 r5)), (10, .tup [.agg [.d (.lst 1 (List.map (eI .i64) r4.Alphabet)), .d (.int .i64 r4.States), .d (.lst 1 (List.map (eI .i64) r4.Marked)), .d (.lst 3 (List.map e_api_Edge r4.Edges))], .d (.int .i64 r5)]), (11, .agg [.d (.lst 1 (List.map (eI .i64) x2.Alphabet)), .d (.int .i64 x2.States), .d (.lst 1 (List.map (eI .i64) x2.Marked)), .d (.lst 3 (List.map e_api_Edge x2.Edges))]), (12, .tup [.agg [.d (.lst 1 (List.map (eI .i64) r4.Alphabet)), .d (.int .i64 r4.States), .d (.lst 1 (List.map (eI .i64) r4.Marked)), .d (.lst 3 (List.map e_api_Edge r4.Edges))], .d (.int .i64 r5)]), (13, .agg [.d (.lst 1 (List.map (eI .i64) r4.Alphabet)), .d (.int .i64 r4.States), .d (.lst 1 (List.map (eI .i64) r4.Marked)), .d (.lst 3 (List.map e_api_Edge r4.Edges))]), (14, .d (.int .i64 r5)), (16, .agg [.d (.lst 1 (List.map (eI .i64) r4.Alphabet)), .d (.int .i64 r4.States), .d (.lst 1 (List.map (eI .i64) r4.Marked)), .d (.lst 3 (List.map e_api_Edge r4.Edges))]), (17, .d (.lst 1 (List.map (eI .i64) [0, 0])))], memOf Γ.n0 (bxs [(1, [.d (.lst 1 (List.map (eI .i64) r4.Alphabet)), .d (.int .i64 r4.States), .d (.lst 1 (List.map (eI .i64) r4.Marked)), .d (.lst 3 (List.map e_api_Edge r4.Edges))])]) M, Γ.n0 + 99⟩; exact weak_freeze 17 [.int .i64 0, .int .i64 0] rfl rfl ⟨(.same rfl), ⟨(fPtr rfl), ⟨(.same rfl), ⟨(.same rfl), ⟨(.same rfl), ⟨(.same rfl), ⟨(.same rfl), ⟨(.same rfl), ⟨(.same rfl), ⟨(fSl rfl rfl), trivial⟩⟩⟩⟩⟩⟩⟩⟩⟩⟩ ⟨⟨_, rfl, rfl, (.same rfl)⟩, trivial⟩ rfl) ?_
  replace h := bnd h
  obtain ⟨⟨r7, r8, r9⟩, h6, h⟩ := h
  refine Rn.call (args := [.agg [.d (.lst 1 (List.map (eI .i64) r4.Alphabet)), .d (.int .i64 r4.States), .d (.lst 1 (List.map (eI .i64) r4.Marked)), .d (.lst 3 (List.map e_api_Edge r4.Edges))], .d (.int .i64 0), .d (.lst 1 (List.map (eI .i64) [0, 0]))]) trivial rfl (H_automaton_Run _ _ _ _ h6) pc9 ?_
  refine Rn.mov (v := .tup [.d (.int .i64 r7), .d (.int .i64 r8), .d (.int .i64 r9)]) trivial rfl ?_
  refine Rn.ext (v := .d (.int .i64 r7)) (vs := [.d (.int .i64 r7), .d (.int .i64 r8), .d (.int .i64 r9)]) trivial rfl rfl rfl ?_
  refine Rn.ext (v := .d (.int .i64 r8)) (vs := [.d (.int .i64 r7), .d (.int .i64 r8), .d (.int .i64 r9)]) trivial rfl rfl rfl ?_
  refine Rn.ext (v := .d (.int .i64 r9)) (vs := [.d (.int .i64 r7), .d (.int .i64 r8), .d (.int .i64 r9)]) trivial rfl rfl rfl ?_
  refine Rn.movD trivial rfl ?_
  refine Rn.movD trivial rfl ?_
  refine Rn.movD trivial rfl ?_
  refine Rn.nil ?_
  refine toN ?_
  refine Tr.seq ?_
  refine Tr.rgn ?_
  refine Rn.load (v := .agg [.d (.lst 1 (List.map (eI .i64) r4.Alphabet)), .d (.int .i64 r4.States), .d (.lst 1 (List.map (eI .i64) r4.Marked)), .d (.lst 3 (List.map e_api_Edge r4.Edges))]) trivial rfl (boxOwn rfl) rfl rfl ?_
  replace h := bnd h
  obtain ⟨⟨r11, r12⟩, h10, h⟩ := h
  refine Rn.call (args := [.agg [.d (.lst 1 (List.map (eI .i64) r4.Alphabet)), .d (.int .i64 r4.States), .d (.lst 1 (List.map (eI .i64) r4.Marked)), .d (.lst 3 (List.map e_api_Edge r4.Edges))], .d (.int .i64 2), .d (.bool true)]) trivial rfl (H_automaton_Words _ _ _ _ h10) pc9 ?_
  refine Rn.mov (v := .tup [.d (.lst 1 (List.map (eL 1 (eI .i64)) r11)), .d (.int .i64 r12)]) trivial rfl ?_
  refine Rn.extTD (vs := [.d (.lst 1 (List.map (eL 1 (eI .i64)) r11)), .d (.int .i64 r12)]) trivial rfl rfl rfl ?_
  refine Rn.ext (v := .d (.int .i64 r12)) (vs := [.d (.lst 1 (List.map (eL 1 (eI .i64)) r11)), .d (.int .i64 r12)]) trivial rfl rfl rfl ?_
  refine Rn.movTD trivial rfl ?_
  refine Rn.movD trivial rfl ?_
  refine Rn.nil ?_
  refine toN ?_
  refine Tr.seq ?_
  refine Tr.rgn ?_
  refine Rn.load (v := .agg [.d (.lst 1 (List.map (eI .i64) r4.Alphabet)), .d (.int .i64 r4.States), .d (.lst 1 (List.map (eI .i64) r4.Marked)), .d (.lst 3 (List.map e_api_Edge r4.Edges))]) trivial rfl (boxOwn rfl) rfl rfl ?_
  refine Rn.bslice (xs := [.d (.int .i64 3), .d (.int .i64 1)]) (cs := [.d (.int .i64 3), .d (.int .i64 1)]) trivial rfl rfl rfl rfl ?_
  refine Rn.weak (by show WeakSt Γ _ ⟨look [(0, .d (.bool false)), (1, .ptr (Γ.n0 + 1) 0), (2, .d (.int .i64 r5)), (3, .d (.int .i64 r7)), (4, .d (.int .i64 r8)), (5, .d (.int .i64 r9)), (6, .d (.lst 1 (List.map (eL 1 (eI .i64)) r11))), (7, .d (.int .i64 r12)), (10, .tup [.agg [.d (.lst 1 (List.map (eI .i64) r4.Alphabet)), .d (.int .i64 r4.States), .d (.lst 1 (List.map (eI .i64) r4.Marked)), .d (.lst 3 (List.map e_api_Edge r4.Edges))], .d (.int .i64 r5)]), (11, .agg [.d (.lst 1 (List.map (eI .i64) x2.Alphabet)), .d (.int .i64 x2.States), .d (.lst 1 (List.map (eI .i64) x2.Marked)), .d (.lst 3 (List.map e_api_Edge x2.Edges))]), (12, .tup [.agg [.d (.lst 1 (List.map (eI .i64) r4.Alphabet)), .d (.int .i64 r4.States), .d (.lst 1 (List.map (eI .i64) r4.Marked)), .d (.lst 3 (List.map e_api_Edge r4.Edges))], .d (.int .i64 r5)]), (13, .agg [.d (.lst 1 (List.map (eI .i64) r4.Alphabet)), .d (.int .i64 r4.States), .d (.lst 1 (List.map (eI .i64) r4.Marked)), .d (.lst 3 (List.map e_api_Edge r4.Edges))]), (14, .d (.int .i64 r5)), (15, .tup [.d (.int .i64 r7), .d (.int .i64 r8), .d (.int .i64 r9)]), (16, .agg [.d (.lst 1 (List.map (eI .i64) r4.Alphabet)), .d (.int .i64 r4.States), .d (.lst 1 (List.map (eI .i64) r4.Marked)), .d (.lst 3 (List.map e_api_Edge r4.Edges))]), (17, .d (.lst 1 (List.map (eI .i64) [0, 0]))), (18, .tup [.d (.int .i64 r7), .d (.int .i64 r8), .d (.int .i64 r9)]), (19, .d (.int .i64 r7)), (20, .d (.int .i64 r8)), (21, .d (.int .i64 r9)), (22, .tup [.d (.lst 1 (List.map (eL 1 (eI .i64)) r11)), .d (.int .i64 r12)]), (23, .agg [.d (.lst 1 (List.map (eI .i64) r4.Alphabet)), .d (.int .i64 r4.States), .d (.lst 1 (List.map (eI .i64) r4.Marked)), .d (.lst 3 (List.map e_api_Edge r4.Edges))]), (24, .tup [.own 1 (List.map (eL 1 (eI .i64)) r11), .d (.int .i64 r12)]), (25, .d (.lst 1 (List.map (eL 1 (eI .i64)) r11))), (26, .d (.int .i64 r12)), (28, .agg [.d (.lst 1 (List.map (eI .i64) r4.Alphabet)), .d (.int .i64 r4.States), .d (.lst 1 (List.map (eI .i64) r4.Marked)), .d (.lst 3 (List.map e_api_Edge r4.Edges))]), (29, .d (.lst 1 (List.map (eI .i64) [3, 1])))], memOf Γ.n0 (bxs [(1, [.d (.lst 1 (List.map (eI .i64) r4.Alphabet)), .d (.int .i64 r4.States), .d (.lst 1 (List.map (eI .i64) r4.Marked)), .d (.lst 3 (List.map e_api_Edge r4.Edges))])]) M, Γ.n0 + 99⟩; exact weak_freeze 29 [.int .i64 3, .int .i64 1] rfl rfl ⟨(.same rfl), ⟨(fPtr rfl), ⟨(.same rfl), ⟨(.same rfl), ⟨(.same rfl), ⟨(.same rfl), ⟨(.same rfl), ⟨(.same rfl), ⟨(.same rfl), ⟨(.same rfl), ⟨(.same rfl), ⟨(.same rfl), ⟨(.same rfl), ⟨(.same rfl), ⟨(.same rfl), ⟨(.same rfl), ⟨(.same rfl), ⟨(.same rfl), ⟨(.same rfl), ⟨(.same rfl), ⟨(.same rfl), ⟨(.same rfl), ⟨(.same rfl), ⟨(.same rfl), ⟨(.same rfl), ⟨(.same rfl), ⟨(fSl rfl rfl), trivial⟩⟩⟩⟩⟩⟩⟩⟩⟩⟩⟩⟩⟩⟩⟩⟩⟩⟩⟩⟩⟩⟩⟩⟩⟩⟩⟩ ⟨⟨_, rfl, rfl, (.same rfl)⟩, trivial⟩ rfl) ?_
  replace h := bnd h
  obtain ⟨⟨r14, r15⟩, h13, h⟩ := h
  refine Rn.call (args := [.agg [.d (.lst 1 (List.map (eI .i64) r4.Alphabet)), .d (.int .i64 r4.States), .d (.lst 1 (List.map (eI .i64) r4.Marked)), .d (.lst 3 (List.map e_api_Edge r4.Edges))], .d (.lst 1 (List.map (eI .i64) [3, 1]))]) trivial rfl (H_automaton_Relabel _ _ _ h13) pc9 ?_
  refine Rn.mov (v := .tup [.agg [.d (.lst 1 (List.map (eI .i64) r14.Alphabet)), .d (.int .i64 r14.States), .d (.lst 1 (List.map (eI .i64) r14.Marked)), .d (.lst 3 (List.map e_api_Edge r14.Edges))], .d (.int .i64 r15)]) trivial rfl ?_
  refine Rn.ext (v := .agg [.d (.lst 1 (List.map (eI .i64) r14.Alphabet)), .d (.int .i64 r14.States), .d (.lst 1 (List.map (eI .i64) r14.Marked)), .d (.lst 3 (List.map e_api_Edge r14.Edges))]) (vs := [.agg [.d (.lst 1 (List.map (eI .i64) r14.Alphabet)), .d (.int .i64 r14.States), .d (.lst 1 (List.map (eI .i64) r14.Marked)), .d (.lst 3 (List.map e_api_Edge r14.Edges))], .d (.int .i64 r15)]) trivial rfl rfl rfl ?_
  refine Rn.ext (v := .d (.int .i64 r15)) (vs := [.agg [.d (.lst 1 (List.map (eI .i64) r14.Alphabet)), .d (.int .i64 r14.States), .d (.lst 1 (List.map (eI .i64) r14.Marked)), .d (.lst 3 (List.map e_api_Edge r14.Edges))], .d (.int .i64 r15)]) trivial rfl rfl rfl ?_
  refine Rn.alloc trivial rfl ?_
  refine Rn.store (v := .agg [.d (.lst 1 (List.map (eI .i64) r14.Alphabet)), .d (.int .i64 r14.States), .d (.lst 1 (List.map (eI .i64) r14.Marked)), .d (.lst 3 (List.map e_api_Edge r14.Edges))]) (cs' := [.d (.lst 1 (List.map (eI .i64) r14.Alphabet)), .d (.int .i64 r14.States), .d (.lst 1 (List.map (eI .i64) r14.Marked)), .d (.lst 3 (List.map e_api_Edge r14.Edges))]) trivial rfl rfl rfl rfl rfl rfl ?_
  refine Rn.movD trivial rfl ?_
  refine Rn.nil ?_
  refine toN ?_
  refine Tr.cutB (fun (x39 : Bool) => ⟨look [(0, .d (.bool x39))], memOf Γ.n0 (bxs [(1, [.d (.lst 1 (List.map (eI .i64) r4.Alphabet)), .d (.int .i64 r4.States), .d (.lst 1 (List.map (eI .i64) r4.Marked)), .d (.lst 3 (List.map e_api_Edge r4.Edges))]), (8, [.d (.lst 1 (List.map (eI .i64) r14.Alphabet)), .d (.int .i64 r14.States), .d (.lst 1 (List.map (eI .i64) r14.Marked)), .d (.lst 3 (List.map e_api_Edge r14.Edges))])]) M, Γ.n0 + 99⟩) h (fun z h => ?_) (fun z h => ?_)
  · refine Tr.rgn ?_
    refine Rn.movD trivial rfl ?_
    refine Rn.bin trivial rfl rfl rfl ?_
    refine Rn.movD trivial rfl ?_
    refine bsplit (r5 == 0) (fun hb16 => ?_) (fun hb16 => ?_)
    · replace h := bT hb16 h
      refine Rn.load (v := .agg [.d (.lst 1 (List.map (eI .i64) r4.Alphabet)), .d (.int .i64 r4.States), .d (.lst 1 (List.map (eI .i64) r4.Marked)), .d (.lst 3 (List.map e_api_Edge r4.Edges))]) (gw rfl hb16) rfl (boxOwn rfl) rfl rfl ?_
      refine Rn.bslice (xs := [.d (.int .i64 0), .d (.int .i64 2)]) (cs := [.d (.int .i64 0), .d (.int .i64 2)]) (gw rfl hb16) rfl rfl rfl rfl ?_
      refine Rn.bslice (xs := [.d (.int .i64 1)]) (cs := [.d (.int .i64 1)]) (gw rfl hb16) rfl rfl rfl rfl ?_
      refine Rn.build (v := .agg [.d (.int .i64 0), .d (.int .i64 0), .d (.int .i64 1)]) (gw rfl hb16) rfl ?_
      refine Rn.build (v := .agg [.d (.int .i64 0), .d (.int .i64 2), .d (.int .i64 0)]) (gw rfl hb16) rfl ?_
      refine Rn.build (v := .agg [.d (.int .i64 1), .d (.int .i64 2), .d (.int .i64 0)]) (gw rfl hb16) rfl ?_
      refine Rn.bslice (xs := [.agg [.d (.int .i64 0), .d (.int .i64 0), .d (.int .i64 1)], .agg [.d (.int .i64 0), .d (.int .i64 2), .d (.int .i64 0)], .agg [.d (.int .i64 1), .d (.int .i64 2), .d (.int .i64 0)]]) (cs := [.d (.int .i64 0), .d (.int .i64 0), .d (.int .i64 1), .d (.int .i64 0), .d (.int .i64 2), .d (.int .i64 0), .d (.int .i64 1), .d (.int .i64 2), .d (.int .i64 0)]) (gw rfl hb16) rfl rfl rfl rfl ?_
      refine Rn.build (v := .agg [.sl 1 (Γ.n0 + 37) 0 2 2, .d (.int .i64 2), .sl 1 (Γ.n0 + 38) 0 1 1, .sl 3 (Γ.n0 + 42) 0 3 3]) (gw rfl hb16) rfl ?_
      refine Rn.weak (by show WeakSt Γ _ ⟨look [(0, .d (.bool false)), (1, .ptr (Γ.n0 + 1) 0), (2, .d (.int .i64 r5)), (3, .d (.int .i64 r7)), (4, .d (.int .i64 r8)), (5, .d (.int .i64 r9)), (6, .d (.lst 1 (List.map (eL 1 (eI .i64)) r11))), (7, .d (.int .i64 r12)), (8, .ptr (Γ.n0 + 8) 0), (9, .d (.int .i64 r15)), (10, .tup [.agg [.d (.lst 1 (List.map (eI .i64) r4.Alphabet)), .d (.int .i64 r4.States), .d (.lst 1 (List.map (eI .i64) r4.Marked)), .d (.lst 3 (List.map e_api_Edge r4.Edges))], .d (.int .i64 r5)]), (11, .agg [.d (.lst 1 (List.map (eI .i64) x2.Alphabet)), .d (.int .i64 x2.States), .d (.lst 1 (List.map (eI .i64) x2.Marked)), .d (.lst 3 (List.map e_api_Edge x2.Edges))]), (12, .tup [.agg [.d (.lst 1 (List.map (eI .i64) r4.Alphabet)), .d (.int .i64 r4.States), .d (.lst 1 (List.map (eI .i64) r4.Marked)), .d (.lst 3 (List.map e_api_Edge r4.Edges))], .d (.int .i64 r5)]), (13, .agg [.d (.lst 1 (List.map (eI .i64) r4.Alphabet)), .d (.int .i64 r4.States), .d (.lst 1 (List.map (eI .i64) r4.Marked)), .d (.lst 3 (List.map e_api_Edge r4.Edges))]), (14, .d (.int .i64 r5)), (15, .tup [.d (.int .i64 r7), .d (.int .i64 r8), .d (.int .i64 r9)]), (16, .agg [.d (.lst 1 (List.map (eI .i64) r4.Alphabet)), .d (.int .i64 r4.States), .d (.lst 1 (List.map (eI .i64) r4.Marked)), .d (.lst 3 (List.map e_api_Edge r4.Edges))]), (17, .d (.lst 1 (List.map (eI .i64) [0, 0]))), (18, .tup [.d (.int .i64 r7), .d (.int .i64 r8), .d (.int .i64 r9)]), (19, .d (.int .i64 r7)), (20, .d (.int .i64 r8)), (21, .d (.int .i64 r9)), (22, .tup [.d (.lst 1 (List.map (eL 1 (eI .i64)) r11)), .d (.int .i64 r12)]), (23, .agg [.d (.lst 1 (List.map (eI .i64) r4.Alphabet)), .d (.int .i64 r4.States), .d (.lst 1 (List.map (eI .i64) r4.Marked)), .d (.lst 3 (List.map e_api_Edge r4.Edges))]), (24, .tup [.own 1 (List.map (eL 1 (eI .i64)) r11), .d (.int .i64 r12)]), (25, .d (.lst 1 (List.map (eL 1 (eI .i64)) r11))), (26, .d (.int .i64 r12)), (27, .tup [.agg [.d (.lst 1 (List.map (eI .i64) r14.Alphabet)), .d (.int .i64 r14.States), .d (.lst 1 (List.map (eI .i64) r14.Marked)), .d (.lst 3 (List.map e_api_Edge r14.Edges))], .d (.int .i64 r15)]), (28, .agg [.d (.lst 1 (List.map (eI .i64) r4.Alphabet)), .d (.int .i64 r4.States), .d (.lst 1 (List.map (eI .i64) r4.Marked)), .d (.lst 3 (List.map e_api_Edge r4.Edges))]), (29, .d (.lst 1 (List.map (eI .i64) [3, 1]))), (30, .tup [.agg [.d (.lst 1 (List.map (eI .i64) r14.Alphabet)), .d (.int .i64 r14.States), .d (.lst 1 (List.map (eI .i64) r14.Marked)), .d (.lst 3 (List.map e_api_Edge r14.Edges))], .d (.int .i64 r15)]), (31, .agg [.d (.lst 1 (List.map (eI .i64) r14.Alphabet)), .d (.int .i64 r14.States), .d (.lst 1 (List.map (eI .i64) r14.Marked)), .d (.lst 3 (List.map e_api_Edge r14.Edges))]), (32, .d (.int .i64 r15)), (33, .d (.int .i64 r5)), (34, .d (.bool (r5 == 0))), (35, .d (.bool (r5 == 0))), (36, .agg [.d (.lst 1 (List.map (eI .i64) r4.Alphabet)), .d (.int .i64 r4.States), .d (.lst 1 (List.map (eI .i64) r4.Marked)), .d (.lst 3 (List.map e_api_Edge r4.Edges))]), (37, .d (.lst 1 (List.map (eI .i64) [0, 2]))), (38, .sl 1 (Γ.n0 + 38) 0 1 1), (39, .agg [.d (.int .i64 0), .d (.int .i64 0), .d (.int .i64 1)]), (40, .agg [.d (.int .i64 0), .d (.int .i64 2), .d (.int .i64 0)]), (41, .agg [.d (.int .i64 1), .d (.int .i64 2), .d (.int .i64 0)]), (42, .sl 3 (Γ.n0 + 42) 0 3 3), (43, .agg [.d (.lst 1 (List.map (eI .i64) [0, 2])), .d (.int .i64 2), .sl 1 (Γ.n0 + 38) 0 1 1, .sl 3 (Γ.n0 + 42) 0 3 3])], memOf Γ.n0 (bxs [(1, [.d (.lst 1 (List.map (eI .i64) r4.Alphabet)), .d (.int .i64 r4.States), .d (.lst 1 (List.map (eI .i64) r4.Marked)), .d (.lst 3 (List.map e_api_Edge r4.Edges))]), (8, [.d (.lst 1 (List.map (eI .i64) r14.Alphabet)), .d (.int .i64 r14.States), .d (.lst 1 (List.map (eI .i64) r14.Marked)), .d (.lst 3 (List.map e_api_Edge r14.Edges))]), (38, [.d (.int .i64 1)]), (42, [.d (.int .i64 0), .d (.int .i64 0), .d (.int .i64 1), .d (.int .i64 0), .d (.int .i64 2), .d (.int .i64 0), .d (.int .i64 1), .d (.int .i64 2), .d (.int .i64 0)])]) M, Γ.n0 + 99⟩; exact weak_freeze 37 [.int .i64 0, .int .i64 2] rfl rfl ⟨(.same rfl), ⟨(fPtr rfl), ⟨(.same rfl), ⟨(.same rfl), ⟨(.same rfl), ⟨(.same rfl), ⟨(.same rfl), ⟨(.same rfl), ⟨(fPtr rfl), ⟨(.same rfl), ⟨(.same rfl), ⟨(.same rfl), ⟨(.same rfl), ⟨(.same rfl), ⟨(.same rfl), ⟨(.same rfl), ⟨(.same rfl), ⟨(.same rfl), ⟨(.same rfl), ⟨(.same rfl), ⟨(.same rfl), ⟨(.same rfl), ⟨(.same rfl), ⟨(.same rfl), ⟨(.same rfl), ⟨(.same rfl), ⟨(.same rfl), ⟨(.same rfl), ⟨(.same rfl), ⟨(.same rfl), ⟨(.same rfl), ⟨(.same rfl), ⟨(.same rfl), ⟨(.same rfl), ⟨(.same rfl), ⟨(.same rfl), ⟨(.same rfl), ⟨(fSl rfl rfl), ⟨(fSlO rfl), ⟨(.same rfl), ⟨(.same rfl), ⟨(.same rfl), ⟨(fSlO rfl), ⟨(WkV.agg (.cons (fSl rfl rfl) (.cons (.same rfl) (.cons (fSlO rfl) (.cons (fSlO rfl) .nil))))), trivial⟩⟩⟩⟩⟩⟩⟩⟩⟩⟩⟩⟩⟩⟩⟩⟩⟩⟩⟩⟩⟩⟩⟩⟩⟩⟩⟩⟩⟩⟩⟩⟩⟩⟩⟩⟩⟩⟩⟩⟩⟩⟩⟩⟩ ⟨⟨_, rfl, rfl, (.same rfl)⟩, ⟨⟨_, rfl, rfl, (.same rfl)⟩, ⟨⟨_, rfl, rfl, (.same rfl)⟩, ⟨⟨_, rfl, rfl, (.same rfl)⟩, trivial⟩⟩⟩⟩ rfl) ?_
      refine Rn.weak (by show WeakSt Γ _ ⟨look [(0, .d (.bool false)), (1, .ptr (Γ.n0 + 1) 0), (2, .d (.int .i64 r5)), (3, .d (.int .i64 r7)), (4, .d (.int .i64 r8)), (5, .d (.int .i64 r9)), (6, .d (.lst 1 (List.map (eL 1 (eI .i64)) r11))), (7, .d (.int .i64 r12)), (8, .ptr (Γ.n0 + 8) 0), (9, .d (.int .i64 r15)), (10, .tup [.agg [.d (.lst 1 (List.map (eI .i64) r4.Alphabet)), .d (.int .i64 r4.States), .d (.lst 1 (List.map (eI .i64) r4.Marked)), .d (.lst 3 (List.map e_api_Edge r4.Edges))], .d (.int .i64 r5)]), (11, .agg [.d (.lst 1 (List.map (eI .i64) x2.Alphabet)), .d (.int .i64 x2.States), .d (.lst 1 (List.map (eI .i64) x2.Marked)), .d (.lst 3 (List.map e_api_Edge x2.Edges))]), (12, .tup [.agg [.d (.lst 1 (List.map (eI .i64) r4.Alphabet)), .d (.int .i64 r4.States), .d (.lst 1 (List.map (eI .i64) r4.Marked)), .d (.lst 3 (List.map e_api_Edge r4.Edges))], .d (.int .i64 r5)]), (13, .agg [.d (.lst 1 (List.map (eI .i64) r4.Alphabet)), .d (.int .i64 r4.States), .d (.lst 1 (List.map (eI .i64) r4.Marked)), .d (.lst 3 (List.map e_api_Edge r4.Edges))]), (14, .d (.int .i64 r5)), (15, .tup [.d (.int .i64 r7), .d (.int .i64 r8), .d (.int .i64 r9)]), (16, .agg [.d (.lst 1 (List.map (eI .i64) r4.Alphabet)), .d (.int .i64 r4.States), .d (.lst 1 (List.map (eI .i64) r4.Marked)), .d (.lst 3 (List.map e_api_Edge r4.Edges))]), (17, .d (.lst 1 (List.map (eI .i64) [0, 0]))), (18, .tup [.d (.int .i64 r7), .d (.int .i64 r8), .d (.int .i64 r9)]), (19, .d (.int .i64 r7)), (20, .d (.int .i64 r8)), (21, .d (.int .i64 r9)), (22, .tup [.d (.lst 1 (List.map (eL 1 (eI .i64)) r11)), .d (.int .i64 r12)]), (23, .agg [.d (.lst 1 (List.map (eI .i64) r4.Alphabet)), .d (.int .i64 r4.States), .d (.lst 1 (List.map (eI .i64) r4.Marked)), .d (.lst 3 (List.map e_api_Edge r4.Edges))]), (24, .tup [.own 1 (List.map (eL 1 (eI .i64)) r11), .d (.int .i64 r12)]), (25, .d (.lst 1 (List.map (eL 1 (eI .i64)) r11))), (26, .d (.int .i64 r12)), (27, .tup [.agg [.d (.lst 1 (List.map (eI .i64) r14.Alphabet)), .d (.int .i64 r14.States), .d (.lst 1 (List.map (eI .i64) r14.Marked)), .d (.lst 3 (List.map e_api_Edge r14.Edges))], .d (.int .i64 r15)]), (28, .agg [.d (.lst 1 (List.map (eI .i64) r4.Alphabet)), .d (.int .i64 r4.States), .d (.lst 1 (List.map (eI .i64) r4.Marked)), .d (.lst 3 (List.map e_api_Edge r4.Edges))]), (29, .d (.lst 1 (List.map (eI .i64) [3, 1]))), (30, .tup [.agg [.d (.lst 1 (List.map (eI .i64) r14.Alphabet)), .d (.int .i64 r14.States), .d (.lst 1 (List.map (eI .i64) r14.Marked)), .d (.lst 3 (List.map e_api_Edge r14.Edges))], .d (.int .i64 r15)]), (31, .agg [.d (.lst 1 (List.map (eI .i64) r14.Alphabet)), .d (.int .i64 r14.States), .d (.lst 1 (List.map (eI .i64) r14.Marked)), .d (.lst 3 (List.map e_api_Edge r14.Edges))]), (32, .d (.int .i64 r15)), (33, .d (.int .i64 r5)), (34, .d (.bool (r5 == 0))), (35, .d (.bool (r5 == 0))), (36, .agg [.d (.lst 1 (List.map (eI .i64) r4.Alphabet)), .d (.int .i64 r4.States), .d (.lst 1 (List.map (eI .i64) r4.Marked)), .d (.lst 3 (List.map e_api_Edge r4.Edges))]), (37, .d (.lst 1 (List.map (eI .i64) [0, 2]))), (38, .d (.lst 1 (List.map (eI .i64) [1]))), (39, .agg [.d (.int .i64 0), .d (.int .i64 0), .d (.int .i64 1)]), (40, .agg [.d (.int .i64 0), .d (.int .i64 2), .d (.int .i64 0)]), (41, .agg [.d (.int .i64 1), .d (.int .i64 2), .d (.int .i64 0)]), (42, .sl 3 (Γ.n0 + 42) 0 3 3), (43, .agg [.d (.lst 1 (List.map (eI .i64) [0, 2])), .d (.int .i64 2), .d (.lst 1 (List.map (eI .i64) [1])), .sl 3 (Γ.n0 + 42) 0 3 3])], memOf Γ.n0 (bxs [(1, [.d (.lst 1 (List.map (eI .i64) r4.Alphabet)), .d (.int .i64 r4.States), .d (.lst 1 (List.map (eI .i64) r4.Marked)), .d (.lst 3 (List.map e_api_Edge r4.Edges))]), (8, [.d (.lst 1 (List.map (eI .i64) r14.Alphabet)), .d (.int .i64 r14.States), .d (.lst 1 (List.map (eI .i64) r14.Marked)), .d (.lst 3 (List.map e_api_Edge r14.Edges))]), (42, [.d (.int .i64 0), .d (.int .i64 0), .d (.int .i64 1), .d (.int .i64 0), .d (.int .i64 2), .d (.int .i64 0), .d (.int .i64 1), .d (.int .i64 2), .d (.int .i64 0)])]) M, Γ.n0 + 99⟩; exact weak_freeze 38 [.int .i64 1] rfl rfl ⟨(.same rfl), ⟨(fPtr rfl), ⟨(.same rfl), ⟨(.same rfl), ⟨(.same rfl), ⟨(.same rfl), ⟨(.same rfl), ⟨(.same rfl), ⟨(fPtr rfl), ⟨(.same rfl), ⟨(.same rfl), ⟨(.same rfl), ⟨(.same rfl), ⟨(.same rfl), ⟨(.same rfl), ⟨(.same rfl), ⟨(.same rfl), ⟨(.same rfl), ⟨(.same rfl), ⟨(.same rfl), ⟨(.same rfl), ⟨(.same rfl), ⟨(.same rfl), ⟨(.same rfl), ⟨(.same rfl), ⟨(.same rfl), ⟨(.same rfl), ⟨(.same rfl), ⟨(.same rfl), ⟨(.same rfl), ⟨(.same rfl), ⟨(.same rfl), ⟨(.same rfl), ⟨(.same rfl), ⟨(.same rfl), ⟨(.same rfl), ⟨(.same rfl), ⟨(.same rfl), ⟨(fSl rfl rfl), ⟨(.same rfl), ⟨(.same rfl), ⟨(.same rfl), ⟨(fSlO rfl), ⟨(WkV.agg (.cons (.same rfl) (.cons (.same rfl) (.cons (fSl rfl rfl) (.cons (fSlO rfl) .nil))))), trivial⟩⟩⟩⟩⟩⟩⟩⟩⟩⟩⟩⟩⟩⟩⟩⟩⟩⟩⟩⟩⟩⟩⟩⟩⟩⟩⟩⟩⟩⟩⟩⟩⟩⟩⟩⟩⟩⟩⟩⟩⟩⟩⟩⟩ ⟨⟨_, rfl, rfl, (.same rfl)⟩, ⟨⟨_, rfl, rfl, (.same rfl)⟩, ⟨⟨_, rfl, rfl, (.same rfl)⟩, trivial⟩⟩⟩ rfl) ?_
      refine Rn.weak (by show WeakSt Γ _ ⟨look [(0, .d (.bool false)), (1, .ptr (Γ.n0 + 1) 0), (2, .d (.int .i64 r5)), (3, .d (.int .i64 r7)), (4, .d (.int .i64 r8)), (5, .d (.int .i64 r9)), (6, .d (.lst 1 (List.map (eL 1 (eI .i64)) r11))), (7, .d (.int .i64 r12)), (8, .ptr (Γ.n0 + 8) 0), (9, .d (.int .i64 r15)), (10, .tup [.agg [.d (.lst 1 (List.map (eI .i64) r4.Alphabet)), .d (.int .i64 r4.States), .d (.lst 1 (List.map (eI .i64) r4.Marked)), .d (.lst 3 (List.map e_api_Edge r4.Edges))], .d (.int .i64 r5)]), (11, .agg [.d (.lst 1 (List.map (eI .i64) x2.Alphabet)), .d (.int .i64 x2.States), .d (.lst 1 (List.map (eI .i64) x2.Marked)), .d (.lst 3 (List.map e_api_Edge x2.Edges))]), (12, .tup [.agg [.d (.lst 1 (List.map (eI .i64) r4.Alphabet)), .d (.int .i64 r4.States), .d (.lst 1 (List.map (eI .i64) r4.Marked)), .d (.lst 3 (List.map e_api_Edge r4.Edges))], .d (.int .i64 r5)]), (13, .agg [.d (.lst 1 (List.map (eI .i64) r4.Alphabet)), .d (.int .i64 r4.States), .d (.lst 1 (List.map (eI .i64) r4.Marked)), .d (.lst 3 (List.map e_api_Edge r4.Edges))]), (14, .d (.int .i64 r5)), (15, .tup [.d (.int .i64 r7), .d (.int .i64 r8), .d (.int .i64 r9)]), (16, .agg [.d (.lst 1 (List.map (eI .i64) r4.Alphabet)), .d (.int .i64 r4.States), .d (.lst 1 (List.map (eI .i64) r4.Marked)), .d (.lst 3 (List.map e_api_Edge r4.Edges))]), (17, .d (.lst 1 (List.map (eI .i64) [0, 0]))), (18, .tup [.d (.int .i64 r7), .d (.int .i64 r8), .d (.int .i64 r9)]), (19, .d (.int .i64 r7)), (20, .d (.int .i64 r8)), (21, .d (.int .i64 r9)), (22, .tup [.d (.lst 1 (List.map (eL 1 (eI .i64)) r11)), .d (.int .i64 r12)]), (23, .agg [.d (.lst 1 (List.map (eI .i64) r4.Alphabet)), .d (.int .i64 r4.States), .d (.lst 1 (List.map (eI .i64) r4.Marked)), .d (.lst 3 (List.map e_api_Edge r4.Edges))]), (24, .tup [.own 1 (List.map (eL 1 (eI .i64)) r11), .d (.int .i64 r12)]), (25, .d (.lst 1 (List.map (eL 1 (eI .i64)) r11))), (26, .d (.int .i64 r12)), (27, .tup [.agg [.d (.lst 1 (List.map (eI .i64) r14.Alphabet)), .d (.int .i64 r14.States), .d (.lst 1 (List.map (eI .i64) r14.Marked)), .d (.lst 3 (List.map e_api_Edge r14.Edges))], .d (.int .i64 r15)]), (28, .agg [.d (.lst 1 (List.map (eI .i64) r4.Alphabet)), .d (.int .i64 r4.States), .d (.lst 1 (List.map (eI .i64) r4.Marked)), .d (.lst 3 (List.map e_api_Edge r4.Edges))]), (29, .d (.lst 1 (List.map (eI .i64) [3, 1]))), (30, .tup [.agg [.d (.lst 1 (List.map (eI .i64) r14.Alphabet)), .d (.int .i64 r14.States), .d (.lst 1 (List.map (eI .i64) r14.Marked)), .d (.lst 3 (List.map e_api_Edge r14.Edges))], .d (.int .i64 r15)]), (31, .agg [.d (.lst 1 (List.map (eI .i64) r14.Alphabet)), .d (.int .i64 r14.States), .d (.lst 1 (List.map (eI .i64) r14.Marked)), .d (.lst 3 (List.map e_api_Edge r14.Edges))]), (32, .d (.int .i64 r15)), (33, .d (.int .i64 r5)), (34, .d (.bool (r5 == 0))), (35, .d (.bool (r5 == 0))), (36, .agg [.d (.lst 1 (List.map (eI .i64) r4.Alphabet)), .d (.int .i64 r4.States), .d (.lst 1 (List.map (eI .i64) r4.Marked)), .d (.lst 3 (List.map e_api_Edge r4.Edges))]), (37, .d (.lst 1 (List.map (eI .i64) [0, 2]))), (38, .d (.lst 1 (List.map (eI .i64) [1]))), (39, .agg [.d (.int .i64 0), .d (.int .i64 0), .d (.int .i64 1)]), (40, .agg [.d (.int .i64 0), .d (.int .i64 2), .d (.int .i64 0)]), (41, .agg [.d (.int .i64 1), .d (.int .i64 2), .d (.int .i64 0)]), (42, .d (.lst 3 (List.map e_api_Edge [(api_Edge.mk 0 0 1), (api_Edge.mk 0 2 0), (api_Edge.mk 1 2 0)]))), (43, .agg [.d (.lst 1 (List.map (eI .i64) [0, 2])), .d (.int .i64 2), .d (.lst 1 (List.map (eI .i64) [1])), .d (.lst 3 (List.map e_api_Edge [(api_Edge.mk 0 0 1), (api_Edge.mk 0 2 0), (api_Edge.mk 1 2 0)]))])], memOf Γ.n0 (bxs [(1, [.d (.lst 1 (List.map (eI .i64) r4.Alphabet)), .d (.int .i64 r4.States), .d (.lst 1 (List.map (eI .i64) r4.Marked)), .d (.lst 3 (List.map e_api_Edge r4.Edges))]), (8, [.d (.lst 1 (List.map (eI .i64) r14.Alphabet)), .d (.int .i64 r14.States), .d (.lst 1 (List.map (eI .i64) r14.Marked)), .d (.lst 3 (List.map e_api_Edge r14.Edges))])]) M, Γ.n0 + 99⟩; exact weak_freeze 42 [.int .i64 0, .int .i64 0, .int .i64 1, .int .i64 0, .int .i64 2, .int .i64 0, .int .i64 1, .int .i64 2, .int .i64 0] rfl rfl ⟨(.same rfl), ⟨(fPtr rfl), ⟨(.same rfl), ⟨(.same rfl), ⟨(.same rfl), ⟨(.same rfl), ⟨(.same rfl), ⟨(.same rfl), ⟨(fPtr rfl), ⟨(.same rfl), ⟨(.same rfl), ⟨(.same rfl), ⟨(.same rfl), ⟨(.same rfl), ⟨(.same rfl), ⟨(.same rfl), ⟨(.same rfl), ⟨(.same rfl), ⟨(.same rfl), ⟨(.same rfl), ⟨(.same rfl), ⟨(.same rfl), ⟨(.same rfl), ⟨(.same rfl), ⟨(.same rfl), ⟨(.same rfl), ⟨(.same rfl), ⟨(.same rfl), ⟨(.same rfl), ⟨(.same rfl), ⟨(.same rfl), ⟨(.same rfl), ⟨(.same rfl), ⟨(.same rfl), ⟨(.same rfl), ⟨(.same rfl), ⟨(.same rfl), ⟨(.same rfl), ⟨(.same rfl), ⟨(.same rfl), ⟨(.same rfl), ⟨(.same rfl), ⟨(fSl rfl rfl), ⟨(WkV.agg (.cons (.same rfl) (.cons (.same rfl) (.cons (.same rfl) (.cons (fSl rfl rfl) .nil))))), trivial⟩⟩⟩⟩⟩⟩⟩⟩⟩⟩⟩⟩⟩⟩⟩⟩⟩⟩⟩⟩⟩⟩⟩⟩⟩⟩⟩⟩⟩⟩⟩⟩⟩⟩⟩⟩⟩⟩⟩⟩⟩⟩⟩⟩ ⟨⟨_, rfl, rfl, (.same rfl)⟩, ⟨⟨_, rfl, rfl, (.same rfl)⟩, trivial⟩⟩ rfl) ?_
      replace h := bnd h
      obtain ⟨x18, h17, h⟩ := h
      refine Rn.call (args := [.agg [.d (.lst 1 (List.map (eI .i64) r4.Alphabet)), .d (.int .i64 r4.States), .d (.lst 1 (List.map (eI .i64) r4.Marked)), .d (.lst 3 (List.map e_api_Edge r4.Edges))], .agg [.d (.lst 1 (List.map (eI .i64) [0, 2])), .d (.int .i64 2), .d (.lst 1 (List.map (eI .i64) [1])), .d (.lst 3 (List.map e_api_Edge [(api_Edge.mk 0 0 1), (api_Edge.mk 0 2 0), (api_Edge.mk 1 2 0)]))]]) (gw rfl hb16) rfl (H_overseerref03_Same _ _ _ h17) pc9 ?_
      refine Rn.pickT (v := .d (.bool x18)) trivial rfl hb16 rfl ?_
      refine Rn.movD trivial rfl ?_
      refine bsplit x18 (fun hb19 => ?_) (fun hb19 => ?_)
      · replace h := bT hb19 h
        refine Rn.movD (gw rfl hb19) rfl ?_
        refine Rn.bin (gw rfl hb19) rfl rfl rfl ?_
        refine Rn.pickT (v := .d (.bool (r9 == 0))) trivial rfl hb19 rfl ?_
        refine Rn.movD trivial rfl ?_
        refine bsplit (r9 == 0) (fun hb20 => ?_) (fun hb20 => ?_)
        · replace h := bT hb20 h
          refine Rn.movD (gw rfl hb20) rfl ?_
          refine Rn.bin (gw rfl hb20) rfl rfl rfl ?_
          refine Rn.pickT (v := .d (.bool (r7 == 1))) trivial rfl hb20 rfl ?_
          refine Rn.movD trivial rfl ?_
          refine bsplit (r7 == 1) (fun hb21 => ?_) (fun hb21 => ?_)
          · replace h := bT hb21 h
            refine Rn.movD (gw rfl hb21) rfl ?_
            refine Rn.bin (gw rfl hb21) rfl rfl rfl ?_
            refine Rn.pickT (v := .d (.bool (r8 == 1))) trivial rfl hb21 rfl ?_
            refine Rn.movD trivial rfl ?_
            refine bsplit (r8 == 1) (fun hb22 => ?_) (fun hb22 => ?_)
            · replace h := bT hb22 h
              refine Rn.movD (gw rfl hb22) rfl ?_
              refine Rn.bin (gw rfl hb22) rfl rfl rfl ?_
              refine Rn.pickT (v := .d (.bool (r12 == 0))) trivial rfl hb22 rfl ?_
              refine Rn.movD trivial rfl ?_
              refine bsplit (r12 == 0) (fun hb23 => ?_) (fun hb23 => ?_)
              · replace h := bT hb23 h
                refine Rn.movD (gw rfl hb23) rfl ?_
                refine Rn.lenD (gw rfl hb23) rfl ?_
                refine Rn.bin (gw rfl hb23) rfl rfl rfl ?_
                refine Rn.pickT (v := .d (.bool ((r11.length : Int) == 2))) trivial rfl hb23 rfl ?_
                refine Rn.movD trivial rfl ?_
                refine bsplit ((r11.length : Int) == 2) (fun hb24 => ?_) (fun hb24 => ?_)
                · replace h := bT hb24 h
                  refine Rn.movD (gw rfl hb24) rfl ?_
                  replace h := bnd h
                  obtain ⟨x25, h26, h⟩ := h
                  refine Rn.idxD (e := (eL 1 (eI .i64))) (gw rfl hb24) rfl rfl h26 ?_
                  refine Rn.loadC (x := .lst 1 (List.map (eI .i64) x25)) (gw rfl hb24) rfl ?_
                  refine Rn.bslice (xs := [.d (.int .i64 0)]) (cs := [.d (.int .i64 0)]) (gw rfl hb24) rfl rfl rfl rfl ?_
                  refine Rn.weak (by show WeakSt Γ _ ⟨look [(0, .d (.bool false)), (1, .ptr (Γ.n0 + 1) 0), (2, .d (.int .i64 r5)), (3, .d (.int .i64 r7)), (4, .d (.int .i64 r8)), (5, .d (.int .i64 r9)), (6, .d (.lst 1 (List.map (eL 1 (eI .i64)) r11))), (7, .d (.int .i64 r12)), (8, .ptr (Γ.n0 + 8) 0), (9, .d (.int .i64 r15)), (10, .tup [.agg [.d (.lst 1 (List.map (eI .i64) r4.Alphabet)), .d (.int .i64 r4.States), .d (.lst 1 (List.map (eI .i64) r4.Marked)), .d (.lst 3 (List.map e_api_Edge r4.Edges))], .d (.int .i64 r5)]), (11, .agg [.d (.lst 1 (List.map (eI .i64) x2.Alphabet)), .d (.int .i64 x2.States), .d (.lst 1 (List.map (eI .i64) x2.Marked)), .d (.lst 3 (List.map e_api_Edge x2.Edges))]), (12, .tup [.agg [.d (.lst 1 (List.map (eI .i64) r4.Alphabet)), .d (.int .i64 r4.States), .d (.lst 1 (List.map (eI .i64) r4.Marked)), .d (.lst 3 (List.map e_api_Edge r4.Edges))], .d (.int .i64 r5)]), (13, .agg [.d (.lst 1 (List.map (eI .i64) r4.Alphabet)), .d (.int .i64 r4.States), .d (.lst 1 (List.map (eI .i64) r4.Marked)), .d (.lst 3 (List.map e_api_Edge r4.Edges))]), (14, .d (.int .i64 r5)), (15, .tup [.d (.int .i64 r7), .d (.int .i64 r8), .d (.int .i64 r9)]), (16, .agg [.d (.lst 1 (List.map (eI .i64) r4.Alphabet)), .d (.int .i64 r4.States), .d (.lst 1 (List.map (eI .i64) r4.Marked)), .d (.lst 3 (List.map e_api_Edge r4.Edges))]), (17, .d (.lst 1 (List.map (eI .i64) [0, 0]))), (18, .tup [.d (.int .i64 r7), .d (.int .i64 r8), .d (.int .i64 r9)]), (19, .d (.int .i64 r7)), (20, .d (.int .i64 r8)), (21, .d (.int .i64 r9)), (22, .tup [.d (.lst 1 (List.map (eL 1 (eI .i64)) r11)), .d (.int .i64 r12)]), (23, .agg [.d (.lst 1 (List.map (eI .i64) r4.Alphabet)), .d (.int .i64 r4.States), .d (.lst 1 (List.map (eI .i64) r4.Marked)), .d (.lst 3 (List.map e_api_Edge r4.Edges))]), (24, .tup [.own 1 (List.map (eL 1 (eI .i64)) r11), .d (.int .i64 r12)]), (25, .d (.lst 1 (List.map (eL 1 (eI .i64)) r11))), (26, .d (.int .i64 r12)), (27, .tup [.agg [.d (.lst 1 (List.map (eI .i64) r14.Alphabet)), .d (.int .i64 r14.States), .d (.lst 1 (List.map (eI .i64) r14.Marked)), .d (.lst 3 (List.map e_api_Edge r14.Edges))], .d (.int .i64 r15)]), (28, .agg [.d (.lst 1 (List.map (eI .i64) r4.Alphabet)), .d (.int .i64 r4.States), .d (.lst 1 (List.map (eI .i64) r4.Marked)), .d (.lst 3 (List.map e_api_Edge r4.Edges))]), (29, .d (.lst 1 (List.map (eI .i64) [3, 1]))), (30, .tup [.agg [.d (.lst 1 (List.map (eI .i64) r14.Alphabet)), .d (.int .i64 r14.States), .d (.lst 1 (List.map (eI .i64) r14.Marked)), .d (.lst 3 (List.map e_api_Edge r14.Edges))], .d (.int .i64 r15)]), (31, .agg [.d (.lst 1 (List.map (eI .i64) r14.Alphabet)), .d (.int .i64 r14.States), .d (.lst 1 (List.map (eI .i64) r14.Marked)), .d (.lst 3 (List.map e_api_Edge r14.Edges))]), (32, .d (.int .i64 r15)), (33, .d (.int .i64 r5)), (34, .d (.bool (r5 == 0))), (35, .d (.bool (r5 == 0))), (36, .agg [.d (.lst 1 (List.map (eI .i64) r4.Alphabet)), .d (.int .i64 r4.States), .d (.lst 1 (List.map (eI .i64) r4.Marked)), .d (.lst 3 (List.map e_api_Edge r4.Edges))]), (37, .d (.lst 1 (List.map (eI .i64) [0, 2]))), (38, .d (.lst 1 (List.map (eI .i64) [1]))), (39, .agg [.d (.int .i64 0), .d (.int .i64 0), .d (.int .i64 1)]), (40, .agg [.d (.int .i64 0), .d (.int .i64 2), .d (.int .i64 0)]), (41, .agg [.d (.int .i64 1), .d (.int .i64 2), .d (.int .i64 0)]), (42, .d (.lst 3 (List.map e_api_Edge [(api_Edge.mk 0 0 1), (api_Edge.mk 0 2 0), (api_Edge.mk 1 2 0)]))), (43, .agg [.d (.lst 1 (List.map (eI .i64) [0, 2])), .d (.int .i64 2), .d (.lst 1 (List.map (eI .i64) [1])), .d (.lst 3 (List.map e_api_Edge [(api_Edge.mk 0 0 1), (api_Edge.mk 0 2 0), (api_Edge.mk 1 2 0)]))]), (44, .d (.bool x18)), (45, .d (.bool x18)), (46, .d (.bool x18)), (47, .d (.int .i64 r9)), (48, .d (.bool (r9 == 0))), (49, .d (.bool (r9 == 0))), (50, .d (.bool (r9 == 0))), (51, .d (.int .i64 r7)), (52, .d (.bool (r7 == 1))), (53, .d (.bool (r7 == 1))), (54, .d (.bool (r7 == 1))), (55, .d (.int .i64 r8)), (56, .d (.bool (r8 == 1))), (57, .d (.bool (r8 == 1))), (58, .d (.bool (r8 == 1))), (59, .d (.int .i64 r12)), (60, .d (.bool (r12 == 0))), (61, .d (.bool (r12 == 0))), (62, .d (.bool (r12 == 0))), (63, .d (.lst 1 (List.map (eL 1 (eI .i64)) r11))), (64, .d (.int .i64 (r11.length : Int))), (65, .d (.bool ((r11.length : Int) == 2))), (66, .d (.bool ((r11.length : Int) == 2))), (67, .d (.bool ((r11.length : Int) == 2))), (68, .d (.lst 1 (List.map (eL 1 (eI .i64)) r11))), (69, .cref ((eL 1 (eI .i64)) x25)), (70, .d (.lst 1 (List.map (eI .i64) x25))), (71, .d (.lst 1 (List.map (eI .i64) [0])))], memOf Γ.n0 (bxs [(1, [.d (.lst 1 (List.map (eI .i64) r4.Alphabet)), .d (.int .i64 r4.States), .d (.lst 1 (List.map (eI .i64) r4.Marked)), .d (.lst 3 (List.map e_api_Edge r4.Edges))]), (8, [.d (.lst 1 (List.map (eI .i64) r14.Alphabet)), .d (.int .i64 r14.States), .d (.lst 1 (List.map (eI .i64) r14.Marked)), .d (.lst 3 (List.map e_api_Edge r14.Edges))])]) M, Γ.n0 + 99⟩; exact weak_freeze 71 [.int .i64 0] rfl rfl ⟨(.same rfl), ⟨(fPtr rfl), ⟨(.same rfl), ⟨(.same rfl), ⟨(.same rfl), ⟨(.same rfl), ⟨(.same rfl), ⟨(.same rfl), ⟨(fPtr rfl), ⟨(.same rfl), ⟨(.same rfl), ⟨(.same rfl), ⟨(.same rfl), ⟨(.same rfl), ⟨(.same rfl), ⟨(.same rfl), ⟨(.same rfl), ⟨(.same rfl), ⟨(.same rfl), ⟨(.same rfl), ⟨(.same rfl), ⟨(.same rfl), ⟨(.same rfl), ⟨(.same rfl), ⟨(.same rfl), ⟨(.same rfl), ⟨(.same rfl), ⟨(.same rfl), ⟨(.same rfl), ⟨(.same rfl), ⟨(.same rfl), ⟨(.same rfl), ⟨(.same rfl), ⟨(.same rfl), ⟨(.same rfl), ⟨(.same rfl), ⟨(.same rfl), ⟨(.same rfl), ⟨(.same rfl), ⟨(.same rfl), ⟨(.same rfl), ⟨(.same rfl), ⟨(.same rfl), ⟨(.same rfl), ⟨(.same rfl), ⟨(.same rfl), ⟨(.same rfl), ⟨(.same rfl), ⟨(.same rfl), ⟨(.same rfl), ⟨(.same rfl), ⟨(.same rfl), ⟨(.same rfl), ⟨(.same rfl), ⟨(.same rfl), ⟨(.same rfl), ⟨(.same rfl), ⟨(.same rfl), ⟨(.same rfl), ⟨(.same rfl), ⟨(.same rfl), ⟨(.same rfl), ⟨(.same rfl), ⟨(.same rfl), ⟨(.same rfl), ⟨(.same rfl), ⟨(.same rfl), ⟨(.same rfl), ⟨(.same rfl), ⟨(.same rfl), ⟨(.same rfl), ⟨(fSl rfl rfl), trivial⟩⟩⟩⟩⟩⟩⟩⟩⟩⟩⟩⟩⟩⟩⟩⟩⟩⟩⟩⟩⟩⟩⟩⟩⟩⟩⟩⟩⟩⟩⟩⟩⟩⟩⟩⟩⟩⟩⟩⟩⟩⟩⟩⟩⟩⟩⟩⟩⟩⟩⟩⟩⟩⟩⟩⟩⟩⟩⟩⟩⟩⟩⟩⟩⟩⟩⟩⟩⟩⟩⟩⟩ ⟨⟨_, rfl, rfl, (.same rfl)⟩, ⟨⟨_, rfl, rfl, (.same rfl)⟩, trivial⟩⟩ rfl) ?_
                  replace h := bnd h
                  obtain ⟨x28, h27, h⟩ := h
                  refine Rn.call (args := [.d (.lst 1 (List.map (eI .i64) x25)), .d (.lst 1 (List.map (eI .i64) [0]))]) (gw rfl hb24) rfl (H_overseerref03_SameInts _ _ _ h27) pc9 ?_
                  refine Rn.pickT (v := .d (.bool x28)) trivial rfl hb24 rfl ?_
                  refine Rn.movD trivial rfl ?_
                  refine bsplit x28 (fun hb29 => ?_) (fun hb29 => ?_)
                  · replace h := bT hb29 h
                    refine Rn.movD (gw rfl hb29) rfl ?_
                    replace h := bnd h
                    obtain ⟨x30, h31, h⟩ := h
                    refine Rn.idxD (e := (eL 1 (eI .i64))) (gw rfl hb29) rfl rfl h31 ?_
                    refine Rn.loadC (x := .lst 1 (List.map (eI .i64) x30)) (gw rfl hb29) rfl ?_
                    refine Rn.bslice (xs := [.d (.int .i64 2), .d (.int .i64 0)]) (cs := [.d (.int .i64 2), .d (.int .i64 0)]) (gw rfl hb29) rfl rfl rfl rfl ?_
                    refine Rn.weak (by show WeakSt Γ _ ⟨look [(0, .d (.bool false)), (1, .ptr (Γ.n0 + 1) 0), (2, .d (.int .i64 r5)), (3, .d (.int .i64 r7)), (4, .d (.int .i64 r8)), (5, .d (.int .i64 r9)), (6, .d (.lst 1 (List.map (eL 1 (eI .i64)) r11))), (7, .d (.int .i64 r12)), (8, .ptr (Γ.n0 + 8) 0), (9, .d (.int .i64 r15)), (10, .tup [.agg [.d (.lst 1 (List.map (eI .i64) r4.Alphabet)), .d (.int .i64 r4.States), .d (.lst 1 (List.map (eI .i64) r4.Marked)), .d (.lst 3 (List.map e_api_Edge r4.Edges))], .d (.int .i64 r5)]), (11, .agg [.d (.lst 1 (List.map (eI .i64) x2.Alphabet)), .d (.int .i64 x2.States), .d (.lst 1 (List.map (eI .i64) x2.Marked)), .d (.lst 3 (List.map e_api_Edge x2.Edges))]), (12, .tup [.agg [.d (.lst 1 (List.map (eI .i64) r4.Alphabet)), .d (.int .i64 r4.States), .d (.lst 1 (List.map (eI .i64) r4.Marked)), .d (.lst 3 (List.map e_api_Edge r4.Edges))], .d (.int .i64 r5)]), (13, .agg [.d (.lst 1 (List.map (eI .i64) r4.Alphabet)), .d (.int .i64 r4.States), .d (.lst 1 (List.map (eI .i64) r4.Marked)), .d (.lst 3 (List.map e_api_Edge r4.Edges))]), (14, .d (.int .i64 r5)), (15, .tup [.d (.int .i64 r7), .d (.int .i64 r8), .d (.int .i64 r9)]), (16, .agg [.d (.lst 1 (List.map (eI .i64) r4.Alphabet)), .d (.int .i64 r4.States), .d (.lst 1 (List.map (eI .i64) r4.Marked)), .d (.lst 3 (List.map e_api_Edge r4.Edges))]), (17, .d (.lst 1 (List.map (eI .i64) [0, 0]))), (18, .tup [.d (.int .i64 r7), .d (.int .i64 r8), .d (.int .i64 r9)]), (19, .d (.int .i64 r7)), (20, .d (.int .i64 r8)), (21, .d (.int .i64 r9)), (22, .tup [.d (.lst 1 (List.map (eL 1 (eI .i64)) r11)), .d (.int .i64 r12)]), (23, .agg [.d (.lst 1 (List.map (eI .i64) r4.Alphabet)), .d (.int .i64 r4.States), .d (.lst 1 (List.map (eI .i64) r4.Marked)), .d (.lst 3 (List.map e_api_Edge r4.Edges))]), (24, .tup [.own 1 (List.map (eL 1 (eI .i64)) r11), .d (.int .i64 r12)]), (25, .d (.lst 1 (List.map (eL 1 (eI .i64)) r11))), (26, .d (.int .i64 r12)), (27, .tup [.agg [.d (.lst 1 (List.map (eI .i64) r14.Alphabet)), .d (.int .i64 r14.States), .d (.lst 1 (List.map (eI .i64) r14.Marked)), .d (.lst 3 (List.map e_api_Edge r14.Edges))], .d (.int .i64 r15)]), (28, .agg [.d (.lst 1 (List.map (eI .i64) r4.Alphabet)), .d (.int .i64 r4.States), .d (.lst 1 (List.map (eI .i64) r4.Marked)), .d (.lst 3 (List.map e_api_Edge r4.Edges))]), (29, .d (.lst 1 (List.map (eI .i64) [3, 1]))), (30, .tup [.agg [.d (.lst 1 (List.map (eI .i64) r14.Alphabet)), .d (.int .i64 r14.States), .d (.lst 1 (List.map (eI .i64) r14.Marked)), .d (.lst 3 (List.map e_api_Edge r14.Edges))], .d (.int .i64 r15)]), (31, .agg [.d (.lst 1 (List.map (eI .i64) r14.Alphabet)), .d (.int .i64 r14.States), .d (.lst 1 (List.map (eI .i64) r14.Marked)), .d (.lst 3 (List.map e_api_Edge r14.Edges))]), (32, .d (.int .i64 r15)), (33, .d (.int .i64 r5)), (34, .d (.bool (r5 == 0))), (35, .d (.bool (r5 == 0))), (36, .agg [.d (.lst 1 (List.map (eI .i64) r4.Alphabet)), .d (.int .i64 r4.States), .d (.lst 1 (List.map (eI .i64) r4.Marked)), .d (.lst 3 (List.map e_api_Edge r4.Edges))]), (37, .d (.lst 1 (List.map (eI .i64) [0, 2]))), (38, .d (.lst 1 (List.map (eI .i64) [1]))), (39, .agg [.d (.int .i64 0), .d (.int .i64 0), .d (.int .i64 1)]), (40, .agg [.d (.int .i64 0), .d (.int .i64 2), .d (.int .i64 0)]), (41, .agg [.d (.int .i64 1), .d (.int .i64 2), .d (.int .i64 0)]), (42, .d (.lst 3 (List.map e_api_Edge [(api_Edge.mk 0 0 1), (api_Edge.mk 0 2 0), (api_Edge.mk 1 2 0)]))), (43, .agg [.d (.lst 1 (List.map (eI .i64) [0, 2])), .d (.int .i64 2), .d (.lst 1 (List.map (eI .i64) [1])), .d (.lst 3 (List.map e_api_Edge [(api_Edge.mk 0 0 1), (api_Edge.mk 0 2 0), (api_Edge.mk 1 2 0)]))]), (44, .d (.bool x18)), (45, .d (.bool x18)), (46, .d (.bool x18)), (47, .d (.int .i64 r9)), (48, .d (.bool (r9 == 0))), (49, .d (.bool (r9 == 0))), (50, .d (.bool (r9 == 0))), (51, .d (.int .i64 r7)), (52, .d (.bool (r7 == 1))), (53, .d (.bool (r7 == 1))), (54, .d (.bool (r7 == 1))), (55, .d (.int .i64 r8)), (56, .d (.bool (r8 == 1))), (57, .d (.bool (r8 == 1))), (58, .d (.bool (r8 == 1))), (59, .d (.int .i64 r12)), (60, .d (.bool (r12 == 0))), (61, .d (.bool (r12 == 0))), (62, .d (.bool (r12 == 0))), (63, .d (.lst 1 (List.map (eL 1 (eI .i64)) r11))), (64, .d (.int .i64 (r11.length : Int))), (65, .d (.bool ((r11.length : Int) == 2))), (66, .d (.bool ((r11.length : Int) == 2))), (67, .d (.bool ((r11.length : Int) == 2))), (68, .d (.lst 1 (List.map (eL 1 (eI .i64)) r11))), (69, .cref ((eL 1 (eI .i64)) x25)), (70, .d (.lst 1 (List.map (eI .i64) x25))), (71, .d (.lst 1 (List.map (eI .i64) [0]))), (72, .d (.bool x28)), (73, .d (.bool x28)), (74, .d (.bool x28)), (75, .d (.lst 1 (List.map (eL 1 (eI .i64)) r11))), (76, .cref ((eL 1 (eI .i64)) x30)), (77, .d (.lst 1 (List.map (eI .i64) x30))), (78, .d (.lst 1 (List.map (eI .i64) [2, 0])))], memOf Γ.n0 (bxs [(1, [.d (.lst 1 (List.map (eI .i64) r4.Alphabet)), .d (.int .i64 r4.States), .d (.lst 1 (List.map (eI .i64) r4.Marked)), .d (.lst 3 (List.map e_api_Edge r4.Edges))]), (8, [.d (.lst 1 (List.map (eI .i64) r14.Alphabet)), .d (.int .i64 r14.States), .d (.lst 1 (List.map (eI .i64) r14.Marked)), .d (.lst 3 (List.map e_api_Edge r14.Edges))])]) M, Γ.n0 + 99⟩; exact weak_freeze 78 [.int .i64 2, .int .i64 0] rfl rfl ⟨(.same rfl), ⟨(fPtr rfl), ⟨(.same rfl), ⟨(.same rfl), ⟨(.same rfl), ⟨(.same rfl), ⟨(.same rfl), ⟨(.same rfl), ⟨(fPtr rfl), ⟨(.same rfl), ⟨(.same rfl), ⟨(.same rfl), ⟨(.same rfl), ⟨(.same rfl), ⟨(.same rfl), ⟨(.same rfl), ⟨(.same rfl), ⟨(.same rfl), ⟨(.same rfl), ⟨(.same rfl), ⟨(.same rfl), ⟨(.same rfl), ⟨(.same rfl), ⟨(.same rfl), ⟨(.same rfl), ⟨(.same rfl), ⟨(.same rfl), ⟨(.same rfl), ⟨(.same rfl), ⟨(.same rfl), ⟨(.same rfl), ⟨(.same rfl), ⟨(.same rfl), ⟨(.same rfl), ⟨(.same rfl), ⟨(.same rfl), ⟨(.same rfl), ⟨(.same rfl), ⟨(.same rfl), ⟨(.same rfl), ⟨(.same rfl), ⟨(.same rfl), ⟨(.same rfl), ⟨(.same rfl), ⟨(.same rfl), ⟨(.same rfl), ⟨(.same rfl), ⟨(.same rfl), ⟨(.same rfl), ⟨(.same rfl), ⟨(.same rfl), ⟨(.same rfl), ⟨(.same rfl), ⟨(.same rfl), ⟨(.same rfl), ⟨(.same rfl), ⟨(.same rfl), ⟨(.same rfl), ⟨(.same rfl), ⟨(.same rfl), ⟨(.same rfl), ⟨(.same rfl), ⟨(.same rfl), ⟨(.same rfl), ⟨(.same rfl), ⟨(.same rfl), ⟨(.same rfl), ⟨(.same rfl), ⟨(.same rfl), ⟨(.same rfl), ⟨(.same rfl), ⟨(.same rfl), ⟨(.same rfl), ⟨(.same rfl), ⟨(.same rfl), ⟨(.same rfl), ⟨(.same rfl), ⟨(.same rfl), ⟨(fSl rfl rfl), trivial⟩⟩⟩⟩⟩⟩⟩⟩⟩⟩⟩⟩⟩⟩⟩⟩⟩⟩⟩⟩⟩⟩⟩⟩⟩⟩⟩⟩⟩⟩⟩⟩⟩⟩⟩⟩⟩⟩⟩⟩⟩⟩⟩⟩⟩⟩⟩⟩⟩⟩⟩⟩⟩⟩⟩⟩⟩⟩⟩⟩⟩⟩⟩⟩⟩⟩⟩⟩⟩⟩⟩⟩⟩⟩⟩⟩⟩⟩⟩ ⟨⟨_, rfl, rfl, (.same rfl)⟩, ⟨⟨_, rfl, rfl, (.same rfl)⟩, trivial⟩⟩ rfl) ?_
                    replace h := bnd h
                    obtain ⟨x33, h32, h⟩ := h
                    refine Rn.call (args := [.d (.lst 1 (List.map (eI .i64) x30)), .d (.lst 1 (List.map (eI .i64) [2, 0]))]) (gw rfl hb29) rfl (H_overseerref03_SameInts _ _ _ h32) pc9 ?_
                    refine Rn.pickT (v := .d (.bool x33)) trivial rfl hb29 rfl ?_
                    refine Rn.movD trivial rfl ?_
                    refine bsplit x33 (fun hb34 => ?_) (fun hb34 => ?_)
                    · replace h := bT hb34 h
                      refine Rn.movD (gw rfl hb34) rfl ?_
                      refine Rn.bin (gw rfl hb34) rfl rfl rfl ?_
                      refine Rn.pickT (v := .d (.bool (r15 == 0))) trivial rfl hb34 rfl ?_
                      refine Rn.movD trivial rfl ?_
                      refine bsplit (r15 == 0) (fun hb35 => ?_) (fun hb35 => ?_)
                      · replace h := bT hb35 h
                        refine Rn.fldP (o' := 3) (gw rfl hb35) rfl rfl ?_
                        refine Rn.load (v := .d (.lst 3 (List.map e_api_Edge r14.Edges))) (gw rfl hb35) rfl (boxOwn rfl) rfl rfl ?_
                        refine Rn.lenD (gw rfl hb35) rfl ?_
                        refine Rn.bin (gw rfl hb35) rfl rfl rfl ?_
                        refine Rn.pickT (v := .d (.bool ((r14.Edges.length : Int) == 3))) trivial rfl hb35 rfl ?_
                        refine Rn.movD trivial rfl ?_
                        refine bsplit ((r14.Edges.length : Int) == 3) (fun hb36 => ?_) (fun hb36 => ?_)
                        · replace h := bT hb36 h
                          refine Rn.fldP (o' := 3) (gw rfl hb36) rfl rfl ?_
                          refine Rn.load (v := .d (.lst 3 (List.map e_api_Edge r14.Edges))) (gw rfl hb36) rfl (boxOwn rfl) rfl rfl ?_
                          replace h := bnd h
                          obtain ⟨x37, h38, h⟩ := h
                          refine Rn.idxD (e := e_api_Edge) (gw rfl hb36) rfl rfl h38 ?_
                          refine Rn.loadCA (vs := [.d (.int .i64 x37.From), .d (.int .i64 x37.Event), .d (.int .i64 x37.To)]) (gw rfl hb36) rfl rfl rfl ?_
                          refine Rn.build (v := .agg [.d (.int .i64 0), .d (.int .i64 3), .d (.int .i64 1)]) (gw rfl hb36) rfl ?_
                          refine Rn.eqa (r := ((x37.From == 0) && ((x37.Event == 3) && ((x37.To == 1) && true)))) (gw rfl hb36) rfl rfl rfl ?_
                          refine Rn.pickT (v := .d (.bool ((x37.From == 0) && ((x37.Event == 3) && ((x37.To == 1) && true))))) trivial rfl hb36 rfl ?_
                          refine Rn.movD trivial rfl ?_
                          refine Rn.nil ?_
                          replace h := Option.some.inj h
                          subst h
                          show WeakSt Γ _ ⟨look _, memOf _ (bxs _) _, _⟩; exact weak_cut [] ⟨(.same rfl), trivial⟩ ⟨⟨_, rfl, rfl, (.same rfl)⟩, ⟨⟨_, rfl, rfl, (.same rfl)⟩, trivial⟩⟩ rfl
                        · replace h := bF hb36 h
                          refine Rn.sk (nw rfl hb36) ?_
                          refine Rn.sk (nw rfl hb36) ?_
                          refine Rn.sk (nw rfl hb36) ?_
                          refine Rn.sk (nw rfl hb36) ?_
                          refine Rn.sk (nw rfl hb36) ?_
                          refine Rn.sk (nw rfl hb36) ?_
                          refine Rn.pickF (v := .d (.bool false)) trivial rfl hb36 rfl ?_
                          refine Rn.movD trivial rfl ?_
                          refine Rn.nil ?_
                          replace h := Option.some.inj h
                          subst h
                          show WeakSt Γ _ ⟨look _, memOf _ (bxs _) _, _⟩; exact weak_cut [] ⟨(.same rfl), trivial⟩ ⟨⟨_, rfl, rfl, (.same rfl)⟩, ⟨⟨_, rfl, rfl, (.same rfl)⟩, trivial⟩⟩ rfl
                      · replace h := bF hb35 h
                        refine Rn.sk (nw rfl hb35) ?_
                        refine Rn.sk (nw rfl hb35) ?_
                        refine Rn.sk (nw rfl hb35) ?_
                        refine Rn.sk (nw rfl hb35) ?_
                        refine Rn.pickF (v := .d (.bool false)) trivial rfl hb35 rfl ?_
                        refine Rn.movD trivial rfl ?_
                        refine Rn.sk (nw (b := false) rfl rfl) ?_
                        refine Rn.sk (nw (b := false) rfl rfl) ?_
                        refine Rn.sk (nw (b := false) rfl rfl) ?_
                        refine Rn.sk (nw (b := false) rfl rfl) ?_
                        refine Rn.sk (nw (b := false) rfl rfl) ?_
                        refine Rn.sk (nw (b := false) rfl rfl) ?_
                        refine Rn.pickF (v := .d (.bool false)) trivial rfl rfl rfl ?_
                        refine Rn.movD trivial rfl ?_
                        refine Rn.nil ?_
                        replace h := Option.some.inj h
                        subst h
                        show WeakSt Γ _ ⟨look _, memOf _ (bxs _) _, _⟩; exact weak_cut [] ⟨(.same rfl), trivial⟩ ⟨⟨_, rfl, rfl, (.same rfl)⟩, ⟨⟨_, rfl, rfl, (.same rfl)⟩, trivial⟩⟩ rfl
                    · replace h := bF hb34 h
                      refine Rn.sk (nw rfl hb34) ?_
                      refine Rn.sk (nw rfl hb34) ?_
                      refine Rn.pickF (v := .d (.bool false)) trivial rfl hb34 rfl ?_
                      refine Rn.movD trivial rfl ?_
                      refine Rn.sk (nw (b := false) rfl rfl) ?_
                      refine Rn.sk (nw (b := false) rfl rfl) ?_
                      refine Rn.sk (nw (b := false) rfl rfl) ?_
                      refine Rn.sk (nw (b := false) rfl rfl) ?_
                      refine Rn.pickF (v := .d (.bool false)) trivial rfl rfl rfl ?_
                      refine Rn.movD trivial rfl ?_
                      refine Rn.sk (nw (b := false) rfl rfl) ?_
                      refine Rn.sk (nw (b := false) rfl rfl) ?_
                      refine Rn.sk (nw (b := false) rfl rfl) ?_
                      refine Rn.sk (nw (b := false) rfl rfl) ?_
                      refine Rn.sk (nw (b := false) rfl rfl) ?_
                      refine Rn.sk (nw (b := false) rfl rfl) ?_
                      refine Rn.pickF (v := .d (.bool false)) trivial rfl rfl rfl ?_
                      refine Rn.movD trivial rfl ?_
                      refine Rn.nil ?_
                      replace h := Option.some.inj h
                      subst h
                      show WeakSt Γ _ ⟨look _, memOf _ (bxs _) _, _⟩; exact weak_cut [] ⟨(.same rfl), trivial⟩ ⟨⟨_, rfl, rfl, (.same rfl)⟩, ⟨⟨_, rfl, rfl, (.same rfl)⟩, trivial⟩⟩ rfl
                  · replace h := bF hb29 h
                    refine Rn.sk (nw rfl hb29) ?_
                    refine Rn.sk (nw rfl hb29) ?_
                    refine Rn.sk (nw rfl hb29) ?_
                    refine Rn.sk (nw rfl hb29) ?_
                    refine Rn.sk (nw rfl hb29) ?_
                    refine Rn.pickF (v := .d (.bool false)) trivial rfl hb29 rfl ?_
                    refine Rn.movD trivial rfl ?_
                    refine Rn.sk (nw (b := false) rfl rfl) ?_
                    refine Rn.sk (nw (b := false) rfl rfl) ?_
                    refine Rn.pickF (v := .d (.bool false)) trivial rfl rfl rfl ?_
                    refine Rn.movD trivial rfl ?_
                    refine Rn.sk (nw (b := false) rfl rfl) ?_
                    refine Rn.sk (nw (b := false) rfl rfl) ?_
                    refine Rn.sk (nw (b := false) rfl rfl) ?_
                    refine Rn.sk (nw (b := false) rfl rfl) ?_
                    refine Rn.pickF (v := .d (.bool false)) trivial rfl rfl rfl ?_
                    refine Rn.movD trivial rfl ?_
                    refine Rn.sk (nw (b := false) rfl rfl) ?_
                    refine Rn.sk (nw (b := false) rfl rfl) ?_
                    refine Rn.sk (nw (b := false) rfl rfl) ?_
                    refine Rn.sk (nw (b := false) rfl rfl) ?_
                    refine Rn.sk (nw (b := false) rfl rfl) ?_
                    refine Rn.sk (nw (b := false) rfl rfl) ?_
                    refine Rn.pickF (v := .d (.bool false)) trivial rfl rfl rfl ?_
                    refine Rn.movD trivial rfl ?_
                    refine Rn.nil ?_
                    replace h := Option.some.inj h
                    subst h
                    show WeakSt Γ _ ⟨look _, memOf _ (bxs _) _, _⟩; exact weak_cut [] ⟨(.same rfl), trivial⟩ ⟨⟨_, rfl, rfl, (.same rfl)⟩, ⟨⟨_, rfl, rfl, (.same rfl)⟩, trivial⟩⟩ rfl
                · replace h := bF hb24 h
                  refine Rn.sk (nw rfl hb24) ?_
                  refine Rn.sk (nw rfl hb24) ?_
                  refine Rn.sk (nw rfl hb24) ?_
                  refine Rn.sk (nw rfl hb24) ?_
                  refine Rn.sk (nw rfl hb24) ?_
                  refine Rn.pickF (v := .d (.bool false)) trivial rfl hb24 rfl ?_
                  refine Rn.movD trivial rfl ?_
                  refine Rn.sk (nw (b := false) rfl rfl) ?_
                  refine Rn.sk (nw (b := false) rfl rfl) ?_
                  refine Rn.sk (nw (b := false) rfl rfl) ?_
                  refine Rn.sk (nw (b := false) rfl rfl) ?_
                  refine Rn.sk (nw (b := false) rfl rfl) ?_
                  refine Rn.pickF (v := .d (.bool false)) trivial rfl rfl rfl ?_
                  refine Rn.movD trivial rfl ?_
                  refine Rn.sk (nw (b := false) rfl rfl) ?_
                  refine Rn.sk (nw (b := false) rfl rfl) ?_
                  refine Rn.pickF (v := .d (.bool false)) trivial rfl rfl rfl ?_
                  refine Rn.movD trivial rfl ?_
                  refine Rn.sk (nw (b := false) rfl rfl) ?_
                  refine Rn.sk (nw (b := false) rfl rfl) ?_
                  refine Rn.sk (nw (b := false) rfl rfl) ?_
                  refine Rn.sk (nw (b := false) rfl rfl) ?_
                  refine Rn.pickF (v := .d (.bool false)) trivial rfl rfl rfl ?_
                  refine Rn.movD trivial rfl ?_
                  refine Rn.sk (nw (b := false) rfl rfl) ?_
                  refine Rn.sk (nw (b := false) rfl rfl) ?_
                  refine Rn.sk (nw (b := false) rfl rfl) ?_
                  refine Rn.sk (nw (b := false) rfl rfl) ?_
                  refine Rn.sk (nw (b := false) rfl rfl) ?_
                  refine Rn.sk (nw (b := false) rfl rfl) ?_
                  refine Rn.pickF (v := .d (.bool false)) trivial rfl rfl rfl ?_
                  refine Rn.movD trivial rfl ?_
                  refine Rn.nil ?_
                  replace h := Option.some.inj h
                  subst h
                  show WeakSt Γ _ ⟨look _, memOf _ (bxs _) _, _⟩; exact weak_cut [] ⟨(.same rfl), trivial⟩ ⟨⟨_, rfl, rfl, (.same rfl)⟩, ⟨⟨_, rfl, rfl, (.same rfl)⟩, trivial⟩⟩ rfl
              · replace h := bF hb23 h
                refine Rn.sk (nw rfl hb23) ?_
                refine Rn.sk (nw rfl hb23) ?_
                refine Rn.sk (nw rfl hb23) ?_
                refine Rn.pickF (v := .d (.bool false)) trivial rfl hb23 rfl ?_
                refine Rn.movD trivial rfl ?_
                refine Rn.sk (nw (b := false) rfl rfl) ?_
                refine Rn.sk (nw (b := false) rfl rfl) ?_
                refine Rn.sk (nw (b := false) rfl rfl) ?_
                refine Rn.sk (nw (b := false) rfl rfl) ?_
                refine Rn.sk (nw (b := false) rfl rfl) ?_
                refine Rn.pickF (v := .d (.bool false)) trivial rfl rfl rfl ?_
                refine Rn.movD trivial rfl ?_
                refine Rn.sk (nw (b := false) rfl rfl) ?_
                refine Rn.sk (nw (b := false) rfl rfl) ?_
                refine Rn.sk (nw (b := false) rfl rfl) ?_
                refine Rn.sk (nw (b := false) rfl rfl) ?_
                refine Rn.sk (nw (b := false) rfl rfl) ?_
                refine Rn.pickF (v := .d (.bool false)) trivial rfl rfl rfl ?_
                refine Rn.movD trivial rfl ?_
                refine Rn.sk (nw (b := false) rfl rfl) ?_
                refine Rn.sk (nw (b := false) rfl rfl) ?_
                refine Rn.pickF (v := .d (.bool false)) trivial rfl rfl rfl ?_
                refine Rn.movD trivial rfl ?_
                refine Rn.sk (nw (b := false) rfl rfl) ?_
                refine Rn.sk (nw (b := false) rfl rfl) ?_
                refine Rn.sk (nw (b := false) rfl rfl) ?_
                refine Rn.sk (nw (b := false) rfl rfl) ?_
                refine Rn.pickF (v := .d (.bool false)) trivial rfl rfl rfl ?_
                refine Rn.movD trivial rfl ?_
                refine Rn.sk (nw (b := false) rfl rfl) ?_
                refine Rn.sk (nw (b := false) rfl rfl) ?_
                refine Rn.sk (nw (b := false) rfl rfl) ?_
                refine Rn.sk (nw (b := false) rfl rfl) ?_
                refine Rn.sk (nw (b := false) rfl rfl) ?_
                refine Rn.sk (nw (b := false) rfl rfl) ?_
                refine Rn.pickF (v := .d (.bool false)) trivial rfl rfl rfl ?_
                refine Rn.movD trivial rfl ?_
                refine Rn.nil ?_
                replace h := Option.some.inj h
                subst h
                show WeakSt Γ _ ⟨look _, memOf _ (bxs _) _, _⟩; exact weak_cut [] ⟨(.same rfl), trivial⟩ ⟨⟨_, rfl, rfl, (.same rfl)⟩, ⟨⟨_, rfl, rfl, (.same rfl)⟩, trivial⟩⟩ rfl
            · replace h := bF hb22 h
              refine Rn.sk (nw rfl hb22) ?_
              refine Rn.sk (nw rfl hb22) ?_
              refine Rn.pickF (v := .d (.bool false)) trivial rfl hb22 rfl ?_
              refine Rn.movD trivial rfl ?_
              refine Rn.sk (nw (b := false) rfl rfl) ?_
              refine Rn.sk (nw (b := false) rfl rfl) ?_
              refine Rn.sk (nw (b := false) rfl rfl) ?_
              refine Rn.pickF (v := .d (.bool false)) trivial rfl rfl rfl ?_
              refine Rn.movD trivial rfl ?_
              refine Rn.sk (nw (b := false) rfl rfl) ?_
              refine Rn.sk (nw (b := false) rfl rfl) ?_
              refine Rn.sk (nw (b := false) rfl rfl) ?_
              refine Rn.sk (nw (b := false) rfl rfl) ?_
              refine Rn.sk (nw (b := false) rfl rfl) ?_
              refine Rn.pickF (v := .d (.bool false)) trivial rfl rfl rfl ?_
              refine Rn.movD trivial rfl ?_
              refine Rn.sk (nw (b := false) rfl rfl) ?_
              refine Rn.sk (nw (b := false) rfl rfl) ?_
              refine Rn.sk (nw (b := false) rfl rfl) ?_
              refine Rn.sk (nw (b := false) rfl rfl) ?_
              refine Rn.sk (nw (b := false) rfl rfl) ?_
              refine Rn.pickF (v := .d (.bool false)) trivial rfl rfl rfl ?_
              refine Rn.movD trivial rfl ?_
              refine Rn.sk (nw (b := false) rfl rfl) ?_
              refine Rn.sk (nw (b := false) rfl rfl) ?_
              refine Rn.pickF (v := .d (.bool false)) trivial rfl rfl rfl ?_
              refine Rn.movD trivial rfl ?_
              refine Rn.sk (nw (b := false) rfl rfl) ?_
              refine Rn.sk (nw (b := false) rfl rfl) ?_
              refine Rn.sk (nw (b := false) rfl rfl) ?_
              refine Rn.sk (nw (b := false) rfl rfl) ?_
              refine Rn.pickF (v := .d (.bool false)) trivial rfl rfl rfl ?_
              refine Rn.movD trivial rfl ?_
              refine Rn.sk (nw (b := false) rfl rfl) ?_
              refine Rn.sk (nw (b := false) rfl rfl) ?_
              refine Rn.sk (nw (b := false) rfl rfl) ?_
              refine Rn.sk (nw (b := false) rfl rfl) ?_
              refine Rn.sk (nw (b := false) rfl rfl) ?_
              refine Rn.sk (nw (b := false) rfl rfl) ?_
              refine Rn.pickF (v := .d (.bool false)) trivial rfl rfl rfl ?_
              refine Rn.movD trivial rfl ?_
              refine Rn.nil ?_
              replace h := Option.some.inj h
              subst h
              show WeakSt Γ _ ⟨look _, memOf _ (bxs _) _, _⟩; exact weak_cut [] ⟨(.same rfl), trivial⟩ ⟨⟨_, rfl, rfl, (.same rfl)⟩, ⟨⟨_, rfl, rfl, (.same rfl)⟩, trivial⟩⟩ rfl
          · replace h := bF hb21 h
            refine Rn.sk (nw rfl hb21) ?_
            refine Rn.sk (nw rfl hb21) ?_
            refine Rn.pickF (v := .d (.bool false)) trivial rfl hb21 rfl ?_
            refine Rn.movD trivial rfl ?_
            refine Rn.sk (nw (b := false) rfl rfl) ?_
            refine Rn.sk (nw (b := false) rfl rfl) ?_
            refine Rn.pickF (v := .d (.bool false)) trivial rfl rfl rfl ?_
            refine Rn.movD trivial rfl ?_
            refine Rn.sk (nw (b := false) rfl rfl) ?_
            refine Rn.sk (nw (b := false) rfl rfl) ?_
            refine Rn.sk (nw (b := false) rfl rfl) ?_
            refine Rn.pickF (v := .d (.bool false)) trivial rfl rfl rfl ?_
            refine Rn.movD trivial rfl ?_
            refine Rn.sk (nw (b := false) rfl rfl) ?_
            refine Rn.sk (nw (b := false) rfl rfl) ?_
            refine Rn.sk (nw (b := false) rfl rfl) ?_
            refine Rn.sk (nw (b := false) rfl rfl) ?_
            refine Rn.sk (nw (b := false) rfl rfl) ?_
            refine Rn.pickF (v := .d (.bool false)) trivial rfl rfl rfl ?_
            refine Rn.movD trivial rfl ?_
            refine Rn.sk (nw (b := false) rfl rfl) ?_
            refine Rn.sk (nw (b := false) rfl rfl) ?_
            refine Rn.sk (nw (b := false) rfl rfl) ?_
            refine Rn.sk (nw (b := false) rfl rfl) ?_
            refine Rn.sk (nw (b := false) rfl rfl) ?_
            refine Rn.pickF (v := .d (.bool false)) trivial rfl rfl rfl ?_
            refine Rn.movD trivial rfl ?_
            refine Rn.sk (nw (b := false) rfl rfl) ?_
            refine Rn.sk (nw (b := false) rfl rfl) ?_
            refine Rn.pickF (v := .d (.bool false)) trivial rfl rfl rfl ?_
            refine Rn.movD trivial rfl ?_
            refine Rn.sk (nw (b := false) rfl rfl) ?_
            refine Rn.sk (nw (b := false) rfl rfl) ?_
            refine Rn.sk (nw (b := false) rfl rfl) ?_
            refine Rn.sk (nw (b := false) rfl rfl) ?_
            refine Rn.pickF (v := .d (.bool false)) trivial rfl rfl rfl ?_
            refine Rn.movD trivial rfl ?_
            refine Rn.sk (nw (b := false) rfl rfl) ?_
            refine Rn.sk (nw (b := false) rfl rfl) ?_
            refine Rn.sk (nw (b := false) rfl rfl) ?_
            refine Rn.sk (nw (b := false) rfl rfl) ?_
            refine Rn.sk (nw (b := false) rfl rfl) ?_
            refine Rn.sk (nw (b := false) rfl rfl) ?_
            refine Rn.pickF (v := .d (.bool false)) trivial rfl rfl rfl ?_
            refine Rn.movD trivial rfl ?_
            refine Rn.nil ?_
            replace h := Option.some.inj h
            subst h
            show WeakSt Γ _ ⟨look _, memOf _ (bxs _) _, _⟩; exact weak_cut [] ⟨(.same rfl), trivial⟩ ⟨⟨_, rfl, rfl, (.same rfl)⟩, ⟨⟨_, rfl, rfl, (.same rfl)⟩, trivial⟩⟩ rfl
        · replace h := bF hb20 h
          refine Rn.sk (nw rfl hb20) ?_
          refine Rn.sk (nw rfl hb20) ?_
          refine Rn.pickF (v := .d (.bool false)) trivial rfl hb20 rfl ?_
          refine Rn.movD trivial rfl ?_
          refine Rn.sk (nw (b := false) rfl rfl) ?_
          refine Rn.sk (nw (b := false) rfl rfl) ?_
          refine Rn.pickF (v := .d (.bool false)) trivial rfl rfl rfl ?_
          refine Rn.movD trivial rfl ?_
          refine Rn.sk (nw (b := false) rfl rfl) ?_
          refine Rn.sk (nw (b := false) rfl rfl) ?_
          refine Rn.pickF (v := .d (.bool false)) trivial rfl rfl rfl ?_
          refine Rn.movD trivial rfl ?_
          refine Rn.sk (nw (b := false) rfl rfl) ?_
          refine Rn.sk (nw (b := false) rfl rfl) ?_
          refine Rn.sk (nw (b := false) rfl rfl) ?_
          refine Rn.pickF (v := .d (.bool false)) trivial rfl rfl rfl ?_
          refine Rn.movD trivial rfl ?_
          refine Rn.sk (nw (b := false) rfl rfl) ?_
          refine Rn.sk (nw (b := false) rfl rfl) ?_
          refine Rn.sk (nw (b := false) rfl rfl) ?_
          refine Rn.sk (nw (b := false) rfl rfl) ?_
          refine Rn.sk (nw (b := false) rfl rfl) ?_
          refine Rn.pickF (v := .d (.bool false)) trivial rfl rfl rfl ?_
          refine Rn.movD trivial rfl ?_
          refine Rn.sk (nw (b := false) rfl rfl) ?_
          refine Rn.sk (nw (b := false) rfl rfl) ?_
          refine Rn.sk (nw (b := false) rfl rfl) ?_
          refine Rn.sk (nw (b := false) rfl rfl) ?_
          refine Rn.sk (nw (b := false) rfl rfl) ?_
          refine Rn.pickF (v := .d (.bool false)) trivial rfl rfl rfl ?_
          refine Rn.movD trivial rfl ?_
          refine Rn.sk (nw (b := false) rfl rfl) ?_
          refine Rn.sk (nw (b := false) rfl rfl) ?_
          refine Rn.pickF (v := .d (.bool false)) trivial rfl rfl rfl ?_
          refine Rn.movD trivial rfl ?_
          refine Rn.sk (nw (b := false) rfl rfl) ?_
          refine Rn.sk (nw (b := false) rfl rfl) ?_
          refine Rn.sk (nw (b := false) rfl rfl) ?_
          refine Rn.sk (nw (b := false) rfl rfl) ?_
          refine Rn.pickF (v := .d (.bool false)) trivial rfl rfl rfl ?_
          refine Rn.movD trivial rfl ?_
          refine Rn.sk (nw (b := false) rfl rfl) ?_
          refine Rn.sk (nw (b := false) rfl rfl) ?_
          refine Rn.sk (nw (b := false) rfl rfl) ?_
          refine Rn.sk (nw (b := false) rfl rfl) ?_
          refine Rn.sk (nw (b := false) rfl rfl) ?_
          refine Rn.sk (nw (b := false) rfl rfl) ?_
          refine Rn.pickF (v := .d (.bool false)) trivial rfl rfl rfl ?_
          refine Rn.movD trivial rfl ?_
          refine Rn.nil ?_
          replace h := Option.some.inj h
          subst h
          show WeakSt Γ _ ⟨look _, memOf _ (bxs _) _, _⟩; exact weak_cut [] ⟨(.same rfl), trivial⟩ ⟨⟨_, rfl, rfl, (.same rfl)⟩, ⟨⟨_, rfl, rfl, (.same rfl)⟩, trivial⟩⟩ rfl
      · replace h := bF hb19 h
        refine Rn.sk (nw rfl hb19) ?_
        refine Rn.sk (nw rfl hb19) ?_
        refine Rn.pickF (v := .d (.bool false)) trivial rfl hb19 rfl ?_
        refine Rn.movD trivial rfl ?_
        refine Rn.sk (nw (b := false) rfl rfl) ?_
        refine Rn.sk (nw (b := false) rfl rfl) ?_
        refine Rn.pickF (v := .d (.bool false)) trivial rfl rfl rfl ?_
        refine Rn.movD trivial rfl ?_
        refine Rn.sk (nw (b := false) rfl rfl) ?_
        refine Rn.sk (nw (b := false) rfl rfl) ?_
        refine Rn.pickF (v := .d (.bool false)) trivial rfl rfl rfl ?_
        refine Rn.movD trivial rfl ?_
        refine Rn.sk (nw (b := false) rfl rfl) ?_
        refine Rn.sk (nw (b := false) rfl rfl) ?_
        refine Rn.pickF (v := .d (.bool false)) trivial rfl rfl rfl ?_
        refine Rn.movD trivial rfl ?_
        refine Rn.sk (nw (b := false) rfl rfl) ?_
        refine Rn.sk (nw (b := false) rfl rfl) ?_
        refine Rn.sk (nw (b := false) rfl rfl) ?_
        refine Rn.pickF (v := .d (.bool false)) trivial rfl rfl rfl ?_
        refine Rn.movD trivial rfl ?_
        refine Rn.sk (nw (b := false) rfl rfl) ?_
        refine Rn.sk (nw (b := false) rfl rfl) ?_
        refine Rn.sk (nw (b := false) rfl rfl) ?_
        refine Rn.sk (nw (b := false) rfl rfl) ?_
        refine Rn.sk (nw (b := false) rfl rfl) ?_
        refine Rn.pickF (v := .d (.bool false)) trivial rfl rfl rfl ?_
        refine Rn.movD trivial rfl ?_
        refine Rn.sk (nw (b := false) rfl rfl) ?_
        refine Rn.sk (nw (b := false) rfl rfl) ?_
        refine Rn.sk (nw (b := false) rfl rfl) ?_
        refine Rn.sk (nw (b := false) rfl rfl) ?_
        refine Rn.sk (nw (b := false) rfl rfl) ?_
        refine Rn.pickF (v := .d (.bool false)) trivial rfl rfl rfl ?_
        refine Rn.movD trivial rfl ?_
        refine Rn.sk (nw (b := false) rfl rfl) ?_
        refine Rn.sk (nw (b := false) rfl rfl) ?_
        refine Rn.pickF (v := .d (.bool false)) trivial rfl rfl rfl ?_
        refine Rn.movD trivial rfl ?_
        refine Rn.sk (nw (b := false) rfl rfl) ?_
        refine Rn.sk (nw (b := false) rfl rfl) ?_
        refine Rn.sk (nw (b := false) rfl rfl) ?_
        refine Rn.sk (nw (b := false) rfl rfl) ?_
        refine Rn.pickF (v := .d (.bool false)) trivial rfl rfl rfl ?_
        refine Rn.movD trivial rfl ?_
        refine Rn.sk (nw (b := false) rfl rfl) ?_
        refine Rn.sk (nw (b := false) rfl rfl) ?_
        refine Rn.sk (nw (b := false) rfl rfl) ?_
        refine Rn.sk (nw (b := false) rfl rfl) ?_
        refine Rn.sk (nw (b := false) rfl rfl) ?_
        refine Rn.sk (nw (b := false) rfl rfl) ?_
        refine Rn.pickF (v := .d (.bool false)) trivial rfl rfl rfl ?_
        refine Rn.movD trivial rfl ?_
        refine Rn.nil ?_
        replace h := Option.some.inj h
        subst h
        show WeakSt Γ _ ⟨look _, memOf _ (bxs _) _, _⟩; exact weak_cut [] ⟨(.same rfl), trivial⟩ ⟨⟨_, rfl, rfl, (.same rfl)⟩, ⟨⟨_, rfl, rfl, (.same rfl)⟩, trivial⟩⟩ rfl
    · replace h := bF hb16 h
      refine Rn.sk (nw rfl hb16) ?_
      refine Rn.sk (nw rfl hb16) ?_
      refine Rn.sk (nw rfl hb16) ?_
      refine Rn.sk (nw rfl hb16) ?_
      refine Rn.sk (nw rfl hb16) ?_
      refine Rn.sk (nw rfl hb16) ?_
      refine Rn.sk (nw rfl hb16) ?_
      refine Rn.sk (nw rfl hb16) ?_
      refine Rn.sk (nw rfl hb16) ?_
      refine Rn.pickF (v := .d (.bool false)) trivial rfl hb16 rfl ?_
      refine Rn.movD trivial rfl ?_
      refine Rn.sk (nw (b := false) rfl rfl) ?_
      refine Rn.sk (nw (b := false) rfl rfl) ?_
      refine Rn.pickF (v := .d (.bool false)) trivial rfl rfl rfl ?_
      refine Rn.movD trivial rfl ?_
      refine Rn.sk (nw (b := false) rfl rfl) ?_
      refine Rn.sk (nw (b := false) rfl rfl) ?_
      refine Rn.pickF (v := .d (.bool false)) trivial rfl rfl rfl ?_
      refine Rn.movD trivial rfl ?_
      refine Rn.sk (nw (b := false) rfl rfl) ?_
      refine Rn.sk (nw (b := false) rfl rfl) ?_
      refine Rn.pickF (v := .d (.bool false)) trivial rfl rfl rfl ?_
      refine Rn.movD trivial rfl ?_
      refine Rn.sk (nw (b := false) rfl rfl) ?_
      refine Rn.sk (nw (b := false) rfl rfl) ?_
      refine Rn.pickF (v := .d (.bool false)) trivial rfl rfl rfl ?_
      refine Rn.movD trivial rfl ?_
      refine Rn.sk (nw (b := false) rfl rfl) ?_
      refine Rn.sk (nw (b := false) rfl rfl) ?_
      refine Rn.sk (nw (b := false) rfl rfl) ?_
      refine Rn.pickF (v := .d (.bool false)) trivial rfl rfl rfl ?_
      refine Rn.movD trivial rfl ?_
      refine Rn.sk (nw (b := false) rfl rfl) ?_
      refine Rn.sk (nw (b := false) rfl rfl) ?_
      refine Rn.sk (nw (b := false) rfl rfl) ?_
      refine Rn.sk (nw (b := false) rfl rfl) ?_
      refine Rn.sk (nw (b := false) rfl rfl) ?_
      refine Rn.pickF (v := .d (.bool false)) trivial rfl rfl rfl ?_
      refine Rn.movD trivial rfl ?_
      refine Rn.sk (nw (b := false) rfl rfl) ?_
      refine Rn.sk (nw (b := false) rfl rfl) ?_
      refine Rn.sk (nw (b := false) rfl rfl) ?_
      refine Rn.sk (nw (b := false) rfl rfl) ?_
      refine Rn.sk (nw (b := false) rfl rfl) ?_
      refine Rn.pickF (v := .d (.bool false)) trivial rfl rfl rfl ?_
      refine Rn.movD trivial rfl ?_
      refine Rn.sk (nw (b := false) rfl rfl) ?_
      refine Rn.sk (nw (b := false) rfl rfl) ?_
      refine Rn.pickF (v := .d (.bool false)) trivial rfl rfl rfl ?_
      refine Rn.movD trivial rfl ?_
      refine Rn.sk (nw (b := false) rfl rfl) ?_
      refine Rn.sk (nw (b := false) rfl rfl) ?_
      refine Rn.sk (nw (b := false) rfl rfl) ?_
      refine Rn.sk (nw (b := false) rfl rfl) ?_
      refine Rn.pickF (v := .d (.bool false)) trivial rfl rfl rfl ?_
      refine Rn.movD trivial rfl ?_
      refine Rn.sk (nw (b := false) rfl rfl) ?_
      refine Rn.sk (nw (b := false) rfl rfl) ?_
      refine Rn.sk (nw (b := false) rfl rfl) ?_
      refine Rn.sk (nw (b := false) rfl rfl) ?_
      refine Rn.sk (nw (b := false) rfl rfl) ?_
      refine Rn.sk (nw (b := false) rfl rfl) ?_
      refine Rn.pickF (v := .d (.bool false)) trivial rfl rfl rfl ?_
      refine Rn.movD trivial rfl ?_
      refine Rn.nil ?_
      replace h := Option.some.inj h
      subst h
      show WeakSt Γ _ ⟨look _, memOf _ (bxs _) _, _⟩; exact weak_cut [] ⟨(.same rfl), trivial⟩ ⟨⟨_, rfl, rfl, (.same rfl)⟩, ⟨⟨_, rfl, rfl, (.same rfl)⟩, trivial⟩⟩ rfl
  · obtain ⟨x39, rfl⟩ : ∃ x, x = z := ⟨_, rfl⟩
    refine Tr.ret ?_
    replace h := Option.some.inj h
    subst h
    exact ⟨.inr rfl, (.d (.bool x39)), rfl, fun _ _ _ _ h => h, trivial, fun k hk => memOf_base hk⟩
theorem overseerlaw03_Set_Events_walk {P : Program} {c : Nat} (hcf : compFn P c = some F_overseerlaw03_Set_Events) (fuel : Nat) : K_overseerlaw03_Set_Events P c (f_overseerlaw03_Set_Events fuel) := by
  intro s1 r h
  refine fn_trP hcf rfl fun Γ M hP hnt hM => ?_
  subst hP
  refine Tr.init [(0, .d (.int .u8 s1))] rfl ?_
  unfold f_overseerlaw03_Set_Events at h
  unfold F_overseerlaw03_Set_Events
  refine Tr.seq ?_
  refine Tr.rgn ?_
  refine Rn.movTC (v := .nils 1) trivial ?_
  refine Rn.nil ?_
  refine toN ?_
  refine Tr.seq ?_
  refine Tr.rgn ?_
  refine Rn.movTC (v := .nils 1) trivial ?_
  refine Rn.nil ?_
  refine toN ?_
  refine Tr.cutB (fun (out12 : List Int) => ⟨look [(3, .own 1 (List.map (eI .i64) out12))], memOf Γ.n0 (bxs []) M, Γ.n0 + 19⟩) h (fun z h => ?_) (fun z h => ?_)
  · refine Tr.seq ?_
    refine Tr.rgn ?_
    refine Rn.movD trivial rfl ?_
    refine Rn.nil ?_
    refine toN ?_
    refine Tr.block ?_
    refine Tr.loop (mk := fun ((out2, i3) : (List Int) × Int) => ⟨look [(0, .d (.int .u8 s1)), (3, .own 1 (List.map (eI .i64) out2)), (4, .d (.int .i64 i3))], memOf Γ.n0 (bxs []) M, Γ.n0 + 19⟩) h (by show WeakSt Γ (clean _ _ _) ⟨look _, memOf _ (bxs _) _, _⟩; exact weak_clean ⟨(.same rfl), ⟨(WkV.nilsO _), ⟨(.same rfl), trivial⟩⟩⟩ trivial rfl) (fun k4 z h => ?_)
    · obtain ⟨out2, i3⟩ := z
      replace h : _ = some _ := h
      refine Tr.seq ?_
      refine Tr.seq ?_
      refine Tr.rgn ?_
      refine Rn.movD trivial rfl ?_
      refine Rn.bin trivial rfl rfl rfl ?_
      refine Rn.nil ?_
      refine toN ?_
      refine Tr.cond rfl (fun hb5 => ?_) (fun hb5 => ?_)
      · replace h := ifT hb5 h
        refine Tr.skip ?_
        refine toN ?_
        refine Tr.cutB (fun (out11 : List Int) => ⟨look [(0, .d (.int .u8 s1)), (3, .own 1 (List.map (eI .i64) out11)), (4, .d (.int .i64 i3))], memOf Γ.n0 (bxs []) M, Γ.n0 + 19⟩) h (fun z h => ?_) (fun z h => ?_)
        · refine Tr.block ?_
          refine Tr.seq ?_
          refine Tr.rgn ?_
          refine Rn.movD trivial rfl ?_
          refine Rn.movD trivial rfl ?_
          replace h := bnd h
          obtain ⟨s6, h7, h⟩ := h
          refine Rn.bin trivial rfl rfl (shr_bin h7) ?_
          refine Rn.bin trivial rfl rfl rfl ?_
          refine Rn.bin trivial rfl rfl rfl ?_
          refine Rn.nil ?_
          refine toN ?_
          refine Tr.cond rfl (fun hb8 => ?_) (fun hb8 => ?_)
          · replace h := bT hb8 h
            refine Tr.rgn ?_
            refine Rn.movTO trivial rfl ?_
            refine Rn.movD trivial rfl ?_
            refine Rn.bslice (xs := [.d (.int .i64 i3)]) (cs := [.d (.int .i64 i3)]) trivial rfl rfl rfl rfl ?_
            replace h := bnd h
            obtain ⟨x9, h10, h⟩ := h
            refine Rn.app (e := (eI .i64)) trivial rfl rfl rfl (elems_box rfl rfl rfl) h10 rfl ?_
            refine Rn.movTO trivial rfl ?_
            refine Rn.nil ?_
            replace h := Option.some.inj h
            subst h
            show WeakSt Γ _ ⟨look _, memOf _ (bxs _) _, _⟩; exact weak_cut [16] ⟨(.same rfl), ⟨(.same rfl), ⟨(.same rfl), trivial⟩⟩⟩ trivial rfl
          · replace h := bF hb8 h
            refine Tr.skip ?_
            replace h := Option.some.inj h
            subst h
            show WeakSt Γ _ ⟨look _, memOf _ (bxs _) _, _⟩; exact weak_cut [] ⟨(.same rfl), ⟨(.same rfl), ⟨(.same rfl), trivial⟩⟩⟩ trivial rfl
        · obtain ⟨out11, rfl⟩ : ∃ x, x = z := ⟨_, rfl⟩
          refine Tr.rgn ?_
          refine Rn.movD trivial rfl ?_
          refine Rn.bin trivial rfl rfl rfl ?_
          refine Rn.movD trivial rfl ?_
          refine Rn.nil ?_
          exact ⟨_, h, (by show WeakSt Γ (clean _ _ _) ⟨look _, memOf _ (bxs _) _, _⟩; exact weak_clean ⟨(.same rfl), ⟨(.same rfl), ⟨(.same rfl), trivial⟩⟩⟩ trivial rfl)⟩
      · replace h := ifF hb5 h
        refine Tr.exit ?_
        replace h := Option.some.inj h
        subst h
        show WeakSt Γ _ ⟨look _, memOf _ (bxs _) _, _⟩; exact weak_cut [] ⟨(.same rfl), trivial⟩ trivial rfl
  · obtain ⟨out12, rfl⟩ : ∃ x, x = z := ⟨_, rfl⟩
    refine Tr.seq ?_
    refine Tr.rgn ?_
    refine Rn.movTO trivial rfl ?_
    refine Rn.movTO trivial rfl ?_
    refine Rn.nil ?_
    refine toN ?_
    refine Tr.ret ?_
    replace h := Option.some.inj h
    subst h
    exact ⟨.inr rfl, (.own 1 (List.map (eI .i64) out12)), rfl, fun _ _ _ _ h => h, trivial, fun k hk => memOf_base hk⟩
theorem overseerref03_Empty_walk {P : Program} {c : Nat} (hcf : compFn P c = some F_overseerref03_Empty) : K_overseerref03_Empty P c (f_overseerref03_Empty) := by
  intro alphabet1 r h
  refine fn_trP hcf rfl fun Γ M hP hnt hM => ?_
  subst hP
  refine Tr.init [(0, .d (.lst 1 (List.map (eI .i64) alphabet1)))] rfl ?_
  unfold f_overseerref03_Empty at h
  unfold F_overseerref03_Empty
  refine Tr.seq ?_
  refine Tr.rgn ?_
  refine Rn.alloc trivial rfl ?_
  refine Rn.nil ?_
  refine toN ?_
  refine Tr.seq ?_
  refine Tr.rgn ?_
  refine Rn.bslice (xs := []) (cs := []) trivial rfl rfl rfl rfl ?_
  refine Rn.movD trivial rfl ?_
  replace h := bnd h
  obtain ⟨x2, h3, h⟩ := h
  refine Rn.app0 (e := (eI .i64)) trivial rfl rfl rfl rfl elems_lst h3 rfl ?_
  refine Rn.build (v := .agg [.d (.lst 1 (List.map (eI .i64) x2)), .d (.int .i64 0), .nils 1, .nils 3]) trivial rfl ?_
  refine Rn.store (v := .agg [.d (.lst 1 (List.map (eI .i64) x2)), .d (.int .i64 0), .nils 1, .nils 3]) (cs' := [.d (.lst 1 (List.map (eI .i64) x2)), .d (.int .i64 0), .nils 1, .nils 3]) trivial rfl rfl rfl rfl rfl rfl ?_
  refine Rn.nil ?_
  refine toN ?_
  refine Tr.ret ?_
  replace h := Option.some.inj h
  subst h
  exact ⟨.inr rfl, (.agg [.d (.lst 1 (List.map (eI .i64) x2)), .d (.int .i64 0), .nils 1, .nils 3]), resCell rfl rfl rfl rfl, fun _ _ _ _ h => h, ⟨trivial, trivial, trivial, trivial, trivial⟩, fun k hk => memOf_base hk⟩
theorem overseerref03_Step_walk {P : Program} {c : Nat} (hcf : compFn P c = some F_overseerref03_Step) (fuel : Nat) : K_overseerref03_Step P c (f_overseerref03_Step fuel) := by
  intro a1 state2 event3 r h
  refine fn_trP hcf rfl fun Γ M hP hnt hM => ?_
  subst hP
  refine Tr.init [(0, .agg [.d (.lst 1 (List.map (eI .i64) a1.Alphabet)), .d (.int .i64 a1.States), .d (.lst 1 (List.map (eI .i64) a1.Marked)), .d (.lst 3 (List.map e_api_Edge a1.Edges))]), (1, .d (.int .i64 state2)), (2, .d (.int .i64 event3))] rfl ?_
  unfold f_overseerref03_Step at h
  unfold F_overseerref03_Step
  refine Tr.seq ?_
  refine Tr.rgn ?_
  refine Rn.box (v := .agg [.d (.lst 1 (List.map (eI .i64) a1.Alphabet)), .d (.int .i64 a1.States), .d (.lst 1 (List.map (eI .i64) a1.Marked)), .d (.lst 3 (List.map e_api_Edge a1.Edges))]) (cs := [.d (.lst 1 (List.map (eI .i64) a1.Alphabet)), .d (.int .i64 a1.States), .d (.lst 1 (List.map (eI .i64) a1.Marked)), .d (.lst 3 (List.map e_api_Edge a1.Edges))]) trivial rfl rfl rfl rfl rfl ?_
  refine Rn.movD trivial rfl ?_
  refine Rn.nil ?_
  refine toN ?_
  refine Tr.seq ?_
  refine Tr.seq ?_
  refine Tr.rgn ?_
  refine Rn.movD trivial rfl ?_
  refine Rn.nil ?_
  refine toN ?_
  refine Tr.block ?_
  refine Tr.loop (mk := fun (i4 : Int) => ⟨look [(1, .d (.int .i64 state2)), (2, .d (.int .i64 event3)), (3, .ptr (Γ.n0 + 3) 0), (7, .d (.int .i64 i4))], memOf Γ.n0 (bxs [(3, [.d (.lst 1 (List.map (eI .i64) a1.Alphabet)), .d (.int .i64 a1.States), .d (.lst 1 (List.map (eI .i64) a1.Marked)), .d (.lst 3 (List.map e_api_Edge a1.Edges))])]) M, Γ.n0 + 39⟩) h (by show WeakSt Γ (clean _ _ _) ⟨look _, memOf _ (bxs _) _, _⟩; exact weak_clean ⟨(.same rfl), ⟨(.same rfl), ⟨(kPtr rfl), ⟨(.same rfl), trivial⟩⟩⟩⟩ ⟨⟨_, rfl, rfl, (.same rfl)⟩, trivial⟩ rfl) (fun k5 z h => ?_)
  · obtain ⟨i4, rfl⟩ : ∃ x, x = z := ⟨_, rfl⟩
    replace h : _ = some _ := h
    refine Tr.seq ?_
    refine Tr.seq ?_
    refine Tr.rgn ?_
    refine Rn.movD trivial rfl ?_
    refine Rn.fldP (o' := 3) trivial rfl rfl ?_
    refine Rn.load (v := .d (.lst 3 (List.map e_api_Edge a1.Edges))) trivial rfl (boxOwn rfl) rfl rfl ?_
    refine Rn.lenD trivial rfl ?_
    refine Rn.bin trivial rfl rfl rfl ?_
    refine Rn.nil ?_
    refine toN ?_
    refine Tr.cond rfl (fun hb6 => ?_) (fun hb6 => ?_)
    · replace h := ifT hb6 h
      refine Tr.skip ?_
      refine toN ?_
      refine Tr.seq ?_
      refine Tr.block ?_
      refine Tr.cutB (fun (x12 : Bool) => ⟨look [(1, .d (.int .i64 state2)), (2, .d (.int .i64 event3)), (3, .ptr (Γ.n0 + 3) 0), (7, .d (.int .i64 i4)), (32, .d (.bool x12))], memOf Γ.n0 (bxs [(3, [.d (.lst 1 (List.map (eI .i64) a1.Alphabet)), .d (.int .i64 a1.States), .d (.lst 1 (List.map (eI .i64) a1.Marked)), .d (.lst 3 (List.map e_api_Edge a1.Edges))])]) M, Γ.n0 + 39⟩) h (fun z h => ?_) (fun z h => ?_)
      · refine Tr.rgn ?_
        refine Rn.fldP (o' := 3) trivial rfl rfl ?_
        refine Rn.load (v := .d (.lst 3 (List.map e_api_Edge a1.Edges))) trivial rfl (boxOwn rfl) rfl rfl ?_
        refine Rn.movD trivial rfl ?_
        replace h := bnd h
        obtain ⟨x7, h8, h⟩ := h
        refine Rn.idxD (e := e_api_Edge) trivial rfl rfl h8 ?_
        refine Rn.fldC trivial rfl ?_
        refine Rn.loadC (x := .int .i64 x7.From) trivial rfl ?_
        refine Rn.movD trivial rfl ?_
        refine Rn.bin trivial rfl rfl rfl ?_
        refine Rn.movD trivial rfl ?_
        refine bsplit (x7.From == state2) (fun hb9 => ?_) (fun hb9 => ?_)
        · replace h := bT hb9 h
          refine Rn.fldP (o' := 3) (gw rfl hb9) rfl rfl ?_
          refine Rn.load (v := .d (.lst 3 (List.map e_api_Edge a1.Edges))) (gw rfl hb9) rfl (boxOwn rfl) rfl rfl ?_
          refine Rn.movD (gw rfl hb9) rfl ?_
          replace h := bnd h
          obtain ⟨x10, h11, h⟩ := h
          refine Rn.idxD (e := e_api_Edge) (gw rfl hb9) rfl rfl h11 ?_
          refine Rn.fldC (gw rfl hb9) rfl ?_
          refine Rn.loadC (x := .int .i64 x10.Event) (gw rfl hb9) rfl ?_
          refine Rn.movD (gw rfl hb9) rfl ?_
          refine Rn.bin (gw rfl hb9) rfl rfl rfl ?_
          refine Rn.pickT (v := .d (.bool (x10.Event == event3))) trivial rfl hb9 rfl ?_
          refine Rn.nil ?_
          replace h := Option.some.inj h
          subst h
          show WeakSt Γ _ ⟨look _, memOf _ (bxs _) _, _⟩; exact weak_cut [] ⟨(.same rfl), ⟨(.same rfl), ⟨(kPtr rfl), ⟨(.same rfl), ⟨(.same rfl), trivial⟩⟩⟩⟩⟩ ⟨⟨_, rfl, rfl, (.same rfl)⟩, trivial⟩ rfl
        · replace h := bF hb9 h
          refine Rn.sk (nw rfl hb9) ?_
          refine Rn.sk (nw rfl hb9) ?_
          refine Rn.sk (nw rfl hb9) ?_
          refine Rn.sk (nw rfl hb9) ?_
          refine Rn.sk (nw rfl hb9) ?_
          refine Rn.sk (nw rfl hb9) ?_
          refine Rn.sk (nw rfl hb9) ?_
          refine Rn.sk (nw rfl hb9) ?_
          refine Rn.pickF (v := .d (.bool false)) trivial rfl hb9 rfl ?_
          refine Rn.nil ?_
          replace h := Option.some.inj h
          subst h
          show WeakSt Γ _ ⟨look _, memOf _ (bxs _) _, _⟩; exact weak_cut [] ⟨(.same rfl), ⟨(.same rfl), ⟨(kPtr rfl), ⟨(.same rfl), ⟨(.same rfl), trivial⟩⟩⟩⟩⟩ ⟨⟨_, rfl, rfl, (.same rfl)⟩, trivial⟩ rfl
      · obtain ⟨x12, rfl⟩ : ∃ x, x = z := ⟨_, rfl⟩
        refine Tr.cond rfl (fun hb13 => ?_) (fun hb13 => ?_)
        · replace h := bT hb13 h
          refine Tr.seq ?_
          refine Tr.rgn ?_
          refine Rn.fldP (o' := 3) trivial rfl rfl ?_
          refine Rn.load (v := .d (.lst 3 (List.map e_api_Edge a1.Edges))) trivial rfl (boxOwn rfl) rfl rfl ?_
          refine Rn.movD trivial rfl ?_
          replace h := bnd h
          obtain ⟨x14, h15, h⟩ := h
          refine Rn.idxD (e := e_api_Edge) trivial rfl rfl h15 ?_
          refine Rn.fldC trivial rfl ?_
          refine Rn.loadC (x := .int .i64 x14.To) trivial rfl ?_
          refine Rn.movD trivial rfl ?_
          refine Rn.nil ?_
          refine toN ?_
          refine Tr.ret ?_
          replace h := Option.some.inj h
          subst h
          exact ⟨.inr rfl, (.d (.int .i64 x14.To)), rfl, fun _ _ _ _ h => h, trivial, fun k hk => memOf_base hk⟩
        · replace h := bF hb13 h
          refine Tr.skip ?_
          refine toN ?_
          refine Tr.rgn ?_
          refine Rn.movD trivial rfl ?_
          refine Rn.bin trivial rfl rfl rfl ?_
          refine Rn.movD trivial rfl ?_
          refine Rn.nil ?_
          exact ⟨_, h, (by show WeakSt Γ (clean _ _ _) ⟨look _, memOf _ (bxs _) _, _⟩; exact weak_clean ⟨(.same rfl), ⟨(.same rfl), ⟨(kPtr rfl), ⟨(.same rfl), trivial⟩⟩⟩⟩ ⟨⟨_, rfl, rfl, (.same rfl)⟩, trivial⟩ rfl)⟩
    · replace h := ifF hb6 h
      refine Tr.exit ?_
      refine toN ?_
      refine Tr.seq ?_
      refine Tr.rgn ?_
      refine Rn.movD trivial rfl ?_
      refine Rn.nil ?_
      refine toN ?_
      refine Tr.ret ?_
      replace h := Option.some.inj h
      subst h
      exact ⟨.inr rfl, (.d (.int .i64 (-1))), rfl, fun _ _ _ _ h => h, trivial, fun k hk => memOf_base hk⟩
theorem overseerref03_has_walk {P : Program} {c : Nat} (hcf : compFn P c = some F_overseerref03_has) (fuel : Nat) : K_overseerref03_has P c (f_overseerref03_has fuel) := by
  intro l1 n2 r h
  refine fn_trP hcf rfl fun Γ M hP hnt hM => ?_
  subst hP
  refine Tr.init [(0, .d (.lst 1 (List.map (eI .i64) l1))), (1, .d (.int .i64 n2))] rfl ?_
  unfold f_overseerref03_has at h
  unfold F_overseerref03_has
  refine Tr.seq ?_
  refine Tr.rgn ?_
  refine Rn.movD trivial rfl ?_
  refine Rn.nil ?_
  refine toN ?_
  refine Tr.seq ?_
  refine Tr.seq ?_
  refine Tr.rgn ?_
  refine Rn.movD trivial rfl ?_
  refine Rn.nil ?_
  refine toN ?_
  refine Tr.block ?_
  refine Tr.loop (mk := fun (i3 : Int) => ⟨look [(0, .d (.lst 1 (List.map (eI .i64) l1))), (1, .d (.int .i64 n2)), (5, .d (.int .i64 i3))], memOf Γ.n0 (bxs []) M, Γ.n0 + 18⟩) h (by show WeakSt Γ (clean _ _ _) ⟨look _, memOf _ (bxs _) _, _⟩; exact weak_clean ⟨(.same rfl), ⟨(.same rfl), ⟨(.same rfl), trivial⟩⟩⟩ trivial rfl) (fun k4 z h => ?_)
  · obtain ⟨i3, rfl⟩ : ∃ x, x = z := ⟨_, rfl⟩
    replace h : _ = some _ := h
    refine Tr.seq ?_
    refine Tr.seq ?_
    refine Tr.rgn ?_
    refine Rn.movD trivial rfl ?_
    refine Rn.movD trivial rfl ?_
    refine Rn.lenD trivial rfl ?_
    refine Rn.bin trivial rfl rfl rfl ?_
    refine Rn.nil ?_
    refine toN ?_
    refine Tr.cond rfl (fun hb5 => ?_) (fun hb5 => ?_)
    · replace h := ifT hb5 h
      refine Tr.skip ?_
      refine toN ?_
      refine Tr.seq ?_
      refine Tr.block ?_
      refine Tr.seq ?_
      refine Tr.rgn ?_
      refine Rn.movD trivial rfl ?_
      refine Rn.movD trivial rfl ?_
      replace h := bnd h
      obtain ⟨x6, h7, h⟩ := h
      refine Rn.idxD (e := (eI .i64)) trivial rfl rfl h7 ?_
      refine Rn.loadC (x := .int .i64 x6) trivial rfl ?_
      refine Rn.movD trivial rfl ?_
      refine Rn.bin trivial rfl rfl rfl ?_
      refine Rn.nil ?_
      refine toN ?_
      refine Tr.cond rfl (fun hb8 => ?_) (fun hb8 => ?_)
      · replace h := bT hb8 h
        refine Tr.seq ?_
        refine Tr.rgn ?_
        refine Rn.movD trivial rfl ?_
        refine Rn.nil ?_
        refine toN ?_
        refine Tr.ret ?_
        replace h := Option.some.inj h
        subst h
        exact ⟨.inr rfl, (.d (.bool true)), rfl, fun _ _ _ _ h => h, trivial, fun k hk => memOf_base hk⟩
      · replace h := bF hb8 h
        refine Tr.skip ?_
        refine toN ?_
        refine Tr.rgn ?_
        refine Rn.movD trivial rfl ?_
        refine Rn.bin trivial rfl rfl rfl ?_
        refine Rn.movD trivial rfl ?_
        refine Rn.nil ?_
        exact ⟨_, h, (by show WeakSt Γ (clean _ _ _) ⟨look _, memOf _ (bxs _) _, _⟩; exact weak_clean ⟨(.same rfl), ⟨(.same rfl), ⟨(.same rfl), trivial⟩⟩⟩ trivial rfl)⟩
    · replace h := ifF hb5 h
      refine Tr.exit ?_
      refine toN ?_
      refine Tr.seq ?_
      refine Tr.rgn ?_
      refine Rn.movD trivial rfl ?_
      refine Rn.nil ?_
      refine toN ?_
      refine Tr.ret ?_
      replace h := Option.some.inj h
      subst h
      exact ⟨.inr rfl, (.d (.bool false)), rfl, fun _ _ _ _ h => h, trivial, fun k hk => memOf_base hk⟩
theorem overseerref03_Found_walk {P : Program} {c : Nat} {f_overseerref03_Step : api_Automaton → Int → Int → Option Int} {f_overseerref03_has : (List Int) → Int → Option Bool}
    (H_overseerref03_Step : K_overseerref03_Step P 40 f_overseerref03_Step)
    (H_overseerref03_has : K_overseerref03_has P 51 f_overseerref03_has) (hcf : compFn P c = some F_overseerref03_Found) (fuel : Nat) : K_overseerref03_Found P c (f_overseerref03_Found f_overseerref03_Step f_overseerref03_has fuel) := by
  intro a1 r h
  refine fn_trP hcf rfl fun Γ M hP hnt hM => ?_
  subst hP
  refine Tr.init [(0, .agg [.d (.lst 1 (List.map (eI .i64) a1.Alphabet)), .d (.int .i64 a1.States), .d (.lst 1 (List.map (eI .i64) a1.Marked)), .d (.lst 3 (List.map e_api_Edge a1.Edges))])] rfl ?_
  unfold f_overseerref03_Found at h
  unfold F_overseerref03_Found
  refine Tr.seq ?_
  refine Tr.rgn ?_
  refine Rn.box (v := .agg [.d (.lst 1 (List.map (eI .i64) a1.Alphabet)), .d (.int .i64 a1.States), .d (.lst 1 (List.map (eI .i64) a1.Marked)), .d (.lst 3 (List.map e_api_Edge a1.Edges))]) (cs := [.d (.lst 1 (List.map (eI .i64) a1.Alphabet)), .d (.int .i64 a1.States), .d (.lst 1 (List.map (eI .i64) a1.Marked)), .d (.lst 3 (List.map e_api_Edge a1.Edges))]) trivial rfl rfl rfl rfl rfl ?_
  refine Rn.movTC (v := .nils 1) trivial ?_
  refine Rn.nil ?_
  refine toN ?_
  refine Tr.seq ?_
  refine Tr.rgn ?_
  refine Rn.movTC (v := .nils 1) trivial ?_
  refine Rn.nil ?_
  refine toN ?_
  refine Tr.cutB (fun (out5 : List Int) => ⟨look [(1, .ptr (Γ.n0 + 1) 0), (3, .own 1 (List.map (eI .i64) out5))], memOf Γ.n0 (bxs [(1, [.d (.lst 1 (List.map (eI .i64) a1.Alphabet)), .d (.int .i64 a1.States), .d (.lst 1 (List.map (eI .i64) a1.Marked)), .d (.lst 3 (List.map e_api_Edge a1.Edges))])]) M, Γ.n0 + 50⟩) h (fun z h => ?_) (fun z h => ?_)
  · refine Tr.seq ?_
    refine Tr.rgn ?_
    refine Rn.fldP (o' := 1) trivial rfl rfl ?_
    refine Rn.load (v := .d (.int .i64 a1.States)) trivial rfl (boxOwn rfl) rfl rfl ?_
    refine Rn.bin trivial rfl rfl rfl ?_
    refine Rn.nil ?_
    refine toN ?_
    refine Tr.cond rfl (fun hb2 => ?_) (fun hb2 => ?_)
    · replace h := ifT hb2 h
      refine Tr.rgn ?_
      refine Rn.movTF (v := .nils 1) trivial rfl rfl ?_
      refine Rn.bslice (xs := [.d (.int .i64 0)]) (cs := [.d (.int .i64 0)]) trivial rfl rfl rfl rfl ?_
      refine Rn.weak (by show WeakSt Γ _ ⟨look [(0, .agg [.d (.lst 1 (List.map (eI .i64) a1.Alphabet)), .d (.int .i64 a1.States), .d (.lst 1 (List.map (eI .i64) a1.Marked)), .d (.lst 3 (List.map e_api_Edge a1.Edges))]), (1, .ptr (Γ.n0 + 1) 0), (2, .nils 1), (3, .nils 1), (7, .ptr (Γ.n0 + 1) 1), (8, .d (.int .i64 a1.States)), (9, .d (.bool (decide (a1.States > 0)))), (10, .own 1 (List.map (eI .i64) [])), (11, .sl 1 (Γ.n0 + 11) 0 1 1)], memOf Γ.n0 (bxs [(1, [.d (.lst 1 (List.map (eI .i64) a1.Alphabet)), .d (.int .i64 a1.States), .d (.lst 1 (List.map (eI .i64) a1.Marked)), .d (.lst 3 (List.map e_api_Edge a1.Edges))]), (11, [.d (.int .i64 0)])]) M, Γ.n0 + 50⟩; exact weak_cut [] ⟨(.same rfl), ⟨(kPtr rfl), ⟨(.same rfl), ⟨(.same rfl), ⟨(kPtr rfl), ⟨(.same rfl), ⟨(.same rfl), ⟨(WkV.nilsO _), ⟨(kSl rfl), trivial⟩⟩⟩⟩⟩⟩⟩⟩⟩ ⟨⟨_, rfl, rfl, (.same rfl)⟩, ⟨⟨_, rfl, rfl, (.same rfl)⟩, trivial⟩⟩ rfl) ?_
      replace h := bnd h
      obtain ⟨x3, h4, h⟩ := h
      refine Rn.app (e := (eI .i64)) trivial rfl rfl rfl (elems_box rfl rfl rfl) h4 rfl ?_
      refine Rn.movTO trivial rfl ?_
      refine Rn.nil ?_
      replace h := Option.some.inj h
      subst h
      show WeakSt Γ _ ⟨look _, memOf _ (bxs _) _, _⟩; exact weak_cut [11] ⟨(kPtr rfl), ⟨(.same rfl), trivial⟩⟩ ⟨⟨_, rfl, rfl, (.same rfl)⟩, trivial⟩ rfl
    · replace h := ifF hb2 h
      refine Tr.skip ?_
      replace h := Option.some.inj h
      subst h
      show WeakSt Γ _ ⟨look _, memOf _ (bxs _) _, _⟩; exact weak_cut [] ⟨(kPtr rfl), ⟨(WkV.nilsO _), trivial⟩⟩ ⟨⟨_, rfl, rfl, (.same rfl)⟩, trivial⟩ rfl
  · obtain ⟨out5, rfl⟩ : ∃ x, x = z := ⟨_, rfl⟩
    refine Tr.cutB (fun (out29 : List Int) => ⟨look [(3, .own 1 (List.map (eI .i64) out29))], memOf Γ.n0 (bxs [(1, [.d (.lst 1 (List.map (eI .i64) a1.Alphabet)), .d (.int .i64 a1.States), .d (.lst 1 (List.map (eI .i64) a1.Marked)), .d (.lst 3 (List.map e_api_Edge a1.Edges))])]) M, Γ.n0 + 50⟩) h (fun z h => ?_) (fun z h => ?_)
    · refine Tr.seq ?_
      refine Tr.rgn ?_
      refine Rn.movD trivial rfl ?_
      refine Rn.nil ?_
      refine toN ?_
      refine Tr.block ?_
      refine Tr.loop (mk := fun ((out6, i7) : (List Int) × Int) => ⟨look [(1, .ptr (Γ.n0 + 1) 0), (3, .own 1 (List.map (eI .i64) out6)), (4, .d (.int .i64 i7))], memOf Γ.n0 (bxs [(1, [.d (.lst 1 (List.map (eI .i64) a1.Alphabet)), .d (.int .i64 a1.States), .d (.lst 1 (List.map (eI .i64) a1.Marked)), .d (.lst 3 (List.map e_api_Edge a1.Edges))])]) M, Γ.n0 + 50⟩) h (by show WeakSt Γ (clean _ _ _) ⟨look _, memOf _ (bxs _) _, _⟩; exact weak_clean ⟨(kPtr rfl), ⟨(.same rfl), ⟨(.same rfl), trivial⟩⟩⟩ ⟨⟨_, rfl, rfl, (.same rfl)⟩, trivial⟩ rfl) (fun k8 z h => ?_)
      · obtain ⟨out6, i7⟩ := z
        replace h : _ = some _ := h
        refine Tr.seq ?_
        refine Tr.seq ?_
        refine Tr.rgn ?_
        refine Rn.movD trivial rfl ?_
        refine Rn.mov (v := .d (.lst 1 (List.map (eI .i64) out6))) trivial rfl ?_
        refine Rn.lenD trivial rfl ?_
        refine Rn.bin trivial rfl rfl rfl ?_
        refine Rn.nil ?_
        refine toN ?_
        refine Tr.cond rfl (fun hb9 => ?_) (fun hb9 => ?_)
        · replace h := ifT hb9 h
          refine Tr.skip ?_
          refine toN ?_
          refine Tr.cutB (fun (out28 : List Int) => ⟨look [(1, .ptr (Γ.n0 + 1) 0), (3, .own 1 (List.map (eI .i64) out28)), (4, .d (.int .i64 i7))], memOf Γ.n0 (bxs [(1, [.d (.lst 1 (List.map (eI .i64) a1.Alphabet)), .d (.int .i64 a1.States), .d (.lst 1 (List.map (eI .i64) a1.Marked)), .d (.lst 3 (List.map e_api_Edge a1.Edges))])]) M, Γ.n0 + 50⟩) h (fun z h => ?_) (fun z h => ?_)
          · refine Tr.block ?_
            refine Tr.seq ?_
            refine Tr.rgn ?_
            refine Rn.movD trivial rfl ?_
            refine Rn.nil ?_
            refine toN ?_
            refine Tr.block ?_
            refine Tr.loop (mk := fun ((out10, k11) : (List Int) × Int) => ⟨look [(1, .ptr (Γ.n0 + 1) 0), (3, .own 1 (List.map (eI .i64) out10)), (4, .d (.int .i64 i7)), (5, .d (.int .i64 k11))], memOf Γ.n0 (bxs [(1, [.d (.lst 1 (List.map (eI .i64) a1.Alphabet)), .d (.int .i64 a1.States), .d (.lst 1 (List.map (eI .i64) a1.Marked)), .d (.lst 3 (List.map e_api_Edge a1.Edges))])]) M, Γ.n0 + 50⟩) h (by show WeakSt Γ (clean _ _ _) ⟨look _, memOf _ (bxs _) _, _⟩; exact weak_clean ⟨(kPtr rfl), ⟨(.same rfl), ⟨(.same rfl), ⟨(.same rfl), trivial⟩⟩⟩⟩ ⟨⟨_, rfl, rfl, (.same rfl)⟩, trivial⟩ rfl) (fun k12 z h => ?_)
            · obtain ⟨out10, k11⟩ := z
              replace h : _ = some _ := h
              refine Tr.seq ?_
              refine Tr.seq ?_
              refine Tr.rgn ?_
              refine Rn.movD trivial rfl ?_
              refine Rn.fldP (o' := 0) trivial rfl rfl ?_
              refine Rn.load (v := .d (.lst 1 (List.map (eI .i64) a1.Alphabet))) trivial rfl (boxOwn rfl) rfl rfl ?_
              refine Rn.lenD trivial rfl ?_
              refine Rn.bin trivial rfl rfl rfl ?_
              refine Rn.nil ?_
              refine toN ?_
              refine Tr.cond rfl (fun hb13 => ?_) (fun hb13 => ?_)
              · replace h := ifT hb13 h
                refine Tr.skip ?_
                refine toN ?_
                refine Tr.cutB (fun (out27 : List Int) => ⟨look [(1, .ptr (Γ.n0 + 1) 0), (3, .own 1 (List.map (eI .i64) out27)), (4, .d (.int .i64 i7)), (5, .d (.int .i64 k11))], memOf Γ.n0 (bxs [(1, [.d (.lst 1 (List.map (eI .i64) a1.Alphabet)), .d (.int .i64 a1.States), .d (.lst 1 (List.map (eI .i64) a1.Marked)), .d (.lst 3 (List.map e_api_Edge a1.Edges))])]) M, Γ.n0 + 50⟩) h (fun z h => ?_) (fun z h => ?_)
                · refine Tr.block ?_
                  refine Tr.seq ?_
                  refine Tr.rgnD (by decide) ?_
                  refine Rn.load (v := .agg [.d (.lst 1 (List.map (eI .i64) a1.Alphabet)), .d (.int .i64 a1.States), .d (.lst 1 (List.map (eI .i64) a1.Marked)), .d (.lst 3 (List.map e_api_Edge a1.Edges))]) trivial rfl (boxOwn rfl) rfl rfl ?_
                  refine Rn.mov (v := .d (.lst 1 (List.map (eI .i64) out10))) trivial rfl ?_
                  refine Rn.movD trivial rfl ?_
                  replace h := bnd h
                  obtain ⟨x14, h15, h⟩ := h
                  refine Rn.idxD (e := (eI .i64)) trivial rfl rfl h15 ?_
                  refine Rn.loadC (x := .int .i64 x14) trivial rfl ?_
                  refine Rn.fldP (o' := 0) trivial rfl rfl ?_
                  refine Rn.load (v := .d (.lst 1 (List.map (eI .i64) a1.Alphabet))) trivial rfl (boxOwn rfl) rfl rfl ?_
                  refine Rn.movD trivial rfl ?_
                  replace h := bnd h
                  obtain ⟨x16, h17, h⟩ := h
                  refine Rn.idxD (e := (eI .i64)) trivial rfl rfl h17 ?_
                  refine Rn.loadC (x := .int .i64 x16) trivial rfl ?_
                  replace h := bnd h
                  obtain ⟨x19, h18, h⟩ := h
                  refine Rn.call (args := [.agg [.d (.lst 1 (List.map (eI .i64) a1.Alphabet)), .d (.int .i64 a1.States), .d (.lst 1 (List.map (eI .i64) a1.Marked)), .d (.lst 3 (List.map e_api_Edge a1.Edges))], .d (.int .i64 x14), .d (.int .i64 x16)]) trivial rfl (H_overseerref03_Step _ _ _ _ h18) pc0 ?_
                  refine Rn.movD trivial rfl ?_
                  refine Rn.nil ⟨rfl, ?_⟩
                  refine toN ?_
                  refine Tr.cutB (fun (x23 : Bool) => ⟨look [(1, .ptr (Γ.n0 + 1) 0), (3, .own 1 (List.map (eI .i64) out10)), (4, .d (.int .i64 i7)), (5, .d (.int .i64 k11)), (6, .d (.int .i64 x19)), (44, .d (.bool x23))], memOf Γ.n0 (bxs [(1, [.d (.lst 1 (List.map (eI .i64) a1.Alphabet)), .d (.int .i64 a1.States), .d (.lst 1 (List.map (eI .i64) a1.Marked)), .d (.lst 3 (List.map e_api_Edge a1.Edges))])]) M, Γ.n0 + 50⟩) h (fun z h => ?_) (fun z h => ?_)
                  · refine Tr.rgn ?_
                    refine Rn.movD trivial rfl ?_
                    refine Rn.bin trivial rfl rfl rfl ?_
                    refine Rn.movD trivial rfl ?_
                    refine bsplit (decide (x19 ≥ 0)) (fun hb20 => ?_) (fun hb20 => ?_)
                    · replace h := ifT hb20 h
                      refine Rn.mov (v := .d (.lst 1 (List.map (eI .i64) out10))) (gw rfl hb20) rfl ?_
                      refine Rn.movD (gw rfl hb20) rfl ?_
                      replace h := bnd h
                      obtain ⟨x22, h21, h⟩ := h
                      refine Rn.call (args := [.d (.lst 1 (List.map (eI .i64) out10)), .d (.int .i64 x19)]) (gw rfl hb20) rfl (H_overseerref03_has _ _ _ h21) pc9 ?_
                      refine Rn.un (gw rfl hb20) rfl rfl ?_
                      refine Rn.pickT (v := .d (.bool (!x22))) trivial rfl hb20 rfl ?_
                      refine Rn.nil ?_
                      replace h := Option.some.inj h
                      subst h
                      show WeakSt Γ _ ⟨look _, memOf _ (bxs _) _, _⟩; exact weak_cut [] ⟨(kPtr rfl), ⟨(.same rfl), ⟨(.same rfl), ⟨(.same rfl), ⟨(.same rfl), ⟨(.same rfl), trivial⟩⟩⟩⟩⟩⟩ ⟨⟨_, rfl, rfl, (.same rfl)⟩, trivial⟩ rfl
                    · replace h := ifF hb20 h
                      refine Rn.sk (nw rfl hb20) ?_
                      refine Rn.sk (nw rfl hb20) ?_
                      refine Rn.sk (nw rfl hb20) ?_
                      refine Rn.sk (nw rfl hb20) ?_
                      refine Rn.pickF (v := .d (.bool false)) trivial rfl hb20 rfl ?_
                      refine Rn.nil ?_
                      replace h := Option.some.inj h
                      subst h
                      show WeakSt Γ _ ⟨look _, memOf _ (bxs _) _, _⟩; exact weak_cut [] ⟨(kPtr rfl), ⟨(.same rfl), ⟨(.same rfl), ⟨(.same rfl), ⟨(.same rfl), ⟨(.same rfl), trivial⟩⟩⟩⟩⟩⟩ ⟨⟨_, rfl, rfl, (.same rfl)⟩, trivial⟩ rfl
                  · obtain ⟨x23, rfl⟩ : ∃ x, x = z := ⟨_, rfl⟩
                    refine Tr.cond rfl (fun hb24 => ?_) (fun hb24 => ?_)
                    · replace h := bT hb24 h
                      refine Tr.rgn ?_
                      refine Rn.movTO trivial rfl ?_
                      refine Rn.movD trivial rfl ?_
                      refine Rn.bslice (xs := [.d (.int .i64 x19)]) (cs := [.d (.int .i64 x19)]) trivial rfl rfl rfl rfl ?_
                      replace h := bnd h
                      obtain ⟨x25, h26, h⟩ := h
                      refine Rn.app (e := (eI .i64)) trivial rfl rfl rfl (elems_box rfl rfl rfl) h26 rfl ?_
                      refine Rn.movTO trivial rfl ?_
                      refine Rn.nil ?_
                      replace h := Option.some.inj h
                      subst h
                      show WeakSt Γ _ ⟨look _, memOf _ (bxs _) _, _⟩; exact weak_cut [47] ⟨(kPtr rfl), ⟨(.same rfl), ⟨(.same rfl), ⟨(.same rfl), trivial⟩⟩⟩⟩ ⟨⟨_, rfl, rfl, (.same rfl)⟩, trivial⟩ rfl
                    · replace h := bF hb24 h
                      refine Tr.skip ?_
                      replace h := Option.some.inj h
                      subst h
                      show WeakSt Γ _ ⟨look _, memOf _ (bxs _) _, _⟩; exact weak_cut [] ⟨(kPtr rfl), ⟨(.same rfl), ⟨(.same rfl), ⟨(.same rfl), trivial⟩⟩⟩⟩ ⟨⟨_, rfl, rfl, (.same rfl)⟩, trivial⟩ rfl
                · obtain ⟨out27, rfl⟩ : ∃ x, x = z := ⟨_, rfl⟩
                  refine Tr.rgn ?_
                  refine Rn.movD trivial rfl ?_
                  refine Rn.bin trivial rfl rfl rfl ?_
                  refine Rn.movD trivial rfl ?_
                  refine Rn.nil ?_
                  exact ⟨_, h, (by show WeakSt Γ (clean _ _ _) ⟨look _, memOf _ (bxs _) _, _⟩; exact weak_clean ⟨(kPtr rfl), ⟨(.same rfl), ⟨(.same rfl), ⟨(.same rfl), trivial⟩⟩⟩⟩ ⟨⟨_, rfl, rfl, (.same rfl)⟩, trivial⟩ rfl)⟩
              · replace h := ifF hb13 h
                refine Tr.exit ?_
                replace h := Option.some.inj h
                subst h
                show WeakSt Γ _ ⟨look _, memOf _ (bxs _) _, _⟩; exact weak_cut [] ⟨(kPtr rfl), ⟨(.same rfl), ⟨(.same rfl), trivial⟩⟩⟩ ⟨⟨_, rfl, rfl, (.same rfl)⟩, trivial⟩ rfl
          · obtain ⟨out28, rfl⟩ : ∃ x, x = z := ⟨_, rfl⟩
            refine Tr.rgn ?_
            refine Rn.movD trivial rfl ?_
            refine Rn.bin trivial rfl rfl rfl ?_
            refine Rn.movD trivial rfl ?_
            refine Rn.nil ?_
            exact ⟨_, h, (by show WeakSt Γ (clean _ _ _) ⟨look _, memOf _ (bxs _) _, _⟩; exact weak_clean ⟨(kPtr rfl), ⟨(.same rfl), ⟨(.same rfl), trivial⟩⟩⟩ ⟨⟨_, rfl, rfl, (.same rfl)⟩, trivial⟩ rfl)⟩
        · replace h := ifF hb9 h
          refine Tr.exit ?_
          replace h := Option.some.inj h
          subst h
          show WeakSt Γ _ ⟨look _, memOf _ (bxs _) _, _⟩; exact weak_cut [] ⟨(.same rfl), trivial⟩ ⟨⟨_, rfl, rfl, (.same rfl)⟩, trivial⟩ rfl
    · obtain ⟨out29, rfl⟩ : ∃ x, x = z := ⟨_, rfl⟩
      refine Tr.seq ?_
      refine Tr.rgn ?_
      refine Rn.movTO trivial rfl ?_
      refine Rn.movTO trivial rfl ?_
      refine Rn.nil ?_
      refine toN ?_
      refine Tr.ret ?_
      replace h := Option.some.inj h
      subst h
      exact ⟨.inr rfl, (.own 1 (List.map (eI .i64) out29)), rfl, fun _ _ _ _ h => h, trivial, fun k hk => memOf_base hk⟩
theorem overseerref03_index_walk {P : Program} {c : Nat} (hcf : compFn P c = some F_overseerref03_index) (fuel : Nat) : K_overseerref03_index P c (f_overseerref03_index fuel) := by
  intro l1 n2 r h
  refine fn_trP hcf rfl fun Γ M hP hnt hM => ?_
  subst hP
  refine Tr.init [(0, .d (.lst 1 (List.map (eI .i64) l1))), (1, .d (.int .i64 n2))] rfl ?_
  unfold f_overseerref03_index at h
  unfold F_overseerref03_index
  refine Tr.seq ?_
  refine Tr.rgn ?_
  refine Rn.movD trivial rfl ?_
  refine Rn.nil ?_
  refine toN ?_
  refine Tr.seq ?_
  refine Tr.seq ?_
  refine Tr.rgn ?_
  refine Rn.movD trivial rfl ?_
  refine Rn.nil ?_
  refine toN ?_
  refine Tr.block ?_
  refine Tr.loop (mk := fun (i3 : Int) => ⟨look [(0, .d (.lst 1 (List.map (eI .i64) l1))), (1, .d (.int .i64 n2)), (5, .d (.int .i64 i3))], memOf Γ.n0 (bxs []) M, Γ.n0 + 19⟩) h (by show WeakSt Γ (clean _ _ _) ⟨look _, memOf _ (bxs _) _, _⟩; exact weak_clean ⟨(.same rfl), ⟨(.same rfl), ⟨(.same rfl), trivial⟩⟩⟩ trivial rfl) (fun k4 z h => ?_)
  · obtain ⟨i3, rfl⟩ : ∃ x, x = z := ⟨_, rfl⟩
    replace h : _ = some _ := h
    refine Tr.seq ?_
    refine Tr.seq ?_
    refine Tr.rgn ?_
    refine Rn.movD trivial rfl ?_
    refine Rn.movD trivial rfl ?_
    refine Rn.lenD trivial rfl ?_
    refine Rn.bin trivial rfl rfl rfl ?_
    refine Rn.nil ?_
    refine toN ?_
    refine Tr.cond rfl (fun hb5 => ?_) (fun hb5 => ?_)
    · replace h := ifT hb5 h
      refine Tr.skip ?_
      refine toN ?_
      refine Tr.seq ?_
      refine Tr.block ?_
      refine Tr.seq ?_
      refine Tr.rgn ?_
      refine Rn.movD trivial rfl ?_
      refine Rn.movD trivial rfl ?_
      replace h := bnd h
      obtain ⟨x6, h7, h⟩ := h
      refine Rn.idxD (e := (eI .i64)) trivial rfl rfl h7 ?_
      refine Rn.loadC (x := .int .i64 x6) trivial rfl ?_
      refine Rn.movD trivial rfl ?_
      refine Rn.bin trivial rfl rfl rfl ?_
      refine Rn.nil ?_
      refine toN ?_
      refine Tr.cond rfl (fun hb8 => ?_) (fun hb8 => ?_)
      · replace h := bT hb8 h
        refine Tr.seq ?_
        refine Tr.rgn ?_
        refine Rn.movD trivial rfl ?_
        refine Rn.movD trivial rfl ?_
        refine Rn.nil ?_
        refine toN ?_
        refine Tr.ret ?_
        replace h := Option.some.inj h
        subst h
        exact ⟨.inr rfl, (.d (.int .i64 i3)), rfl, fun _ _ _ _ h => h, trivial, fun k hk => memOf_base hk⟩
      · replace h := bF hb8 h
        refine Tr.skip ?_
        refine toN ?_
        refine Tr.rgn ?_
        refine Rn.movD trivial rfl ?_
        refine Rn.bin trivial rfl rfl rfl ?_
        refine Rn.movD trivial rfl ?_
        refine Rn.nil ?_
        exact ⟨_, h, (by show WeakSt Γ (clean _ _ _) ⟨look _, memOf _ (bxs _) _, _⟩; exact weak_clean ⟨(.same rfl), ⟨(.same rfl), ⟨(.same rfl), trivial⟩⟩⟩ trivial rfl)⟩
    · replace h := ifF hb5 h
      refine Tr.exit ?_
      refine toN ?_
      refine Tr.seq ?_
      refine Tr.rgn ?_
      refine Rn.movD trivial rfl ?_
      refine Rn.nil ?_
      refine toN ?_
      refine Tr.ret ?_
      replace h := Option.some.inj h
      subst h
      exact ⟨.inr rfl, (.d (.int .i64 (-1))), rfl, fun _ _ _ _ h => h, trivial, fun k hk => memOf_base hk⟩
theorem overseerref03_Canonical_walk {P : Program} {c : Nat} {f_overseerref03_Step : api_Automaton → Int → Int → Option Int} {f_overseerref03_Empty : (List Int) → Option api_Automaton} {f_overseerref03_has : (List Int) → Int → Option Bool} {f_overseerref03_index : (List Int) → Int → Option Int} {f_overseerref03_Found : api_Automaton → Option ((List Int))}
    (H_overseerref03_Step : K_overseerref03_Step P 40 f_overseerref03_Step)
    (H_overseerref03_Empty : K_overseerref03_Empty P 47 f_overseerref03_Empty)
    (H_overseerref03_has : K_overseerref03_has P 51 f_overseerref03_has)
    (H_overseerref03_index : K_overseerref03_index P 57 f_overseerref03_index)
    (H_overseerref03_Found : K_overseerref03_Found P 61 f_overseerref03_Found) (hcf : compFn P c = some F_overseerref03_Canonical) (fuel : Nat) : K_overseerref03_Canonical P c (f_overseerref03_Canonical f_overseerref03_Step f_overseerref03_Empty f_overseerref03_has f_overseerref03_index f_overseerref03_Found fuel) := by
  intro a1 r h
  refine fn_trP hcf rfl fun Γ M hP hnt hM => ?_
  subst hP
  refine Tr.init [(0, .agg [.d (.lst 1 (List.map (eI .i64) a1.Alphabet)), .d (.int .i64 a1.States), .d (.lst 1 (List.map (eI .i64) a1.Marked)), .d (.lst 3 (List.map e_api_Edge a1.Edges))])] rfl ?_
  unfold f_overseerref03_Canonical at h
  unfold F_overseerref03_Canonical
  refine Tr.seq ?_
  refine Tr.rgn ?_
  refine Rn.box (v := .agg [.d (.lst 1 (List.map (eI .i64) a1.Alphabet)), .d (.int .i64 a1.States), .d (.lst 1 (List.map (eI .i64) a1.Marked)), .d (.lst 3 (List.map e_api_Edge a1.Edges))]) (cs := [.d (.lst 1 (List.map (eI .i64) a1.Alphabet)), .d (.int .i64 a1.States), .d (.lst 1 (List.map (eI .i64) a1.Marked)), .d (.lst 3 (List.map e_api_Edge a1.Edges))]) trivial rfl rfl rfl rfl rfl ?_
  refine Rn.alloc trivial rfl ?_
  refine Rn.nil ?_
  refine toN ?_
  refine Tr.seq ?_
  refine Tr.rgn ?_
  refine Rn.load (v := .agg [.d (.lst 1 (List.map (eI .i64) a1.Alphabet)), .d (.int .i64 a1.States), .d (.lst 1 (List.map (eI .i64) a1.Marked)), .d (.lst 3 (List.map e_api_Edge a1.Edges))]) trivial rfl (boxOwn rfl) rfl rfl ?_
  replace h := bnd h
  obtain ⟨x3, h2, h⟩ := h
  refine Rn.call (args := [.agg [.d (.lst 1 (List.map (eI .i64) a1.Alphabet)), .d (.int .i64 a1.States), .d (.lst 1 (List.map (eI .i64) a1.Marked)), .d (.lst 3 (List.map e_api_Edge a1.Edges))]]) trivial rfl (H_overseerref03_Found _ _ h2) pc9 ?_
  refine Rn.movTO trivial rfl ?_
  refine Rn.nil ?_
  refine toN ?_
  refine Tr.seq ?_
  refine Tr.rgn ?_
  refine Rn.fldP (o' := 0) trivial rfl rfl ?_
  refine Rn.load (v := .d (.lst 1 (List.map (eI .i64) a1.Alphabet))) trivial rfl (boxOwn rfl) rfl rfl ?_
  replace h := bnd h
  obtain ⟨x5, h4, h⟩ := h
  refine Rn.call (args := [.d (.lst 1 (List.map (eI .i64) a1.Alphabet))]) trivial rfl (H_overseerref03_Empty _ _ h4) pc9 ?_
  refine Rn.alloc trivial rfl ?_
  refine Rn.store (v := .agg [.d (.lst 1 (List.map (eI .i64) x5.Alphabet)), .d (.int .i64 x5.States), .nils 1, .nils 3]) (cs' := [.d (.lst 1 (List.map (eI .i64) x5.Alphabet)), .d (.int .i64 x5.States), .nils 1, .nils 3]) trivial rfl rfl rfl rfl rfl rfl ?_
  refine Rn.nil ?_
  refine toN ?_
  refine Tr.seq ?_
  refine Tr.rgn ?_
  refine Rn.mov (v := .d (.lst 1 (List.map (eI .i64) x3))) trivial rfl ?_
  refine Rn.lenD trivial rfl ?_
  refine Rn.fldP (o' := 1) trivial rfl rfl ?_
  refine Rn.store (v := .d (.int .i64 (x3.length : Int))) (cs' := [.d (.lst 1 (List.map (eI .i64) x5.Alphabet)), .d (.int .i64 (x3.length : Int)), .nils 1, .nils 3]) trivial rfl rfl rfl rfl rfl rfl ?_
  refine Rn.nil ?_
  refine toN ?_
  refine Tr.cutB (fun ((c42, c43, c44, out45, out46) : (List Int) × (List Int) × (List api_Edge) × (List Int) × (List api_Edge)) => ⟨look [(2, .ptr (Γ.n0 + 2) 0), (4, .ptr (Γ.n0 + 4) 0)], memOf Γ.n0 (bxs [(1, [.d (.lst 1 (List.map (eI .i64) a1.Alphabet)), .d (.int .i64 a1.States), .d (.lst 1 (List.map (eI .i64) a1.Marked)), .d (.lst 3 (List.map e_api_Edge a1.Edges))]), (2, [.own 1 (List.map (eI .i64) c42), .d (.int .i64 0), .own 1 (List.map (eI .i64) c43), .own 3 (List.map e_api_Edge c44)]), (4, [.d (.lst 1 (List.map (eI .i64) x5.Alphabet)), .d (.int .i64 (x3.length : Int)), .own 1 (List.map (eI .i64) out45), .own 3 (List.map e_api_Edge out46)])]) M, Γ.n0 + 71⟩) h (fun z h => ?_) (fun z h => ?_)
  · refine Tr.seq ?_
    refine Tr.rgn ?_
    refine Rn.movD trivial rfl ?_
    refine Rn.nil ?_
    refine toN ?_
    refine Tr.block ?_
    refine Tr.loop (mk := fun ((i6, c7, c8, c9, out10, out11) : Int × (List Int) × (List Int) × (List api_Edge) × (List Int) × (List api_Edge)) => ⟨look [(1, .ptr (Γ.n0 + 1) 0), (2, .ptr (Γ.n0 + 2) 0), (3, .own 1 (List.map (eI .i64) x3)), (4, .ptr (Γ.n0 + 4) 0), (5, .d (.int .i64 i6))], memOf Γ.n0 (bxs [(1, [.d (.lst 1 (List.map (eI .i64) a1.Alphabet)), .d (.int .i64 a1.States), .d (.lst 1 (List.map (eI .i64) a1.Marked)), .d (.lst 3 (List.map e_api_Edge a1.Edges))]), (2, [.own 1 (List.map (eI .i64) c7), .d (.int .i64 0), .own 1 (List.map (eI .i64) c8), .own 3 (List.map e_api_Edge c9)]), (4, [.d (.lst 1 (List.map (eI .i64) x5.Alphabet)), .d (.int .i64 (x3.length : Int)), .own 1 (List.map (eI .i64) out10), .own 3 (List.map e_api_Edge out11)])]) M, Γ.n0 + 71⟩) h (by show WeakSt Γ (clean _ _ _) ⟨look _, memOf _ (bxs _) _, _⟩; exact weak_clean ⟨(kPtr rfl), ⟨(kPtr rfl), ⟨(.same rfl), ⟨(kPtr rfl), ⟨(.same rfl), trivial⟩⟩⟩⟩⟩ ⟨⟨_, rfl, rfl, (.same rfl)⟩, ⟨⟨_, rfl, rfl, (.cons (WkV.nilsO _) (.cons (.same rfl) (.cons (WkV.nilsO _) (.cons (WkV.nilsO _) .nil))))⟩, ⟨⟨_, rfl, rfl, (.cons (.same rfl) (.cons (.same rfl) (.cons (WkV.nilsO _) (.cons (WkV.nilsO _) .nil))))⟩, trivial⟩⟩⟩ rfl) (fun k12 z h => ?_)
    · obtain ⟨i6, c7, c8, c9, out10, out11⟩ := z
      replace h : _ = some _ := h
      refine Tr.seq ?_
      refine Tr.seq ?_
      refine Tr.rgn ?_
      refine Rn.movD trivial rfl ?_
      refine Rn.mov (v := .d (.lst 1 (List.map (eI .i64) x3))) trivial rfl ?_
      refine Rn.lenD trivial rfl ?_
      refine Rn.bin trivial rfl rfl rfl ?_
      refine Rn.nil ?_
      refine toN ?_
      refine Tr.cond rfl (fun hb13 => ?_) (fun hb13 => ?_)
      · replace h := ifT hb13 h
        refine Tr.skip ?_
        refine toN ?_
        refine Tr.cutB (fun ((out40, out41) : (List Int) × (List api_Edge)) => ⟨look [(1, .ptr (Γ.n0 + 1) 0), (2, .ptr (Γ.n0 + 2) 0), (3, .own 1 (List.map (eI .i64) x3)), (4, .ptr (Γ.n0 + 4) 0), (5, .d (.int .i64 i6))], memOf Γ.n0 (bxs [(1, [.d (.lst 1 (List.map (eI .i64) a1.Alphabet)), .d (.int .i64 a1.States), .d (.lst 1 (List.map (eI .i64) a1.Marked)), .d (.lst 3 (List.map e_api_Edge a1.Edges))]), (2, [.own 1 (List.map (eI .i64) c7), .d (.int .i64 0), .own 1 (List.map (eI .i64) c8), .own 3 (List.map e_api_Edge c9)]), (4, [.d (.lst 1 (List.map (eI .i64) x5.Alphabet)), .d (.int .i64 (x3.length : Int)), .own 1 (List.map (eI .i64) out40), .own 3 (List.map e_api_Edge out41)])]) M, Γ.n0 + 71⟩) h (fun z h => ?_) (fun z h => ?_)
        · refine Tr.block ?_
          refine Tr.cutB (fun (out21 : List Int) => ⟨look [(1, .ptr (Γ.n0 + 1) 0), (2, .ptr (Γ.n0 + 2) 0), (3, .own 1 (List.map (eI .i64) x3)), (4, .ptr (Γ.n0 + 4) 0), (5, .d (.int .i64 i6))], memOf Γ.n0 (bxs [(1, [.d (.lst 1 (List.map (eI .i64) a1.Alphabet)), .d (.int .i64 a1.States), .d (.lst 1 (List.map (eI .i64) a1.Marked)), .d (.lst 3 (List.map e_api_Edge a1.Edges))]), (2, [.own 1 (List.map (eI .i64) c7), .d (.int .i64 0), .own 1 (List.map (eI .i64) c8), .own 3 (List.map e_api_Edge c9)]), (4, [.d (.lst 1 (List.map (eI .i64) x5.Alphabet)), .d (.int .i64 (x3.length : Int)), .own 1 (List.map (eI .i64) out21), .own 3 (List.map e_api_Edge out11)])]) M, Γ.n0 + 71⟩) h (fun z h => ?_) (fun z h => ?_)
          · refine Tr.seq ?_
            refine Tr.rgnD (by decide) ?_
            refine Rn.fldP (o' := 2) trivial rfl rfl ?_
            refine Rn.load (v := .d (.lst 1 (List.map (eI .i64) a1.Marked))) trivial rfl (boxOwn rfl) rfl rfl ?_
            refine Rn.mov (v := .d (.lst 1 (List.map (eI .i64) x3))) trivial rfl ?_
            refine Rn.movD trivial rfl ?_
            replace h := bnd h
            obtain ⟨x14, h15, h⟩ := h
            refine Rn.idxD (e := (eI .i64)) trivial rfl rfl h15 ?_
            refine Rn.loadC (x := .int .i64 x14) trivial rfl ?_
            replace h := bnd h
            obtain ⟨x17, h16, h⟩ := h
            refine Rn.call (args := [.d (.lst 1 (List.map (eI .i64) a1.Marked)), .d (.int .i64 x14)]) trivial rfl (H_overseerref03_has _ _ _ h16) pc0 ?_
            refine Rn.nil ⟨rfl, ?_⟩
            refine toN ?_
            refine Tr.cond rfl (fun hb18 => ?_) (fun hb18 => ?_)
            · replace h := bT hb18 h
              refine Tr.rgn ?_
              refine Rn.fldP (o' := 2) trivial rfl rfl ?_
              refine Rn.loadT (cs' := [.d (.lst 1 (List.map (eI .i64) x5.Alphabet)), .d (.int .i64 (x3.length : Int)), .d (.lst 1 (List.map (eI .i64) out10)), .own 3 (List.map e_api_Edge out11)]) trivial rfl rfl rfl rfl ?_
              refine Rn.movD trivial rfl ?_
              refine Rn.bslice (xs := [.d (.int .i64 i6)]) (cs := [.d (.int .i64 i6)]) trivial rfl rfl rfl rfl ?_
              replace h := bnd h
              obtain ⟨x19, h20, h⟩ := h
              refine Rn.app (e := (eI .i64)) trivial rfl rfl rfl (elems_box rfl rfl rfl) h20 rfl ?_
              refine Rn.fldP (o' := 2) trivial rfl rfl ?_
              refine Rn.storeO (cs' := [.d (.lst 1 (List.map (eI .i64) x5.Alphabet)), .d (.int .i64 (x3.length : Int)), .own 1 (List.map (eI .i64) x19), .own 3 (List.map e_api_Edge out11)]) trivial rfl rfl rfl rfl rfl ?_
              refine Rn.nil ?_
              replace h := Option.some.inj h
              subst h
              show WeakSt Γ _ ⟨look _, memOf _ (bxs _) _, _⟩; exact weak_cut [32] ⟨(kPtr rfl), ⟨(kPtr rfl), ⟨(.same rfl), ⟨(kPtr rfl), ⟨(.same rfl), trivial⟩⟩⟩⟩⟩ ⟨⟨_, rfl, rfl, (.same rfl)⟩, ⟨⟨_, rfl, rfl, (.same rfl)⟩, ⟨⟨_, rfl, rfl, (.same rfl)⟩, trivial⟩⟩⟩ rfl
            · replace h := bF hb18 h
              refine Tr.skip ?_
              replace h := Option.some.inj h
              subst h
              show WeakSt Γ _ ⟨look _, memOf _ (bxs _) _, _⟩; exact weak_cut [] ⟨(kPtr rfl), ⟨(kPtr rfl), ⟨(.same rfl), ⟨(kPtr rfl), ⟨(.same rfl), trivial⟩⟩⟩⟩⟩ ⟨⟨_, rfl, rfl, (.same rfl)⟩, ⟨⟨_, rfl, rfl, (.same rfl)⟩, ⟨⟨_, rfl, rfl, (.same rfl)⟩, trivial⟩⟩⟩ rfl
          · obtain ⟨out21, rfl⟩ : ∃ x, x = z := ⟨_, rfl⟩
            refine Tr.seq ?_
            refine Tr.rgn ?_
            refine Rn.movD trivial rfl ?_
            refine Rn.nil ?_
            refine toN ?_
            refine Tr.block ?_
            refine Tr.loop (mk := fun ((k22, out23) : Int × (List api_Edge)) => ⟨look [(1, .ptr (Γ.n0 + 1) 0), (2, .ptr (Γ.n0 + 2) 0), (3, .own 1 (List.map (eI .i64) x3)), (4, .ptr (Γ.n0 + 4) 0), (5, .d (.int .i64 i6)), (6, .d (.int .i64 k22))], memOf Γ.n0 (bxs [(1, [.d (.lst 1 (List.map (eI .i64) a1.Alphabet)), .d (.int .i64 a1.States), .d (.lst 1 (List.map (eI .i64) a1.Marked)), .d (.lst 3 (List.map e_api_Edge a1.Edges))]), (2, [.own 1 (List.map (eI .i64) c7), .d (.int .i64 0), .own 1 (List.map (eI .i64) c8), .own 3 (List.map e_api_Edge c9)]), (4, [.d (.lst 1 (List.map (eI .i64) x5.Alphabet)), .d (.int .i64 (x3.length : Int)), .own 1 (List.map (eI .i64) out21), .own 3 (List.map e_api_Edge out23)])]) M, Γ.n0 + 71⟩) h (by show WeakSt Γ (clean _ _ _) ⟨look _, memOf _ (bxs _) _, _⟩; exact weak_clean ⟨(kPtr rfl), ⟨(kPtr rfl), ⟨(.same rfl), ⟨(kPtr rfl), ⟨(.same rfl), ⟨(.same rfl), trivial⟩⟩⟩⟩⟩⟩ ⟨⟨_, rfl, rfl, (.same rfl)⟩, ⟨⟨_, rfl, rfl, (.same rfl)⟩, ⟨⟨_, rfl, rfl, (.same rfl)⟩, trivial⟩⟩⟩ rfl) (fun k24 z h => ?_)
            · obtain ⟨k22, out23⟩ := z
              replace h : _ = some _ := h
              refine Tr.seq ?_
              refine Tr.seq ?_
              refine Tr.rgn ?_
              refine Rn.movD trivial rfl ?_
              refine Rn.fldP (o' := 0) trivial rfl rfl ?_
              refine Rn.load (v := .d (.lst 1 (List.map (eI .i64) a1.Alphabet))) trivial rfl (boxOwn rfl) rfl rfl ?_
              refine Rn.lenD trivial rfl ?_
              refine Rn.bin trivial rfl rfl rfl ?_
              refine Rn.nil ?_
              refine toN ?_
              refine Tr.cond rfl (fun hb25 => ?_) (fun hb25 => ?_)
              · replace h := ifT hb25 h
                refine Tr.skip ?_
                refine toN ?_
                refine Tr.cutB (fun (out39 : List api_Edge) => ⟨look [(1, .ptr (Γ.n0 + 1) 0), (2, .ptr (Γ.n0 + 2) 0), (3, .own 1 (List.map (eI .i64) x3)), (4, .ptr (Γ.n0 + 4) 0), (5, .d (.int .i64 i6)), (6, .d (.int .i64 k22))], memOf Γ.n0 (bxs [(1, [.d (.lst 1 (List.map (eI .i64) a1.Alphabet)), .d (.int .i64 a1.States), .d (.lst 1 (List.map (eI .i64) a1.Marked)), .d (.lst 3 (List.map e_api_Edge a1.Edges))]), (2, [.own 1 (List.map (eI .i64) c7), .d (.int .i64 0), .own 1 (List.map (eI .i64) c8), .own 3 (List.map e_api_Edge c9)]), (4, [.d (.lst 1 (List.map (eI .i64) x5.Alphabet)), .d (.int .i64 (x3.length : Int)), .own 1 (List.map (eI .i64) out21), .own 3 (List.map e_api_Edge out39)])]) M, Γ.n0 + 71⟩) h (fun z h => ?_) (fun z h => ?_)
                · refine Tr.block ?_
                  refine Tr.seq ?_
                  refine Tr.rgnD (by decide) ?_
                  refine Rn.load (v := .agg [.d (.lst 1 (List.map (eI .i64) a1.Alphabet)), .d (.int .i64 a1.States), .d (.lst 1 (List.map (eI .i64) a1.Marked)), .d (.lst 3 (List.map e_api_Edge a1.Edges))]) trivial rfl (boxOwn rfl) rfl rfl ?_
                  refine Rn.mov (v := .d (.lst 1 (List.map (eI .i64) x3))) trivial rfl ?_
                  refine Rn.movD trivial rfl ?_
                  replace h := bnd h
                  obtain ⟨x26, h27, h⟩ := h
                  refine Rn.idxD (e := (eI .i64)) trivial rfl rfl h27 ?_
                  refine Rn.loadC (x := .int .i64 x26) trivial rfl ?_
                  refine Rn.fldP (o' := 0) trivial rfl rfl ?_
                  refine Rn.load (v := .d (.lst 1 (List.map (eI .i64) a1.Alphabet))) trivial rfl (boxOwn rfl) rfl rfl ?_
                  refine Rn.movD trivial rfl ?_
                  replace h := bnd h
                  obtain ⟨x28, h29, h⟩ := h
                  refine Rn.idxD (e := (eI .i64)) trivial rfl rfl h29 ?_
                  refine Rn.loadC (x := .int .i64 x28) trivial rfl ?_
                  replace h := bnd h
                  obtain ⟨x31, h30, h⟩ := h
                  refine Rn.call (args := [.agg [.d (.lst 1 (List.map (eI .i64) a1.Alphabet)), .d (.int .i64 a1.States), .d (.lst 1 (List.map (eI .i64) a1.Marked)), .d (.lst 3 (List.map e_api_Edge a1.Edges))], .d (.int .i64 x26), .d (.int .i64 x28)]) trivial rfl (H_overseerref03_Step _ _ _ _ h30) pc0 ?_
                  refine Rn.movD trivial rfl ?_
                  refine Rn.nil ⟨rfl, ?_⟩
                  refine toN ?_
                  refine Tr.seq ?_
                  refine Tr.rgn ?_
                  refine Rn.movD trivial rfl ?_
                  refine Rn.bin trivial rfl rfl rfl ?_
                  refine Rn.nil ?_
                  refine toN ?_
                  refine Tr.cond rfl (fun hb32 => ?_) (fun hb32 => ?_)
                  · replace h := ifT hb32 h
                    refine Tr.rgnD (by decide) ?_
                    refine Rn.fldP (o' := 3) trivial rfl rfl ?_
                    refine Rn.loadT (cs' := [.d (.lst 1 (List.map (eI .i64) x5.Alphabet)), .d (.int .i64 (x3.length : Int)), .own 1 (List.map (eI .i64) out21), .d (.lst 3 (List.map e_api_Edge out23))]) trivial rfl rfl rfl rfl ?_
                    refine Rn.movD trivial rfl ?_
                    refine Rn.fldP (o' := 0) trivial rfl rfl ?_
                    refine Rn.load (v := .d (.lst 1 (List.map (eI .i64) a1.Alphabet))) trivial rfl (boxOwn rfl) rfl rfl ?_
                    refine Rn.movD trivial rfl ?_
                    replace h := bnd h
                    obtain ⟨x33, h34, h⟩ := h
                    refine Rn.idxD (e := (eI .i64)) trivial rfl rfl h34 ?_
                    refine Rn.loadC (x := .int .i64 x33) trivial rfl ?_
                    refine Rn.mov (v := .d (.lst 1 (List.map (eI .i64) x3))) trivial rfl ?_
                    refine Rn.movD trivial rfl ?_
                    replace h := bnd h
                    obtain ⟨x36, h35, h⟩ := h
                    refine Rn.call (args := [.d (.lst 1 (List.map (eI .i64) x3)), .d (.int .i64 x31)]) trivial rfl (H_overseerref03_index _ _ _ h35) pc2 ?_
                    refine Rn.build (v := .agg [.d (.int .i64 i6), .d (.int .i64 x33), .d (.int .i64 x36)]) trivial rfl ?_
                    refine Rn.bslice (xs := [.agg [.d (.int .i64 i6), .d (.int .i64 x33), .d (.int .i64 x36)]]) (cs := [.d (.int .i64 i6), .d (.int .i64 x33), .d (.int .i64 x36)]) trivial rfl rfl rfl rfl ?_
                    replace h := bnd h
                    obtain ⟨x37, h38, h⟩ := h
                    refine Rn.app (e := e_api_Edge) trivial rfl rfl rfl (elems_box rfl rfl rfl) h38 rfl ?_
                    refine Rn.fldP (o' := 3) trivial rfl rfl ?_
                    refine Rn.storeO (cs' := [.d (.lst 1 (List.map (eI .i64) x5.Alphabet)), .d (.int .i64 (x3.length : Int)), .own 1 (List.map (eI .i64) out21), .own 3 (List.map e_api_Edge x37)]) trivial rfl rfl rfl rfl rfl ?_
                    refine Rn.nil ⟨rfl, ?_⟩
                    replace h := Option.some.inj h
                    subst h
                    show WeakSt Γ _ ⟨look _, memOf _ (bxs _) _, _⟩; exact weak_cut [67] ⟨(kPtr rfl), ⟨(kPtr rfl), ⟨(.same rfl), ⟨(kPtr rfl), ⟨(.same rfl), ⟨(.same rfl), trivial⟩⟩⟩⟩⟩⟩ ⟨⟨_, rfl, rfl, (.same rfl)⟩, ⟨⟨_, rfl, rfl, (.same rfl)⟩, ⟨⟨_, rfl, rfl, (.same rfl)⟩, trivial⟩⟩⟩ rfl
                  · replace h := ifF hb32 h
                    refine Tr.skip ?_
                    replace h := Option.some.inj h
                    subst h
                    show WeakSt Γ _ ⟨look _, memOf _ (bxs _) _, _⟩; exact weak_cut [] ⟨(kPtr rfl), ⟨(kPtr rfl), ⟨(.same rfl), ⟨(kPtr rfl), ⟨(.same rfl), ⟨(.same rfl), trivial⟩⟩⟩⟩⟩⟩ ⟨⟨_, rfl, rfl, (.same rfl)⟩, ⟨⟨_, rfl, rfl, (.same rfl)⟩, ⟨⟨_, rfl, rfl, (.same rfl)⟩, trivial⟩⟩⟩ rfl
                · obtain ⟨out39, rfl⟩ : ∃ x, x = z := ⟨_, rfl⟩
                  refine Tr.rgn ?_
                  refine Rn.movD trivial rfl ?_
                  refine Rn.bin trivial rfl rfl rfl ?_
                  refine Rn.movD trivial rfl ?_
                  refine Rn.nil ?_
                  exact ⟨_, h, (by show WeakSt Γ (clean _ _ _) ⟨look _, memOf _ (bxs _) _, _⟩; exact weak_clean ⟨(kPtr rfl), ⟨(kPtr rfl), ⟨(.same rfl), ⟨(kPtr rfl), ⟨(.same rfl), ⟨(.same rfl), trivial⟩⟩⟩⟩⟩⟩ ⟨⟨_, rfl, rfl, (.same rfl)⟩, ⟨⟨_, rfl, rfl, (.same rfl)⟩, ⟨⟨_, rfl, rfl, (.same rfl)⟩, trivial⟩⟩⟩ rfl)⟩
              · replace h := ifF hb25 h
                refine Tr.exit ?_
                replace h := Option.some.inj h
                subst h
                show WeakSt Γ _ ⟨look _, memOf _ (bxs _) _, _⟩; exact weak_cut [] ⟨(kPtr rfl), ⟨(kPtr rfl), ⟨(.same rfl), ⟨(kPtr rfl), ⟨(.same rfl), trivial⟩⟩⟩⟩⟩ ⟨⟨_, rfl, rfl, (.same rfl)⟩, ⟨⟨_, rfl, rfl, (.same rfl)⟩, ⟨⟨_, rfl, rfl, (.same rfl)⟩, trivial⟩⟩⟩ rfl
        · obtain ⟨out40, out41⟩ := z
          refine Tr.rgn ?_
          refine Rn.movD trivial rfl ?_
          refine Rn.bin trivial rfl rfl rfl ?_
          refine Rn.movD trivial rfl ?_
          refine Rn.nil ?_
          exact ⟨_, h, (by show WeakSt Γ (clean _ _ _) ⟨look _, memOf _ (bxs _) _, _⟩; exact weak_clean ⟨(kPtr rfl), ⟨(kPtr rfl), ⟨(.same rfl), ⟨(kPtr rfl), ⟨(.same rfl), trivial⟩⟩⟩⟩⟩ ⟨⟨_, rfl, rfl, (.same rfl)⟩, ⟨⟨_, rfl, rfl, (.same rfl)⟩, ⟨⟨_, rfl, rfl, (.same rfl)⟩, trivial⟩⟩⟩ rfl)⟩
      · replace h := ifF hb13 h
        refine Tr.exit ?_
        replace h := Option.some.inj h
        subst h
        show WeakSt Γ _ ⟨look _, memOf _ (bxs _) _, _⟩; exact weak_cut [] ⟨(kPtr rfl), ⟨(kPtr rfl), trivial⟩⟩ ⟨⟨_, rfl, rfl, (.same rfl)⟩, ⟨⟨_, rfl, rfl, (.same rfl)⟩, ⟨⟨_, rfl, rfl, (.same rfl)⟩, trivial⟩⟩⟩ rfl
  · obtain ⟨c42, c43, c44, out45, out46⟩ := z
    refine Tr.seq ?_
    refine Tr.rgn ?_
    refine Rn.load (v := .agg [.d (.lst 1 (List.map (eI .i64) x5.Alphabet)), .d (.int .i64 (x3.length : Int)), .d (.lst 1 (List.map (eI .i64) out45)), .d (.lst 3 (List.map e_api_Edge out46))]) trivial rfl (boxOwn rfl) rfl rfl ?_
    refine Rn.store (v := .agg [.d (.lst 1 (List.map (eI .i64) x5.Alphabet)), .d (.int .i64 (x3.length : Int)), .d (.lst 1 (List.map (eI .i64) out45)), .d (.lst 3 (List.map e_api_Edge out46))]) (cs' := [.d (.lst 1 (List.map (eI .i64) x5.Alphabet)), .d (.int .i64 (x3.length : Int)), .d (.lst 1 (List.map (eI .i64) out45)), .d (.lst 3 (List.map e_api_Edge out46))]) trivial rfl rfl rfl rfl rfl rfl ?_
    refine Rn.nil ?_
    refine toN ?_
    refine Tr.ret ?_
    replace h := Option.some.inj h
    subst h
    exact ⟨.inr rfl, (.agg [.d (.lst 1 (List.map (eI .i64) x5.Alphabet)), .d (.int .i64 (x3.length : Int)), .d (.lst 1 (List.map (eI .i64) out45)), .d (.lst 3 (List.map e_api_Edge out46))]), resCell rfl rfl rfl rfl, fun _ _ _ _ h => h, ⟨trivial, trivial, trivial, trivial, trivial⟩, fun k hk => memOf_base hk⟩
theorem overseerlaw03_Make_walk {P : Program} {c : Nat} {f_overseerref03_Canonical : api_Automaton → Option api_Automaton} {f_overseerref03_Empty : (List Int) → Option api_Automaton}
    (H_overseerref03_Canonical : K_overseerref03_Canonical P 28 f_overseerref03_Canonical)
    (H_overseerref03_Empty : K_overseerref03_Empty P 47 f_overseerref03_Empty) (hcf : compFn P c = some F_overseerlaw03_Make) (fuel : Nat) : K_overseerlaw03_Make P c (f_overseerlaw03_Make f_overseerref03_Canonical f_overseerref03_Empty fuel) := by
  intro alphabet1 g2 r h
  refine fn_trP hcf rfl fun Γ M hP hnt hM => ?_
  subst hP
  refine Tr.init [(0, .d (.lst 1 (List.map (eI .i64) alphabet1))), (1, .agg [.d (.int .u8 g2.States), .d (.int .u8 g2.Marks), .d (.int .u8 g2.To.1.1), .d (.int .u8 g2.To.1.2.1), .d (.int .u8 g2.To.1.2.2.1), .d (.int .u8 g2.To.1.2.2.2.1), .d (.int .u8 g2.To.1.2.2.2.2), .d (.int .u8 g2.To.2.1.1), .d (.int .u8 g2.To.2.1.2.1), .d (.int .u8 g2.To.2.1.2.2.1), .d (.int .u8 g2.To.2.1.2.2.2.1), .d (.int .u8 g2.To.2.1.2.2.2.2), .d (.int .u8 g2.To.2.2.1.1), .d (.int .u8 g2.To.2.2.1.2.1), .d (.int .u8 g2.To.2.2.1.2.2.1), .d (.int .u8 g2.To.2.2.1.2.2.2.1), .d (.int .u8 g2.To.2.2.1.2.2.2.2), .d (.int .u8 g2.To.2.2.2.1.1), .d (.int .u8 g2.To.2.2.2.1.2.1), .d (.int .u8 g2.To.2.2.2.1.2.2.1), .d (.int .u8 g2.To.2.2.2.1.2.2.2.1), .d (.int .u8 g2.To.2.2.2.1.2.2.2.2), .d (.int .u8 g2.To.2.2.2.2.1), .d (.int .u8 g2.To.2.2.2.2.2.1), .d (.int .u8 g2.To.2.2.2.2.2.2.1), .d (.int .u8 g2.To.2.2.2.2.2.2.2.1), .d (.int .u8 g2.To.2.2.2.2.2.2.2.2)])] rfl ?_
  unfold f_overseerlaw03_Make at h
  unfold F_overseerlaw03_Make
  refine Tr.seq ?_
  refine Tr.rgn ?_
  refine Rn.box (v := .agg [.d (.int .u8 g2.States), .d (.int .u8 g2.Marks), .d (.int .u8 g2.To.1.1), .d (.int .u8 g2.To.1.2.1), .d (.int .u8 g2.To.1.2.2.1), .d (.int .u8 g2.To.1.2.2.2.1), .d (.int .u8 g2.To.1.2.2.2.2), .d (.int .u8 g2.To.2.1.1), .d (.int .u8 g2.To.2.1.2.1), .d (.int .u8 g2.To.2.1.2.2.1), .d (.int .u8 g2.To.2.1.2.2.2.1), .d (.int .u8 g2.To.2.1.2.2.2.2), .d (.int .u8 g2.To.2.2.1.1), .d (.int .u8 g2.To.2.2.1.2.1), .d (.int .u8 g2.To.2.2.1.2.2.1), .d (.int .u8 g2.To.2.2.1.2.2.2.1), .d (.int .u8 g2.To.2.2.1.2.2.2.2), .d (.int .u8 g2.To.2.2.2.1.1), .d (.int .u8 g2.To.2.2.2.1.2.1), .d (.int .u8 g2.To.2.2.2.1.2.2.1), .d (.int .u8 g2.To.2.2.2.1.2.2.2.1), .d (.int .u8 g2.To.2.2.2.1.2.2.2.2), .d (.int .u8 g2.To.2.2.2.2.1), .d (.int .u8 g2.To.2.2.2.2.2.1), .d (.int .u8 g2.To.2.2.2.2.2.2.1), .d (.int .u8 g2.To.2.2.2.2.2.2.2.1), .d (.int .u8 g2.To.2.2.2.2.2.2.2.2)]) (cs := [.d (.int .u8 g2.States), .d (.int .u8 g2.Marks), .d (.int .u8 g2.To.1.1), .d (.int .u8 g2.To.1.2.1), .d (.int .u8 g2.To.1.2.2.1), .d (.int .u8 g2.To.1.2.2.2.1), .d (.int .u8 g2.To.1.2.2.2.2), .d (.int .u8 g2.To.2.1.1), .d (.int .u8 g2.To.2.1.2.1), .d (.int .u8 g2.To.2.1.2.2.1), .d (.int .u8 g2.To.2.1.2.2.2.1), .d (.int .u8 g2.To.2.1.2.2.2.2), .d (.int .u8 g2.To.2.2.1.1), .d (.int .u8 g2.To.2.2.1.2.1), .d (.int .u8 g2.To.2.2.1.2.2.1), .d (.int .u8 g2.To.2.2.1.2.2.2.1), .d (.int .u8 g2.To.2.2.1.2.2.2.2), .d (.int .u8 g2.To.2.2.2.1.1), .d (.int .u8 g2.To.2.2.2.1.2.1), .d (.int .u8 g2.To.2.2.2.1.2.2.1), .d (.int .u8 g2.To.2.2.2.1.2.2.2.1), .d (.int .u8 g2.To.2.2.2.1.2.2.2.2), .d (.int .u8 g2.To.2.2.2.2.1), .d (.int .u8 g2.To.2.2.2.2.2.1), .d (.int .u8 g2.To.2.2.2.2.2.2.1), .d (.int .u8 g2.To.2.2.2.2.2.2.2.1), .d (.int .u8 g2.To.2.2.2.2.2.2.2.2)]) trivial rfl rfl rfl rfl rfl ?_
  refine Rn.alloc trivial rfl ?_
  refine Rn.nil ?_
  refine toN ?_
  refine Tr.seq ?_
  refine Tr.seq ?_
  refine Tr.rgn ?_
  refine Rn.fldP (o' := 0) trivial rfl rfl ?_
  refine Rn.load (v := .d (.int .u8 g2.States)) trivial rfl (boxOwn rfl) rfl rfl ?_
  refine Rn.bin trivial rfl rfl rfl ?_
  refine Rn.nil ?_
  refine toN ?_
  refine Tr.cond rfl (fun hb3 => ?_) (fun hb3 => ?_)
  · replace h := ifT hb3 h
    refine Tr.seq ?_
    refine Tr.rgn ?_
    refine Rn.movD trivial rfl ?_
    replace h := bnd h
    obtain ⟨x5, h4, h⟩ := h
    refine Rn.call (args := [.d (.lst 1 (List.map (eI .i64) alphabet1))]) trivial rfl (H_overseerref03_Empty _ _ h4) pc9 ?_
    refine Rn.store (v := .agg [.d (.lst 1 (List.map (eI .i64) x5.Alphabet)), .d (.int .i64 x5.States), .nils 1, .nils 3]) (cs' := [.d (.lst 1 (List.map (eI .i64) x5.Alphabet)), .d (.int .i64 x5.States), .nils 1, .nils 3]) trivial rfl rfl rfl rfl rfl rfl ?_
    refine Rn.nil ?_
    refine toN ?_
    refine Tr.ret ?_
    replace h := Option.some.inj h
    subst h
    exact ⟨.inr rfl, (.agg [.d (.lst 1 (List.map (eI .i64) x5.Alphabet)), .d (.int .i64 x5.States), .nils 1, .nils 3]), resCell rfl rfl rfl rfl, (WkV.agg (.cons (.same rfl) (.cons (.same rfl) (.cons (WkV.nilsD _) (.cons (WkV.nilsD _) .nil))))).rd, ⟨trivial, trivial, trivial, trivial, trivial⟩, fun k hk => memOf_base hk⟩
  · replace h := ifF hb3 h
    refine Tr.skip ?_
    refine toN ?_
    refine Tr.seq ?_
    refine Tr.rgn ?_
    refine Rn.movD trivial rfl ?_
    replace h := bnd h
    obtain ⟨x7, h6, h⟩ := h
    refine Rn.call (args := [.d (.lst 1 (List.map (eI .i64) alphabet1))]) trivial rfl (H_overseerref03_Empty _ _ h6) pc9 ?_
    refine Rn.alloc trivial rfl ?_
    refine Rn.store (v := .agg [.d (.lst 1 (List.map (eI .i64) x7.Alphabet)), .d (.int .i64 x7.States), .nils 1, .nils 3]) (cs' := [.d (.lst 1 (List.map (eI .i64) x7.Alphabet)), .d (.int .i64 x7.States), .nils 1, .nils 3]) trivial rfl rfl rfl rfl rfl rfl ?_
    refine Rn.nil ?_
    refine toN ?_
    refine Tr.seq ?_
    refine Tr.rgn ?_
    refine Rn.fldP (o' := 0) trivial rfl rfl ?_
    refine Rn.load (v := .d (.int .u8 g2.States)) trivial rfl (boxOwn rfl) rfl rfl ?_
    refine Rn.bin trivial rfl rfl rfl ?_
    refine Rn.conv trivial rfl ?_
    refine Rn.bin trivial rfl rfl rfl ?_
    refine Rn.fldP (o' := 1) trivial rfl rfl ?_
    refine Rn.store (v := .d (.int .i64 (IntKind.wrap .i64 (1 + (IntKind.wrap .i64 (Int.tmod g2.States 5)))))) (cs' := [.d (.lst 1 (List.map (eI .i64) x7.Alphabet)), .d (.int .i64 (IntKind.wrap .i64 (1 + (IntKind.wrap .i64 (Int.tmod g2.States 5))))), .nils 1, .nils 3]) trivial rfl rfl rfl rfl rfl rfl ?_
    refine Rn.nil ?_
    refine toN ?_
    refine Tr.cutB (fun ((c43, c44, c45, a46, a47, a48) : (List Int) × (List Int) × (List api_Edge) × Int × (List Int) × (List api_Edge)) => ⟨look [(4, .ptr (Γ.n0 + 4) 0), (5, .ptr (Γ.n0 + 5) 0)], memOf Γ.n0 (bxs [(3, [.d (.int .u8 g2.States), .d (.int .u8 g2.Marks), .d (.int .u8 g2.To.1.1), .d (.int .u8 g2.To.1.2.1), .d (.int .u8 g2.To.1.2.2.1), .d (.int .u8 g2.To.1.2.2.2.1), .d (.int .u8 g2.To.1.2.2.2.2), .d (.int .u8 g2.To.2.1.1), .d (.int .u8 g2.To.2.1.2.1), .d (.int .u8 g2.To.2.1.2.2.1), .d (.int .u8 g2.To.2.1.2.2.2.1), .d (.int .u8 g2.To.2.1.2.2.2.2), .d (.int .u8 g2.To.2.2.1.1), .d (.int .u8 g2.To.2.2.1.2.1), .d (.int .u8 g2.To.2.2.1.2.2.1), .d (.int .u8 g2.To.2.2.1.2.2.2.1), .d (.int .u8 g2.To.2.2.1.2.2.2.2), .d (.int .u8 g2.To.2.2.2.1.1), .d (.int .u8 g2.To.2.2.2.1.2.1), .d (.int .u8 g2.To.2.2.2.1.2.2.1), .d (.int .u8 g2.To.2.2.2.1.2.2.2.1), .d (.int .u8 g2.To.2.2.2.1.2.2.2.2), .d (.int .u8 g2.To.2.2.2.2.1), .d (.int .u8 g2.To.2.2.2.2.2.1), .d (.int .u8 g2.To.2.2.2.2.2.2.1), .d (.int .u8 g2.To.2.2.2.2.2.2.2.1), .d (.int .u8 g2.To.2.2.2.2.2.2.2.2)]), (4, [.own 1 (List.map (eI .i64) c43), .d (.int .i64 0), .own 1 (List.map (eI .i64) c44), .own 3 (List.map e_api_Edge c45)]), (5, [.d (.lst 1 (List.map (eI .i64) x7.Alphabet)), .d (.int .i64 a46), .own 1 (List.map (eI .i64) a47), .own 3 (List.map e_api_Edge a48)])]) M, Γ.n0 + 79⟩) h (fun z h => ?_) (fun z h => ?_)
    · refine Tr.seq ?_
      refine Tr.rgn ?_
      refine Rn.movD trivial rfl ?_
      refine Rn.nil ?_
      refine toN ?_
      refine Tr.block ?_
      refine Tr.loop (mk := fun ((i8, c9, c10, c11, a12, a13, a14) : Int × (List Int) × (List Int) × (List api_Edge) × Int × (List Int) × (List api_Edge)) => ⟨look [(0, .d (.lst 1 (List.map (eI .i64) alphabet1))), (3, .ptr (Γ.n0 + 3) 0), (4, .ptr (Γ.n0 + 4) 0), (5, .ptr (Γ.n0 + 5) 0), (6, .d (.int .i64 i8))], memOf Γ.n0 (bxs [(3, [.d (.int .u8 g2.States), .d (.int .u8 g2.Marks), .d (.int .u8 g2.To.1.1), .d (.int .u8 g2.To.1.2.1), .d (.int .u8 g2.To.1.2.2.1), .d (.int .u8 g2.To.1.2.2.2.1), .d (.int .u8 g2.To.1.2.2.2.2), .d (.int .u8 g2.To.2.1.1), .d (.int .u8 g2.To.2.1.2.1), .d (.int .u8 g2.To.2.1.2.2.1), .d (.int .u8 g2.To.2.1.2.2.2.1), .d (.int .u8 g2.To.2.1.2.2.2.2), .d (.int .u8 g2.To.2.2.1.1), .d (.int .u8 g2.To.2.2.1.2.1), .d (.int .u8 g2.To.2.2.1.2.2.1), .d (.int .u8 g2.To.2.2.1.2.2.2.1), .d (.int .u8 g2.To.2.2.1.2.2.2.2), .d (.int .u8 g2.To.2.2.2.1.1), .d (.int .u8 g2.To.2.2.2.1.2.1), .d (.int .u8 g2.To.2.2.2.1.2.2.1), .d (.int .u8 g2.To.2.2.2.1.2.2.2.1), .d (.int .u8 g2.To.2.2.2.1.2.2.2.2), .d (.int .u8 g2.To.2.2.2.2.1), .d (.int .u8 g2.To.2.2.2.2.2.1), .d (.int .u8 g2.To.2.2.2.2.2.2.1), .d (.int .u8 g2.To.2.2.2.2.2.2.2.1), .d (.int .u8 g2.To.2.2.2.2.2.2.2.2)]), (4, [.own 1 (List.map (eI .i64) c9), .d (.int .i64 0), .own 1 (List.map (eI .i64) c10), .own 3 (List.map e_api_Edge c11)]), (5, [.d (.lst 1 (List.map (eI .i64) x7.Alphabet)), .d (.int .i64 a12), .own 1 (List.map (eI .i64) a13), .own 3 (List.map e_api_Edge a14)])]) M, Γ.n0 + 79⟩) h (by show WeakSt Γ (clean _ _ _) ⟨look _, memOf _ (bxs _) _, _⟩; exact weak_clean ⟨(.same rfl), ⟨(kPtr rfl), ⟨(kPtr rfl), ⟨(kPtr rfl), ⟨(.same rfl), trivial⟩⟩⟩⟩⟩ ⟨⟨_, rfl, rfl, (.same rfl)⟩, ⟨⟨_, rfl, rfl, (.cons (WkV.nilsO _) (.cons (.same rfl) (.cons (WkV.nilsO _) (.cons (WkV.nilsO _) .nil))))⟩, ⟨⟨_, rfl, rfl, (.cons (.same rfl) (.cons (.same rfl) (.cons (WkV.nilsO _) (.cons (WkV.nilsO _) .nil))))⟩, trivial⟩⟩⟩ rfl) (fun k15 z h => ?_)
      · obtain ⟨i8, c9, c10, c11, a12, a13, a14⟩ := z
        replace h : _ = some _ := h
        refine Tr.seq ?_
        refine Tr.seq ?_
        refine Tr.rgn ?_
        refine Rn.movD trivial rfl ?_
        refine Rn.fldP (o' := 1) trivial rfl rfl ?_
        refine Rn.load (v := .d (.int .i64 a12)) trivial rfl (boxOwn rfl) rfl rfl ?_
        refine Rn.bin trivial rfl rfl rfl ?_
        refine Rn.nil ?_
        refine toN ?_
        refine Tr.cond rfl (fun hb16 => ?_) (fun hb16 => ?_)
        · replace h := ifT hb16 h
          refine Tr.skip ?_
          refine toN ?_
          refine Tr.cutB (fun ((a41, a42) : (List Int) × (List api_Edge)) => ⟨look [(0, .d (.lst 1 (List.map (eI .i64) alphabet1))), (3, .ptr (Γ.n0 + 3) 0), (4, .ptr (Γ.n0 + 4) 0), (5, .ptr (Γ.n0 + 5) 0), (6, .d (.int .i64 i8))], memOf Γ.n0 (bxs [(3, [.d (.int .u8 g2.States), .d (.int .u8 g2.Marks), .d (.int .u8 g2.To.1.1), .d (.int .u8 g2.To.1.2.1), .d (.int .u8 g2.To.1.2.2.1), .d (.int .u8 g2.To.1.2.2.2.1), .d (.int .u8 g2.To.1.2.2.2.2), .d (.int .u8 g2.To.2.1.1), .d (.int .u8 g2.To.2.1.2.1), .d (.int .u8 g2.To.2.1.2.2.1), .d (.int .u8 g2.To.2.1.2.2.2.1), .d (.int .u8 g2.To.2.1.2.2.2.2), .d (.int .u8 g2.To.2.2.1.1), .d (.int .u8 g2.To.2.2.1.2.1), .d (.int .u8 g2.To.2.2.1.2.2.1), .d (.int .u8 g2.To.2.2.1.2.2.2.1), .d (.int .u8 g2.To.2.2.1.2.2.2.2), .d (.int .u8 g2.To.2.2.2.1.1), .d (.int .u8 g2.To.2.2.2.1.2.1), .d (.int .u8 g2.To.2.2.2.1.2.2.1), .d (.int .u8 g2.To.2.2.2.1.2.2.2.1), .d (.int .u8 g2.To.2.2.2.1.2.2.2.2), .d (.int .u8 g2.To.2.2.2.2.1), .d (.int .u8 g2.To.2.2.2.2.2.1), .d (.int .u8 g2.To.2.2.2.2.2.2.1), .d (.int .u8 g2.To.2.2.2.2.2.2.2.1), .d (.int .u8 g2.To.2.2.2.2.2.2.2.2)]), (4, [.own 1 (List.map (eI .i64) c9), .d (.int .i64 0), .own 1 (List.map (eI .i64) c10), .own 3 (List.map e_api_Edge c11)]), (5, [.d (.lst 1 (List.map (eI .i64) x7.Alphabet)), .d (.int .i64 a12), .own 1 (List.map (eI .i64) a41), .own 3 (List.map e_api_Edge a42)])]) M, Γ.n0 + 79⟩) h (fun z h => ?_) (fun z h => ?_)
          · refine Tr.block ?_
            refine Tr.cutB (fun (a22 : List Int) => ⟨look [(0, .d (.lst 1 (List.map (eI .i64) alphabet1))), (3, .ptr (Γ.n0 + 3) 0), (4, .ptr (Γ.n0 + 4) 0), (5, .ptr (Γ.n0 + 5) 0), (6, .d (.int .i64 i8))], memOf Γ.n0 (bxs [(3, [.d (.int .u8 g2.States), .d (.int .u8 g2.Marks), .d (.int .u8 g2.To.1.1), .d (.int .u8 g2.To.1.2.1), .d (.int .u8 g2.To.1.2.2.1), .d (.int .u8 g2.To.1.2.2.2.1), .d (.int .u8 g2.To.1.2.2.2.2), .d (.int .u8 g2.To.2.1.1), .d (.int .u8 g2.To.2.1.2.1), .d (.int .u8 g2.To.2.1.2.2.1), .d (.int .u8 g2.To.2.1.2.2.2.1), .d (.int .u8 g2.To.2.1.2.2.2.2), .d (.int .u8 g2.To.2.2.1.1), .d (.int .u8 g2.To.2.2.1.2.1), .d (.int .u8 g2.To.2.2.1.2.2.1), .d (.int .u8 g2.To.2.2.1.2.2.2.1), .d (.int .u8 g2.To.2.2.1.2.2.2.2), .d (.int .u8 g2.To.2.2.2.1.1), .d (.int .u8 g2.To.2.2.2.1.2.1), .d (.int .u8 g2.To.2.2.2.1.2.2.1), .d (.int .u8 g2.To.2.2.2.1.2.2.2.1), .d (.int .u8 g2.To.2.2.2.1.2.2.2.2), .d (.int .u8 g2.To.2.2.2.2.1), .d (.int .u8 g2.To.2.2.2.2.2.1), .d (.int .u8 g2.To.2.2.2.2.2.2.1), .d (.int .u8 g2.To.2.2.2.2.2.2.2.1), .d (.int .u8 g2.To.2.2.2.2.2.2.2.2)]), (4, [.own 1 (List.map (eI .i64) c9), .d (.int .i64 0), .own 1 (List.map (eI .i64) c10), .own 3 (List.map e_api_Edge c11)]), (5, [.d (.lst 1 (List.map (eI .i64) x7.Alphabet)), .d (.int .i64 a12), .own 1 (List.map (eI .i64) a22), .own 3 (List.map e_api_Edge a14)])]) M, Γ.n0 + 79⟩) h (fun z h => ?_) (fun z h => ?_)
            · refine Tr.seq ?_
              refine Tr.rgn ?_
              refine Rn.fldP (o' := 1) trivial rfl rfl ?_
              refine Rn.load (v := .d (.int .u8 g2.Marks)) trivial rfl (boxOwn rfl) rfl rfl ?_
              refine Rn.movD trivial rfl ?_
              replace h := bnd h
              obtain ⟨s17, h18, h⟩ := h
              refine Rn.bin trivial rfl rfl (shr_bin h18) ?_
              refine Rn.bin trivial rfl rfl rfl ?_
              refine Rn.bin trivial rfl rfl rfl ?_
              refine Rn.nil ?_
              refine toN ?_
              refine Tr.cond rfl (fun hb19 => ?_) (fun hb19 => ?_)
              · replace h := bT hb19 h
                refine Tr.rgn ?_
                refine Rn.fldP (o' := 2) trivial rfl rfl ?_
                refine Rn.loadT (cs' := [.d (.lst 1 (List.map (eI .i64) x7.Alphabet)), .d (.int .i64 a12), .d (.lst 1 (List.map (eI .i64) a13)), .own 3 (List.map e_api_Edge a14)]) trivial rfl rfl rfl rfl ?_
                refine Rn.movD trivial rfl ?_
                refine Rn.bslice (xs := [.d (.int .i64 i8)]) (cs := [.d (.int .i64 i8)]) trivial rfl rfl rfl rfl ?_
                replace h := bnd h
                obtain ⟨x20, h21, h⟩ := h
                refine Rn.app (e := (eI .i64)) trivial rfl rfl rfl (elems_box rfl rfl rfl) h21 rfl ?_
                refine Rn.fldP (o' := 2) trivial rfl rfl ?_
                refine Rn.storeO (cs' := [.d (.lst 1 (List.map (eI .i64) x7.Alphabet)), .d (.int .i64 a12), .own 1 (List.map (eI .i64) x20), .own 3 (List.map e_api_Edge a14)]) trivial rfl rfl rfl rfl rfl ?_
                refine Rn.nil ?_
                replace h := Option.some.inj h
                subst h
                show WeakSt Γ _ ⟨look _, memOf _ (bxs _) _, _⟩; exact weak_cut [37] ⟨(.same rfl), ⟨(kPtr rfl), ⟨(kPtr rfl), ⟨(kPtr rfl), ⟨(.same rfl), trivial⟩⟩⟩⟩⟩ ⟨⟨_, rfl, rfl, (.same rfl)⟩, ⟨⟨_, rfl, rfl, (.same rfl)⟩, ⟨⟨_, rfl, rfl, (.same rfl)⟩, trivial⟩⟩⟩ rfl
              · replace h := bF hb19 h
                refine Tr.skip ?_
                replace h := Option.some.inj h
                subst h
                show WeakSt Γ _ ⟨look _, memOf _ (bxs _) _, _⟩; exact weak_cut [] ⟨(.same rfl), ⟨(kPtr rfl), ⟨(kPtr rfl), ⟨(kPtr rfl), ⟨(.same rfl), trivial⟩⟩⟩⟩⟩ ⟨⟨_, rfl, rfl, (.same rfl)⟩, ⟨⟨_, rfl, rfl, (.same rfl)⟩, ⟨⟨_, rfl, rfl, (.same rfl)⟩, trivial⟩⟩⟩ rfl
            · obtain ⟨a22, rfl⟩ : ∃ x, x = z := ⟨_, rfl⟩
              refine Tr.seq ?_
              refine Tr.rgn ?_
              refine Rn.movD trivial rfl ?_
              refine Rn.nil ?_
              refine toN ?_
              refine Tr.block ?_
              refine Tr.loop (mk := fun ((k23, a24) : Int × (List api_Edge)) => ⟨look [(0, .d (.lst 1 (List.map (eI .i64) alphabet1))), (3, .ptr (Γ.n0 + 3) 0), (4, .ptr (Γ.n0 + 4) 0), (5, .ptr (Γ.n0 + 5) 0), (6, .d (.int .i64 i8)), (7, .d (.int .i64 k23))], memOf Γ.n0 (bxs [(3, [.d (.int .u8 g2.States), .d (.int .u8 g2.Marks), .d (.int .u8 g2.To.1.1), .d (.int .u8 g2.To.1.2.1), .d (.int .u8 g2.To.1.2.2.1), .d (.int .u8 g2.To.1.2.2.2.1), .d (.int .u8 g2.To.1.2.2.2.2), .d (.int .u8 g2.To.2.1.1), .d (.int .u8 g2.To.2.1.2.1), .d (.int .u8 g2.To.2.1.2.2.1), .d (.int .u8 g2.To.2.1.2.2.2.1), .d (.int .u8 g2.To.2.1.2.2.2.2), .d (.int .u8 g2.To.2.2.1.1), .d (.int .u8 g2.To.2.2.1.2.1), .d (.int .u8 g2.To.2.2.1.2.2.1), .d (.int .u8 g2.To.2.2.1.2.2.2.1), .d (.int .u8 g2.To.2.2.1.2.2.2.2), .d (.int .u8 g2.To.2.2.2.1.1), .d (.int .u8 g2.To.2.2.2.1.2.1), .d (.int .u8 g2.To.2.2.2.1.2.2.1), .d (.int .u8 g2.To.2.2.2.1.2.2.2.1), .d (.int .u8 g2.To.2.2.2.1.2.2.2.2), .d (.int .u8 g2.To.2.2.2.2.1), .d (.int .u8 g2.To.2.2.2.2.2.1), .d (.int .u8 g2.To.2.2.2.2.2.2.1), .d (.int .u8 g2.To.2.2.2.2.2.2.2.1), .d (.int .u8 g2.To.2.2.2.2.2.2.2.2)]), (4, [.own 1 (List.map (eI .i64) c9), .d (.int .i64 0), .own 1 (List.map (eI .i64) c10), .own 3 (List.map e_api_Edge c11)]), (5, [.d (.lst 1 (List.map (eI .i64) x7.Alphabet)), .d (.int .i64 a12), .own 1 (List.map (eI .i64) a22), .own 3 (List.map e_api_Edge a24)])]) M, Γ.n0 + 79⟩) h (by show WeakSt Γ (clean _ _ _) ⟨look _, memOf _ (bxs _) _, _⟩; exact weak_clean ⟨(.same rfl), ⟨(kPtr rfl), ⟨(kPtr rfl), ⟨(kPtr rfl), ⟨(.same rfl), ⟨(.same rfl), trivial⟩⟩⟩⟩⟩⟩ ⟨⟨_, rfl, rfl, (.same rfl)⟩, ⟨⟨_, rfl, rfl, (.same rfl)⟩, ⟨⟨_, rfl, rfl, (.same rfl)⟩, trivial⟩⟩⟩ rfl) (fun k25 z h => ?_)
              · obtain ⟨k23, a24⟩ := z
                replace h : _ = some _ := h
                refine Tr.seq ?_
                refine Tr.cutB (fun (x27 : Bool) => ⟨look [(0, .d (.lst 1 (List.map (eI .i64) alphabet1))), (3, .ptr (Γ.n0 + 3) 0), (4, .ptr (Γ.n0 + 4) 0), (5, .ptr (Γ.n0 + 5) 0), (6, .d (.int .i64 i8)), (7, .d (.int .i64 k23)), (47, .d (.bool x27))], memOf Γ.n0 (bxs [(3, [.d (.int .u8 g2.States), .d (.int .u8 g2.Marks), .d (.int .u8 g2.To.1.1), .d (.int .u8 g2.To.1.2.1), .d (.int .u8 g2.To.1.2.2.1), .d (.int .u8 g2.To.1.2.2.2.1), .d (.int .u8 g2.To.1.2.2.2.2), .d (.int .u8 g2.To.2.1.1), .d (.int .u8 g2.To.2.1.2.1), .d (.int .u8 g2.To.2.1.2.2.1), .d (.int .u8 g2.To.2.1.2.2.2.1), .d (.int .u8 g2.To.2.1.2.2.2.2), .d (.int .u8 g2.To.2.2.1.1), .d (.int .u8 g2.To.2.2.1.2.1), .d (.int .u8 g2.To.2.2.1.2.2.1), .d (.int .u8 g2.To.2.2.1.2.2.2.1), .d (.int .u8 g2.To.2.2.1.2.2.2.2), .d (.int .u8 g2.To.2.2.2.1.1), .d (.int .u8 g2.To.2.2.2.1.2.1), .d (.int .u8 g2.To.2.2.2.1.2.2.1), .d (.int .u8 g2.To.2.2.2.1.2.2.2.1), .d (.int .u8 g2.To.2.2.2.1.2.2.2.2), .d (.int .u8 g2.To.2.2.2.2.1), .d (.int .u8 g2.To.2.2.2.2.2.1), .d (.int .u8 g2.To.2.2.2.2.2.2.1), .d (.int .u8 g2.To.2.2.2.2.2.2.2.1), .d (.int .u8 g2.To.2.2.2.2.2.2.2.2)]), (4, [.own 1 (List.map (eI .i64) c9), .d (.int .i64 0), .own 1 (List.map (eI .i64) c10), .own 3 (List.map e_api_Edge c11)]), (5, [.d (.lst 1 (List.map (eI .i64) x7.Alphabet)), .d (.int .i64 a12), .own 1 (List.map (eI .i64) a22), .own 3 (List.map e_api_Edge a24)])]) M, Γ.n0 + 79⟩) h (fun z h => ?_) (fun z h => ?_)
                · refine Tr.rgn ?_
                  refine Rn.movD trivial rfl ?_
                  refine Rn.movD trivial rfl ?_
                  refine Rn.lenD trivial rfl ?_
                  refine Rn.bin trivial rfl rfl rfl ?_
                  refine Rn.movD trivial rfl ?_
                  refine bsplit (decide (k23 < (alphabet1.length : Int))) (fun hb26 => ?_) (fun hb26 => ?_)
                  · replace h := ifT hb26 h
                    refine Rn.movD (gw rfl hb26) rfl ?_
                    refine Rn.bin (gw rfl hb26) rfl rfl rfl ?_
                    refine Rn.pickT (v := .d (.bool (decide (k23 < 5)))) trivial rfl hb26 rfl ?_
                    refine Rn.nil ?_
                    replace h := Option.some.inj h
                    subst h
                    show WeakSt Γ _ ⟨look _, memOf _ (bxs _) _, _⟩; exact weak_cut [] ⟨(.same rfl), ⟨(kPtr rfl), ⟨(kPtr rfl), ⟨(kPtr rfl), ⟨(.same rfl), ⟨(.same rfl), ⟨(.same rfl), trivial⟩⟩⟩⟩⟩⟩⟩ ⟨⟨_, rfl, rfl, (.same rfl)⟩, ⟨⟨_, rfl, rfl, (.same rfl)⟩, ⟨⟨_, rfl, rfl, (.same rfl)⟩, trivial⟩⟩⟩ rfl
                  · replace h := ifF hb26 h
                    refine Rn.sk (nw rfl hb26) ?_
                    refine Rn.sk (nw rfl hb26) ?_
                    refine Rn.pickF (v := .d (.bool false)) trivial rfl hb26 rfl ?_
                    refine Rn.nil ?_
                    replace h := Option.some.inj h
                    subst h
                    show WeakSt Γ _ ⟨look _, memOf _ (bxs _) _, _⟩; exact weak_cut [] ⟨(.same rfl), ⟨(kPtr rfl), ⟨(kPtr rfl), ⟨(kPtr rfl), ⟨(.same rfl), ⟨(.same rfl), ⟨(.same rfl), trivial⟩⟩⟩⟩⟩⟩⟩ ⟨⟨_, rfl, rfl, (.same rfl)⟩, ⟨⟨_, rfl, rfl, (.same rfl)⟩, ⟨⟨_, rfl, rfl, (.same rfl)⟩, trivial⟩⟩⟩ rfl
                · obtain ⟨x27, rfl⟩ : ∃ x, x = z := ⟨_, rfl⟩
                  refine Tr.cond rfl (fun hb28 => ?_) (fun hb28 => ?_)
                  · replace h := bT hb28 h
                    refine Tr.skip ?_
                    refine toN ?_
                    refine Tr.cutB (fun (a40 : List api_Edge) => ⟨look [(0, .d (.lst 1 (List.map (eI .i64) alphabet1))), (3, .ptr (Γ.n0 + 3) 0), (4, .ptr (Γ.n0 + 4) 0), (5, .ptr (Γ.n0 + 5) 0), (6, .d (.int .i64 i8)), (7, .d (.int .i64 k23))], memOf Γ.n0 (bxs [(3, [.d (.int .u8 g2.States), .d (.int .u8 g2.Marks), .d (.int .u8 g2.To.1.1), .d (.int .u8 g2.To.1.2.1), .d (.int .u8 g2.To.1.2.2.1), .d (.int .u8 g2.To.1.2.2.2.1), .d (.int .u8 g2.To.1.2.2.2.2), .d (.int .u8 g2.To.2.1.1), .d (.int .u8 g2.To.2.1.2.1), .d (.int .u8 g2.To.2.1.2.2.1), .d (.int .u8 g2.To.2.1.2.2.2.1), .d (.int .u8 g2.To.2.1.2.2.2.2), .d (.int .u8 g2.To.2.2.1.1), .d (.int .u8 g2.To.2.2.1.2.1), .d (.int .u8 g2.To.2.2.1.2.2.1), .d (.int .u8 g2.To.2.2.1.2.2.2.1), .d (.int .u8 g2.To.2.2.1.2.2.2.2), .d (.int .u8 g2.To.2.2.2.1.1), .d (.int .u8 g2.To.2.2.2.1.2.1), .d (.int .u8 g2.To.2.2.2.1.2.2.1), .d (.int .u8 g2.To.2.2.2.1.2.2.2.1), .d (.int .u8 g2.To.2.2.2.1.2.2.2.2), .d (.int .u8 g2.To.2.2.2.2.1), .d (.int .u8 g2.To.2.2.2.2.2.1), .d (.int .u8 g2.To.2.2.2.2.2.2.1), .d (.int .u8 g2.To.2.2.2.2.2.2.2.1), .d (.int .u8 g2.To.2.2.2.2.2.2.2.2)]), (4, [.own 1 (List.map (eI .i64) c9), .d (.int .i64 0), .own 1 (List.map (eI .i64) c10), .own 3 (List.map e_api_Edge c11)]), (5, [.d (.lst 1 (List.map (eI .i64) x7.Alphabet)), .d (.int .i64 a12), .own 1 (List.map (eI .i64) a22), .own 3 (List.map e_api_Edge a40)])]) M, Γ.n0 + 79⟩) h (fun z h => ?_) (fun z h => ?_)
                    · refine Tr.block ?_
                      refine Tr.seq ?_
                      refine Tr.rgnD (by decide) ?_
                      refine Rn.movD trivial rfl ?_
                      refine Rn.movD trivial rfl ?_
                      refine Rn.fldP (o' := 2) trivial rfl rfl ?_
                      replace h := bnd h
                      obtain ⟨⟨⟩, h29, h⟩ := h
                      refine Rn.idxArr (o' := 2 + (Int.toNat i8 * 5)) trivial rfl rfl rfl h29 ?_
                      replace h := bnd h
                      obtain ⟨⟨⟩, h30, h⟩ := h
                      refine Rn.idxArr (o' := 2 + (Int.toNat i8 * 5 + Int.toNat k23 * 1)) trivial rfl rfl (Nat.add_assoc ..).symm h30 ?_
                      replace h := bnd h
                      obtain ⟨x31, h32, h⟩ := h
                      refine Rn.loadArr (e := (fun (z : Int) => .int .u8 z)) (pre := [.d (.int .u8 g2.States), .d (.int .u8 g2.Marks)]) (post := []) trivial rfl rfl (boxOwn rfl) rfl rfl h32 ?_
                      refine Rn.conv trivial rfl ?_
                      refine Rn.fldP (o' := 1) trivial rfl rfl ?_
                      refine Rn.load (v := .d (.int .i64 a12)) trivial rfl (boxOwn rfl) rfl rfl ?_
                      refine Rn.bin trivial rfl rfl rfl ?_
                      replace h := bnd h
                      obtain ⟨s33, h34, h⟩ := h
                      refine Rn.bin trivial rfl rfl (rem_bin h34) ?_
                      refine Rn.movD trivial rfl ?_
                      refine Rn.nil ⟨rfl, ?_⟩
                      refine toN ?_
                      refine Tr.seq ?_
                      refine Tr.rgn ?_
                      refine Rn.movD trivial rfl ?_
                      refine Rn.fldP (o' := 1) trivial rfl rfl ?_
                      refine Rn.load (v := .d (.int .i64 a12)) trivial rfl (boxOwn rfl) rfl rfl ?_
                      refine Rn.bin trivial rfl rfl rfl ?_
                      refine Rn.nil ?_
                      refine toN ?_
                      refine Tr.cond rfl (fun hb35 => ?_) (fun hb35 => ?_)
                      · replace h := ifT hb35 h
                        refine Tr.rgnD (by decide) ?_
                        refine Rn.fldP (o' := 3) trivial rfl rfl ?_
                        refine Rn.loadT (cs' := [.d (.lst 1 (List.map (eI .i64) x7.Alphabet)), .d (.int .i64 a12), .own 1 (List.map (eI .i64) a22), .d (.lst 3 (List.map e_api_Edge a24))]) trivial rfl rfl rfl rfl ?_
                        refine Rn.movD trivial rfl ?_
                        refine Rn.movD trivial rfl ?_
                        refine Rn.movD trivial rfl ?_
                        replace h := bnd h
                        obtain ⟨x36, h37, h⟩ := h
                        refine Rn.idxD (e := (eI .i64)) trivial rfl rfl h37 ?_
                        refine Rn.loadC (x := .int .i64 x36) trivial rfl ?_
                        refine Rn.movD trivial rfl ?_
                        refine Rn.build (v := .agg [.d (.int .i64 i8), .d (.int .i64 x36), .d (.int .i64 s33)]) trivial rfl ?_
                        refine Rn.bslice (xs := [.agg [.d (.int .i64 i8), .d (.int .i64 x36), .d (.int .i64 s33)]]) (cs := [.d (.int .i64 i8), .d (.int .i64 x36), .d (.int .i64 s33)]) trivial rfl rfl rfl rfl ?_
                        replace h := bnd h
                        obtain ⟨x38, h39, h⟩ := h
                        refine Rn.app (e := e_api_Edge) trivial rfl rfl rfl (elems_box rfl rfl rfl) h39 rfl ?_
                        refine Rn.fldP (o' := 3) trivial rfl rfl ?_
                        refine Rn.storeO (cs' := [.d (.lst 1 (List.map (eI .i64) x7.Alphabet)), .d (.int .i64 a12), .own 1 (List.map (eI .i64) a22), .own 3 (List.map e_api_Edge x38)]) trivial rfl rfl rfl rfl rfl ?_
                        refine Rn.nil ⟨rfl, ?_⟩
                        replace h := Option.some.inj h
                        subst h
                        show WeakSt Γ _ ⟨look _, memOf _ (bxs _) _, _⟩; exact weak_cut [74] ⟨(.same rfl), ⟨(kPtr rfl), ⟨(kPtr rfl), ⟨(kPtr rfl), ⟨(.same rfl), ⟨(.same rfl), trivial⟩⟩⟩⟩⟩⟩ ⟨⟨_, rfl, rfl, (.same rfl)⟩, ⟨⟨_, rfl, rfl, (.same rfl)⟩, ⟨⟨_, rfl, rfl, (.same rfl)⟩, trivial⟩⟩⟩ rfl
                      · replace h := ifF hb35 h
                        refine Tr.skip ?_
                        replace h := Option.some.inj h
                        subst h
                        show WeakSt Γ _ ⟨look _, memOf _ (bxs _) _, _⟩; exact weak_cut [] ⟨(.same rfl), ⟨(kPtr rfl), ⟨(kPtr rfl), ⟨(kPtr rfl), ⟨(.same rfl), ⟨(.same rfl), trivial⟩⟩⟩⟩⟩⟩ ⟨⟨_, rfl, rfl, (.same rfl)⟩, ⟨⟨_, rfl, rfl, (.same rfl)⟩, ⟨⟨_, rfl, rfl, (.same rfl)⟩, trivial⟩⟩⟩ rfl
                    · obtain ⟨a40, rfl⟩ : ∃ x, x = z := ⟨_, rfl⟩
                      refine Tr.rgn ?_
                      refine Rn.movD trivial rfl ?_
                      refine Rn.bin trivial rfl rfl rfl ?_
                      refine Rn.movD trivial rfl ?_
                      refine Rn.nil ?_
                      exact ⟨_, h, (by show WeakSt Γ (clean _ _ _) ⟨look _, memOf _ (bxs _) _, _⟩; exact weak_clean ⟨(.same rfl), ⟨(kPtr rfl), ⟨(kPtr rfl), ⟨(kPtr rfl), ⟨(.same rfl), ⟨(.same rfl), trivial⟩⟩⟩⟩⟩⟩ ⟨⟨_, rfl, rfl, (.same rfl)⟩, ⟨⟨_, rfl, rfl, (.same rfl)⟩, ⟨⟨_, rfl, rfl, (.same rfl)⟩, trivial⟩⟩⟩ rfl)⟩
                  · replace h := bF hb28 h
                    refine Tr.exit ?_
                    replace h := Option.some.inj h
                    subst h
                    show WeakSt Γ _ ⟨look _, memOf _ (bxs _) _, _⟩; exact weak_cut [] ⟨(.same rfl), ⟨(kPtr rfl), ⟨(kPtr rfl), ⟨(kPtr rfl), ⟨(.same rfl), trivial⟩⟩⟩⟩⟩ ⟨⟨_, rfl, rfl, (.same rfl)⟩, ⟨⟨_, rfl, rfl, (.same rfl)⟩, ⟨⟨_, rfl, rfl, (.same rfl)⟩, trivial⟩⟩⟩ rfl
          · obtain ⟨a41, a42⟩ := z
            refine Tr.rgn ?_
            refine Rn.movD trivial rfl ?_
            refine Rn.bin trivial rfl rfl rfl ?_
            refine Rn.movD trivial rfl ?_
            refine Rn.nil ?_
            exact ⟨_, h, (by show WeakSt Γ (clean _ _ _) ⟨look _, memOf _ (bxs _) _, _⟩; exact weak_clean ⟨(.same rfl), ⟨(kPtr rfl), ⟨(kPtr rfl), ⟨(kPtr rfl), ⟨(.same rfl), trivial⟩⟩⟩⟩⟩ ⟨⟨_, rfl, rfl, (.same rfl)⟩, ⟨⟨_, rfl, rfl, (.same rfl)⟩, ⟨⟨_, rfl, rfl, (.same rfl)⟩, trivial⟩⟩⟩ rfl)⟩
        · replace h := ifF hb16 h
          refine Tr.exit ?_
          replace h := Option.some.inj h
          subst h
          show WeakSt Γ _ ⟨look _, memOf _ (bxs _) _, _⟩; exact weak_cut [] ⟨(kPtr rfl), ⟨(kPtr rfl), trivial⟩⟩ ⟨⟨_, rfl, rfl, (.same rfl)⟩, ⟨⟨_, rfl, rfl, (.same rfl)⟩, ⟨⟨_, rfl, rfl, (.same rfl)⟩, trivial⟩⟩⟩ rfl
    · obtain ⟨c43, c44, c45, a46, a47, a48⟩ := z
      refine Tr.seq ?_
      refine Tr.rgn ?_
      refine Rn.load (v := .agg [.d (.lst 1 (List.map (eI .i64) x7.Alphabet)), .d (.int .i64 a46), .d (.lst 1 (List.map (eI .i64) a47)), .d (.lst 3 (List.map e_api_Edge a48))]) trivial rfl (boxOwn rfl) rfl rfl ?_
      replace h := bnd h
      obtain ⟨x50, h49, h⟩ := h
      refine Rn.call (args := [.agg [.d (.lst 1 (List.map (eI .i64) x7.Alphabet)), .d (.int .i64 a46), .d (.lst 1 (List.map (eI .i64) a47)), .d (.lst 3 (List.map e_api_Edge a48))]]) trivial rfl (H_overseerref03_Canonical _ _ h49) pc9 ?_
      refine Rn.store (v := .agg [.d (.lst 1 (List.map (eI .i64) x50.Alphabet)), .d (.int .i64 x50.States), .d (.lst 1 (List.map (eI .i64) x50.Marked)), .d (.lst 3 (List.map e_api_Edge x50.Edges))]) (cs' := [.d (.lst 1 (List.map (eI .i64) x50.Alphabet)), .d (.int .i64 x50.States), .d (.lst 1 (List.map (eI .i64) x50.Marked)), .d (.lst 3 (List.map e_api_Edge x50.Edges))]) trivial rfl rfl rfl rfl rfl rfl ?_
      refine Rn.nil ?_
      refine toN ?_
      refine Tr.ret ?_
      replace h := Option.some.inj h
      subst h
      exact ⟨.inr rfl, (.agg [.d (.lst 1 (List.map (eI .i64) x50.Alphabet)), .d (.int .i64 x50.States), .d (.lst 1 (List.map (eI .i64) x50.Marked)), .d (.lst 3 (List.map e_api_Edge x50.Edges))]), resCell rfl rfl rfl rfl, fun _ _ _ _ h => h, ⟨trivial, trivial, trivial, trivial, trivial⟩, fun k hk => memOf_base hk⟩
theorem automaton_Step_walk {P : Program} {c : Nat} {f_slices_Contains_int : (List Int) → Int → Option Bool} {f_automaton_checkState : api_Automaton → Int → Option Int} {f_automaton_next : api_Automaton → Int → Int → Option Int}
    (H_slices_Contains_int : K_slices_Contains_int P 50 f_slices_Contains_int)
    (H_automaton_checkState : K_automaton_checkState P 63 f_automaton_checkState)
    (H_automaton_next : K_automaton_next P 67 f_automaton_next) (hcf : compFn P c = some F_automaton_Step) : K_automaton_Step P c (f_automaton_Step f_slices_Contains_int f_automaton_checkState f_automaton_next) := by
  intro a1 state2 event3 r h
  refine fn_trP hcf rfl fun Γ M hP hnt hM => ?_
  subst hP
  refine Tr.init [(0, .agg [.d (.lst 1 (List.map (eI .i64) a1.Alphabet)), .d (.int .i64 a1.States), .d (.lst 1 (List.map (eI .i64) a1.Marked)), .d (.lst 3 (List.map e_api_Edge a1.Edges))]), (1, .d (.int .i64 state2)), (2, .d (.int .i64 event3))] rfl ?_
  unfold f_automaton_Step at h
  unfold F_automaton_Step
  refine Tr.seq ?_
  refine Tr.rgn ?_
  refine Rn.box (v := .agg [.d (.lst 1 (List.map (eI .i64) a1.Alphabet)), .d (.int .i64 a1.States), .d (.lst 1 (List.map (eI .i64) a1.Marked)), .d (.lst 3 (List.map e_api_Edge a1.Edges))]) (cs := [.d (.lst 1 (List.map (eI .i64) a1.Alphabet)), .d (.int .i64 a1.States), .d (.lst 1 (List.map (eI .i64) a1.Marked)), .d (.lst 3 (List.map e_api_Edge a1.Edges))]) trivial rfl rfl rfl rfl rfl ?_
  refine Rn.movD trivial rfl ?_
  refine Rn.movD trivial rfl ?_
  refine Rn.movD trivial rfl ?_
  refine Rn.nil ?_
  refine toN ?_
  refine Tr.seq ?_
  refine Tr.seq ?_
  refine Tr.rgn ?_
  refine Rn.load (v := .agg [.d (.lst 1 (List.map (eI .i64) a1.Alphabet)), .d (.int .i64 a1.States), .d (.lst 1 (List.map (eI .i64) a1.Marked)), .d (.lst 3 (List.map e_api_Edge a1.Edges))]) trivial rfl (boxOwn rfl) rfl rfl ?_
  refine Rn.movD trivial rfl ?_
  replace h := bnd h
  obtain ⟨x5, h4, h⟩ := h
  refine Rn.call (args := [.agg [.d (.lst 1 (List.map (eI .i64) a1.Alphabet)), .d (.int .i64 a1.States), .d (.lst 1 (List.map (eI .i64) a1.Marked)), .d (.lst 3 (List.map e_api_Edge a1.Edges))], .d (.int .i64 state2)]) trivial rfl (H_automaton_checkState _ _ _ h4) pc9 ?_
  refine Rn.movD trivial rfl ?_
  refine Rn.nil ?_
  refine toN ?_
  refine Tr.seq ?_
  refine Tr.rgn ?_
  refine Rn.movD trivial rfl ?_
  refine Rn.bin trivial rfl rfl rfl ?_
  refine Rn.nil ?_
  refine toN ?_
  refine Tr.cond rfl (fun hb6 => ?_) (fun hb6 => ?_)
  · replace h := bT hb6 h
    refine Tr.seq ?_
    refine Tr.rgn ?_
    refine Rn.movD trivial rfl ?_
    refine Rn.movD trivial rfl ?_
    refine Rn.movD trivial rfl ?_
    refine Rn.movD trivial rfl ?_
    refine Rn.nil ?_
    refine toN ?_
    refine Tr.ret ?_
    replace h := Option.some.inj h
    subst h
    exact ⟨.inr rfl, .tup [.d (.int .i64 0), .d (.bool false), .d (.int .i64 x5)], res3 rfl rfl rfl, (WkV.tup (.cons (.same rfl) (.cons (.same rfl) (.cons (.same rfl) .nil)))).rd, ⟨trivial, trivial, trivial, trivial⟩, fun k hk => memOf_base hk⟩
  · replace h := bF hb6 h
    refine Tr.skip ?_
    refine toN ?_
    refine Tr.seq ?_
    refine Tr.seq ?_
    refine Tr.rgn ?_
    refine Rn.fldP (o' := 0) trivial rfl rfl ?_
    refine Rn.load (v := .d (.lst 1 (List.map (eI .i64) a1.Alphabet))) trivial rfl (boxOwn rfl) rfl rfl ?_
    refine Rn.movD trivial rfl ?_
    replace h := bnd h
    obtain ⟨x8, h7, h⟩ := h
    refine Rn.call (args := [.d (.lst 1 (List.map (eI .i64) a1.Alphabet)), .d (.int .i64 event3)]) trivial rfl (H_slices_Contains_int _ _ _ h7) pc9 ?_
    refine Rn.un trivial rfl rfl ?_
    refine Rn.nil ?_
    refine toN ?_
    refine Tr.cond rfl (fun hb9 => ?_) (fun hb9 => ?_)
    · have hb9 := nT' hb9
      replace h := bF hb9 h
      refine Tr.seq ?_
      refine Tr.rgn ?_
      refine Rn.movD trivial rfl ?_
      refine Rn.movD trivial rfl ?_
      refine Rn.movD trivial rfl ?_
      refine Rn.nil ?_
      refine toN ?_
      refine Tr.ret ?_
      replace h := Option.some.inj h
      subst h
      exact ⟨.inr rfl, .tup [.d (.int .i64 0), .d (.bool false), .d (.int .i64 9)], res3 rfl rfl rfl, (WkV.tup (.cons (.same rfl) (.cons (.same rfl) (.cons (.same rfl) .nil)))).rd, ⟨trivial, trivial, trivial, trivial⟩, fun k hk => memOf_base hk⟩
    · have hb9 := nF' hb9
      replace h := bT hb9 h
      refine Tr.skip ?_
      refine toN ?_
      refine Tr.seq ?_
      refine Tr.seq ?_
      refine Tr.rgn ?_
      refine Rn.load (v := .agg [.d (.lst 1 (List.map (eI .i64) a1.Alphabet)), .d (.int .i64 a1.States), .d (.lst 1 (List.map (eI .i64) a1.Marked)), .d (.lst 3 (List.map e_api_Edge a1.Edges))]) trivial rfl (boxOwn rfl) rfl rfl ?_
      refine Rn.movD trivial rfl ?_
      refine Rn.movD trivial rfl ?_
      replace h := bnd h
      obtain ⟨x11, h10, h⟩ := h
      refine Rn.call (args := [.agg [.d (.lst 1 (List.map (eI .i64) a1.Alphabet)), .d (.int .i64 a1.States), .d (.lst 1 (List.map (eI .i64) a1.Marked)), .d (.lst 3 (List.map e_api_Edge a1.Edges))], .d (.int .i64 state2), .d (.int .i64 event3)]) trivial rfl (H_automaton_next _ _ _ _ h10) pc9 ?_
      refine Rn.movD trivial rfl ?_
      refine Rn.nil ?_
      refine toN ?_
      refine Tr.seq ?_
      refine Tr.rgn ?_
      refine Rn.movD trivial rfl ?_
      refine Rn.bin trivial rfl rfl rfl ?_
      refine Rn.nil ?_
      refine toN ?_
      refine Tr.cond rfl (fun hb12 => ?_) (fun hb12 => ?_)
      · replace h := ifT hb12 h
        refine Tr.seq ?_
        refine Tr.rgn ?_
        refine Rn.movD trivial rfl ?_
        refine Rn.movD trivial rfl ?_
        refine Rn.movD trivial rfl ?_
        refine Rn.movD trivial rfl ?_
        refine Rn.nil ?_
        refine toN ?_
        refine Tr.ret ?_
        replace h := Option.some.inj h
        subst h
        exact ⟨.inr rfl, .tup [.d (.int .i64 x11), .d (.bool true), .d (.int .i64 0)], res3 rfl rfl rfl, (WkV.tup (.cons (.same rfl) (.cons (.same rfl) (.cons (.same rfl) .nil)))).rd, ⟨trivial, trivial, trivial, trivial⟩, fun k hk => memOf_base hk⟩
      · replace h := ifF hb12 h
        refine Tr.skip ?_
        refine toN ?_
        refine Tr.seq ?_
        refine Tr.rgn ?_
        refine Rn.movD trivial rfl ?_
        refine Rn.movD trivial rfl ?_
        refine Rn.movD trivial rfl ?_
        refine Rn.nil ?_
        refine toN ?_
        refine Tr.ret ?_
        replace h := Option.some.inj h
        subst h
        exact ⟨.inr rfl, .tup [.d (.int .i64 0), .d (.bool false), .d (.int .i64 0)], res3 rfl rfl rfl, (WkV.tup (.cons (.same rfl) (.cons (.same rfl) (.cons (.same rfl) .nil)))).rd, ⟨trivial, trivial, trivial, trivial⟩, fun k hk => memOf_base hk⟩
theorem automaton_Enabled_walk {P : Program} {c : Nat} {f_automaton_out : api_Automaton → Int → Option ((List api_Edge))} {f_automaton_checkState : api_Automaton → Int → Option Int}
    (H_automaton_out : K_automaton_out P 48 f_automaton_out)
    (H_automaton_checkState : K_automaton_checkState P 63 f_automaton_checkState) (hcf : compFn P c = some F_automaton_Enabled) (fuel : Nat) : K_automaton_Enabled P c (f_automaton_Enabled f_automaton_out f_automaton_checkState fuel) := by
  intro a1 state2 r h
  refine fn_trP hcf rfl fun Γ M hP hnt hM => ?_
  subst hP
  refine Tr.init [(0, .agg [.d (.lst 1 (List.map (eI .i64) a1.Alphabet)), .d (.int .i64 a1.States), .d (.lst 1 (List.map (eI .i64) a1.Marked)), .d (.lst 3 (List.map e_api_Edge a1.Edges))]), (1, .d (.int .i64 state2))] rfl ?_
  unfold f_automaton_Enabled at h
  unfold F_automaton_Enabled
  refine Tr.seq ?_
  refine Tr.rgn ?_
  refine Rn.box (v := .agg [.d (.lst 1 (List.map (eI .i64) a1.Alphabet)), .d (.int .i64 a1.States), .d (.lst 1 (List.map (eI .i64) a1.Marked)), .d (.lst 3 (List.map e_api_Edge a1.Edges))]) (cs := [.d (.lst 1 (List.map (eI .i64) a1.Alphabet)), .d (.int .i64 a1.States), .d (.lst 1 (List.map (eI .i64) a1.Marked)), .d (.lst 3 (List.map e_api_Edge a1.Edges))]) trivial rfl rfl rfl rfl rfl ?_
  refine Rn.movTC (v := .nils 1) trivial ?_
  refine Rn.movD trivial rfl ?_
  refine Rn.nil ?_
  refine toN ?_
  refine Tr.seq ?_
  refine Tr.seq ?_
  refine Tr.rgn ?_
  refine Rn.load (v := .agg [.d (.lst 1 (List.map (eI .i64) a1.Alphabet)), .d (.int .i64 a1.States), .d (.lst 1 (List.map (eI .i64) a1.Marked)), .d (.lst 3 (List.map e_api_Edge a1.Edges))]) trivial rfl (boxOwn rfl) rfl rfl ?_
  refine Rn.movD trivial rfl ?_
  replace h := bnd h
  obtain ⟨x4, h3, h⟩ := h
  refine Rn.call (args := [.agg [.d (.lst 1 (List.map (eI .i64) a1.Alphabet)), .d (.int .i64 a1.States), .d (.lst 1 (List.map (eI .i64) a1.Marked)), .d (.lst 3 (List.map e_api_Edge a1.Edges))], .d (.int .i64 state2)]) trivial rfl (H_automaton_checkState _ _ _ h3) pc9 ?_
  refine Rn.movD trivial rfl ?_
  refine Rn.nil ?_
  refine toN ?_
  refine Tr.seq ?_
  refine Tr.rgn ?_
  refine Rn.movD trivial rfl ?_
  refine Rn.bin trivial rfl rfl rfl ?_
  refine Rn.nil ?_
  refine toN ?_
  refine Tr.cond rfl (fun hb5 => ?_) (fun hb5 => ?_)
  · replace h := bT hb5 h
    refine Tr.seq ?_
    refine Tr.rgn ?_
    refine Rn.movD trivial rfl ?_
    refine Rn.movTC (v := .nils 1) trivial ?_
    refine Rn.movD trivial rfl ?_
    refine Rn.nil ?_
    refine toN ?_
    refine Tr.ret ?_
    replace h := Option.some.inj h
    subst h
    exact ⟨.inr rfl, .tup [.nils 1, .d (.int .i64 x4)], res2 rfl rfl, (WkV.tup (.cons (WkV.nilsO _) (.cons (.same rfl) .nil))).rd, ⟨trivial, trivial, trivial⟩, fun k hk => memOf_base hk⟩
  · replace h := bF hb5 h
    refine Tr.skip ?_
    refine toN ?_
    refine Tr.seq ?_
    refine Tr.rgn ?_
    refine Rn.movTC (v := .nils 1) trivial ?_
    refine Rn.nil ?_
    refine toN ?_
    refine Tr.cutB (fun (l16 : List Int) => ⟨look [(7, .own 1 (List.map (eI .i64) l16))], memOf Γ.n0 (bxs [(2, [.d (.lst 1 (List.map (eI .i64) a1.Alphabet)), .d (.int .i64 a1.States), .d (.lst 1 (List.map (eI .i64) a1.Marked)), .d (.lst 3 (List.map e_api_Edge a1.Edges))])]) M, Γ.n0 + 31⟩) h (fun z h => ?_) (fun z h => ?_)
    · refine Tr.seq ?_
      refine Tr.rgn ?_
      refine Rn.load (v := .agg [.d (.lst 1 (List.map (eI .i64) a1.Alphabet)), .d (.int .i64 a1.States), .d (.lst 1 (List.map (eI .i64) a1.Marked)), .d (.lst 3 (List.map e_api_Edge a1.Edges))]) trivial rfl (boxOwn rfl) rfl rfl ?_
      refine Rn.movD trivial rfl ?_
      replace h := bnd h
      obtain ⟨x7, h6, h⟩ := h
      refine Rn.call (args := [.agg [.d (.lst 1 (List.map (eI .i64) a1.Alphabet)), .d (.int .i64 a1.States), .d (.lst 1 (List.map (eI .i64) a1.Marked)), .d (.lst 3 (List.map e_api_Edge a1.Edges))], .d (.int .i64 state2)]) trivial rfl (H_automaton_out _ _ _ h6) pc9 ?_
      refine Rn.lenD trivial rfl ?_
      refine Rn.movD trivial rfl ?_
      refine Rn.nil ?_
      refine toN ?_
      refine Tr.block ?_
      refine Tr.loop (mk := fun ((l8, x9) : (List Int) × Int) => ⟨look [(7, .own 1 (List.map (eI .i64) l8)), (18, .d (.lst 3 (List.map e_api_Edge x7))), (19, .d (.int .i64 (x7.length : Int))), (20, .d (.int .i64 x9))], memOf Γ.n0 (bxs [(2, [.d (.lst 1 (List.map (eI .i64) a1.Alphabet)), .d (.int .i64 a1.States), .d (.lst 1 (List.map (eI .i64) a1.Marked)), .d (.lst 3 (List.map e_api_Edge a1.Edges))])]) M, Γ.n0 + 31⟩) h (by show WeakSt Γ (clean _ _ _) ⟨look _, memOf _ (bxs _) _, _⟩; exact weak_clean ⟨(WkV.nilsO _), ⟨(.same rfl), ⟨(.same rfl), ⟨(.same rfl), trivial⟩⟩⟩⟩ ⟨⟨_, rfl, rfl, (.same rfl)⟩, trivial⟩ rfl) (fun k10 z h => ?_)
      · obtain ⟨l8, x9⟩ := z
        replace h : _ = some _ := h
        refine Tr.seq ?_
        refine Tr.rgn ?_
        refine Rn.bin trivial rfl rfl rfl ?_
        refine Rn.nil ?_
        refine toN ?_
        refine Tr.seq ?_
        refine Tr.cond rfl (fun hb11 => ?_) (fun hb11 => ?_)
        · replace h := ifT hb11 h
          refine Tr.skip ?_
          refine toN ?_
          refine Tr.seq ?_
          refine Tr.block ?_
          refine Tr.seq ?_
          refine Tr.rgn ?_
          replace h := bnd h
          obtain ⟨x12, h13, h⟩ := h
          refine Rn.idxD (e := e_api_Edge) trivial rfl rfl h13 ?_
          refine Rn.loadCA (vs := [.d (.int .i64 x12.From), .d (.int .i64 x12.Event), .d (.int .i64 x12.To)]) trivial rfl rfl rfl ?_
          refine Rn.alloc trivial rfl ?_
          refine Rn.store (v := .agg [.d (.int .i64 x12.From), .d (.int .i64 x12.Event), .d (.int .i64 x12.To)]) (cs' := [.d (.int .i64 x12.From), .d (.int .i64 x12.Event), .d (.int .i64 x12.To)]) trivial rfl rfl rfl rfl rfl rfl ?_
          refine Rn.nil ?_
          refine toN ?_
          refine Tr.rgn ?_
          refine Rn.movTO trivial rfl ?_
          refine Rn.fldP (o' := 1) trivial rfl rfl ?_
          refine Rn.load (v := .d (.int .i64 x12.Event)) trivial rfl (boxOwn rfl) rfl rfl ?_
          refine Rn.bslice (xs := [.d (.int .i64 x12.Event)]) (cs := [.d (.int .i64 x12.Event)]) trivial rfl rfl rfl rfl ?_
          replace h := bnd h
          obtain ⟨x14, h15, h⟩ := h
          refine Rn.app (e := (eI .i64)) trivial rfl rfl rfl (elems_box rfl rfl rfl) h15 rfl ?_
          refine Rn.movTO trivial rfl ?_
          refine Rn.nil ?_
          refine toN ?_
          refine Tr.rgn ?_
          refine Rn.bin trivial rfl rfl rfl ?_
          refine Rn.movD trivial rfl ?_
          refine Rn.nil ?_
          exact ⟨_, h, (by show WeakSt Γ (clean _ _ _) ⟨look _, memOf _ (bxs _) _, _⟩; exact weak_clean ⟨(.same rfl), ⟨(.same rfl), ⟨(.same rfl), ⟨(.same rfl), trivial⟩⟩⟩⟩ ⟨⟨_, rfl, rfl, (.same rfl)⟩, trivial⟩ rfl)⟩
        · replace h := ifF hb11 h
          refine Tr.exit ?_
          replace h := Option.some.inj h
          subst h
          show WeakSt Γ _ ⟨look _, memOf _ (bxs _) _, _⟩; exact weak_cut [] ⟨(.same rfl), trivial⟩ ⟨⟨_, rfl, rfl, (.same rfl)⟩, trivial⟩ rfl
    · obtain ⟨l16, rfl⟩ : ∃ x, x = z := ⟨_, rfl⟩
      refine Tr.seq ?_
      refine Tr.rgn ?_
      refine Rn.movTO trivial rfl ?_
      refine Rn.movTO trivial rfl ?_
      refine Rn.movD trivial rfl ?_
      refine Rn.nil ?_
      refine toN ?_
      refine Tr.ret ?_
      replace h := Option.some.inj h
      subst h
      exact ⟨.inr rfl, .tup [.own 1 (List.map (eI .i64) l16), .d (.int .i64 0)], res2 rfl rfl, (WkV.tup (.cons (.same rfl) (.cons (.same rfl) .nil))).rd, ⟨trivial, trivial, trivial⟩, fun k hk => memOf_base hk⟩
theorem overseerref03_Enabled_walk {P : Program} {c : Nat} {f_overseerref03_Step : api_Automaton → Int → Int → Option Int}
    (H_overseerref03_Step : K_overseerref03_Step P 40 f_overseerref03_Step) (hcf : compFn P c = some F_overseerref03_Enabled) (fuel : Nat) : K_overseerref03_Enabled P c (f_overseerref03_Enabled f_overseerref03_Step fuel) := by
  intro a1 state2 r h
  refine fn_trP hcf rfl fun Γ M hP hnt hM => ?_
  subst hP
  refine Tr.init [(0, .agg [.d (.lst 1 (List.map (eI .i64) a1.Alphabet)), .d (.int .i64 a1.States), .d (.lst 1 (List.map (eI .i64) a1.Marked)), .d (.lst 3 (List.map e_api_Edge a1.Edges))]), (1, .d (.int .i64 state2))] rfl ?_
  unfold f_overseerref03_Enabled at h
  unfold F_overseerref03_Enabled
  refine Tr.seq ?_
  refine Tr.rgn ?_
  refine Rn.box (v := .agg [.d (.lst 1 (List.map (eI .i64) a1.Alphabet)), .d (.int .i64 a1.States), .d (.lst 1 (List.map (eI .i64) a1.Marked)), .d (.lst 3 (List.map e_api_Edge a1.Edges))]) (cs := [.d (.lst 1 (List.map (eI .i64) a1.Alphabet)), .d (.int .i64 a1.States), .d (.lst 1 (List.map (eI .i64) a1.Marked)), .d (.lst 3 (List.map e_api_Edge a1.Edges))]) trivial rfl rfl rfl rfl rfl ?_
  refine Rn.movTC (v := .nils 1) trivial ?_
  refine Rn.nil ?_
  refine toN ?_
  refine Tr.seq ?_
  refine Tr.rgn ?_
  refine Rn.movTC (v := .nils 1) trivial ?_
  refine Rn.nil ?_
  refine toN ?_
  refine Tr.cutB (fun (out17 : List Int) => ⟨look [(5, .own 1 (List.map (eI .i64) out17))], memOf Γ.n0 (bxs [(2, [.d (.lst 1 (List.map (eI .i64) a1.Alphabet)), .d (.int .i64 a1.States), .d (.lst 1 (List.map (eI .i64) a1.Marked)), .d (.lst 3 (List.map e_api_Edge a1.Edges))])]) M, Γ.n0 + 32⟩) h (fun z h => ?_) (fun z h => ?_)
  · refine Tr.seq ?_
    refine Tr.rgn ?_
    refine Rn.movD trivial rfl ?_
    refine Rn.nil ?_
    refine toN ?_
    refine Tr.block ?_
    refine Tr.loop (mk := fun ((out3, i4) : (List Int) × Int) => ⟨look [(1, .d (.int .i64 state2)), (2, .ptr (Γ.n0 + 2) 0), (5, .own 1 (List.map (eI .i64) out3)), (6, .d (.int .i64 i4))], memOf Γ.n0 (bxs [(2, [.d (.lst 1 (List.map (eI .i64) a1.Alphabet)), .d (.int .i64 a1.States), .d (.lst 1 (List.map (eI .i64) a1.Marked)), .d (.lst 3 (List.map e_api_Edge a1.Edges))])]) M, Γ.n0 + 32⟩) h (by show WeakSt Γ (clean _ _ _) ⟨look _, memOf _ (bxs _) _, _⟩; exact weak_clean ⟨(.same rfl), ⟨(kPtr rfl), ⟨(WkV.nilsO _), ⟨(.same rfl), trivial⟩⟩⟩⟩ ⟨⟨_, rfl, rfl, (.same rfl)⟩, trivial⟩ rfl) (fun k5 z h => ?_)
    · obtain ⟨out3, i4⟩ := z
      replace h : _ = some _ := h
      refine Tr.seq ?_
      refine Tr.seq ?_
      refine Tr.rgn ?_
      refine Rn.movD trivial rfl ?_
      refine Rn.fldP (o' := 0) trivial rfl rfl ?_
      refine Rn.load (v := .d (.lst 1 (List.map (eI .i64) a1.Alphabet))) trivial rfl (boxOwn rfl) rfl rfl ?_
      refine Rn.lenD trivial rfl ?_
      refine Rn.bin trivial rfl rfl rfl ?_
      refine Rn.nil ?_
      refine toN ?_
      refine Tr.cond rfl (fun hb6 => ?_) (fun hb6 => ?_)
      · replace h := ifT hb6 h
        refine Tr.skip ?_
        refine toN ?_
        refine Tr.cutB (fun (out16 : List Int) => ⟨look [(1, .d (.int .i64 state2)), (2, .ptr (Γ.n0 + 2) 0), (5, .own 1 (List.map (eI .i64) out16)), (6, .d (.int .i64 i4))], memOf Γ.n0 (bxs [(2, [.d (.lst 1 (List.map (eI .i64) a1.Alphabet)), .d (.int .i64 a1.States), .d (.lst 1 (List.map (eI .i64) a1.Marked)), .d (.lst 3 (List.map e_api_Edge a1.Edges))])]) M, Γ.n0 + 32⟩) h (fun z h => ?_) (fun z h => ?_)
        · refine Tr.block ?_
          refine Tr.seq ?_
          refine Tr.rgnD (by decide) ?_
          refine Rn.load (v := .agg [.d (.lst 1 (List.map (eI .i64) a1.Alphabet)), .d (.int .i64 a1.States), .d (.lst 1 (List.map (eI .i64) a1.Marked)), .d (.lst 3 (List.map e_api_Edge a1.Edges))]) trivial rfl (boxOwn rfl) rfl rfl ?_
          refine Rn.movD trivial rfl ?_
          refine Rn.fldP (o' := 0) trivial rfl rfl ?_
          refine Rn.load (v := .d (.lst 1 (List.map (eI .i64) a1.Alphabet))) trivial rfl (boxOwn rfl) rfl rfl ?_
          refine Rn.movD trivial rfl ?_
          replace h := bnd h
          obtain ⟨x7, h8, h⟩ := h
          refine Rn.idxD (e := (eI .i64)) trivial rfl rfl h8 ?_
          refine Rn.loadC (x := .int .i64 x7) trivial rfl ?_
          replace h := bnd h
          obtain ⟨x10, h9, h⟩ := h
          refine Rn.call (args := [.agg [.d (.lst 1 (List.map (eI .i64) a1.Alphabet)), .d (.int .i64 a1.States), .d (.lst 1 (List.map (eI .i64) a1.Marked)), .d (.lst 3 (List.map e_api_Edge a1.Edges))], .d (.int .i64 state2), .d (.int .i64 x7)]) trivial rfl (H_overseerref03_Step _ _ _ _ h9) pc0 ?_
          refine Rn.bin trivial rfl rfl rfl ?_
          refine Rn.nil ⟨rfl, ?_⟩
          refine toN ?_
          refine Tr.cond rfl (fun hb11 => ?_) (fun hb11 => ?_)
          · replace h := ifT hb11 h
            refine Tr.rgn ?_
            refine Rn.movTO trivial rfl ?_
            refine Rn.fldP (o' := 0) trivial rfl rfl ?_
            refine Rn.load (v := .d (.lst 1 (List.map (eI .i64) a1.Alphabet))) trivial rfl (boxOwn rfl) rfl rfl ?_
            refine Rn.movD trivial rfl ?_
            replace h := bnd h
            obtain ⟨x12, h13, h⟩ := h
            refine Rn.idxD (e := (eI .i64)) trivial rfl rfl h13 ?_
            refine Rn.loadC (x := .int .i64 x12) trivial rfl ?_
            refine Rn.bslice (xs := [.d (.int .i64 x12)]) (cs := [.d (.int .i64 x12)]) trivial rfl rfl rfl rfl ?_
            replace h := bnd h
            obtain ⟨x14, h15, h⟩ := h
            refine Rn.app (e := (eI .i64)) trivial rfl rfl rfl (elems_box rfl rfl rfl) h15 rfl ?_
            refine Rn.movTO trivial rfl ?_
            refine Rn.nil ?_
            replace h := Option.some.inj h
            subst h
            show WeakSt Γ _ ⟨look _, memOf _ (bxs _) _, _⟩; exact weak_cut [29] ⟨(.same rfl), ⟨(kPtr rfl), ⟨(.same rfl), ⟨(.same rfl), trivial⟩⟩⟩⟩ ⟨⟨_, rfl, rfl, (.same rfl)⟩, trivial⟩ rfl
          · replace h := ifF hb11 h
            refine Tr.skip ?_
            replace h := Option.some.inj h
            subst h
            show WeakSt Γ _ ⟨look _, memOf _ (bxs _) _, _⟩; exact weak_cut [] ⟨(.same rfl), ⟨(kPtr rfl), ⟨(.same rfl), ⟨(.same rfl), trivial⟩⟩⟩⟩ ⟨⟨_, rfl, rfl, (.same rfl)⟩, trivial⟩ rfl
        · obtain ⟨out16, rfl⟩ : ∃ x, x = z := ⟨_, rfl⟩
          refine Tr.rgn ?_
          refine Rn.movD trivial rfl ?_
          refine Rn.bin trivial rfl rfl rfl ?_
          refine Rn.movD trivial rfl ?_
          refine Rn.nil ?_
          exact ⟨_, h, (by show WeakSt Γ (clean _ _ _) ⟨look _, memOf _ (bxs _) _, _⟩; exact weak_clean ⟨(.same rfl), ⟨(kPtr rfl), ⟨(.same rfl), ⟨(.same rfl), trivial⟩⟩⟩⟩ ⟨⟨_, rfl, rfl, (.same rfl)⟩, trivial⟩ rfl)⟩
      · replace h := ifF hb6 h
        refine Tr.exit ?_
        replace h := Option.some.inj h
        subst h
        show WeakSt Γ _ ⟨look _, memOf _ (bxs _) _, _⟩; exact weak_cut [] ⟨(.same rfl), trivial⟩ ⟨⟨_, rfl, rfl, (.same rfl)⟩, trivial⟩ rfl
  · obtain ⟨out17, rfl⟩ : ∃ x, x = z := ⟨_, rfl⟩
    refine Tr.seq ?_
    refine Tr.rgn ?_
    refine Rn.movTO trivial rfl ?_
    refine Rn.movTO trivial rfl ?_
    refine Rn.nil ?_
    refine toN ?_
    refine Tr.ret ?_
    replace h := Option.some.inj h
    subst h
    exact ⟨.inr rfl, (.own 1 (List.map (eI .i64) out17)), rfl, fun _ _ _ _ h => h, trivial, fun k hk => memOf_base hk⟩
theorem overseerlaw03_Has_walk {P : Program} {c : Nat} (hcf : compFn P c = some F_overseerlaw03_Has) (fuel : Nat) : K_overseerlaw03_Has P c (f_overseerlaw03_Has fuel) := by
  intro l1 n2 r h
  refine fn_trP hcf rfl fun Γ M hP hnt hM => ?_
  subst hP
  refine Tr.init [(0, .d (.lst 1 (List.map (eI .i64) l1))), (1, .d (.int .i64 n2))] rfl ?_
  unfold f_overseerlaw03_Has at h
  unfold F_overseerlaw03_Has
  refine Tr.seq ?_
  refine Tr.rgn ?_
  refine Rn.movD trivial rfl ?_
  refine Rn.nil ?_
  refine toN ?_
  refine Tr.seq ?_
  refine Tr.seq ?_
  refine Tr.rgn ?_
  refine Rn.movD trivial rfl ?_
  refine Rn.nil ?_
  refine toN ?_
  refine Tr.block ?_
  refine Tr.loop (mk := fun (i3 : Int) => ⟨look [(0, .d (.lst 1 (List.map (eI .i64) l1))), (1, .d (.int .i64 n2)), (5, .d (.int .i64 i3))], memOf Γ.n0 (bxs []) M, Γ.n0 + 18⟩) h (by show WeakSt Γ (clean _ _ _) ⟨look _, memOf _ (bxs _) _, _⟩; exact weak_clean ⟨(.same rfl), ⟨(.same rfl), ⟨(.same rfl), trivial⟩⟩⟩ trivial rfl) (fun k4 z h => ?_)
  · obtain ⟨i3, rfl⟩ : ∃ x, x = z := ⟨_, rfl⟩
    replace h : _ = some _ := h
    refine Tr.seq ?_
    refine Tr.seq ?_
    refine Tr.rgn ?_
    refine Rn.movD trivial rfl ?_
    refine Rn.movD trivial rfl ?_
    refine Rn.lenD trivial rfl ?_
    refine Rn.bin trivial rfl rfl rfl ?_
    refine Rn.nil ?_
    refine toN ?_
    refine Tr.cond rfl (fun hb5 => ?_) (fun hb5 => ?_)
    · replace h := ifT hb5 h
      refine Tr.skip ?_
      refine toN ?_
      refine Tr.seq ?_
      refine Tr.block ?_
      refine Tr.seq ?_
      refine Tr.rgn ?_
      refine Rn.movD trivial rfl ?_
      refine Rn.movD trivial rfl ?_
      replace h := bnd h
      obtain ⟨x6, h7, h⟩ := h
      refine Rn.idxD (e := (eI .i64)) trivial rfl rfl h7 ?_
      refine Rn.loadC (x := .int .i64 x6) trivial rfl ?_
      refine Rn.movD trivial rfl ?_
      refine Rn.bin trivial rfl rfl rfl ?_
      refine Rn.nil ?_
      refine toN ?_
      refine Tr.cond rfl (fun hb8 => ?_) (fun hb8 => ?_)
      · replace h := bT hb8 h
        refine Tr.seq ?_
        refine Tr.rgn ?_
        refine Rn.movD trivial rfl ?_
        refine Rn.nil ?_
        refine toN ?_
        refine Tr.ret ?_
        replace h := Option.some.inj h
        subst h
        exact ⟨.inr rfl, (.d (.bool true)), rfl, fun _ _ _ _ h => h, trivial, fun k hk => memOf_base hk⟩
      · replace h := bF hb8 h
        refine Tr.skip ?_
        refine toN ?_
        refine Tr.rgn ?_
        refine Rn.movD trivial rfl ?_
        refine Rn.bin trivial rfl rfl rfl ?_
        refine Rn.movD trivial rfl ?_
        refine Rn.nil ?_
        exact ⟨_, h, (by show WeakSt Γ (clean _ _ _) ⟨look _, memOf _ (bxs _) _, _⟩; exact weak_clean ⟨(.same rfl), ⟨(.same rfl), ⟨(.same rfl), trivial⟩⟩⟩ trivial rfl)⟩
    · replace h := ifF hb5 h
      refine Tr.exit ?_
      refine toN ?_
      refine Tr.seq ?_
      refine Tr.rgn ?_
      refine Rn.movD trivial rfl ?_
      refine Rn.nil ?_
      refine toN ?_
      refine Tr.ret ?_
      replace h := Option.some.inj h
      subst h
      exact ⟨.inr rfl, (.d (.bool false)), rfl, fun _ _ _ _ h => h, trivial, fun k hk => memOf_base hk⟩
end Go.Abs
