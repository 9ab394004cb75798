/-
  Part 5 of the proof: see the last text.
-/
import Derived.Test.YtkikefkbidaiaaaP4
set_option linter.unusedVariables false
set_option linter.unusedSimpArgs false
set_option linter.unusedSectionVars false
namespace Go.Abs
open Go
set_option linter.unusedVariables false
set_option maxRecDepth 10000
set_option maxHeartbeats 4000000
theorem overseerref03_Same_walk {P : Program} {c : Nat} {f_overseerref03_SameInts : (List Int) → (List Int) → Option Bool}
    (H_overseerref03_SameInts : K_overseerref03_SameInts P 38 f_overseerref03_SameInts) (hcf : compFn P c = some F_overseerref03_Same) (fuel : Nat) : K_overseerref03_Same P c (f_overseerref03_Same f_overseerref03_SameInts fuel) := by
  intro a1 b2 r h
  refine fn_trP hcf rfl fun Γ M hP hnt hM => ?_
  subst hP
  refine Tr.init [(0, .agg [.d (.lst 1 (List.map (eI .i64) a1.Alphabet)), .d (.int .i64 a1.States), .d (.lst 1 (List.map (eI .i64) a1.Marked)), .d (.lst 3 (List.map e_api_Edge a1.Edges))]), (1, .agg [.d (.lst 1 (List.map (eI .i64) b2.Alphabet)), .d (.int .i64 b2.States), .d (.lst 1 (List.map (eI .i64) b2.Marked)), .d (.lst 3 (List.map e_api_Edge b2.Edges))])] rfl ?_
  unfold f_overseerref03_Same at h
  unfold F_overseerref03_Same
  refine Tr.seq ?_
  refine Tr.rgn ?_
  refine Rn.box (v := .agg [.d (.lst 1 (List.map (eI .i64) a1.Alphabet)), .d (.int .i64 a1.States), .d (.lst 1 (List.map (eI .i64) a1.Marked)), .d (.lst 3 (List.map e_api_Edge a1.Edges))]) (cs := [.d (.lst 1 (List.map (eI .i64) a1.Alphabet)), .d (.int .i64 a1.States), .d (.lst 1 (List.map (eI .i64) a1.Marked)), .d (.lst 3 (List.map e_api_Edge a1.Edges))]) trivial rfl rfl rfl rfl rfl ?_
  refine Rn.box (v := .agg [.d (.lst 1 (List.map (eI .i64) b2.Alphabet)), .d (.int .i64 b2.States), .d (.lst 1 (List.map (eI .i64) b2.Marked)), .d (.lst 3 (List.map e_api_Edge b2.Edges))]) (cs := [.d (.lst 1 (List.map (eI .i64) b2.Alphabet)), .d (.int .i64 b2.States), .d (.lst 1 (List.map (eI .i64) b2.Marked)), .d (.lst 3 (List.map e_api_Edge b2.Edges))]) trivial rfl rfl rfl rfl rfl ?_
  refine Rn.movD trivial rfl ?_
  refine Rn.nil ?_
  refine toN ?_
  refine Tr.seq ?_
  refine Tr.cutB (fun (x10 : Bool) => ⟨look [(2, .ptr (Γ.n0 + 2) 0), (3, .ptr (Γ.n0 + 3) 0), (35, .d (.bool x10))], memOf Γ.n0 (bxs [(2, [.d (.lst 1 (List.map (eI .i64) a1.Alphabet)), .d (.int .i64 a1.States), .d (.lst 1 (List.map (eI .i64) a1.Marked)), .d (.lst 3 (List.map e_api_Edge a1.Edges))]), (3, [.d (.lst 1 (List.map (eI .i64) b2.Alphabet)), .d (.int .i64 b2.States), .d (.lst 1 (List.map (eI .i64) b2.Marked)), .d (.lst 3 (List.map e_api_Edge b2.Edges))])]) M, Γ.n0 + 54⟩) h (fun z h => ?_) (fun z h => ?_)
  · refine Tr.rgn ?_
    refine Rn.fldP (o' := 0) trivial rfl rfl ?_
    refine Rn.load (v := .d (.lst 1 (List.map (eI .i64) a1.Alphabet))) trivial rfl (boxOwn rfl) rfl rfl ?_
    refine Rn.fldP (o' := 0) trivial rfl rfl ?_
    refine Rn.load (v := .d (.lst 1 (List.map (eI .i64) b2.Alphabet))) trivial rfl (boxOwn rfl) rfl rfl ?_
    replace h := bnd h
    obtain ⟨x4, h3, h⟩ := h
    refine Rn.call (args := [.d (.lst 1 (List.map (eI .i64) a1.Alphabet)), .d (.lst 1 (List.map (eI .i64) b2.Alphabet))]) trivial rfl (H_overseerref03_SameInts _ _ _ h3) pc9 ?_
    refine Rn.un trivial rfl rfl ?_
    refine Rn.movD trivial rfl ?_
    refine bsplit x4 (fun hb5 => ?_) (fun hb5 => ?_)
    · replace h := bT hb5 h
      refine Rn.fldP (o' := 1) (gw rfl (nT hb5)) rfl rfl ?_
      refine Rn.load (v := .d (.int .i64 a1.States)) (gw rfl (nT hb5)) rfl (boxOwn rfl) rfl rfl ?_
      refine Rn.fldP (o' := 1) (gw rfl (nT hb5)) rfl rfl ?_
      refine Rn.load (v := .d (.int .i64 b2.States)) (gw rfl (nT hb5)) rfl (boxOwn rfl) rfl rfl ?_
      refine Rn.bin (gw rfl (nT hb5)) rfl rfl rfl ?_
      refine Rn.pickF (v := .d (.bool (a1.States != b2.States))) trivial rfl (nT hb5) rfl ?_
      refine Rn.movD trivial rfl ?_
      refine bsplit (a1.States != b2.States) (fun hb6 => ?_) (fun hb6 => ?_)
      · replace h := bT hb6 h
        refine Rn.sk (nw rfl hb6) ?_
        refine Rn.sk (nw rfl hb6) ?_
        refine Rn.sk (nw rfl hb6) ?_
        refine Rn.sk (nw rfl hb6) ?_
        refine Rn.sk (nw rfl hb6) ?_
        refine Rn.sk (nw rfl hb6) ?_
        refine Rn.pickT (v := .d (.bool true)) trivial rfl hb6 rfl ?_
        refine Rn.movD trivial rfl ?_
        refine Rn.sk (nw (b := true) rfl rfl) ?_
        refine Rn.sk (nw (b := true) rfl rfl) ?_
        refine Rn.sk (nw (b := true) rfl rfl) ?_
        refine Rn.sk (nw (b := true) rfl rfl) ?_
        refine Rn.sk (nw (b := true) rfl rfl) ?_
        refine Rn.sk (nw (b := true) rfl rfl) ?_
        refine Rn.sk (nw (b := true) rfl rfl) ?_
        refine Rn.pickT (v := .d (.bool true)) trivial rfl rfl rfl ?_
        refine Rn.nil ?_
        replace h := Option.some.inj h
        subst h
        show WeakSt Γ _ ⟨look _, memOf _ (bxs _) _, _⟩; exact weak_cut [] ⟨(kPtr rfl), ⟨(kPtr rfl), ⟨(.same rfl), trivial⟩⟩⟩ ⟨⟨_, rfl, rfl, (.same rfl)⟩, ⟨⟨_, rfl, rfl, (.same rfl)⟩, trivial⟩⟩ rfl
      · replace h := bF hb6 h
        refine Rn.fldP (o' := 2) (gw rfl hb6) rfl rfl ?_
        refine Rn.load (v := .d (.lst 1 (List.map (eI .i64) a1.Marked))) (gw rfl hb6) rfl (boxOwn rfl) rfl rfl ?_
        refine Rn.fldP (o' := 2) (gw rfl hb6) rfl rfl ?_
        refine Rn.load (v := .d (.lst 1 (List.map (eI .i64) b2.Marked))) (gw rfl hb6) rfl (boxOwn rfl) rfl rfl ?_
        replace h := bnd h
        obtain ⟨x8, h7, h⟩ := h
        refine Rn.call (args := [.d (.lst 1 (List.map (eI .i64) a1.Marked)), .d (.lst 1 (List.map (eI .i64) b2.Marked))]) (gw rfl hb6) rfl (H_overseerref03_SameInts _ _ _ h7) pc9 ?_
        refine Rn.un (gw rfl hb6) rfl rfl ?_
        refine Rn.pickF (v := .d (.bool (!x8))) trivial rfl hb6 rfl ?_
        refine Rn.movD trivial rfl ?_
        refine bsplit x8 (fun hb9 => ?_) (fun hb9 => ?_)
        · replace h := bT hb9 h
          refine Rn.fldP (o' := 3) (gw rfl (nT hb9)) rfl rfl ?_
          refine Rn.load (v := .d (.lst 3 (List.map e_api_Edge a1.Edges))) (gw rfl (nT hb9)) rfl (boxOwn rfl) rfl rfl ?_
          refine Rn.lenD (gw rfl (nT hb9)) rfl ?_
          refine Rn.fldP (o' := 3) (gw rfl (nT hb9)) rfl rfl ?_
          refine Rn.load (v := .d (.lst 3 (List.map e_api_Edge b2.Edges))) (gw rfl (nT hb9)) rfl (boxOwn rfl) rfl rfl ?_
          refine Rn.lenD (gw rfl (nT hb9)) rfl ?_
          refine Rn.bin (gw rfl (nT hb9)) rfl rfl rfl ?_
          refine Rn.pickF (v := .d (.bool ((a1.Edges.length : Int) != (b2.Edges.length : Int)))) trivial rfl (nT hb9) rfl ?_
          refine Rn.nil ?_
          replace h := Option.some.inj h
          subst h
          show WeakSt Γ _ ⟨look _, memOf _ (bxs _) _, _⟩; exact weak_cut [] ⟨(kPtr rfl), ⟨(kPtr rfl), ⟨(.same rfl), trivial⟩⟩⟩ ⟨⟨_, rfl, rfl, (.same rfl)⟩, ⟨⟨_, rfl, rfl, (.same rfl)⟩, trivial⟩⟩ rfl
        · replace h := bF hb9 h
          refine Rn.sk (nw rfl (nF hb9)) ?_
          refine Rn.sk (nw rfl (nF hb9)) ?_
          refine Rn.sk (nw rfl (nF hb9)) ?_
          refine Rn.sk (nw rfl (nF hb9)) ?_
          refine Rn.sk (nw rfl (nF hb9)) ?_
          refine Rn.sk (nw rfl (nF hb9)) ?_
          refine Rn.sk (nw rfl (nF hb9)) ?_
          refine Rn.pickT (v := .d (.bool true)) trivial rfl (nF hb9) rfl ?_
          refine Rn.nil ?_
          replace h := Option.some.inj h
          subst h
          show WeakSt Γ _ ⟨look _, memOf _ (bxs _) _, _⟩; exact weak_cut [] ⟨(kPtr rfl), ⟨(kPtr rfl), ⟨(.same rfl), trivial⟩⟩⟩ ⟨⟨_, rfl, rfl, (.same rfl)⟩, ⟨⟨_, rfl, rfl, (.same rfl)⟩, trivial⟩⟩ rfl
    · replace h := bF hb5 h
      refine Rn.sk (nw rfl (nF hb5)) ?_
      refine Rn.sk (nw rfl (nF hb5)) ?_
      refine Rn.sk (nw rfl (nF hb5)) ?_
      refine Rn.sk (nw rfl (nF hb5)) ?_
      refine Rn.sk (nw rfl (nF hb5)) ?_
      refine Rn.pickT (v := .d (.bool true)) trivial rfl (nF hb5) rfl ?_
      refine Rn.movD trivial rfl ?_
      refine Rn.sk (nw (b := true) rfl rfl) ?_
      refine Rn.sk (nw (b := true) rfl rfl) ?_
      refine Rn.sk (nw (b := true) rfl rfl) ?_
      refine Rn.sk (nw (b := true) rfl rfl) ?_
      refine Rn.sk (nw (b := true) rfl rfl) ?_
      refine Rn.sk (nw (b := true) rfl rfl) ?_
      refine Rn.pickT (v := .d (.bool true)) trivial rfl rfl rfl ?_
      refine Rn.movD trivial rfl ?_
      refine Rn.sk (nw (b := true) rfl rfl) ?_
      refine Rn.sk (nw (b := true) rfl rfl) ?_
      refine Rn.sk (nw (b := true) rfl rfl) ?_
      refine Rn.sk (nw (b := true) rfl rfl) ?_
      refine Rn.sk (nw (b := true) rfl rfl) ?_
      refine Rn.sk (nw (b := true) rfl rfl) ?_
      refine Rn.sk (nw (b := true) rfl rfl) ?_
      refine Rn.pickT (v := .d (.bool true)) trivial rfl rfl rfl ?_
      refine Rn.nil ?_
      replace h := Option.some.inj h
      subst h
      show WeakSt Γ _ ⟨look _, memOf _ (bxs _) _, _⟩; exact weak_cut [] ⟨(kPtr rfl), ⟨(kPtr rfl), ⟨(.same rfl), trivial⟩⟩⟩ ⟨⟨_, rfl, rfl, (.same rfl)⟩, ⟨⟨_, rfl, rfl, (.same rfl)⟩, trivial⟩⟩ rfl
  · obtain ⟨x10, rfl⟩ : ∃ x, x = z := ⟨_, rfl⟩
    refine Tr.cond rfl (fun hb11 => ?_) (fun hb11 => ?_)
    · replace h := bT hb11 h
      refine Tr.seq ?_
      refine Tr.rgn ?_
      refine Rn.movD trivial rfl ?_
      refine Rn.nil ?_
      refine toN ?_
      refine Tr.ret ?_
      replace h := Option.some.inj h
      subst h
      exact ⟨.inr rfl, (.d (.bool false)), rfl, fun _ _ _ _ h => h, trivial, fun k hk => memOf_base hk⟩
    · replace h := bF hb11 h
      refine Tr.skip ?_
      refine toN ?_
      refine Tr.seq ?_
      refine Tr.seq ?_
      refine Tr.rgn ?_
      refine Rn.movD trivial rfl ?_
      refine Rn.nil ?_
      refine toN ?_
      refine Tr.block ?_
      refine Tr.loop (mk := fun (i12 : Int) => ⟨look [(2, .ptr (Γ.n0 + 2) 0), (3, .ptr (Γ.n0 + 3) 0), (5, .d (.int .i64 i12))], memOf Γ.n0 (bxs [(2, [.d (.lst 1 (List.map (eI .i64) a1.Alphabet)), .d (.int .i64 a1.States), .d (.lst 1 (List.map (eI .i64) a1.Marked)), .d (.lst 3 (List.map e_api_Edge a1.Edges))]), (3, [.d (.lst 1 (List.map (eI .i64) b2.Alphabet)), .d (.int .i64 b2.States), .d (.lst 1 (List.map (eI .i64) b2.Marked)), .d (.lst 3 (List.map e_api_Edge b2.Edges))])]) M, Γ.n0 + 54⟩) h (by show WeakSt Γ (clean _ _ _) ⟨look _, memOf _ (bxs _) _, _⟩; exact weak_clean ⟨(kPtr rfl), ⟨(kPtr rfl), ⟨(.same rfl), trivial⟩⟩⟩ ⟨⟨_, rfl, rfl, (.same rfl)⟩, ⟨⟨_, rfl, rfl, (.same rfl)⟩, trivial⟩⟩ rfl) (fun k13 z h => ?_)
      · obtain ⟨i12, rfl⟩ : ∃ x, x = z := ⟨_, rfl⟩
        replace h : _ = some _ := h
        refine Tr.seq ?_
        refine Tr.seq ?_
        refine Tr.rgn ?_
        refine Rn.movD trivial rfl ?_
        refine Rn.fldP (o' := 3) trivial rfl rfl ?_
        refine Rn.load (v := .d (.lst 3 (List.map e_api_Edge a1.Edges))) trivial rfl (boxOwn rfl) rfl rfl ?_
        refine Rn.lenD trivial rfl ?_
        refine Rn.bin trivial rfl rfl rfl ?_
        refine Rn.nil ?_
        refine toN ?_
        refine Tr.cond rfl (fun hb14 => ?_) (fun hb14 => ?_)
        · replace h := ifT hb14 h
          refine Tr.skip ?_
          refine toN ?_
          refine Tr.seq ?_
          refine Tr.block ?_
          refine Tr.seq ?_
          refine Tr.rgnD (by decide) ?_
          refine Rn.fldP (o' := 3) trivial rfl rfl ?_
          refine Rn.load (v := .d (.lst 3 (List.map e_api_Edge a1.Edges))) trivial rfl (boxOwn rfl) rfl rfl ?_
          refine Rn.movD trivial rfl ?_
          replace h := bnd h
          obtain ⟨x15, h16, h⟩ := h
          refine Rn.idxD (e := e_api_Edge) trivial rfl rfl h16 ?_
          refine Rn.loadCA (vs := [.d (.int .i64 x15.From), .d (.int .i64 x15.Event), .d (.int .i64 x15.To)]) trivial rfl rfl rfl ?_
          refine Rn.fldP (o' := 3) trivial rfl rfl ?_
          refine Rn.load (v := .d (.lst 3 (List.map e_api_Edge b2.Edges))) trivial rfl (boxOwn rfl) rfl rfl ?_
          refine Rn.movD trivial rfl ?_
          replace h := bnd h
          obtain ⟨x17, h18, h⟩ := h
          refine Rn.idxD (e := e_api_Edge) trivial rfl rfl h18 ?_
          refine Rn.loadCA (vs := [.d (.int .i64 x17.From), .d (.int .i64 x17.Event), .d (.int .i64 x17.To)]) trivial rfl rfl rfl ?_
          refine Rn.eqa (r := ((x15.From == x17.From) && ((x15.Event == x17.Event) && ((x15.To == x17.To) && true)))) trivial rfl rfl rfl ?_
          refine Rn.nil ⟨rfl, ?_⟩
          refine toN ?_
          refine Tr.cond rfl (fun hb19 => ?_) (fun hb19 => ?_)
          · have hb19 := nT' hb19
            replace h := bF hb19 h
            refine Tr.seq ?_
            refine Tr.rgn ?_
            refine Rn.movD trivial rfl ?_
            refine Rn.nil ?_
            refine toN ?_
            refine Tr.ret ?_
            replace h := Option.some.inj h
            subst h
            exact ⟨.inr rfl, (.d (.bool false)), rfl, fun _ _ _ _ h => h, trivial, fun k hk => memOf_base hk⟩
          · have hb19 := nF' hb19
            replace h := bT hb19 h
            refine Tr.skip ?_
            refine toN ?_
            refine Tr.rgn ?_
            refine Rn.movD trivial rfl ?_
            refine Rn.bin trivial rfl rfl rfl ?_
            refine Rn.movD trivial rfl ?_
            refine Rn.nil ?_
            exact ⟨_, h, (by show WeakSt Γ (clean _ _ _) ⟨look _, memOf _ (bxs _) _, _⟩; exact weak_clean ⟨(kPtr rfl), ⟨(kPtr rfl), ⟨(.same rfl), trivial⟩⟩⟩ ⟨⟨_, rfl, rfl, (.same rfl)⟩, ⟨⟨_, rfl, rfl, (.same rfl)⟩, trivial⟩⟩ rfl)⟩
        · replace h := ifF hb14 h
          refine Tr.exit ?_
          refine toN ?_
          refine Tr.seq ?_
          refine Tr.rgn ?_
          refine Rn.movD trivial rfl ?_
          refine Rn.nil ?_
          refine toN ?_
          refine Tr.ret ?_
          replace h := Option.some.inj h
          subst h
          exact ⟨.inr rfl, (.d (.bool true)), rfl, fun _ _ _ _ h => h, trivial, fun k hk => memOf_base hk⟩

theorem overseerlaw03_known_walk {P : Program} {c : Nat} {f_automaton_Words : api_Automaton → Int → Bool → Option ((List (List Int)) × Int)} {f_automaton_Relabel : api_Automaton → (List Int) → Option (api_Automaton × Int)} {f_overseerref03_Same : api_Automaton → api_Automaton → Option Bool} {f_automaton_Canonical : api_Automaton → Option (api_Automaton × Int)} {f_automaton_Run : api_Automaton → Int → (List Int) → Option (Int × Int × Int)} {f_overseerref03_SameInts : (List Int) → (List Int) → Option Bool} {f_overseerlaw03_example : Option api_Automaton}
    (H_automaton_Words : K_automaton_Words P 16 f_automaton_Words)
    (H_automaton_Relabel : K_automaton_Relabel P 20 f_automaton_Relabel)
    (H_overseerref03_Same : K_overseerref03_Same P 23 f_overseerref03_Same)
    (H_automaton_Canonical : K_automaton_Canonical P 29 f_automaton_Canonical)
    (H_automaton_Run : K_automaton_Run P 34 f_automaton_Run)
    (H_overseerref03_SameInts : K_overseerref03_SameInts P 38 f_overseerref03_SameInts)
    (H_overseerlaw03_example : K_overseerlaw03_example P 46 f_overseerlaw03_example) (hcf : compFn P c = some F_overseerlaw03_known) : K_overseerlaw03_known P c (f_overseerlaw03_known f_automaton_Words f_automaton_Relabel f_overseerref03_Same f_automaton_Canonical f_automaton_Run f_overseerref03_SameInts f_overseerlaw03_example) := by
  intro  r h
  refine fn_trP hcf rfl fun Γ M hP hnt hM => ?_
  subst hP
  refine Tr.init [] rfl ?_
  unfold f_overseerlaw03_known at h
  unfold F_overseerlaw03_known
  refine Tr.seq ?_
  refine Tr.rgn ?_
  refine Rn.movD trivial rfl ?_
  refine Rn.nil ?_
  refine toN ?_
  refine Tr.seq ?_
  refine Tr.rgn ?_
  replace h := bnd h
  obtain ⟨x2, h1, h⟩ := h
  refine Rn.call (args := []) trivial rfl (H_overseerlaw03_example _ h1) pc9 ?_
  replace h := bnd h
  obtain ⟨⟨r4, r5⟩, h3, h⟩ := h
  refine Rn.call (args := [.agg [.d (.lst 1 (List.map (eI .i64) x2.Alphabet)), .d (.int .i64 x2.States), .d (.lst 1 (List.map (eI .i64) x2.Marked)), .d (.lst 3 (List.map e_api_Edge x2.Edges))]]) trivial rfl (H_automaton_Canonical _ _ h3) pc9 ?_
  refine Rn.mov (v := .tup [.agg [.d (.lst 1 (List.map (eI .i64) r4.Alphabet)), .d (.int .i64 r4.States), .d (.lst 1 (List.map (eI .i64) r4.Marked)), .d (.lst 3 (List.map e_api_Edge r4.Edges))], .d (.int .i64 r5)]) trivial rfl ?_
  refine Rn.ext (v := .agg [.d (.lst 1 (List.map (eI .i64) r4.Alphabet)), .d (.int .i64 r4.States), .d (.lst 1 (List.map (eI .i64) r4.Marked)), .d (.lst 3 (List.map e_api_Edge r4.Edges))]) (vs := [.agg [.d (.lst 1 (List.map (eI .i64) r4.Alphabet)), .d (.int .i64 r4.States), .d (.lst 1 (List.map (eI .i64) r4.Marked)), .d (.lst 3 (List.map e_api_Edge r4.Edges))], .d (.int .i64 r5)]) trivial rfl rfl rfl ?_
  refine Rn.ext (v := .d (.int .i64 r5)) (vs := [.agg [.d (.lst 1 (List.map (eI .i64) r4.Alphabet)), .d (.int .i64 r4.States), .d (.lst 1 (List.map (eI .i64) r4.Marked)), .d (.lst 3 (List.map e_api_Edge r4.Edges))], .d (.int .i64 r5)]) trivial rfl rfl rfl ?_
  refine Rn.alloc trivial rfl ?_
  refine Rn.store (v := .agg [.d (.lst 1 (List.map (eI .i64) r4.Alphabet)), .d (.int .i64 r4.States), .d (.lst 1 (List.map (eI .i64) r4.Marked)), .d (.lst 3 (List.map e_api_Edge r4.Edges))]) (cs' := [.d (.lst 1 (List.map (eI .i64) r4.Alphabet)), .d (.int .i64 r4.States), .d (.lst 1 (List.map (eI .i64) r4.Marked)), .d (.lst 3 (List.map e_api_Edge r4.Edges))]) trivial rfl rfl rfl rfl rfl rfl ?_
  refine Rn.movD trivial rfl ?_
  refine Rn.nil ?_
  refine toN ?_
  refine Tr.seq ?_
  refine Tr.rgn ?_
  refine Rn.load (v := .agg [.d (.lst 1 (List.map (eI .i64) r4.Alphabet)), .d (.int .i64 r4.States), .d (.lst 1 (List.map (eI .i64) r4.Marked)), .d (.lst 3 (List.map e_api_Edge r4.Edges))]) trivial rfl (boxOwn rfl) rfl rfl ?_
  refine Rn.bslice (xs := [.d (.int .i64 0), .d (.int .i64 0)]) (cs := [.d (.int .i64 0), .d (.int .i64 0)]) trivial rfl rfl rfl rfl ?_
  refine Rn.weak (by show WeakSt Γ _ ⟨look [(0, .d (.bool false)), (1, .ptr (Γ.n0 + 1) 0), (2, .d (.int .i64 r5)), (10, .tup [.agg [.d (.lst 1 (List.map (eI .i64) r4.Alphabet)), .d (.int .i64 r4.States), .d (.lst 1 (List.map (eI .i64) r4.Marked)), .d (.lst 3 (List.map e_api_Edge r4.Edges))], .d (.int .i64 r5)]), (11, .agg [.d (.lst 1 (List.map (eI .i64) x2.Alphabet)), .d (.int .i64 x2.States), .d (.lst 1 (List.map (eI .i64) x2.Marked)), .d (.lst 3 (List.map e_api_Edge x2.Edges))]), (12, .tup [.agg [.d (.lst 1 (List.map (eI .i64) r4.Alphabet)), .d (.int .i64 r4.States), .d (.lst 1 (List.map (eI .i64) r4.Marked)), .d (.lst 3 (List.map e_api_Edge r4.Edges))], .d (.int .i64 r5)]), (13, .agg [.d (.lst 1 (List.map (eI .i64) r4.Alphabet)), .d (.int .i64 r4.States), .d (.lst 1 (List.map (eI .i64) r4.Marked)), .d (.lst 3 (List.map e_api_Edge r4.Edges))]), (14, .d (.int .i64 r5)), (16, .agg [.d (.lst 1 (List.map (eI .i64) r4.Alphabet)), .d (.int .i64 r4.States), .d (.lst 1 (List.map (eI .i64) r4.Marked)), .d (.lst 3 (List.map e_api_Edge r4.Edges))]), (17, .d (.lst 1 (List.map (eI .i64) [0, 0])))], memOf Γ.n0 (bxs [(1, [.d (.lst 1 (List.map (eI .i64) r4.Alphabet)), .d (.int .i64 r4.States), .d (.lst 1 (List.map (eI .i64) r4.Marked)), .d (.lst 3 (List.map e_api_Edge r4.Edges))])]) M, Γ.n0 + 99⟩; exact weak_freeze 17 [.int .i64 0, .int .i64 0] rfl rfl ⟨(.same rfl), ⟨(fPtr rfl), ⟨(.same rfl), ⟨(.same rfl), ⟨(.same rfl), ⟨(.same rfl), ⟨(.same rfl), ⟨(.same rfl), ⟨(.same rfl), ⟨(fSl rfl rfl), trivial⟩⟩⟩⟩⟩⟩⟩⟩⟩⟩ ⟨⟨_, rfl, rfl, (.same rfl)⟩, trivial⟩ rfl) ?_
  replace h := bnd h
  obtain ⟨⟨r7, r8, r9⟩, h6, h⟩ := h
  refine Rn.call (args := [.agg [.d (.lst 1 (List.map (eI .i64) r4.Alphabet)), .d (.int .i64 r4.States), .d (.lst 1 (List.map (eI .i64) r4.Marked)), .d (.lst 3 (List.map e_api_Edge r4.Edges))], .d (.int .i64 0), .d (.lst 1 (List.map (eI .i64) [0, 0]))]) trivial rfl (H_automaton_Run _ _ _ _ h6) pc9 ?_
  refine Rn.mov (v := .tup [.d (.int .i64 r7), .d (.int .i64 r8), .d (.int .i64 r9)]) trivial rfl ?_
  refine Rn.ext (v := .d (.int .i64 r7)) (vs := [.d (.int .i64 r7), .d (.int .i64 r8), .d (.int .i64 r9)]) trivial rfl rfl rfl ?_
  refine Rn.ext (v := .d (.int .i64 r8)) (vs := [.d (.int .i64 r7), .d (.int .i64 r8), .d (.int .i64 r9)]) trivial rfl rfl rfl ?_
  refine Rn.ext (v := .d (.int .i64 r9)) (vs := [.d (.int .i64 r7), .d (.int .i64 r8), .d (.int .i64 r9)]) trivial rfl rfl rfl ?_
  refine Rn.movD trivial rfl ?_
  refine Rn.movD trivial rfl ?_
  refine Rn.movD trivial rfl ?_
  refine Rn.nil ?_
  refine toN ?_
  refine Tr.seq ?_
  refine Tr.rgn ?_
  refine Rn.load (v := .agg [.d (.lst 1 (List.map (eI .i64) r4.Alphabet)), .d (.int .i64 r4.States), .d (.lst 1 (List.map (eI .i64) r4.Marked)), .d (.lst 3 (List.map e_api_Edge r4.Edges))]) trivial rfl (boxOwn rfl) rfl rfl ?_
  replace h := bnd h
  obtain ⟨⟨r11, r12⟩, h10, h⟩ := h
  refine Rn.call (args := [.agg [.d (.lst 1 (List.map (eI .i64) r4.Alphabet)), .d (.int .i64 r4.States), .d (.lst 1 (List.map (eI .i64) r4.Marked)), .d (.lst 3 (List.map e_api_Edge r4.Edges))], .d (.int .i64 2), .d (.bool true)]) trivial rfl (H_automaton_Words _ _ _ _ h10) pc9 ?_
  refine Rn.mov (v := .tup [.d (.lst 1 (List.map (eL 1 (eI .i64)) r11)), .d (.int .i64 r12)]) trivial rfl ?_
  refine Rn.extTD (vs := [.d (.lst 1 (List.map (eL 1 (eI .i64)) r11)), .d (.int .i64 r12)]) trivial rfl rfl rfl ?_
  refine Rn.ext (v := .d (.int .i64 r12)) (vs := [.d (.lst 1 (List.map (eL 1 (eI .i64)) r11)), .d (.int .i64 r12)]) trivial rfl rfl rfl ?_
  refine Rn.movTD trivial rfl ?_
  refine Rn.movD trivial rfl ?_
  refine Rn.nil ?_
  refine toN ?_
  refine Tr.seq ?_
  refine Tr.rgn ?_
  refine Rn.load (v := .agg [.d (.lst 1 (List.map (eI .i64) r4.Alphabet)), .d (.int .i64 r4.States), .d (.lst 1 (List.map (eI .i64) r4.Marked)), .d (.lst 3 (List.map e_api_Edge r4.Edges))]) trivial rfl (boxOwn rfl) rfl rfl ?_
  refine Rn.bslice (xs := [.d (.int .i64 3), .d (.int .i64 1)]) (cs := [.d (.int .i64 3), .d (.int .i64 1)]) trivial rfl rfl rfl rfl ?_
  refine Rn.weak (by show WeakSt Γ _ ⟨look [(0, .d (.bool false)), (1, .ptr (Γ.n0 + 1) 0), (2, .d (.int .i64 r5)), (3, .d (.int .i64 r7)), (4, .d (.int .i64 r8)), (5, .d (.int .i64 r9)), (6, .d (.lst 1 (List.map (eL 1 (eI .i64)) r11))), (7, .d (.int .i64 r12)), (10, .tup [.agg [.d (.lst 1 (List.map (eI .i64) r4.Alphabet)), .d (.int .i64 r4.States), .d (.lst 1 (List.map (eI .i64) r4.Marked)), .d (.lst 3 (List.map e_api_Edge r4.Edges))], .d (.int .i64 r5)]), (11, .agg [.d (.lst 1 (List.map (eI .i64) x2.Alphabet)), .d (.int .i64 x2.States), .d (.lst 1 (List.map (eI .i64) x2.Marked)), .d (.lst 3 (List.map e_api_Edge x2.Edges))]), (12, .tup [.agg [.d (.lst 1 (List.map (eI .i64) r4.Alphabet)), .d (.int .i64 r4.States), .d (.lst 1 (List.map (eI .i64) r4.Marked)), .d (.lst 3 (List.map e_api_Edge r4.Edges))], .d (.int .i64 r5)]), (13, .agg [.d (.lst 1 (List.map (eI .i64) r4.Alphabet)), .d (.int .i64 r4.States), .d (.lst 1 (List.map (eI .i64) r4.Marked)), .d (.lst 3 (List.map e_api_Edge r4.Edges))]), (14, .d (.int .i64 r5)), (15, .tup [.d (.int .i64 r7), .d (.int .i64 r8), .d (.int .i64 r9)]), (16, .agg [.d (.lst 1 (List.map (eI .i64) r4.Alphabet)), .d (.int .i64 r4.States), .d (.lst 1 (List.map (eI .i64) r4.Marked)), .d (.lst 3 (List.map e_api_Edge r4.Edges))]), (17, .d (.lst 1 (List.map (eI .i64) [0, 0]))), (18, .tup [.d (.int .i64 r7), .d (.int .i64 r8), .d (.int .i64 r9)]), (19, .d (.int .i64 r7)), (20, .d (.int .i64 r8)), (21, .d (.int .i64 r9)), (22, .tup [.d (.lst 1 (List.map (eL 1 (eI .i64)) r11)), .d (.int .i64 r12)]), (23, .agg [.d (.lst 1 (List.map (eI .i64) r4.Alphabet)), .d (.int .i64 r4.States), .d (.lst 1 (List.map (eI .i64) r4.Marked)), .d (.lst 3 (List.map e_api_Edge r4.Edges))]), (24, .tup [.own 1 (List.map (eL 1 (eI .i64)) r11), .d (.int .i64 r12)]), (25, .d (.lst 1 (List.map (eL 1 (eI .i64)) r11))), (26, .d (.int .i64 r12)), (28, .agg [.d (.lst 1 (List.map (eI .i64) r4.Alphabet)), .d (.int .i64 r4.States), .d (.lst 1 (List.map (eI .i64) r4.Marked)), .d (.lst 3 (List.map e_api_Edge r4.Edges))]), (29, .d (.lst 1 (List.map (eI .i64) [3, 1])))], memOf Γ.n0 (bxs [(1, [.d (.lst 1 (List.map (eI .i64) r4.Alphabet)), .d (.int .i64 r4.States), .d (.lst 1 (List.map (eI .i64) r4.Marked)), .d (.lst 3 (List.map e_api_Edge r4.Edges))])]) M, Γ.n0 + 99⟩; exact weak_freeze 29 [.int .i64 3, .int .i64 1] rfl rfl ⟨(.same rfl), ⟨(fPtr rfl), ⟨(.same rfl), ⟨(.same rfl), ⟨(.same rfl), ⟨(.same rfl), ⟨(.same rfl), ⟨(.same rfl), ⟨(.same rfl), ⟨(.same rfl), ⟨(.same rfl), ⟨(.same rfl), ⟨(.same rfl), ⟨(.same rfl), ⟨(.same rfl), ⟨(.same rfl), ⟨(.same rfl), ⟨(.same rfl), ⟨(.same rfl), ⟨(.same rfl), ⟨(.same rfl), ⟨(.same rfl), ⟨(.same rfl), ⟨(.same rfl), ⟨(.same rfl), ⟨(.same rfl), ⟨(fSl rfl rfl), trivial⟩⟩⟩⟩⟩⟩⟩⟩⟩⟩⟩⟩⟩⟩⟩⟩⟩⟩⟩⟩⟩⟩⟩⟩⟩⟩⟩ ⟨⟨_, rfl, rfl, (.same rfl)⟩, trivial⟩ rfl) ?_
  replace h := bnd h
  obtain ⟨⟨r14, r15⟩, h13, h⟩ := h
  refine Rn.call (args := [.agg [.d (.lst 1 (List.map (eI .i64) r4.Alphabet)), .d (.int .i64 r4.States), .d (.lst 1 (List.map (eI .i64) r4.Marked)), .d (.lst 3 (List.map e_api_Edge r4.Edges))], .d (.lst 1 (List.map (eI .i64) [3, 1]))]) trivial rfl (H_automaton_Relabel _ _ _ h13) pc9 ?_
  refine Rn.mov (v := .tup [.agg [.d (.lst 1 (List.map (eI .i64) r14.Alphabet)), .d (.int .i64 r14.States), .d (.lst 1 (List.map (eI .i64) r14.Marked)), .d (.lst 3 (List.map e_api_Edge r14.Edges))], .d (.int .i64 r15)]) trivial rfl ?_
  refine Rn.ext (v := .agg [.d (.lst 1 (List.map (eI .i64) r14.Alphabet)), .d (.int .i64 r14.States), .d (.lst 1 (List.map (eI .i64) r14.Marked)), .d (.lst 3 (List.map e_api_Edge r14.Edges))]) (vs := [.agg [.d (.lst 1 (List.map (eI .i64) r14.Alphabet)), .d (.int .i64 r14.States), .d (.lst 1 (List.map (eI .i64) r14.Marked)), .d (.lst 3 (List.map e_api_Edge r14.Edges))], .d (.int .i64 r15)]) trivial rfl rfl rfl ?_
  refine Rn.ext (v := .d (.int .i64 r15)) (vs := [.agg [.d (.lst 1 (List.map (eI .i64) r14.Alphabet)), .d (.int .i64 r14.States), .d (.lst 1 (List.map (eI .i64) r14.Marked)), .d (.lst 3 (List.map e_api_Edge r14.Edges))], .d (.int .i64 r15)]) trivial rfl rfl rfl ?_
  refine Rn.alloc trivial rfl ?_
  refine Rn.store (v := .agg [.d (.lst 1 (List.map (eI .i64) r14.Alphabet)), .d (.int .i64 r14.States), .d (.lst 1 (List.map (eI .i64) r14.Marked)), .d (.lst 3 (List.map e_api_Edge r14.Edges))]) (cs' := [.d (.lst 1 (List.map (eI .i64) r14.Alphabet)), .d (.int .i64 r14.States), .d (.lst 1 (List.map (eI .i64) r14.Marked)), .d (.lst 3 (List.map e_api_Edge r14.Edges))]) trivial rfl rfl rfl rfl rfl rfl ?_
  refine Rn.movD trivial rfl ?_
  refine Rn.nil ?_
  refine toN ?_
  refine Tr.cutB (fun (x39 : Bool) => ⟨look [(0, .d (.bool x39))], memOf Γ.n0 (bxs [(1, [.d (.lst 1 (List.map (eI .i64) r4.Alphabet)), .d (.int .i64 r4.States), .d (.lst 1 (List.map (eI .i64) r4.Marked)), .d (.lst 3 (List.map e_api_Edge r4.Edges))]), (8, [.d (.lst 1 (List.map (eI .i64) r14.Alphabet)), .d (.int .i64 r14.States), .d (.lst 1 (List.map (eI .i64) r14.Marked)), .d (.lst 3 (List.map e_api_Edge r14.Edges))])]) M, Γ.n0 + 99⟩) h (fun z h => ?_) (fun z h => ?_)
  · refine Tr.rgn ?_
    refine Rn.movD trivial rfl ?_
    refine Rn.bin trivial rfl rfl rfl ?_
    refine Rn.movD trivial rfl ?_
    refine bsplit (r5 == 0) (fun hb16 => ?_) (fun hb16 => ?_)
    · replace h := bT hb16 h
      refine Rn.load (v := .agg [.d (.lst 1 (List.map (eI .i64) r4.Alphabet)), .d (.int .i64 r4.States), .d (.lst 1 (List.map (eI .i64) r4.Marked)), .d (.lst 3 (List.map e_api_Edge r4.Edges))]) (gw rfl hb16) rfl (boxOwn rfl) rfl rfl ?_
      refine Rn.bslice (xs := [.d (.int .i64 0), .d (.int .i64 2)]) (cs := [.d (.int .i64 0), .d (.int .i64 2)]) (gw rfl hb16) rfl rfl rfl rfl ?_
      refine Rn.bslice (xs := [.d (.int .i64 1)]) (cs := [.d (.int .i64 1)]) (gw rfl hb16) rfl rfl rfl rfl ?_
      refine Rn.build (v := .agg [.d (.int .i64 0), .d (.int .i64 0), .d (.int .i64 1)]) (gw rfl hb16) rfl ?_
      refine Rn.build (v := .agg [.d (.int .i64 0), .d (.int .i64 2), .d (.int .i64 0)]) (gw rfl hb16) rfl ?_
      refine Rn.build (v := .agg [.d (.int .i64 1), .d (.int .i64 2), .d (.int .i64 0)]) (gw rfl hb16) rfl ?_
      refine Rn.bslice (xs := [.agg [.d (.int .i64 0), .d (.int .i64 0), .d (.int .i64 1)], .agg [.d (.int .i64 0), .d (.int .i64 2), .d (.int .i64 0)], .agg [.d (.int .i64 1), .d (.int .i64 2), .d (.int .i64 0)]]) (cs := [.d (.int .i64 0), .d (.int .i64 0), .d (.int .i64 1), .d (.int .i64 0), .d (.int .i64 2), .d (.int .i64 0), .d (.int .i64 1), .d (.int .i64 2), .d (.int .i64 0)]) (gw rfl hb16) rfl rfl rfl rfl ?_
      refine Rn.build (v := .agg [.sl 1 (Γ.n0 + 37) 0 2 2, .d (.int .i64 2), .sl 1 (Γ.n0 + 38) 0 1 1, .sl 3 (Γ.n0 + 42) 0 3 3]) (gw rfl hb16) rfl ?_
      refine Rn.weak (by show WeakSt Γ _ ⟨look [(0, .d (.bool false)), (1, .ptr (Γ.n0 + 1) 0), (2, .d (.int .i64 r5)), (3, .d (.int .i64 r7)), (4, .d (.int .i64 r8)), (5, .d (.int .i64 r9)), (6, .d (.lst 1 (List.map (eL 1 (eI .i64)) r11))), (7, .d (.int .i64 r12)), (8, .ptr (Γ.n0 + 8) 0), (9, .d (.int .i64 r15)), (10, .tup [.agg [.d (.lst 1 (List.map (eI .i64) r4.Alphabet)), .d (.int .i64 r4.States), .d (.lst 1 (List.map (eI .i64) r4.Marked)), .d (.lst 3 (List.map e_api_Edge r4.Edges))], .d (.int .i64 r5)]), (11, .agg [.d (.lst 1 (List.map (eI .i64) x2.Alphabet)), .d (.int .i64 x2.States), .d (.lst 1 (List.map (eI .i64) x2.Marked)), .d (.lst 3 (List.map e_api_Edge x2.Edges))]), (12, .tup [.agg [.d (.lst 1 (List.map (eI .i64) r4.Alphabet)), .d (.int .i64 r4.States), .d (.lst 1 (List.map (eI .i64) r4.Marked)), .d (.lst 3 (List.map e_api_Edge r4.Edges))], .d (.int .i64 r5)]), (13, .agg [.d (.lst 1 (List.map (eI .i64) r4.Alphabet)), .d (.int .i64 r4.States), .d (.lst 1 (List.map (eI .i64) r4.Marked)), .d (.lst 3 (List.map e_api_Edge r4.Edges))]), (14, .d (.int .i64 r5)), (15, .tup [.d (.int .i64 r7), .d (.int .i64 r8), .d (.int .i64 r9)]), (16, .agg [.d (.lst 1 (List.map (eI .i64) r4.Alphabet)), .d (.int .i64 r4.States), .d (.lst 1 (List.map (eI .i64) r4.Marked)), .d (.lst 3 (List.map e_api_Edge r4.Edges))]), (17, .d (.lst 1 (List.map (eI .i64) [0, 0]))), (18, .tup [.d (.int .i64 r7), .d (.int .i64 r8), .d (.int .i64 r9)]), (19, .d (.int .i64 r7)), (20, .d (.int .i64 r8)), (21, .d (.int .i64 r9)), (22, .tup [.d (.lst 1 (List.map (eL 1 (eI .i64)) r11)), .d (.int .i64 r12)]), (23, .agg [.d (.lst 1 (List.map (eI .i64) r4.Alphabet)), .d (.int .i64 r4.States), .d (.lst 1 (List.map (eI .i64) r4.Marked)), .d (.lst 3 (List.map e_api_Edge r4.Edges))]), (24, .tup [.own 1 (List.map (eL 1 (eI .i64)) r11), .d (.int .i64 r12)]), (25, .d (.lst 1 (List.map (eL 1 (eI .i64)) r11))), (26, .d (.int .i64 r12)), (27, .tup [.agg [.d (.lst 1 (List.map (eI .i64) r14.Alphabet)), .d (.int .i64 r14.States), .d (.lst 1 (List.map (eI .i64) r14.Marked)), .d (.lst 3 (List.map e_api_Edge r14.Edges))], .d (.int .i64 r15)]), (28, .agg [.d (.lst 1 (List.map (eI .i64) r4.Alphabet)), .d (.int .i64 r4.States), .d (.lst 1 (List.map (eI .i64) r4.Marked)), .d (.lst 3 (List.map e_api_Edge r4.Edges))]), (29, .d (.lst 1 (List.map (eI .i64) [3, 1]))), (30, .tup [.agg [.d (.lst 1 (List.map (eI .i64) r14.Alphabet)), .d (.int .i64 r14.States), .d (.lst 1 (List.map (eI .i64) r14.Marked)), .d (.lst 3 (List.map e_api_Edge r14.Edges))], .d (.int .i64 r15)]), (31, .agg [.d (.lst 1 (List.map (eI .i64) r14.Alphabet)), .d (.int .i64 r14.States), .d (.lst 1 (List.map (eI .i64) r14.Marked)), .d (.lst 3 (List.map e_api_Edge r14.Edges))]), (32, .d (.int .i64 r15)), (33, .d (.int .i64 r5)), (34, .d (.bool (r5 == 0))), (35, .d (.bool (r5 == 0))), (36, .agg [.d (.lst 1 (List.map (eI .i64) r4.Alphabet)), .d (.int .i64 r4.States), .d (.lst 1 (List.map (eI .i64) r4.Marked)), .d (.lst 3 (List.map e_api_Edge r4.Edges))]), (37, .d (.lst 1 (List.map (eI .i64) [0, 2]))), (38, .sl 1 (Γ.n0 + 38) 0 1 1), (39, .agg [.d (.int .i64 0), .d (.int .i64 0), .d (.int .i64 1)]), (40, .agg [.d (.int .i64 0), .d (.int .i64 2), .d (.int .i64 0)]), (41, .agg [.d (.int .i64 1), .d (.int .i64 2), .d (.int .i64 0)]), (42, .sl 3 (Γ.n0 + 42) 0 3 3), (43, .agg [.d (.lst 1 (List.map (eI .i64) [0, 2])), .d (.int .i64 2), .sl 1 (Γ.n0 + 38) 0 1 1, .sl 3 (Γ.n0 + 42) 0 3 3])], memOf Γ.n0 (bxs [(1, [.d (.lst 1 (List.map (eI .i64) r4.Alphabet)), .d (.int .i64 r4.States), .d (.lst 1 (List.map (eI .i64) r4.Marked)), .d (.lst 3 (List.map e_api_Edge r4.Edges))]), (8, [.d (.lst 1 (List.map (eI .i64) r14.Alphabet)), .d (.int .i64 r14.States), .d (.lst 1 (List.map (eI .i64) r14.Marked)), .d (.lst 3 (List.map e_api_Edge r14.Edges))]), (38, [.d (.int .i64 1)]), (42, [.d (.int .i64 0), .d (.int .i64 0), .d (.int .i64 1), .d (.int .i64 0), .d (.int .i64 2), .d (.int .i64 0), .d (.int .i64 1), .d (.int .i64 2), .d (.int .i64 0)])]) M, Γ.n0 + 99⟩; exact weak_freeze 37 [.int .i64 0, .int .i64 2] rfl rfl ⟨(.same rfl), ⟨(fPtr rfl), ⟨(.same rfl), ⟨(.same rfl), ⟨(.same rfl), ⟨(.same rfl), ⟨(.same rfl), ⟨(.same rfl), ⟨(fPtr rfl), ⟨(.same rfl), ⟨(.same rfl), ⟨(.same rfl), ⟨(.same rfl), ⟨(.same rfl), ⟨(.same rfl), ⟨(.same rfl), ⟨(.same rfl), ⟨(.same rfl), ⟨(.same rfl), ⟨(.same rfl), ⟨(.same rfl), ⟨(.same rfl), ⟨(.same rfl), ⟨(.same rfl), ⟨(.same rfl), ⟨(.same rfl), ⟨(.same rfl), ⟨(.same rfl), ⟨(.same rfl), ⟨(.same rfl), ⟨(.same rfl), ⟨(.same rfl), ⟨(.same rfl), ⟨(.same rfl), ⟨(.same rfl), ⟨(.same rfl), ⟨(.same rfl), ⟨(fSl rfl rfl), ⟨(fSlO rfl), ⟨(.same rfl), ⟨(.same rfl), ⟨(.same rfl), ⟨(fSlO rfl), ⟨(WkV.agg (.cons (fSl rfl rfl) (.cons (.same rfl) (.cons (fSlO rfl) (.cons (fSlO rfl) .nil))))), trivial⟩⟩⟩⟩⟩⟩⟩⟩⟩⟩⟩⟩⟩⟩⟩⟩⟩⟩⟩⟩⟩⟩⟩⟩⟩⟩⟩⟩⟩⟩⟩⟩⟩⟩⟩⟩⟩⟩⟩⟩⟩⟩⟩⟩ ⟨⟨_, rfl, rfl, (.same rfl)⟩, ⟨⟨_, rfl, rfl, (.same rfl)⟩, ⟨⟨_, rfl, rfl, (.same rfl)⟩, ⟨⟨_, rfl, rfl, (.same rfl)⟩, trivial⟩⟩⟩⟩ rfl) ?_
      refine Rn.weak (by show WeakSt Γ _ ⟨look [(0, .d (.bool false)), (1, .ptr (Γ.n0 + 1) 0), (2, .d (.int .i64 r5)), (3, .d (.int .i64 r7)), (4, .d (.int .i64 r8)), (5, .d (.int .i64 r9)), (6, .d (.lst 1 (List.map (eL 1 (eI .i64)) r11))), (7, .d (.int .i64 r12)), (8, .ptr (Γ.n0 + 8) 0), (9, .d (.int .i64 r15)), (10, .tup [.agg [.d (.lst 1 (List.map (eI .i64) r4.Alphabet)), .d (.int .i64 r4.States), .d (.lst 1 (List.map (eI .i64) r4.Marked)), .d (.lst 3 (List.map e_api_Edge r4.Edges))], .d (.int .i64 r5)]), (11, .agg [.d (.lst 1 (List.map (eI .i64) x2.Alphabet)), .d (.int .i64 x2.States), .d (.lst 1 (List.map (eI .i64) x2.Marked)), .d (.lst 3 (List.map e_api_Edge x2.Edges))]), (12, .tup [.agg [.d (.lst 1 (List.map (eI .i64) r4.Alphabet)), .d (.int .i64 r4.States), .d (.lst 1 (List.map (eI .i64) r4.Marked)), .d (.lst 3 (List.map e_api_Edge r4.Edges))], .d (.int .i64 r5)]), (13, .agg [.d (.lst 1 (List.map (eI .i64) r4.Alphabet)), .d (.int .i64 r4.States), .d (.lst 1 (List.map (eI .i64) r4.Marked)), .d (.lst 3 (List.map e_api_Edge r4.Edges))]), (14, .d (.int .i64 r5)), (15, .tup [.d (.int .i64 r7), .d (.int .i64 r8), .d (.int .i64 r9)]), (16, .agg [.d (.lst 1 (List.map (eI .i64) r4.Alphabet)), .d (.int .i64 r4.States), .d (.lst 1 (List.map (eI .i64) r4.Marked)), .d (.lst 3 (List.map e_api_Edge r4.Edges))]), (17, .d (.lst 1 (List.map (eI .i64) [0, 0]))), (18, .tup [.d (.int .i64 r7), .d (.int .i64 r8), .d (.int .i64 r9)]), (19, .d (.int .i64 r7)), (20, .d (.int .i64 r8)), (21, .d (.int .i64 r9)), (22, .tup [.d (.lst 1 (List.map (eL 1 (eI .i64)) r11)), .d (.int .i64 r12)]), (23, .agg [.d (.lst 1 (List.map (eI .i64) r4.Alphabet)), .d (.int .i64 r4.States), .d (.lst 1 (List.map (eI .i64) r4.Marked)), .d (.lst 3 (List.map e_api_Edge r4.Edges))]), (24, .tup [.own 1 (List.map (eL 1 (eI .i64)) r11), .d (.int .i64 r12)]), (25, .d (.lst 1 (List.map (eL 1 (eI .i64)) r11))), (26, .d (.int .i64 r12)), (27, .tup [.agg [.d (.lst 1 (List.map (eI .i64) r14.Alphabet)), .d (.int .i64 r14.States), .d (.lst 1 (List.map (eI .i64) r14.Marked)), .d (.lst 3 (List.map e_api_Edge r14.Edges))], .d (.int .i64 r15)]), (28, .agg [.d (.lst 1 (List.map (eI .i64) r4.Alphabet)), .d (.int .i64 r4.States), .d (.lst 1 (List.map (eI .i64) r4.Marked)), .d (.lst 3 (List.map e_api_Edge r4.Edges))]), (29, .d (.lst 1 (List.map (eI .i64) [3, 1]))), (30, .tup [.agg [.d (.lst 1 (List.map (eI .i64) r14.Alphabet)), .d (.int .i64 r14.States), .d (.lst 1 (List.map (eI .i64) r14.Marked)), .d (.lst 3 (List.map e_api_Edge r14.Edges))], .d (.int .i64 r15)]), (31, .agg [.d (.lst 1 (List.map (eI .i64) r14.Alphabet)), .d (.int .i64 r14.States), .d (.lst 1 (List.map (eI .i64) r14.Marked)), .d (.lst 3 (List.map e_api_Edge r14.Edges))]), (32, .d (.int .i64 r15)), (33, .d (.int .i64 r5)), (34, .d (.bool (r5 == 0))), (35, .d (.bool (r5 == 0))), (36, .agg [.d (.lst 1 (List.map (eI .i64) r4.Alphabet)), .d (.int .i64 r4.States), .d (.lst 1 (List.map (eI .i64) r4.Marked)), .d (.lst 3 (List.map e_api_Edge r4.Edges))]), (37, .d (.lst 1 (List.map (eI .i64) [0, 2]))), (38, .d (.lst 1 (List.map (eI .i64) [1]))), (39, .agg [.d (.int .i64 0), .d (.int .i64 0), .d (.int .i64 1)]), (40, .agg [.d (.int .i64 0), .d (.int .i64 2), .d (.int .i64 0)]), (41, .agg [.d (.int .i64 1), .d (.int .i64 2), .d (.int .i64 0)]), (42, .sl 3 (Γ.n0 + 42) 0 3 3), (43, .agg [.d (.lst 1 (List.map (eI .i64) [0, 2])), .d (.int .i64 2), .d (.lst 1 (List.map (eI .i64) [1])), .sl 3 (Γ.n0 + 42) 0 3 3])], memOf Γ.n0 (bxs [(1, [.d (.lst 1 (List.map (eI .i64) r4.Alphabet)), .d (.int .i64 r4.States), .d (.lst 1 (List.map (eI .i64) r4.Marked)), .d (.lst 3 (List.map e_api_Edge r4.Edges))]), (8, [.d (.lst 1 (List.map (eI .i64) r14.Alphabet)), .d (.int .i64 r14.States), .d (.lst 1 (List.map (eI .i64) r14.Marked)), .d (.lst 3 (List.map e_api_Edge r14.Edges))]), (42, [.d (.int .i64 0), .d (.int .i64 0), .d (.int .i64 1), .d (.int .i64 0), .d (.int .i64 2), .d (.int .i64 0), .d (.int .i64 1), .d (.int .i64 2), .d (.int .i64 0)])]) M, Γ.n0 + 99⟩; exact weak_freeze 38 [.int .i64 1] rfl rfl ⟨(.same rfl), ⟨(fPtr rfl), ⟨(.same rfl), ⟨(.same rfl), ⟨(.same rfl), ⟨(.same rfl), ⟨(.same rfl), ⟨(.same rfl), ⟨(fPtr rfl), ⟨(.same rfl), ⟨(.same rfl), ⟨(.same rfl), ⟨(.same rfl), ⟨(.same rfl), ⟨(.same rfl), ⟨(.same rfl), ⟨(.same rfl), ⟨(.same rfl), ⟨(.same rfl), ⟨(.same rfl), ⟨(.same rfl), ⟨(.same rfl), ⟨(.same rfl), ⟨(.same rfl), ⟨(.same rfl), ⟨(.same rfl), ⟨(.same rfl), ⟨(.same rfl), ⟨(.same rfl), ⟨(.same rfl), ⟨(.same rfl), ⟨(.same rfl), ⟨(.same rfl), ⟨(.same rfl), ⟨(.same rfl), ⟨(.same rfl), ⟨(.same rfl), ⟨(.same rfl), ⟨(fSl rfl rfl), ⟨(.same rfl), ⟨(.same rfl), ⟨(.same rfl), ⟨(fSlO rfl), ⟨(WkV.agg (.cons (.same rfl) (.cons (.same rfl) (.cons (fSl rfl rfl) (.cons (fSlO rfl) .nil))))), trivial⟩⟩⟩⟩⟩⟩⟩⟩⟩⟩⟩⟩⟩⟩⟩⟩⟩⟩⟩⟩⟩⟩⟩⟩⟩⟩⟩⟩⟩⟩⟩⟩⟩⟩⟩⟩⟩⟩⟩⟩⟩⟩⟩⟩ ⟨⟨_, rfl, rfl, (.same rfl)⟩, ⟨⟨_, rfl, rfl, (.same rfl)⟩, ⟨⟨_, rfl, rfl, (.same rfl)⟩, trivial⟩⟩⟩ rfl) ?_
      refine Rn.weak (by show WeakSt Γ _ ⟨look [(0, .d (.bool false)), (1, .ptr (Γ.n0 + 1) 0), (2, .d (.int .i64 r5)), (3, .d (.int .i64 r7)), (4, .d (.int .i64 r8)), (5, .d (.int .i64 r9)), (6, .d (.lst 1 (List.map (eL 1 (eI .i64)) r11))), (7, .d (.int .i64 r12)), (8, .ptr (Γ.n0 + 8) 0), (9, .d (.int .i64 r15)), (10, .tup [.agg [.d (.lst 1 (List.map (eI .i64) r4.Alphabet)), .d (.int .i64 r4.States), .d (.lst 1 (List.map (eI .i64) r4.Marked)), .d (.lst 3 (List.map e_api_Edge r4.Edges))], .d (.int .i64 r5)]), (11, .agg [.d (.lst 1 (List.map (eI .i64) x2.Alphabet)), .d (.int .i64 x2.States), .d (.lst 1 (List.map (eI .i64) x2.Marked)), .d (.lst 3 (List.map e_api_Edge x2.Edges))]), (12, .tup [.agg [.d (.lst 1 (List.map (eI .i64) r4.Alphabet)), .d (.int .i64 r4.States), .d (.lst 1 (List.map (eI .i64) r4.Marked)), .d (.lst 3 (List.map e_api_Edge r4.Edges))], .d (.int .i64 r5)]), (13, .agg [.d (.lst 1 (List.map (eI .i64) r4.Alphabet)), .d (.int .i64 r4.States), .d (.lst 1 (List.map (eI .i64) r4.Marked)), .d (.lst 3 (List.map e_api_Edge r4.Edges))]), (14, .d (.int .i64 r5)), (15, .tup [.d (.int .i64 r7), .d (.int .i64 r8), .d (.int .i64 r9)]), (16, .agg [.d (.lst 1 (List.map (eI .i64) r4.Alphabet)), .d (.int .i64 r4.States), .d (.lst 1 (List.map (eI .i64) r4.Marked)), .d (.lst 3 (List.map e_api_Edge r4.Edges))]), (17, .d (.lst 1 (List.map (eI .i64) [0, 0]))), (18, .tup [.d (.int .i64 r7), .d (.int .i64 r8), .d (.int .i64 r9)]), (19, .d (.int .i64 r7)), (20, .d (.int .i64 r8)), (21, .d (.int .i64 r9)), (22, .tup [.d (.lst 1 (List.map (eL 1 (eI .i64)) r11)), .d (.int .i64 r12)]), (23, .agg [.d (.lst 1 (List.map (eI .i64) r4.Alphabet)), .d (.int .i64 r4.States), .d (.lst 1 (List.map (eI .i64) r4.Marked)), .d (.lst 3 (List.map e_api_Edge r4.Edges))]), (24, .tup [.own 1 (List.map (eL 1 (eI .i64)) r11), .d (.int .i64 r12)]), (25, .d (.lst 1 (List.map (eL 1 (eI .i64)) r11))), (26, .d (.int .i64 r12)), (27, .tup [.agg [.d (.lst 1 (List.map (eI .i64) r14.Alphabet)), .d (.int .i64 r14.States), .d (.lst 1 (List.map (eI .i64) r14.Marked)), .d (.lst 3 (List.map e_api_Edge r14.Edges))], .d (.int .i64 r15)]), (28, .agg [.d (.lst 1 (List.map (eI .i64) r4.Alphabet)), .d (.int .i64 r4.States), .d (.lst 1 (List.map (eI .i64) r4.Marked)), .d (.lst 3 (List.map e_api_Edge r4.Edges))]), (29, .d (.lst 1 (List.map (eI .i64) [3, 1]))), (30, .tup [.agg [.d (.lst 1 (List.map (eI .i64) r14.Alphabet)), .d (.int .i64 r14.States), .d (.lst 1 (List.map (eI .i64) r14.Marked)), .d (.lst 3 (List.map e_api_Edge r14.Edges))], .d (.int .i64 r15)]), (31, .agg [.d (.lst 1 (List.map (eI .i64) r14.Alphabet)), .d (.int .i64 r14.States), .d (.lst 1 (List.map (eI .i64) r14.Marked)), .d (.lst 3 (List.map e_api_Edge r14.Edges))]), (32, .d (.int .i64 r15)), (33, .d (.int .i64 r5)), (34, .d (.bool (r5 == 0))), (35, .d (.bool (r5 == 0))), (36, .agg [.d (.lst 1 (List.map (eI .i64) r4.Alphabet)), .d (.int .i64 r4.States), .d (.lst 1 (List.map (eI .i64) r4.Marked)), .d (.lst 3 (List.map e_api_Edge r4.Edges))]), (37, .d (.lst 1 (List.map (eI .i64) [0, 2]))), (38, .d (.lst 1 (List.map (eI .i64) [1]))), (39, .agg [.d (.int .i64 0), .d (.int .i64 0), .d (.int .i64 1)]), (40, .agg [.d (.int .i64 0), .d (.int .i64 2), .d (.int .i64 0)]), (41, .agg [.d (.int .i64 1), .d (.int .i64 2), .d (.int .i64 0)]), (42, .d (.lst 3 (List.map e_api_Edge [(api_Edge.mk 0 0 1), (api_Edge.mk 0 2 0), (api_Edge.mk 1 2 0)]))), (43, .agg [.d (.lst 1 (List.map (eI .i64) [0, 2])), .d (.int .i64 2), .d (.lst 1 (List.map (eI .i64) [1])), .d (.lst 3 (List.map e_api_Edge [(api_Edge.mk 0 0 1), (api_Edge.mk 0 2 0), (api_Edge.mk 1 2 0)]))])], memOf Γ.n0 (bxs [(1, [.d (.lst 1 (List.map (eI .i64) r4.Alphabet)), .d (.int .i64 r4.States), .d (.lst 1 (List.map (eI .i64) r4.Marked)), .d (.lst 3 (List.map e_api_Edge r4.Edges))]), (8, [.d (.lst 1 (List.map (eI .i64) r14.Alphabet)), .d (.int .i64 r14.States), .d (.lst 1 (List.map (eI .i64) r14.Marked)), .d (.lst 3 (List.map e_api_Edge r14.Edges))])]) M, Γ.n0 + 99⟩; exact weak_freeze 42 [.int .i64 0, .int .i64 0, .int .i64 1, .int .i64 0, .int .i64 2, .int .i64 0, .int .i64 1, .int .i64 2, .int .i64 0] rfl rfl ⟨(.same rfl), ⟨(fPtr rfl), ⟨(.same rfl), ⟨(.same rfl), ⟨(.same rfl), ⟨(.same rfl), ⟨(.same rfl), ⟨(.same rfl), ⟨(fPtr rfl), ⟨(.same rfl), ⟨(.same rfl), ⟨(.same rfl), ⟨(.same rfl), ⟨(.same rfl), ⟨(.same rfl), ⟨(.same rfl), ⟨(.same rfl), ⟨(.same rfl), ⟨(.same rfl), ⟨(.same rfl), ⟨(.same rfl), ⟨(.same rfl), ⟨(.same rfl), ⟨(.same rfl), ⟨(.same rfl), ⟨(.same rfl), ⟨(.same rfl), ⟨(.same rfl), ⟨(.same rfl), ⟨(.same rfl), ⟨(.same rfl), ⟨(.same rfl), ⟨(.same rfl), ⟨(.same rfl), ⟨(.same rfl), ⟨(.same rfl), ⟨(.same rfl), ⟨(.same rfl), ⟨(.same rfl), ⟨(.same rfl), ⟨(.same rfl), ⟨(.same rfl), ⟨(fSl rfl rfl), ⟨(WkV.agg (.cons (.same rfl) (.cons (.same rfl) (.cons (.same rfl) (.cons (fSl rfl rfl) .nil))))), trivial⟩⟩⟩⟩⟩⟩⟩⟩⟩⟩⟩⟩⟩⟩⟩⟩⟩⟩⟩⟩⟩⟩⟩⟩⟩⟩⟩⟩⟩⟩⟩⟩⟩⟩⟩⟩⟩⟩⟩⟩⟩⟩⟩⟩ ⟨⟨_, rfl, rfl, (.same rfl)⟩, ⟨⟨_, rfl, rfl, (.same rfl)⟩, trivial⟩⟩ rfl) ?_
      replace h := bnd h
      obtain ⟨x18, h17, h⟩ := h
      refine Rn.call (args := [.agg [.d (.lst 1 (List.map (eI .i64) r4.Alphabet)), .d (.int .i64 r4.States), .d (.lst 1 (List.map (eI .i64) r4.Marked)), .d (.lst 3 (List.map e_api_Edge r4.Edges))], .agg [.d (.lst 1 (List.map (eI .i64) [0, 2])), .d (.int .i64 2), .d (.lst 1 (List.map (eI .i64) [1])), .d (.lst 3 (List.map e_api_Edge [(api_Edge.mk 0 0 1), (api_Edge.mk 0 2 0), (api_Edge.mk 1 2 0)]))]]) (gw rfl hb16) rfl (H_overseerref03_Same _ _ _ h17) pc9 ?_
      refine Rn.pickT (v := .d (.bool x18)) trivial rfl hb16 rfl ?_
      refine Rn.movD trivial rfl ?_
      refine bsplit x18 (fun hb19 => ?_) (fun hb19 => ?_)
      · replace h := bT hb19 h
        refine Rn.movD (gw rfl hb19) rfl ?_
        refine Rn.bin (gw rfl hb19) rfl rfl rfl ?_
        refine Rn.pickT (v := .d (.bool (r9 == 0))) trivial rfl hb19 rfl ?_
        refine Rn.movD trivial rfl ?_
        refine bsplit (r9 == 0) (fun hb20 => ?_) (fun hb20 => ?_)
        · replace h := bT hb20 h
          refine Rn.movD (gw rfl hb20) rfl ?_
          refine Rn.bin (gw rfl hb20) rfl rfl rfl ?_
          refine Rn.pickT (v := .d (.bool (r7 == 1))) trivial rfl hb20 rfl ?_
          refine Rn.movD trivial rfl ?_
          refine bsplit (r7 == 1) (fun hb21 => ?_) (fun hb21 => ?_)
          · replace h := bT hb21 h
            refine Rn.movD (gw rfl hb21) rfl ?_
            refine Rn.bin (gw rfl hb21) rfl rfl rfl ?_
            refine Rn.pickT (v := .d (.bool (r8 == 1))) trivial rfl hb21 rfl ?_
            refine Rn.movD trivial rfl ?_
            refine bsplit (r8 == 1) (fun hb22 => ?_) (fun hb22 => ?_)
            · replace h := bT hb22 h
              refine Rn.movD (gw rfl hb22) rfl ?_
              refine Rn.bin (gw rfl hb22) rfl rfl rfl ?_
              refine Rn.pickT (v := .d (.bool (r12 == 0))) trivial rfl hb22 rfl ?_
              refine Rn.movD trivial rfl ?_
              refine bsplit (r12 == 0) (fun hb23 => ?_) (fun hb23 => ?_)
              · replace h := bT hb23 h
                refine Rn.movD (gw rfl hb23) rfl ?_
                refine Rn.lenD (gw rfl hb23) rfl ?_
                refine Rn.bin (gw rfl hb23) rfl rfl rfl ?_
                refine Rn.pickT (v := .d (.bool ((r11.length : Int) == 2))) trivial rfl hb23 rfl ?_
                refine Rn.movD trivial rfl ?_
                refine bsplit ((r11.length : Int) == 2) (fun hb24 => ?_) (fun hb24 => ?_)
                · replace h := bT hb24 h
                  refine Rn.movD (gw rfl hb24) rfl ?_
                  replace h := bnd h
                  obtain ⟨x25, h26, h⟩ := h
                  refine Rn.idxD (e := (eL 1 (eI .i64))) (gw rfl hb24) rfl rfl h26 ?_
                  refine Rn.loadC (x := .lst 1 (List.map (eI .i64) x25)) (gw rfl hb24) rfl ?_
                  refine Rn.bslice (xs := [.d (.int .i64 0)]) (cs := [.d (.int .i64 0)]) (gw rfl hb24) rfl rfl rfl rfl ?_
                  refine Rn.weak (by show WeakSt Γ _ ⟨look [(0, .d (.bool false)), (1, .ptr (Γ.n0 + 1) 0), (2, .d (.int .i64 r5)), (3, .d (.int .i64 r7)), (4, .d (.int .i64 r8)), (5, .d (.int .i64 r9)), (6, .d (.lst 1 (List.map (eL 1 (eI .i64)) r11))), (7, .d (.int .i64 r12)), (8, .ptr (Γ.n0 + 8) 0), (9, .d (.int .i64 r15)), (10, .tup [.agg [.d (.lst 1 (List.map (eI .i64) r4.Alphabet)), .d (.int .i64 r4.States), .d (.lst 1 (List.map (eI .i64) r4.Marked)), .d (.lst 3 (List.map e_api_Edge r4.Edges))], .d (.int .i64 r5)]), (11, .agg [.d (.lst 1 (List.map (eI .i64) x2.Alphabet)), .d (.int .i64 x2.States), .d (.lst 1 (List.map (eI .i64) x2.Marked)), .d (.lst 3 (List.map e_api_Edge x2.Edges))]), (12, .tup [.agg [.d (.lst 1 (List.map (eI .i64) r4.Alphabet)), .d (.int .i64 r4.States), .d (.lst 1 (List.map (eI .i64) r4.Marked)), .d (.lst 3 (List.map e_api_Edge r4.Edges))], .d (.int .i64 r5)]), (13, .agg [.d (.lst 1 (List.map (eI .i64) r4.Alphabet)), .d (.int .i64 r4.States), .d (.lst 1 (List.map (eI .i64) r4.Marked)), .d (.lst 3 (List.map e_api_Edge r4.Edges))]), (14, .d (.int .i64 r5)), (15, .tup [.d (.int .i64 r7), .d (.int .i64 r8), .d (.int .i64 r9)]), (16, .agg [.d (.lst 1 (List.map (eI .i64) r4.Alphabet)), .d (.int .i64 r4.States), .d (.lst 1 (List.map (eI .i64) r4.Marked)), .d (.lst 3 (List.map e_api_Edge r4.Edges))]), (17, .d (.lst 1 (List.map (eI .i64) [0, 0]))), (18, .tup [.d (.int .i64 r7), .d (.int .i64 r8), .d (.int .i64 r9)]), (19, .d (.int .i64 r7)), (20, .d (.int .i64 r8)), (21, .d (.int .i64 r9)), (22, .tup [.d (.lst 1 (List.map (eL 1 (eI .i64)) r11)), .d (.int .i64 r12)]), (23, .agg [.d (.lst 1 (List.map (eI .i64) r4.Alphabet)), .d (.int .i64 r4.States), .d (.lst 1 (List.map (eI .i64) r4.Marked)), .d (.lst 3 (List.map e_api_Edge r4.Edges))]), (24, .tup [.own 1 (List.map (eL 1 (eI .i64)) r11), .d (.int .i64 r12)]), (25, .d (.lst 1 (List.map (eL 1 (eI .i64)) r11))), (26, .d (.int .i64 r12)), (27, .tup [.agg [.d (.lst 1 (List.map (eI .i64) r14.Alphabet)), .d (.int .i64 r14.States), .d (.lst 1 (List.map (eI .i64) r14.Marked)), .d (.lst 3 (List.map e_api_Edge r14.Edges))], .d (.int .i64 r15)]), (28, .agg [.d (.lst 1 (List.map (eI .i64) r4.Alphabet)), .d (.int .i64 r4.States), .d (.lst 1 (List.map (eI .i64) r4.Marked)), .d (.lst 3 (List.map e_api_Edge r4.Edges))]), (29, .d (.lst 1 (List.map (eI .i64) [3, 1]))), (30, .tup [.agg [.d (.lst 1 (List.map (eI .i64) r14.Alphabet)), .d (.int .i64 r14.States), .d (.lst 1 (List.map (eI .i64) r14.Marked)), .d (.lst 3 (List.map e_api_Edge r14.Edges))], .d (.int .i64 r15)]), (31, .agg [.d (.lst 1 (List.map (eI .i64) r14.Alphabet)), .d (.int .i64 r14.States), .d (.lst 1 (List.map (eI .i64) r14.Marked)), .d (.lst 3 (List.map e_api_Edge r14.Edges))]), (32, .d (.int .i64 r15)), (33, .d (.int .i64 r5)), (34, .d (.bool (r5 == 0))), (35, .d (.bool (r5 == 0))), (36, .agg [.d (.lst 1 (List.map (eI .i64) r4.Alphabet)), .d (.int .i64 r4.States), .d (.lst 1 (List.map (eI .i64) r4.Marked)), .d (.lst 3 (List.map e_api_Edge r4.Edges))]), (37, .d (.lst 1 (List.map (eI .i64) [0, 2]))), (38, .d (.lst 1 (List.map (eI .i64) [1]))), (39, .agg [.d (.int .i64 0), .d (.int .i64 0), .d (.int .i64 1)]), (40, .agg [.d (.int .i64 0), .d (.int .i64 2), .d (.int .i64 0)]), (41, .agg [.d (.int .i64 1), .d (.int .i64 2), .d (.int .i64 0)]), (42, .d (.lst 3 (List.map e_api_Edge [(api_Edge.mk 0 0 1), (api_Edge.mk 0 2 0), (api_Edge.mk 1 2 0)]))), (43, .agg [.d (.lst 1 (List.map (eI .i64) [0, 2])), .d (.int .i64 2), .d (.lst 1 (List.map (eI .i64) [1])), .d (.lst 3 (List.map e_api_Edge [(api_Edge.mk 0 0 1), (api_Edge.mk 0 2 0), (api_Edge.mk 1 2 0)]))]), (44, .d (.bool x18)), (45, .d (.bool x18)), (46, .d (.bool x18)), (47, .d (.int .i64 r9)), (48, .d (.bool (r9 == 0))), (49, .d (.bool (r9 == 0))), (50, .d (.bool (r9 == 0))), (51, .d (.int .i64 r7)), (52, .d (.bool (r7 == 1))), (53, .d (.bool (r7 == 1))), (54, .d (.bool (r7 == 1))), (55, .d (.int .i64 r8)), (56, .d (.bool (r8 == 1))), (57, .d (.bool (r8 == 1))), (58, .d (.bool (r8 == 1))), (59, .d (.int .i64 r12)), (60, .d (.bool (r12 == 0))), (61, .d (.bool (r12 == 0))), (62, .d (.bool (r12 == 0))), (63, .d (.lst 1 (List.map (eL 1 (eI .i64)) r11))), (64, .d (.int .i64 (r11.length : Int))), (65, .d (.bool ((r11.length : Int) == 2))), (66, .d (.bool ((r11.length : Int) == 2))), (67, .d (.bool ((r11.length : Int) == 2))), (68, .d (.lst 1 (List.map (eL 1 (eI .i64)) r11))), (69, .cref ((eL 1 (eI .i64)) x25)), (70, .d (.lst 1 (List.map (eI .i64) x25))), (71, .d (.lst 1 (List.map (eI .i64) [0])))], memOf Γ.n0 (bxs [(1, [.d (.lst 1 (List.map (eI .i64) r4.Alphabet)), .d (.int .i64 r4.States), .d (.lst 1 (List.map (eI .i64) r4.Marked)), .d (.lst 3 (List.map e_api_Edge r4.Edges))]), (8, [.d (.lst 1 (List.map (eI .i64) r14.Alphabet)), .d (.int .i64 r14.States), .d (.lst 1 (List.map (eI .i64) r14.Marked)), .d (.lst 3 (List.map e_api_Edge r14.Edges))])]) M, Γ.n0 + 99⟩; exact weak_freeze 71 [.int .i64 0] rfl rfl ⟨(.same rfl), ⟨(fPtr rfl), ⟨(.same rfl), ⟨(.same rfl), ⟨(.same rfl), ⟨(.same rfl), ⟨(.same rfl), ⟨(.same rfl), ⟨(fPtr rfl), ⟨(.same rfl), ⟨(.same rfl), ⟨(.same rfl), ⟨(.same rfl), ⟨(.same rfl), ⟨(.same rfl), ⟨(.same rfl), ⟨(.same rfl), ⟨(.same rfl), ⟨(.same rfl), ⟨(.same rfl), ⟨(.same rfl), ⟨(.same rfl), ⟨(.same rfl), ⟨(.same rfl), ⟨(.same rfl), ⟨(.same rfl), ⟨(.same rfl), ⟨(.same rfl), ⟨(.same rfl), ⟨(.same rfl), ⟨(.same rfl), ⟨(.same rfl), ⟨(.same rfl), ⟨(.same rfl), ⟨(.same rfl), ⟨(.same rfl), ⟨(.same rfl), ⟨(.same rfl), ⟨(.same rfl), ⟨(.same rfl), ⟨(.same rfl), ⟨(.same rfl), ⟨(.same rfl), ⟨(.same rfl), ⟨(.same rfl), ⟨(.same rfl), ⟨(.same rfl), ⟨(.same rfl), ⟨(.same rfl), ⟨(.same rfl), ⟨(.same rfl), ⟨(.same rfl), ⟨(.same rfl), ⟨(.same rfl), ⟨(.same rfl), ⟨(.same rfl), ⟨(.same rfl), ⟨(.same rfl), ⟨(.same rfl), ⟨(.same rfl), ⟨(.same rfl), ⟨(.same rfl), ⟨(.same rfl), ⟨(.same rfl), ⟨(.same rfl), ⟨(.same rfl), ⟨(.same rfl), ⟨(.same rfl), ⟨(.same rfl), ⟨(.same rfl), ⟨(.same rfl), ⟨(fSl rfl rfl), trivial⟩⟩⟩⟩⟩⟩⟩⟩⟩⟩⟩⟩⟩⟩⟩⟩⟩⟩⟩⟩⟩⟩⟩⟩⟩⟩⟩⟩⟩⟩⟩⟩⟩⟩⟩⟩⟩⟩⟩⟩⟩⟩⟩⟩⟩⟩⟩⟩⟩⟩⟩⟩⟩⟩⟩⟩⟩⟩⟩⟩⟩⟩⟩⟩⟩⟩⟩⟩⟩⟩⟩⟩ ⟨⟨_, rfl, rfl, (.same rfl)⟩, ⟨⟨_, rfl, rfl, (.same rfl)⟩, trivial⟩⟩ rfl) ?_
                  replace h := bnd h
                  obtain ⟨x28, h27, h⟩ := h
                  refine Rn.call (args := [.d (.lst 1 (List.map (eI .i64) x25)), .d (.lst 1 (List.map (eI .i64) [0]))]) (gw rfl hb24) rfl (H_overseerref03_SameInts _ _ _ h27) pc9 ?_
                  refine Rn.pickT (v := .d (.bool x28)) trivial rfl hb24 rfl ?_
                  refine Rn.movD trivial rfl ?_
                  refine bsplit x28 (fun hb29 => ?_) (fun hb29 => ?_)
                  · replace h := bT hb29 h
                    refine Rn.movD (gw rfl hb29) rfl ?_
                    replace h := bnd h
                    obtain ⟨x30, h31, h⟩ := h
                    refine Rn.idxD (e := (eL 1 (eI .i64))) (gw rfl hb29) rfl rfl h31 ?_
                    refine Rn.loadC (x := .lst 1 (List.map (eI .i64) x30)) (gw rfl hb29) rfl ?_
                    refine Rn.bslice (xs := [.d (.int .i64 2), .d (.int .i64 0)]) (cs := [.d (.int .i64 2), .d (.int .i64 0)]) (gw rfl hb29) rfl rfl rfl rfl ?_
                    refine Rn.weak (by show WeakSt Γ _ ⟨look [(0, .d (.bool false)), (1, .ptr (Γ.n0 + 1) 0), (2, .d (.int .i64 r5)), (3, .d (.int .i64 r7)), (4, .d (.int .i64 r8)), (5, .d (.int .i64 r9)), (6, .d (.lst 1 (List.map (eL 1 (eI .i64)) r11))), (7, .d (.int .i64 r12)), (8, .ptr (Γ.n0 + 8) 0), (9, .d (.int .i64 r15)), (10, .tup [.agg [.d (.lst 1 (List.map (eI .i64) r4.Alphabet)), .d (.int .i64 r4.States), .d (.lst 1 (List.map (eI .i64) r4.Marked)), .d (.lst 3 (List.map e_api_Edge r4.Edges))], .d (.int .i64 r5)]), (11, .agg [.d (.lst 1 (List.map (eI .i64) x2.Alphabet)), .d (.int .i64 x2.States), .d (.lst 1 (List.map (eI .i64) x2.Marked)), .d (.lst 3 (List.map e_api_Edge x2.Edges))]), (12, .tup [.agg [.d (.lst 1 (List.map (eI .i64) r4.Alphabet)), .d (.int .i64 r4.States), .d (.lst 1 (List.map (eI .i64) r4.Marked)), .d (.lst 3 (List.map e_api_Edge r4.Edges))], .d (.int .i64 r5)]), (13, .agg [.d (.lst 1 (List.map (eI .i64) r4.Alphabet)), .d (.int .i64 r4.States), .d (.lst 1 (List.map (eI .i64) r4.Marked)), .d (.lst 3 (List.map e_api_Edge r4.Edges))]), (14, .d (.int .i64 r5)), (15, .tup [.d (.int .i64 r7), .d (.int .i64 r8), .d (.int .i64 r9)]), (16, .agg [.d (.lst 1 (List.map (eI .i64) r4.Alphabet)), .d (.int .i64 r4.States), .d (.lst 1 (List.map (eI .i64) r4.Marked)), .d (.lst 3 (List.map e_api_Edge r4.Edges))]), (17, .d (.lst 1 (List.map (eI .i64) [0, 0]))), (18, .tup [.d (.int .i64 r7), .d (.int .i64 r8), .d (.int .i64 r9)]), (19, .d (.int .i64 r7)), (20, .d (.int .i64 r8)), (21, .d (.int .i64 r9)), (22, .tup [.d (.lst 1 (List.map (eL 1 (eI .i64)) r11)), .d (.int .i64 r12)]), (23, .agg [.d (.lst 1 (List.map (eI .i64) r4.Alphabet)), .d (.int .i64 r4.States), .d (.lst 1 (List.map (eI .i64) r4.Marked)), .d (.lst 3 (List.map e_api_Edge r4.Edges))]), (24, .tup [.own 1 (List.map (eL 1 (eI .i64)) r11), .d (.int .i64 r12)]), (25, .d (.lst 1 (List.map (eL 1 (eI .i64)) r11))), (26, .d (.int .i64 r12)), (27, .tup [.agg [.d (.lst 1 (List.map (eI .i64) r14.Alphabet)), .d (.int .i64 r14.States), .d (.lst 1 (List.map (eI .i64) r14.Marked)), .d (.lst 3 (List.map e_api_Edge r14.Edges))], .d (.int .i64 r15)]), (28, .agg [.d (.lst 1 (List.map (eI .i64) r4.Alphabet)), .d (.int .i64 r4.States), .d (.lst 1 (List.map (eI .i64) r4.Marked)), .d (.lst 3 (List.map e_api_Edge r4.Edges))]), (29, .d (.lst 1 (List.map (eI .i64) [3, 1]))), (30, .tup [.agg [.d (.lst 1 (List.map (eI .i64) r14.Alphabet)), .d (.int .i64 r14.States), .d (.lst 1 (List.map (eI .i64) r14.Marked)), .d (.lst 3 (List.map e_api_Edge r14.Edges))], .d (.int .i64 r15)]), (31, .agg [.d (.lst 1 (List.map (eI .i64) r14.Alphabet)), .d (.int .i64 r14.States), .d (.lst 1 (List.map (eI .i64) r14.Marked)), .d (.lst 3 (List.map e_api_Edge r14.Edges))]), (32, .d (.int .i64 r15)), (33, .d (.int .i64 r5)), (34, .d (.bool (r5 == 0))), (35, .d (.bool (r5 == 0))), (36, .agg [.d (.lst 1 (List.map (eI .i64) r4.Alphabet)), .d (.int .i64 r4.States), .d (.lst 1 (List.map (eI .i64) r4.Marked)), .d (.lst 3 (List.map e_api_Edge r4.Edges))]), (37, .d (.lst 1 (List.map (eI .i64) [0, 2]))), (38, .d (.lst 1 (List.map (eI .i64) [1]))), (39, .agg [.d (.int .i64 0), .d (.int .i64 0), .d (.int .i64 1)]), (40, .agg [.d (.int .i64 0), .d (.int .i64 2), .d (.int .i64 0)]), (41, .agg [.d (.int .i64 1), .d (.int .i64 2), .d (.int .i64 0)]), (42, .d (.lst 3 (List.map e_api_Edge [(api_Edge.mk 0 0 1), (api_Edge.mk 0 2 0), (api_Edge.mk 1 2 0)]))), (43, .agg [.d (.lst 1 (List.map (eI .i64) [0, 2])), .d (.int .i64 2), .d (.lst 1 (List.map (eI .i64) [1])), .d (.lst 3 (List.map e_api_Edge [(api_Edge.mk 0 0 1), (api_Edge.mk 0 2 0), (api_Edge.mk 1 2 0)]))]), (44, .d (.bool x18)), (45, .d (.bool x18)), (46, .d (.bool x18)), (47, .d (.int .i64 r9)), (48, .d (.bool (r9 == 0))), (49, .d (.bool (r9 == 0))), (50, .d (.bool (r9 == 0))), (51, .d (.int .i64 r7)), (52, .d (.bool (r7 == 1))), (53, .d (.bool (r7 == 1))), (54, .d (.bool (r7 == 1))), (55, .d (.int .i64 r8)), (56, .d (.bool (r8 == 1))), (57, .d (.bool (r8 == 1))), (58, .d (.bool (r8 == 1))), (59, .d (.int .i64 r12)), (60, .d (.bool (r12 == 0))), (61, .d (.bool (r12 == 0))), (62, .d (.bool (r12 == 0))), (63, .d (.lst 1 (List.map (eL 1 (eI .i64)) r11))), (64, .d (.int .i64 (r11.length : Int))), (65, .d (.bool ((r11.length : Int) == 2))), (66, .d (.bool ((r11.length : Int) == 2))), (67, .d (.bool ((r11.length : Int) == 2))), (68, .d (.lst 1 (List.map (eL 1 (eI .i64)) r11))), (69, .cref ((eL 1 (eI .i64)) x25)), (70, .d (.lst 1 (List.map (eI .i64) x25))), (71, .d (.lst 1 (List.map (eI .i64) [0]))), (72, .d (.bool x28)), (73, .d (.bool x28)), (74, .d (.bool x28)), (75, .d (.lst 1 (List.map (eL 1 (eI .i64)) r11))), (76, .cref ((eL 1 (eI .i64)) x30)), (77, .d (.lst 1 (List.map (eI .i64) x30))), (78, .d (.lst 1 (List.map (eI .i64) [2, 0])))], memOf Γ.n0 (bxs [(1, [.d (.lst 1 (List.map (eI .i64) r4.Alphabet)), .d (.int .i64 r4.States), .d (.lst 1 (List.map (eI .i64) r4.Marked)), .d (.lst 3 (List.map e_api_Edge r4.Edges))]), (8, [.d (.lst 1 (List.map (eI .i64) r14.Alphabet)), .d (.int .i64 r14.States), .d (.lst 1 (List.map (eI .i64) r14.Marked)), .d (.lst 3 (List.map e_api_Edge r14.Edges))])]) M, Γ.n0 + 99⟩; exact weak_freeze 78 [.int .i64 2, .int .i64 0] rfl rfl ⟨(.same rfl), ⟨(fPtr rfl), ⟨(.same rfl), ⟨(.same rfl), ⟨(.same rfl), ⟨(.same rfl), ⟨(.same rfl), ⟨(.same rfl), ⟨(fPtr rfl), ⟨(.same rfl), ⟨(.same rfl), ⟨(.same rfl), ⟨(.same rfl), ⟨(.same rfl), ⟨(.same rfl), ⟨(.same rfl), ⟨(.same rfl), ⟨(.same rfl), ⟨(.same rfl), ⟨(.same rfl), ⟨(.same rfl), ⟨(.same rfl), ⟨(.same rfl), ⟨(.same rfl), ⟨(.same rfl), ⟨(.same rfl), ⟨(.same rfl), ⟨(.same rfl), ⟨(.same rfl), ⟨(.same rfl), ⟨(.same rfl), ⟨(.same rfl), ⟨(.same rfl), ⟨(.same rfl), ⟨(.same rfl), ⟨(.same rfl), ⟨(.same rfl), ⟨(.same rfl), ⟨(.same rfl), ⟨(.same rfl), ⟨(.same rfl), ⟨(.same rfl), ⟨(.same rfl), ⟨(.same rfl), ⟨(.same rfl), ⟨(.same rfl), ⟨(.same rfl), ⟨(.same rfl), ⟨(.same rfl), ⟨(.same rfl), ⟨(.same rfl), ⟨(.same rfl), ⟨(.same rfl), ⟨(.same rfl), ⟨(.same rfl), ⟨(.same rfl), ⟨(.same rfl), ⟨(.same rfl), ⟨(.same rfl), ⟨(.same rfl), ⟨(.same rfl), ⟨(.same rfl), ⟨(.same rfl), ⟨(.same rfl), ⟨(.same rfl), ⟨(.same rfl), ⟨(.same rfl), ⟨(.same rfl), ⟨(.same rfl), ⟨(.same rfl), ⟨(.same rfl), ⟨(.same rfl), ⟨(.same rfl), ⟨(.same rfl), ⟨(.same rfl), ⟨(.same rfl), ⟨(.same rfl), ⟨(.same rfl), ⟨(fSl rfl rfl), trivial⟩⟩⟩⟩⟩⟩⟩⟩⟩⟩⟩⟩⟩⟩⟩⟩⟩⟩⟩⟩⟩⟩⟩⟩⟩⟩⟩⟩⟩⟩⟩⟩⟩⟩⟩⟩⟩⟩⟩⟩⟩⟩⟩⟩⟩⟩⟩⟩⟩⟩⟩⟩⟩⟩⟩⟩⟩⟩⟩⟩⟩⟩⟩⟩⟩⟩⟩⟩⟩⟩⟩⟩⟩⟩⟩⟩⟩⟩⟩ ⟨⟨_, rfl, rfl, (.same rfl)⟩, ⟨⟨_, rfl, rfl, (.same rfl)⟩, trivial⟩⟩ rfl) ?_
                    replace h := bnd h
                    obtain ⟨x33, h32, h⟩ := h
                    refine Rn.call (args := [.d (.lst 1 (List.map (eI .i64) x30)), .d (.lst 1 (List.map (eI .i64) [2, 0]))]) (gw rfl hb29) rfl (H_overseerref03_SameInts _ _ _ h32) pc9 ?_
                    refine Rn.pickT (v := .d (.bool x33)) trivial rfl hb29 rfl ?_
                    refine Rn.movD trivial rfl ?_
                    refine bsplit x33 (fun hb34 => ?_) (fun hb34 => ?_)
                    · replace h := bT hb34 h
                      refine Rn.movD (gw rfl hb34) rfl ?_
                      refine Rn.bin (gw rfl hb34) rfl rfl rfl ?_
                      refine Rn.pickT (v := .d (.bool (r15 == 0))) trivial rfl hb34 rfl ?_
                      refine Rn.movD trivial rfl ?_
                      refine bsplit (r15 == 0) (fun hb35 => ?_) (fun hb35 => ?_)
                      · replace h := bT hb35 h
                        refine Rn.fldP (o' := 3) (gw rfl hb35) rfl rfl ?_
                        refine Rn.load (v := .d (.lst 3 (List.map e_api_Edge r14.Edges))) (gw rfl hb35) rfl (boxOwn rfl) rfl rfl ?_
                        refine Rn.lenD (gw rfl hb35) rfl ?_
                        refine Rn.bin (gw rfl hb35) rfl rfl rfl ?_
                        refine Rn.pickT (v := .d (.bool ((r14.Edges.length : Int) == 3))) trivial rfl hb35 rfl ?_
                        refine Rn.movD trivial rfl ?_
                        refine bsplit ((r14.Edges.length : Int) == 3) (fun hb36 => ?_) (fun hb36 => ?_)
                        · replace h := bT hb36 h
                          refine Rn.fldP (o' := 3) (gw rfl hb36) rfl rfl ?_
                          refine Rn.load (v := .d (.lst 3 (List.map e_api_Edge r14.Edges))) (gw rfl hb36) rfl (boxOwn rfl) rfl rfl ?_
                          replace h := bnd h
                          obtain ⟨x37, h38, h⟩ := h
                          refine Rn.idxD (e := e_api_Edge) (gw rfl hb36) rfl rfl h38 ?_
                          refine Rn.loadCA (vs := [.d (.int .i64 x37.From), .d (.int .i64 x37.Event), .d (.int .i64 x37.To)]) (gw rfl hb36) rfl rfl rfl ?_
                          refine Rn.build (v := .agg [.d (.int .i64 0), .d (.int .i64 3), .d (.int .i64 1)]) (gw rfl hb36) rfl ?_
                          refine Rn.eqa (r := ((x37.From == 0) && ((x37.Event == 3) && ((x37.To == 1) && true)))) (gw rfl hb36) rfl rfl rfl ?_
                          refine Rn.pickT (v := .d (.bool ((x37.From == 0) && ((x37.Event == 3) && ((x37.To == 1) && true))))) trivial rfl hb36 rfl ?_
                          refine Rn.movD trivial rfl ?_
                          refine Rn.nil ?_
                          replace h := Option.some.inj h
                          subst h
                          show WeakSt Γ _ ⟨look _, memOf _ (bxs _) _, _⟩; exact weak_cut [] ⟨(.same rfl), trivial⟩ ⟨⟨_, rfl, rfl, (.same rfl)⟩, ⟨⟨_, rfl, rfl, (.same rfl)⟩, trivial⟩⟩ rfl
                        · replace h := bF hb36 h
                          refine Rn.sk (nw rfl hb36) ?_
                          refine Rn.sk (nw rfl hb36) ?_
                          refine Rn.sk (nw rfl hb36) ?_
                          refine Rn.sk (nw rfl hb36) ?_
                          refine Rn.sk (nw rfl hb36) ?_
                          refine Rn.sk (nw rfl hb36) ?_
                          refine Rn.pickF (v := .d (.bool false)) trivial rfl hb36 rfl ?_
                          refine Rn.movD trivial rfl ?_
                          refine Rn.nil ?_
                          replace h := Option.some.inj h
                          subst h
                          show WeakSt Γ _ ⟨look _, memOf _ (bxs _) _, _⟩; exact weak_cut [] ⟨(.same rfl), trivial⟩ ⟨⟨_, rfl, rfl, (.same rfl)⟩, ⟨⟨_, rfl, rfl, (.same rfl)⟩, trivial⟩⟩ rfl
                      · replace h := bF hb35 h
                        refine Rn.sk (nw rfl hb35) ?_
                        refine Rn.sk (nw rfl hb35) ?_
                        refine Rn.sk (nw rfl hb35) ?_
                        refine Rn.sk (nw rfl hb35) ?_
                        refine Rn.pickF (v := .d (.bool false)) trivial rfl hb35 rfl ?_
                        refine Rn.movD trivial rfl ?_
                        refine Rn.sk (nw (b := false) rfl rfl) ?_
                        refine Rn.sk (nw (b := false) rfl rfl) ?_
                        refine Rn.sk (nw (b := false) rfl rfl) ?_
                        refine Rn.sk (nw (b := false) rfl rfl) ?_
                        refine Rn.sk (nw (b := false) rfl rfl) ?_
                        refine Rn.sk (nw (b := false) rfl rfl) ?_
                        refine Rn.pickF (v := .d (.bool false)) trivial rfl rfl rfl ?_
                        refine Rn.movD trivial rfl ?_
                        refine Rn.nil ?_
                        replace h := Option.some.inj h
                        subst h
                        show WeakSt Γ _ ⟨look _, memOf _ (bxs _) _, _⟩; exact weak_cut [] ⟨(.same rfl), trivial⟩ ⟨⟨_, rfl, rfl, (.same rfl)⟩, ⟨⟨_, rfl, rfl, (.same rfl)⟩, trivial⟩⟩ rfl
                    · replace h := bF hb34 h
                      refine Rn.sk (nw rfl hb34) ?_
                      refine Rn.sk (nw rfl hb34) ?_
                      refine Rn.pickF (v := .d (.bool false)) trivial rfl hb34 rfl ?_
                      refine Rn.movD trivial rfl ?_
                      refine Rn.sk (nw (b := false) rfl rfl) ?_
                      refine Rn.sk (nw (b := false) rfl rfl) ?_
                      refine Rn.sk (nw (b := false) rfl rfl) ?_
                      refine Rn.sk (nw (b := false) rfl rfl) ?_
                      refine Rn.pickF (v := .d (.bool false)) trivial rfl rfl rfl ?_
                      refine Rn.movD trivial rfl ?_
                      refine Rn.sk (nw (b := false) rfl rfl) ?_
                      refine Rn.sk (nw (b := false) rfl rfl) ?_
                      refine Rn.sk (nw (b := false) rfl rfl) ?_
                      refine Rn.sk (nw (b := false) rfl rfl) ?_
                      refine Rn.sk (nw (b := false) rfl rfl) ?_
                      refine Rn.sk (nw (b := false) rfl rfl) ?_
                      refine Rn.pickF (v := .d (.bool false)) trivial rfl rfl rfl ?_
                      refine Rn.movD trivial rfl ?_
                      refine Rn.nil ?_
                      replace h := Option.some.inj h
                      subst h
                      show WeakSt Γ _ ⟨look _, memOf _ (bxs _) _, _⟩; exact weak_cut [] ⟨(.same rfl), trivial⟩ ⟨⟨_, rfl, rfl, (.same rfl)⟩, ⟨⟨_, rfl, rfl, (.same rfl)⟩, trivial⟩⟩ rfl
                  · replace h := bF hb29 h
                    refine Rn.sk (nw rfl hb29) ?_
                    refine Rn.sk (nw rfl hb29) ?_
                    refine Rn.sk (nw rfl hb29) ?_
                    refine Rn.sk (nw rfl hb29) ?_
                    refine Rn.sk (nw rfl hb29) ?_
                    refine Rn.pickF (v := .d (.bool false)) trivial rfl hb29 rfl ?_
                    refine Rn.movD trivial rfl ?_
                    refine Rn.sk (nw (b := false) rfl rfl) ?_
                    refine Rn.sk (nw (b := false) rfl rfl) ?_
                    refine Rn.pickF (v := .d (.bool false)) trivial rfl rfl rfl ?_
                    refine Rn.movD trivial rfl ?_
                    refine Rn.sk (nw (b := false) rfl rfl) ?_
                    refine Rn.sk (nw (b := false) rfl rfl) ?_
                    refine Rn.sk (nw (b := false) rfl rfl) ?_
                    refine Rn.sk (nw (b := false) rfl rfl) ?_
                    refine Rn.pickF (v := .d (.bool false)) trivial rfl rfl rfl ?_
                    refine Rn.movD trivial rfl ?_
                    refine Rn.sk (nw (b := false) rfl rfl) ?_
                    refine Rn.sk (nw (b := false) rfl rfl) ?_
                    refine Rn.sk (nw (b := false) rfl rfl) ?_
                    refine Rn.sk (nw (b := false) rfl rfl) ?_
                    refine Rn.sk (nw (b := false) rfl rfl) ?_
                    refine Rn.sk (nw (b := false) rfl rfl) ?_
                    refine Rn.pickF (v := .d (.bool false)) trivial rfl rfl rfl ?_
                    refine Rn.movD trivial rfl ?_
                    refine Rn.nil ?_
                    replace h := Option.some.inj h
                    subst h
                    show WeakSt Γ _ ⟨look _, memOf _ (bxs _) _, _⟩; exact weak_cut [] ⟨(.same rfl), trivial⟩ ⟨⟨_, rfl, rfl, (.same rfl)⟩, ⟨⟨_, rfl, rfl, (.same rfl)⟩, trivial⟩⟩ rfl
                · replace h := bF hb24 h
                  refine Rn.sk (nw rfl hb24) ?_
                  refine Rn.sk (nw rfl hb24) ?_
                  refine Rn.sk (nw rfl hb24) ?_
                  refine Rn.sk (nw rfl hb24) ?_
                  refine Rn.sk (nw rfl hb24) ?_
                  refine Rn.pickF (v := .d (.bool false)) trivial rfl hb24 rfl ?_
                  refine Rn.movD trivial rfl ?_
                  refine Rn.sk (nw (b := false) rfl rfl) ?_
                  refine Rn.sk (nw (b := false) rfl rfl) ?_
                  refine Rn.sk (nw (b := false) rfl rfl) ?_
                  refine Rn.sk (nw (b := false) rfl rfl) ?_
                  refine Rn.sk (nw (b := false) rfl rfl) ?_
                  refine Rn.pickF (v := .d (.bool false)) trivial rfl rfl rfl ?_
                  refine Rn.movD trivial rfl ?_
                  refine Rn.sk (nw (b := false) rfl rfl) ?_
                  refine Rn.sk (nw (b := false) rfl rfl) ?_
                  refine Rn.pickF (v := .d (.bool false)) trivial rfl rfl rfl ?_
                  refine Rn.movD trivial rfl ?_
                  refine Rn.sk (nw (b := false) rfl rfl) ?_
                  refine Rn.sk (nw (b := false) rfl rfl) ?_
                  refine Rn.sk (nw (b := false) rfl rfl) ?_
                  refine Rn.sk (nw (b := false) rfl rfl) ?_
                  refine Rn.pickF (v := .d (.bool false)) trivial rfl rfl rfl ?_
                  refine Rn.movD trivial rfl ?_
                  refine Rn.sk (nw (b := false) rfl rfl) ?_
                  refine Rn.sk (nw (b := false) rfl rfl) ?_
                  refine Rn.sk (nw (b := false) rfl rfl) ?_
                  refine Rn.sk (nw (b := false) rfl rfl) ?_
                  refine Rn.sk (nw (b := false) rfl rfl) ?_
                  refine Rn.sk (nw (b := false) rfl rfl) ?_
                  refine Rn.pickF (v := .d (.bool false)) trivial rfl rfl rfl ?_
                  refine Rn.movD trivial rfl ?_
                  refine Rn.nil ?_
                  replace h := Option.some.inj h
                  subst h
                  show WeakSt Γ _ ⟨look _, memOf _ (bxs _) _, _⟩; exact weak_cut [] ⟨(.same rfl), trivial⟩ ⟨⟨_, rfl, rfl, (.same rfl)⟩, ⟨⟨_, rfl, rfl, (.same rfl)⟩, trivial⟩⟩ rfl
              · replace h := bF hb23 h
                refine Rn.sk (nw rfl hb23) ?_
                refine Rn.sk (nw rfl hb23) ?_
                refine Rn.sk (nw rfl hb23) ?_
                refine Rn.pickF (v := .d (.bool false)) trivial rfl hb23 rfl ?_
                refine Rn.movD trivial rfl ?_
                refine Rn.sk (nw (b := false) rfl rfl) ?_
                refine Rn.sk (nw (b := false) rfl rfl) ?_
                refine Rn.sk (nw (b := false) rfl rfl) ?_
                refine Rn.sk (nw (b := false) rfl rfl) ?_
                refine Rn.sk (nw (b := false) rfl rfl) ?_
                refine Rn.pickF (v := .d (.bool false)) trivial rfl rfl rfl ?_
                refine Rn.movD trivial rfl ?_
                refine Rn.sk (nw (b := false) rfl rfl) ?_
                refine Rn.sk (nw (b := false) rfl rfl) ?_
                refine Rn.sk (nw (b := false) rfl rfl) ?_
                refine Rn.sk (nw (b := false) rfl rfl) ?_
                refine Rn.sk (nw (b := false) rfl rfl) ?_
                refine Rn.pickF (v := .d (.bool false)) trivial rfl rfl rfl ?_
                refine Rn.movD trivial rfl ?_
                refine Rn.sk (nw (b := false) rfl rfl) ?_
                refine Rn.sk (nw (b := false) rfl rfl) ?_
                refine Rn.pickF (v := .d (.bool false)) trivial rfl rfl rfl ?_
                refine Rn.movD trivial rfl ?_
                refine Rn.sk (nw (b := false) rfl rfl) ?_
                refine Rn.sk (nw (b := false) rfl rfl) ?_
                refine Rn.sk (nw (b := false) rfl rfl) ?_
                refine Rn.sk (nw (b := false) rfl rfl) ?_
                refine Rn.pickF (v := .d (.bool false)) trivial rfl rfl rfl ?_
                refine Rn.movD trivial rfl ?_
                refine Rn.sk (nw (b := false) rfl rfl) ?_
                refine Rn.sk (nw (b := false) rfl rfl) ?_
                refine Rn.sk (nw (b := false) rfl rfl) ?_
                refine Rn.sk (nw (b := false) rfl rfl) ?_
                refine Rn.sk (nw (b := false) rfl rfl) ?_
                refine Rn.sk (nw (b := false) rfl rfl) ?_
                refine Rn.pickF (v := .d (.bool false)) trivial rfl rfl rfl ?_
                refine Rn.movD trivial rfl ?_
                refine Rn.nil ?_
                replace h := Option.some.inj h
                subst h
                show WeakSt Γ _ ⟨look _, memOf _ (bxs _) _, _⟩; exact weak_cut [] ⟨(.same rfl), trivial⟩ ⟨⟨_, rfl, rfl, (.same rfl)⟩, ⟨⟨_, rfl, rfl, (.same rfl)⟩, trivial⟩⟩ rfl
            · replace h := bF hb22 h
              refine Rn.sk (nw rfl hb22) ?_
              refine Rn.sk (nw rfl hb22) ?_
              refine Rn.pickF (v := .d (.bool false)) trivial rfl hb22 rfl ?_
              refine Rn.movD trivial rfl ?_
              refine Rn.sk (nw (b := false) rfl rfl) ?_
              refine Rn.sk (nw (b := false) rfl rfl) ?_
              refine Rn.sk (nw (b := false) rfl rfl) ?_
              refine Rn.pickF (v := .d (.bool false)) trivial rfl rfl rfl ?_
              refine Rn.movD trivial rfl ?_
              refine Rn.sk (nw (b := false) rfl rfl) ?_
              refine Rn.sk (nw (b := false) rfl rfl) ?_
              refine Rn.sk (nw (b := false) rfl rfl) ?_
              refine Rn.sk (nw (b := false) rfl rfl) ?_
              refine Rn.sk (nw (b := false) rfl rfl) ?_
              refine Rn.pickF (v := .d (.bool false)) trivial rfl rfl rfl ?_
              refine Rn.movD trivial rfl ?_
              refine Rn.sk (nw (b := false) rfl rfl) ?_
              refine Rn.sk (nw (b := false) rfl rfl) ?_
              refine Rn.sk (nw (b := false) rfl rfl) ?_
              refine Rn.sk (nw (b := false) rfl rfl) ?_
              refine Rn.sk (nw (b := false) rfl rfl) ?_
              refine Rn.pickF (v := .d (.bool false)) trivial rfl rfl rfl ?_
              refine Rn.movD trivial rfl ?_
              refine Rn.sk (nw (b := false) rfl rfl) ?_
              refine Rn.sk (nw (b := false) rfl rfl) ?_
              refine Rn.pickF (v := .d (.bool false)) trivial rfl rfl rfl ?_
              refine Rn.movD trivial rfl ?_
              refine Rn.sk (nw (b := false) rfl rfl) ?_
              refine Rn.sk (nw (b := false) rfl rfl) ?_
              refine Rn.sk (nw (b := false) rfl rfl) ?_
              refine Rn.sk (nw (b := false) rfl rfl) ?_
              refine Rn.pickF (v := .d (.bool false)) trivial rfl rfl rfl ?_
              refine Rn.movD trivial rfl ?_
              refine Rn.sk (nw (b := false) rfl rfl) ?_
              refine Rn.sk (nw (b := false) rfl rfl) ?_
              refine Rn.sk (nw (b := false) rfl rfl) ?_
              refine Rn.sk (nw (b := false) rfl rfl) ?_
              refine Rn.sk (nw (b := false) rfl rfl) ?_
              refine Rn.sk (nw (b := false) rfl rfl) ?_
              refine Rn.pickF (v := .d (.bool false)) trivial rfl rfl rfl ?_
              refine Rn.movD trivial rfl ?_
              refine Rn.nil ?_
              replace h := Option.some.inj h
              subst h
              show WeakSt Γ _ ⟨look _, memOf _ (bxs _) _, _⟩; exact weak_cut [] ⟨(.same rfl), trivial⟩ ⟨⟨_, rfl, rfl, (.same rfl)⟩, ⟨⟨_, rfl, rfl, (.same rfl)⟩, trivial⟩⟩ rfl
          · replace h := bF hb21 h
            refine Rn.sk (nw rfl hb21) ?_
            refine Rn.sk (nw rfl hb21) ?_
            refine Rn.pickF (v := .d (.bool false)) trivial rfl hb21 rfl ?_
            refine Rn.movD trivial rfl ?_
            refine Rn.sk (nw (b := false) rfl rfl) ?_
            refine Rn.sk (nw (b := false) rfl rfl) ?_
            refine Rn.pickF (v := .d (.bool false)) trivial rfl rfl rfl ?_
            refine Rn.movD trivial rfl ?_
            refine Rn.sk (nw (b := false) rfl rfl) ?_
            refine Rn.sk (nw (b := false) rfl rfl) ?_
            refine Rn.sk (nw (b := false) rfl rfl) ?_
            refine Rn.pickF (v := .d (.bool false)) trivial rfl rfl rfl ?_
            refine Rn.movD trivial rfl ?_
            refine Rn.sk (nw (b := false) rfl rfl) ?_
            refine Rn.sk (nw (b := false) rfl rfl) ?_
            refine Rn.sk (nw (b := false) rfl rfl) ?_
            refine Rn.sk (nw (b := false) rfl rfl) ?_
            refine Rn.sk (nw (b := false) rfl rfl) ?_
            refine Rn.pickF (v := .d (.bool false)) trivial rfl rfl rfl ?_
            refine Rn.movD trivial rfl ?_
            refine Rn.sk (nw (b := false) rfl rfl) ?_
            refine Rn.sk (nw (b := false) rfl rfl) ?_
            refine Rn.sk (nw (b := false) rfl rfl) ?_
            refine Rn.sk (nw (b := false) rfl rfl) ?_
            refine Rn.sk (nw (b := false) rfl rfl) ?_
            refine Rn.pickF (v := .d (.bool false)) trivial rfl rfl rfl ?_
            refine Rn.movD trivial rfl ?_
            refine Rn.sk (nw (b := false) rfl rfl) ?_
            refine Rn.sk (nw (b := false) rfl rfl) ?_
            refine Rn.pickF (v := .d (.bool false)) trivial rfl rfl rfl ?_
            refine Rn.movD trivial rfl ?_
            refine Rn.sk (nw (b := false) rfl rfl) ?_
            refine Rn.sk (nw (b := false) rfl rfl) ?_
            refine Rn.sk (nw (b := false) rfl rfl) ?_
            refine Rn.sk (nw (b := false) rfl rfl) ?_
            refine Rn.pickF (v := .d (.bool false)) trivial rfl rfl rfl ?_
            refine Rn.movD trivial rfl ?_
            refine Rn.sk (nw (b := false) rfl rfl) ?_
            refine Rn.sk (nw (b := false) rfl rfl) ?_
            refine Rn.sk (nw (b := false) rfl rfl) ?_
            refine Rn.sk (nw (b := false) rfl rfl) ?_
            refine Rn.sk (nw (b := false) rfl rfl) ?_
            refine Rn.sk (nw (b := false) rfl rfl) ?_
            refine Rn.pickF (v := .d (.bool false)) trivial rfl rfl rfl ?_
            refine Rn.movD trivial rfl ?_
            refine Rn.nil ?_
            replace h := Option.some.inj h
            subst h
            show WeakSt Γ _ ⟨look _, memOf _ (bxs _) _, _⟩; exact weak_cut [] ⟨(.same rfl), trivial⟩ ⟨⟨_, rfl, rfl, (.same rfl)⟩, ⟨⟨_, rfl, rfl, (.same rfl)⟩, trivial⟩⟩ rfl
        · replace h := bF hb20 h
          refine Rn.sk (nw rfl hb20) ?_
          refine Rn.sk (nw rfl hb20) ?_
          refine Rn.pickF (v := .d (.bool false)) trivial rfl hb20 rfl ?_
          refine Rn.movD trivial rfl ?_
          refine Rn.sk (nw (b := false) rfl rfl) ?_
          refine Rn.sk (nw (b := false) rfl rfl) ?_
          refine Rn.pickF (v := .d (.bool false)) trivial rfl rfl rfl ?_
          refine Rn.movD trivial rfl ?_
          refine Rn.sk (nw (b := false) rfl rfl) ?_
          refine Rn.sk (nw (b := false) rfl rfl) ?_
          refine Rn.pickF (v := .d (.bool false)) trivial rfl rfl rfl ?_
          refine Rn.movD trivial rfl ?_
          refine Rn.sk (nw (b := false) rfl rfl) ?_
          refine Rn.sk (nw (b := false) rfl rfl) ?_
          refine Rn.sk (nw (b := false) rfl rfl) ?_
          refine Rn.pickF (v := .d (.bool false)) trivial rfl rfl rfl ?_
          refine Rn.movD trivial rfl ?_
          refine Rn.sk (nw (b := false) rfl rfl) ?_
          refine Rn.sk (nw (b := false) rfl rfl) ?_
          refine Rn.sk (nw (b := false) rfl rfl) ?_
          refine Rn.sk (nw (b := false) rfl rfl) ?_
          refine Rn.sk (nw (b := false) rfl rfl) ?_
          refine Rn.pickF (v := .d (.bool false)) trivial rfl rfl rfl ?_
          refine Rn.movD trivial rfl ?_
          refine Rn.sk (nw (b := false) rfl rfl) ?_
          refine Rn.sk (nw (b := false) rfl rfl) ?_
          refine Rn.sk (nw (b := false) rfl rfl) ?_
          refine Rn.sk (nw (b := false) rfl rfl) ?_
          refine Rn.sk (nw (b := false) rfl rfl) ?_
          refine Rn.pickF (v := .d (.bool false)) trivial rfl rfl rfl ?_
          refine Rn.movD trivial rfl ?_
          refine Rn.sk (nw (b := false) rfl rfl) ?_
          refine Rn.sk (nw (b := false) rfl rfl) ?_
          refine Rn.pickF (v := .d (.bool false)) trivial rfl rfl rfl ?_
          refine Rn.movD trivial rfl ?_
          refine Rn.sk (nw (b := false) rfl rfl) ?_
          refine Rn.sk (nw (b := false) rfl rfl) ?_
          refine Rn.sk (nw (b := false) rfl rfl) ?_
          refine Rn.sk (nw (b := false) rfl rfl) ?_
          refine Rn.pickF (v := .d (.bool false)) trivial rfl rfl rfl ?_
          refine Rn.movD trivial rfl ?_
          refine Rn.sk (nw (b := false) rfl rfl) ?_
          refine Rn.sk (nw (b := false) rfl rfl) ?_
          refine Rn.sk (nw (b := false) rfl rfl) ?_
          refine Rn.sk (nw (b := false) rfl rfl) ?_
          refine Rn.sk (nw (b := false) rfl rfl) ?_
          refine Rn.sk (nw (b := false) rfl rfl) ?_
          refine Rn.pickF (v := .d (.bool false)) trivial rfl rfl rfl ?_
          refine Rn.movD trivial rfl ?_
          refine Rn.nil ?_
          replace h := Option.some.inj h
          subst h
          show WeakSt Γ _ ⟨look _, memOf _ (bxs _) _, _⟩; exact weak_cut [] ⟨(.same rfl), trivial⟩ ⟨⟨_, rfl, rfl, (.same rfl)⟩, ⟨⟨_, rfl, rfl, (.same rfl)⟩, trivial⟩⟩ rfl
      · replace h := bF hb19 h
        refine Rn.sk (nw rfl hb19) ?_
        refine Rn.sk (nw rfl hb19) ?_
        refine Rn.pickF (v := .d (.bool false)) trivial rfl hb19 rfl ?_
        refine Rn.movD trivial rfl ?_
        refine Rn.sk (nw (b := false) rfl rfl) ?_
        refine Rn.sk (nw (b := false) rfl rfl) ?_
        refine Rn.pickF (v := .d (.bool false)) trivial rfl rfl rfl ?_
        refine Rn.movD trivial rfl ?_
        refine Rn.sk (nw (b := false) rfl rfl) ?_
        refine Rn.sk (nw (b := false) rfl rfl) ?_
        refine Rn.pickF (v := .d (.bool false)) trivial rfl rfl rfl ?_
        refine Rn.movD trivial rfl ?_
        refine Rn.sk (nw (b := false) rfl rfl) ?_
        refine Rn.sk (nw (b := false) rfl rfl) ?_
        refine Rn.pickF (v := .d (.bool false)) trivial rfl rfl rfl ?_
        refine Rn.movD trivial rfl ?_
        refine Rn.sk (nw (b := false) rfl rfl) ?_
        refine Rn.sk (nw (b := false) rfl rfl) ?_
        refine Rn.sk (nw (b := false) rfl rfl) ?_
        refine Rn.pickF (v := .d (.bool false)) trivial rfl rfl rfl ?_
        refine Rn.movD trivial rfl ?_
        refine Rn.sk (nw (b := false) rfl rfl) ?_
        refine Rn.sk (nw (b := false) rfl rfl) ?_
        refine Rn.sk (nw (b := false) rfl rfl) ?_
        refine Rn.sk (nw (b := false) rfl rfl) ?_
        refine Rn.sk (nw (b := false) rfl rfl) ?_
        refine Rn.pickF (v := .d (.bool false)) trivial rfl rfl rfl ?_
        refine Rn.movD trivial rfl ?_
        refine Rn.sk (nw (b := false) rfl rfl) ?_
        refine Rn.sk (nw (b := false) rfl rfl) ?_
        refine Rn.sk (nw (b := false) rfl rfl) ?_
        refine Rn.sk (nw (b := false) rfl rfl) ?_
        refine Rn.sk (nw (b := false) rfl rfl) ?_
        refine Rn.pickF (v := .d (.bool false)) trivial rfl rfl rfl ?_
        refine Rn.movD trivial rfl ?_
        refine Rn.sk (nw (b := false) rfl rfl) ?_
        refine Rn.sk (nw (b := false) rfl rfl) ?_
        refine Rn.pickF (v := .d (.bool false)) trivial rfl rfl rfl ?_
        refine Rn.movD trivial rfl ?_
        refine Rn.sk (nw (b := false) rfl rfl) ?_
        refine Rn.sk (nw (b := false) rfl rfl) ?_
        refine Rn.sk (nw (b := false) rfl rfl) ?_
        refine Rn.sk (nw (b := false) rfl rfl) ?_
        refine Rn.pickF (v := .d (.bool false)) trivial rfl rfl rfl ?_
        refine Rn.movD trivial rfl ?_
        refine Rn.sk (nw (b := false) rfl rfl) ?_
        refine Rn.sk (nw (b := false) rfl rfl) ?_
        refine Rn.sk (nw (b := false) rfl rfl) ?_
        refine Rn.sk (nw (b := false) rfl rfl) ?_
        refine Rn.sk (nw (b := false) rfl rfl) ?_
        refine Rn.sk (nw (b := false) rfl rfl) ?_
        refine Rn.pickF (v := .d (.bool false)) trivial rfl rfl rfl ?_
        refine Rn.movD trivial rfl ?_
        refine Rn.nil ?_
        replace h := Option.some.inj h
        subst h
        show WeakSt Γ _ ⟨look _, memOf _ (bxs _) _, _⟩; exact weak_cut [] ⟨(.same rfl), trivial⟩ ⟨⟨_, rfl, rfl, (.same rfl)⟩, ⟨⟨_, rfl, rfl, (.same rfl)⟩, trivial⟩⟩ rfl
    · replace h := bF hb16 h
      refine Rn.sk (nw rfl hb16) ?_
      refine Rn.sk (nw rfl hb16) ?_
      refine Rn.sk (nw rfl hb16) ?_
      refine Rn.sk (nw rfl hb16) ?_
      refine Rn.sk (nw rfl hb16) ?_
      refine Rn.sk (nw rfl hb16) ?_
      refine Rn.sk (nw rfl hb16) ?_
      refine Rn.sk (nw rfl hb16) ?_
      refine Rn.sk (nw rfl hb16) ?_
      refine Rn.pickF (v := .d (.bool false)) trivial rfl hb16 rfl ?_
      refine Rn.movD trivial rfl ?_
      refine Rn.sk (nw (b := false) rfl rfl) ?_
      refine Rn.sk (nw (b := false) rfl rfl) ?_
      refine Rn.pickF (v := .d (.bool false)) trivial rfl rfl rfl ?_
      refine Rn.movD trivial rfl ?_
      refine Rn.sk (nw (b := false) rfl rfl) ?_
      refine Rn.sk (nw (b := false) rfl rfl) ?_
      refine Rn.pickF (v := .d (.bool false)) trivial rfl rfl rfl ?_
      refine Rn.movD trivial rfl ?_
      refine Rn.sk (nw (b := false) rfl rfl) ?_
      refine Rn.sk (nw (b := false) rfl rfl) ?_
      refine Rn.pickF (v := .d (.bool false)) trivial rfl rfl rfl ?_
      refine Rn.movD trivial rfl ?_
      refine Rn.sk (nw (b := false) rfl rfl) ?_
      refine Rn.sk (nw (b := false) rfl rfl) ?_
      refine Rn.pickF (v := .d (.bool false)) trivial rfl rfl rfl ?_
      refine Rn.movD trivial rfl ?_
      refine Rn.sk (nw (b := false) rfl rfl) ?_
      refine Rn.sk (nw (b := false) rfl rfl) ?_
      refine Rn.sk (nw (b := false) rfl rfl) ?_
      refine Rn.pickF (v := .d (.bool false)) trivial rfl rfl rfl ?_
      refine Rn.movD trivial rfl ?_
      refine Rn.sk (nw (b := false) rfl rfl) ?_
      refine Rn.sk (nw (b := false) rfl rfl) ?_
      refine Rn.sk (nw (b := false) rfl rfl) ?_
      refine Rn.sk (nw (b := false) rfl rfl) ?_
      refine Rn.sk (nw (b := false) rfl rfl) ?_
      refine Rn.pickF (v := .d (.bool false)) trivial rfl rfl rfl ?_
      refine Rn.movD trivial rfl ?_
      refine Rn.sk (nw (b := false) rfl rfl) ?_
      refine Rn.sk (nw (b := false) rfl rfl) ?_
      refine Rn.sk (nw (b := false) rfl rfl) ?_
      refine Rn.sk (nw (b := false) rfl rfl) ?_
      refine Rn.sk (nw (b := false) rfl rfl) ?_
      refine Rn.pickF (v := .d (.bool false)) trivial rfl rfl rfl ?_
      refine Rn.movD trivial rfl ?_
      refine Rn.sk (nw (b := false) rfl rfl) ?_
      refine Rn.sk (nw (b := false) rfl rfl) ?_
      refine Rn.pickF (v := .d (.bool false)) trivial rfl rfl rfl ?_
      refine Rn.movD trivial rfl ?_
      refine Rn.sk (nw (b := false) rfl rfl) ?_
      refine Rn.sk (nw (b := false) rfl rfl) ?_
      refine Rn.sk (nw (b := false) rfl rfl) ?_
      refine Rn.sk (nw (b := false) rfl rfl) ?_
      refine Rn.pickF (v := .d (.bool false)) trivial rfl rfl rfl ?_
      refine Rn.movD trivial rfl ?_
      refine Rn.sk (nw (b := false) rfl rfl) ?_
      refine Rn.sk (nw (b := false) rfl rfl) ?_
      refine Rn.sk (nw (b := false) rfl rfl) ?_
      refine Rn.sk (nw (b := false) rfl rfl) ?_
      refine Rn.sk (nw (b := false) rfl rfl) ?_
      refine Rn.sk (nw (b := false) rfl rfl) ?_
      refine Rn.pickF (v := .d (.bool false)) trivial rfl rfl rfl ?_
      refine Rn.movD trivial rfl ?_
      refine Rn.nil ?_
      replace h := Option.some.inj h
      subst h
      show WeakSt Γ _ ⟨look _, memOf _ (bxs _) _, _⟩; exact weak_cut [] ⟨(.same rfl), trivial⟩ ⟨⟨_, rfl, rfl, (.same rfl)⟩, ⟨⟨_, rfl, rfl, (.same rfl)⟩, trivial⟩⟩ rfl
  · obtain ⟨x39, rfl⟩ : ∃ x, x = z := ⟨_, rfl⟩
    refine Tr.ret ?_
    replace h := Option.some.inj h
    subst h
    exact ⟨.inr rfl, (.d (.bool x39)), rfl, fun _ _ _ _ h => h, trivial, fun k hk => memOf_base hk⟩

theorem overseerlaw03_few_walk {P : Program} {c : Nat} (hcf : compFn P c = some F_overseerlaw03_few) : K_overseerlaw03_few P c (f_overseerlaw03_few) := by
  intro a1 r h
  refine fn_trP hcf rfl fun Γ M hP hnt hM => ?_
  subst hP
  refine Tr.init [(0, .agg [.d (.lst 1 (List.map (eI .i64) a1.Alphabet)), .d (.int .i64 a1.States), .d (.lst 1 (List.map (eI .i64) a1.Marked)), .d (.lst 3 (List.map e_api_Edge a1.Edges))])] rfl ?_
  unfold f_overseerlaw03_few at h
  unfold F_overseerlaw03_few
  refine Tr.seq ?_
  refine Tr.rgn ?_
  refine Rn.box (v := .agg [.d (.lst 1 (List.map (eI .i64) a1.Alphabet)), .d (.int .i64 a1.States), .d (.lst 1 (List.map (eI .i64) a1.Marked)), .d (.lst 3 (List.map e_api_Edge a1.Edges))]) (cs := [.d (.lst 1 (List.map (eI .i64) a1.Alphabet)), .d (.int .i64 a1.States), .d (.lst 1 (List.map (eI .i64) a1.Marked)), .d (.lst 3 (List.map e_api_Edge a1.Edges))]) trivial rfl rfl rfl rfl rfl ?_
  refine Rn.movD trivial rfl ?_
  refine Rn.nil ?_
  refine toN ?_
  refine Tr.seq ?_
  refine Tr.rgn ?_
  refine Rn.fldP (o' := 0) trivial rfl rfl ?_
  refine Rn.load (v := .d (.lst 1 (List.map (eI .i64) a1.Alphabet))) trivial rfl (boxOwn rfl) rfl rfl ?_
  refine Rn.lenD trivial rfl ?_
  refine Rn.bin trivial rfl rfl rfl ?_
  refine Rn.movD trivial rfl ?_
  refine bsplit (decide ((a1.Alphabet.length : Int) ≤ 12)) (fun hb2 => ?_) (fun hb2 => ?_)
  · replace h := ifT hb2 h
    refine Rn.fldP (o' := 2) (gw rfl hb2) rfl rfl ?_
    refine Rn.load (v := .d (.lst 1 (List.map (eI .i64) a1.Marked))) (gw rfl hb2) rfl (boxOwn rfl) rfl rfl ?_
    refine Rn.lenD (gw rfl hb2) rfl ?_
    refine Rn.bin (gw rfl hb2) rfl rfl rfl ?_
    refine Rn.pickT (v := .d (.bool (decide ((a1.Marked.length : Int) ≤ 12)))) trivial rfl hb2 rfl ?_
    refine Rn.movD trivial rfl ?_
    refine bsplit (decide ((a1.Marked.length : Int) ≤ 12)) (fun hb3 => ?_) (fun hb3 => ?_)
    · replace h := ifT hb3 h
      refine Rn.fldP (o' := 3) (gw rfl hb3) rfl rfl ?_
      refine Rn.load (v := .d (.lst 3 (List.map e_api_Edge a1.Edges))) (gw rfl hb3) rfl (boxOwn rfl) rfl rfl ?_
      refine Rn.lenD (gw rfl hb3) rfl ?_
      refine Rn.bin (gw rfl hb3) rfl rfl rfl ?_
      refine Rn.pickT (v := .d (.bool (decide ((a1.Edges.length : Int) ≤ 12)))) trivial rfl hb3 rfl ?_
      refine Rn.movD trivial rfl ?_
      refine Rn.nil ?_
      refine toN ?_
      refine Tr.ret ?_
      replace h := Option.some.inj h
      subst h
      exact ⟨.inr rfl, (.d (.bool (decide ((a1.Edges.length : Int) ≤ 12)))), rfl, fun _ _ _ _ h => h, trivial, fun k hk => memOf_base hk⟩
    · replace h := ifF hb3 h
      refine Rn.sk (nw rfl hb3) ?_
      refine Rn.sk (nw rfl hb3) ?_
      refine Rn.sk (nw rfl hb3) ?_
      refine Rn.sk (nw rfl hb3) ?_
      refine Rn.pickF (v := .d (.bool false)) trivial rfl hb3 rfl ?_
      refine Rn.movD trivial rfl ?_
      refine Rn.nil ?_
      refine toN ?_
      refine Tr.ret ?_
      replace h := Option.some.inj h
      subst h
      exact ⟨.inr rfl, (.d (.bool false)), rfl, fun _ _ _ _ h => h, trivial, fun k hk => memOf_base hk⟩
  · replace h := ifF hb2 h
    refine Rn.sk (nw rfl hb2) ?_
    refine Rn.sk (nw rfl hb2) ?_
    refine Rn.sk (nw rfl hb2) ?_
    refine Rn.sk (nw rfl hb2) ?_
    refine Rn.pickF (v := .d (.bool false)) trivial rfl hb2 rfl ?_
    refine Rn.movD trivial rfl ?_
    refine Rn.sk (nw (b := false) rfl rfl) ?_
    refine Rn.sk (nw (b := false) rfl rfl) ?_
    refine Rn.sk (nw (b := false) rfl rfl) ?_
    refine Rn.sk (nw (b := false) rfl rfl) ?_
    refine Rn.pickF (v := .d (.bool false)) trivial rfl rfl rfl ?_
    refine Rn.movD trivial rfl ?_
    refine Rn.nil ?_
    refine toN ?_
    refine Tr.ret ?_
    replace h := Option.some.inj h
    subst h
    exact ⟨.inr rfl, (.d (.bool false)), rfl, fun _ _ _ _ h => h, trivial, fun k hk => memOf_base hk⟩

theorem overseerref03_List_walk {P : Program} {c : Nat} (hcf : compFn P c = some F_overseerref03_List) (fuel : Nat) : K_overseerref03_List P c (f_overseerref03_List fuel) := by
  intro l1 most2 r h
  refine fn_trP hcf rfl fun Γ M hP hnt hM => ?_
  subst hP
  refine Tr.init [(0, .d (.lst 1 (List.map (eI .i64) l1))), (1, .d (.int .i64 most2))] rfl ?_
  unfold f_overseerref03_List at h
  unfold F_overseerref03_List
  refine Tr.seq ?_
  refine Tr.rgn ?_
  refine Rn.movD trivial rfl ?_
  refine Rn.nil ?_
  refine toN ?_
  refine Tr.seq ?_
  refine Tr.seq ?_
  refine Tr.rgn ?_
  refine Rn.movD trivial rfl ?_
  refine Rn.nil ?_
  refine toN ?_
  refine Tr.block ?_
  refine Tr.loop (mk := fun (i3 : Int) => ⟨look [(0, .d (.lst 1 (List.map (eI .i64) l1))), (1, .d (.int .i64 most2)), (5, .d (.int .i64 i3))], memOf Γ.n0 (bxs []) M, Γ.n0 + 39⟩) h (by show WeakSt Γ (clean _ _ _) ⟨look _, memOf _ (bxs _) _, _⟩; exact weak_clean ⟨(.same rfl), ⟨(.same rfl), ⟨(.same rfl), trivial⟩⟩⟩ trivial rfl) (fun k4 z h => ?_)
  · obtain ⟨i3, rfl⟩ : ∃ x, x = z := ⟨_, rfl⟩
    replace h : _ = some _ := h
    refine Tr.seq ?_
    refine Tr.seq ?_
    refine Tr.rgn ?_
    refine Rn.movD trivial rfl ?_
    refine Rn.movD trivial rfl ?_
    refine Rn.lenD trivial rfl ?_
    refine Rn.bin trivial rfl rfl rfl ?_
    refine Rn.nil ?_
    refine toN ?_
    refine Tr.cond rfl (fun hb5 => ?_) (fun hb5 => ?_)
    · replace h := ifT hb5 h
      refine Tr.skip ?_
      refine toN ?_
      refine Tr.seq ?_
      refine Tr.block ?_
      refine Tr.seq ?_
      refine Tr.cutB (fun (x11 : Bool) => ⟨look [(0, .d (.lst 1 (List.map (eI .i64) l1))), (1, .d (.int .i64 most2)), (5, .d (.int .i64 i3)), (24, .d (.bool x11))], memOf Γ.n0 (bxs []) M, Γ.n0 + 39⟩) h (fun z h => ?_) (fun z h => ?_)
      · refine Tr.rgn ?_
        refine Rn.movD trivial rfl ?_
        refine Rn.movD trivial rfl ?_
        replace h := bnd h
        obtain ⟨x6, h7, h⟩ := h
        refine Rn.idxD (e := (eI .i64)) trivial rfl rfl h7 ?_
        refine Rn.loadC (x := .int .i64 x6) trivial rfl ?_
        refine Rn.bin trivial rfl rfl rfl ?_
        refine Rn.movD trivial rfl ?_
        refine bsplit (decide (x6 < 0)) (fun hb8 => ?_) (fun hb8 => ?_)
        · replace h := ifT hb8 h
          refine Rn.sk (nw rfl hb8) ?_
          refine Rn.sk (nw rfl hb8) ?_
          refine Rn.sk (nw rfl hb8) ?_
          refine Rn.sk (nw rfl hb8) ?_
          refine Rn.sk (nw rfl hb8) ?_
          refine Rn.sk (nw rfl hb8) ?_
          refine Rn.pickT (v := .d (.bool true)) trivial rfl hb8 rfl ?_
          refine Rn.nil ?_
          replace h := Option.some.inj h
          subst h
          show WeakSt Γ _ ⟨look _, memOf _ (bxs _) _, _⟩; exact weak_cut [] ⟨(.same rfl), ⟨(.same rfl), ⟨(.same rfl), ⟨(.same rfl), trivial⟩⟩⟩⟩ trivial rfl
        · replace h := ifF hb8 h
          refine Rn.movD (gw rfl hb8) rfl ?_
          refine Rn.movD (gw rfl hb8) rfl ?_
          replace h := bnd h
          obtain ⟨x9, h10, h⟩ := h
          refine Rn.idxD (e := (eI .i64)) (gw rfl hb8) rfl rfl h10 ?_
          refine Rn.loadC (x := .int .i64 x9) (gw rfl hb8) rfl ?_
          refine Rn.movD (gw rfl hb8) rfl ?_
          refine Rn.bin (gw rfl hb8) rfl rfl rfl ?_
          refine Rn.pickF (v := .d (.bool (decide (x9 ≥ most2)))) trivial rfl hb8 rfl ?_
          refine Rn.nil ?_
          replace h := Option.some.inj h
          subst h
          show WeakSt Γ _ ⟨look _, memOf _ (bxs _) _, _⟩; exact weak_cut [] ⟨(.same rfl), ⟨(.same rfl), ⟨(.same rfl), ⟨(.same rfl), trivial⟩⟩⟩⟩ trivial rfl
      · obtain ⟨x11, rfl⟩ : ∃ x, x = z := ⟨_, rfl⟩
        refine Tr.cond rfl (fun hb12 => ?_) (fun hb12 => ?_)
        · replace h := bT hb12 h
          refine Tr.seq ?_
          refine Tr.rgn ?_
          refine Rn.movD trivial rfl ?_
          refine Rn.nil ?_
          refine toN ?_
          refine Tr.ret ?_
          replace h := Option.some.inj h
          subst h
          exact ⟨.inr rfl, (.d (.int .i64 2)), rfl, fun _ _ _ _ h => h, trivial, fun k hk => memOf_base hk⟩
        · replace h := bF hb12 h
          refine Tr.skip ?_
          refine toN ?_
          refine Tr.cutB (fun (x18 : Bool) => ⟨look [(0, .d (.lst 1 (List.map (eI .i64) l1))), (1, .d (.int .i64 most2)), (5, .d (.int .i64 i3)), (38, .d (.bool x18))], memOf Γ.n0 (bxs []) M, Γ.n0 + 39⟩) h (fun z h => ?_) (fun z h => ?_)
          · refine Tr.rgnD (by decide) ?_
            refine Rn.movD trivial rfl ?_
            refine Rn.bin trivial rfl rfl rfl ?_
            refine Rn.movD trivial rfl ?_
            refine bsplit (decide (i3 > 0)) (fun hb13 => ?_) (fun hb13 => ?_)
            · replace h := ifT hb13 h
              refine Rn.movD (gw rfl hb13) rfl ?_
              refine Rn.movD (gw rfl hb13) rfl ?_
              replace h := bnd h
              obtain ⟨x14, h15, h⟩ := h
              refine Rn.idxD (e := (eI .i64)) (gw rfl hb13) rfl rfl h15 ?_
              refine Rn.loadC (x := .int .i64 x14) (gw rfl hb13) rfl ?_
              refine Rn.movD (gw rfl hb13) rfl ?_
              refine Rn.movD (gw rfl hb13) rfl ?_
              refine Rn.bin (gw rfl hb13) rfl rfl rfl ?_
              replace h := bnd h
              obtain ⟨x16, h17, h⟩ := h
              refine Rn.idxD (e := (eI .i64)) (gw rfl hb13) rfl rfl h17 ?_
              refine Rn.loadC (x := .int .i64 x16) (gw rfl hb13) rfl ?_
              refine Rn.bin (gw rfl hb13) rfl rfl rfl ?_
              refine Rn.pickT (v := .d (.bool (decide (x14 ≤ x16)))) trivial rfl hb13 rfl ?_
              refine Rn.nil ⟨rfl, ?_⟩
              replace h := Option.some.inj h
              subst h
              show WeakSt Γ _ ⟨look _, memOf _ (bxs _) _, _⟩; exact weak_cut [] ⟨(.same rfl), ⟨(.same rfl), ⟨(.same rfl), ⟨(.same rfl), trivial⟩⟩⟩⟩ trivial rfl
            · replace h := ifF hb13 h
              refine Rn.sk (nw rfl hb13) ?_
              refine Rn.sk (nw rfl hb13) ?_
              refine Rn.sk (nw rfl hb13) ?_
              refine Rn.sk (nw rfl hb13) ?_
              refine Rn.sk (nw rfl hb13) ?_
              refine Rn.sk (nw rfl hb13) ?_
              refine Rn.sk (nw rfl hb13) ?_
              refine Rn.sk (nw rfl hb13) ?_
              refine Rn.sk (nw rfl hb13) ?_
              refine Rn.sk (nw rfl hb13) ?_
              refine Rn.pickF (v := .d (.bool false)) trivial rfl hb13 rfl ?_
              refine Rn.nil ⟨rfl, ?_⟩
              replace h := Option.some.inj h
              subst h
              show WeakSt Γ _ ⟨look _, memOf _ (bxs _) _, _⟩; exact weak_cut [] ⟨(.same rfl), ⟨(.same rfl), ⟨(.same rfl), ⟨(.same rfl), trivial⟩⟩⟩⟩ trivial rfl
          · obtain ⟨x18, rfl⟩ : ∃ x, x = z := ⟨_, rfl⟩
            refine Tr.cond rfl (fun hb19 => ?_) (fun hb19 => ?_)
            · replace h := bT hb19 h
              refine Tr.seq ?_
              refine Tr.rgn ?_
              refine Rn.movD trivial rfl ?_
              refine Rn.nil ?_
              refine toN ?_
              refine Tr.ret ?_
              replace h := Option.some.inj h
              subst h
              exact ⟨.inr rfl, (.d (.int .i64 5)), rfl, fun _ _ _ _ h => h, trivial, fun k hk => memOf_base hk⟩
            · replace h := bF hb19 h
              refine Tr.skip ?_
              refine toN ?_
              refine Tr.rgn ?_
              refine Rn.movD trivial rfl ?_
              refine Rn.bin trivial rfl rfl rfl ?_
              refine Rn.movD trivial rfl ?_
              refine Rn.nil ?_
              exact ⟨_, h, (by show WeakSt Γ (clean _ _ _) ⟨look _, memOf _ (bxs _) _, _⟩; exact weak_clean ⟨(.same rfl), ⟨(.same rfl), ⟨(.same rfl), trivial⟩⟩⟩ trivial rfl)⟩
    · replace h := ifF hb5 h
      refine Tr.exit ?_
      refine toN ?_
      refine Tr.seq ?_
      refine Tr.rgn ?_
      refine Rn.movD trivial rfl ?_
      refine Rn.nil ?_
      refine toN ?_
      refine Tr.ret ?_
      replace h := Option.some.inj h
      subst h
      exact ⟨.inr rfl, (.d (.int .i64 0)), rfl, fun _ _ _ _ h => h, trivial, fun k hk => memOf_base hk⟩

theorem overseerref03_has_walk {P : Program} {c : Nat} (hcf : compFn P c = some F_overseerref03_has) (fuel : Nat) : K_overseerref03_has P c (f_overseerref03_has fuel) := by
  intro l1 n2 r h
  refine fn_trP hcf rfl fun Γ M hP hnt hM => ?_
  subst hP
  refine Tr.init [(0, .d (.lst 1 (List.map (eI .i64) l1))), (1, .d (.int .i64 n2))] rfl ?_
  unfold f_overseerref03_has at h
  unfold F_overseerref03_has
  refine Tr.seq ?_
  refine Tr.rgn ?_
  refine Rn.movD trivial rfl ?_
  refine Rn.nil ?_
  refine toN ?_
  refine Tr.seq ?_
  refine Tr.seq ?_
  refine Tr.rgn ?_
  refine Rn.movD trivial rfl ?_
  refine Rn.nil ?_
  refine toN ?_
  refine Tr.block ?_
  refine Tr.loop (mk := fun (i3 : Int) => ⟨look [(0, .d (.lst 1 (List.map (eI .i64) l1))), (1, .d (.int .i64 n2)), (5, .d (.int .i64 i3))], memOf Γ.n0 (bxs []) M, Γ.n0 + 18⟩) h (by show WeakSt Γ (clean _ _ _) ⟨look _, memOf _ (bxs _) _, _⟩; exact weak_clean ⟨(.same rfl), ⟨(.same rfl), ⟨(.same rfl), trivial⟩⟩⟩ trivial rfl) (fun k4 z h => ?_)
  · obtain ⟨i3, rfl⟩ : ∃ x, x = z := ⟨_, rfl⟩
    replace h : _ = some _ := h
    refine Tr.seq ?_
    refine Tr.seq ?_
    refine Tr.rgn ?_
    refine Rn.movD trivial rfl ?_
    refine Rn.movD trivial rfl ?_
    refine Rn.lenD trivial rfl ?_
    refine Rn.bin trivial rfl rfl rfl ?_
    refine Rn.nil ?_
    refine toN ?_
    refine Tr.cond rfl (fun hb5 => ?_) (fun hb5 => ?_)
    · replace h := ifT hb5 h
      refine Tr.skip ?_
      refine toN ?_
      refine Tr.seq ?_
      refine Tr.block ?_
      refine Tr.seq ?_
      refine Tr.rgn ?_
      refine Rn.movD trivial rfl ?_
      refine Rn.movD trivial rfl ?_
      replace h := bnd h
      obtain ⟨x6, h7, h⟩ := h
      refine Rn.idxD (e := (eI .i64)) trivial rfl rfl h7 ?_
      refine Rn.loadC (x := .int .i64 x6) trivial rfl ?_
      refine Rn.movD trivial rfl ?_
      refine Rn.bin trivial rfl rfl rfl ?_
      refine Rn.nil ?_
      refine toN ?_
      refine Tr.cond rfl (fun hb8 => ?_) (fun hb8 => ?_)
      · replace h := bT hb8 h
        refine Tr.seq ?_
        refine Tr.rgn ?_
        refine Rn.movD trivial rfl ?_
        refine Rn.nil ?_
        refine toN ?_
        refine Tr.ret ?_
        replace h := Option.some.inj h
        subst h
        exact ⟨.inr rfl, (.d (.bool true)), rfl, fun _ _ _ _ h => h, trivial, fun k hk => memOf_base hk⟩
      · replace h := bF hb8 h
        refine Tr.skip ?_
        refine toN ?_
        refine Tr.rgn ?_
        refine Rn.movD trivial rfl ?_
        refine Rn.bin trivial rfl rfl rfl ?_
        refine Rn.movD trivial rfl ?_
        refine Rn.nil ?_
        exact ⟨_, h, (by show WeakSt Γ (clean _ _ _) ⟨look _, memOf _ (bxs _) _, _⟩; exact weak_clean ⟨(.same rfl), ⟨(.same rfl), ⟨(.same rfl), trivial⟩⟩⟩ trivial rfl)⟩
    · replace h := ifF hb5 h
      refine Tr.exit ?_
      refine toN ?_
      refine Tr.seq ?_
      refine Tr.rgn ?_
      refine Rn.movD trivial rfl ?_
      refine Rn.nil ?_
      refine toN ?_
      refine Tr.ret ?_
      replace h := Option.some.inj h
      subst h
      exact ⟨.inr rfl, (.d (.bool false)), rfl, fun _ _ _ _ h => h, trivial, fun k hk => memOf_base hk⟩

theorem overseerref03_Check_walk {P : Program} {c : Nat} {f_overseerref03_has : (List Int) → Int → Option Bool} {f_overseerref03_List : (List Int) → Int → Option Int}
    (H_overseerref03_has : K_overseerref03_has P 51 f_overseerref03_has)
    (H_overseerref03_List : K_overseerref03_List P 60 f_overseerref03_List) (hcf : compFn P c = some F_overseerref03_Check) (fuel : Nat) : K_overseerref03_Check P c (f_overseerref03_Check f_overseerref03_has f_overseerref03_List fuel) := by
  intro a1 r h
  refine fn_trP hcf rfl fun Γ M hP hnt hM => ?_
  subst hP
  refine Tr.init [(0, .agg [.d (.lst 1 (List.map (eI .i64) a1.Alphabet)), .d (.int .i64 a1.States), .d (.lst 1 (List.map (eI .i64) a1.Marked)), .d (.lst 3 (List.map e_api_Edge a1.Edges))])] rfl ?_
  unfold f_overseerref03_Check at h
  unfold F_overseerref03_Check
  refine Tr.seq ?_
  refine Tr.rgn ?_
  refine Rn.box (v := .agg [.d (.lst 1 (List.map (eI .i64) a1.Alphabet)), .d (.int .i64 a1.States), .d (.lst 1 (List.map (eI .i64) a1.Marked)), .d (.lst 3 (List.map e_api_Edge a1.Edges))]) (cs := [.d (.lst 1 (List.map (eI .i64) a1.Alphabet)), .d (.int .i64 a1.States), .d (.lst 1 (List.map (eI .i64) a1.Marked)), .d (.lst 3 (List.map e_api_Edge a1.Edges))]) trivial rfl rfl rfl rfl rfl ?_
  refine Rn.movD trivial rfl ?_
  refine Rn.nil ?_
  refine toN ?_
  refine Tr.seq ?_
  refine Tr.seq ?_
  refine Tr.rgn ?_
  refine Rn.fldP (o' := 0) trivial rfl rfl ?_
  refine Rn.load (v := .d (.lst 1 (List.map (eI .i64) a1.Alphabet))) trivial rfl (boxOwn rfl) rfl rfl ?_
  replace h := bnd h
  obtain ⟨x3, h2, h⟩ := h
  refine Rn.call (args := [.d (.lst 1 (List.map (eI .i64) a1.Alphabet)), .d (.int .i64 32)]) trivial rfl (H_overseerref03_List _ _ _ h2) pc9 ?_
  refine Rn.movD trivial rfl ?_
  refine Rn.nil ?_
  refine toN ?_
  refine Tr.seq ?_
  refine Tr.rgn ?_
  refine Rn.movD trivial rfl ?_
  refine Rn.bin trivial rfl rfl rfl ?_
  refine Rn.nil ?_
  refine toN ?_
  refine Tr.cond rfl (fun hb4 => ?_) (fun hb4 => ?_)
  · replace h := bT hb4 h
    refine Tr.seq ?_
    refine Tr.rgn ?_
    refine Rn.movD trivial rfl ?_
    refine Rn.movD trivial rfl ?_
    refine Rn.nil ?_
    refine toN ?_
    refine Tr.ret ?_
    replace h := Option.some.inj h
    subst h
    exact ⟨.inr rfl, (.d (.int .i64 x3)), rfl, fun _ _ _ _ h => h, trivial, fun k hk => memOf_base hk⟩
  · replace h := bF hb4 h
    refine Tr.skip ?_
    refine toN ?_
    refine Tr.seq ?_
    refine Tr.seq ?_
    refine Tr.rgn ?_
    refine Rn.fldP (o' := 1) trivial rfl rfl ?_
    refine Rn.load (v := .d (.int .i64 a1.States)) trivial rfl (boxOwn rfl) rfl rfl ?_
    refine Rn.bin trivial rfl rfl rfl ?_
    refine Rn.nil ?_
    refine toN ?_
    refine Tr.cond rfl (fun hb5 => ?_) (fun hb5 => ?_)
    · replace h := ifT hb5 h
      refine Tr.seq ?_
      refine Tr.rgn ?_
      refine Rn.movD trivial rfl ?_
      refine Rn.nil ?_
      refine toN ?_
      refine Tr.ret ?_
      replace h := Option.some.inj h
      subst h
      exact ⟨.inr rfl, (.d (.int .i64 2)), rfl, fun _ _ _ _ h => h, trivial, fun k hk => memOf_base hk⟩
    · replace h := ifF hb5 h
      refine Tr.skip ?_
      refine toN ?_
      refine Tr.seq ?_
      refine Tr.seq ?_
      refine Tr.rgn ?_
      refine Rn.fldP (o' := 1) trivial rfl rfl ?_
      refine Rn.load (v := .d (.int .i64 a1.States)) trivial rfl (boxOwn rfl) rfl rfl ?_
      refine Rn.bin trivial rfl rfl rfl ?_
      refine Rn.nil ?_
      refine toN ?_
      refine Tr.cond rfl (fun hb6 => ?_) (fun hb6 => ?_)
      · replace h := ifT hb6 h
        refine Tr.seq ?_
        refine Tr.rgn ?_
        refine Rn.movD trivial rfl ?_
        refine Rn.nil ?_
        refine toN ?_
        refine Tr.ret ?_
        replace h := Option.some.inj h
        subst h
        exact ⟨.inr rfl, (.d (.int .i64 3)), rfl, fun _ _ _ _ h => h, trivial, fun k hk => memOf_base hk⟩
      · replace h := ifF hb6 h
        refine Tr.skip ?_
        refine toN ?_
        refine Tr.seq ?_
        refine Tr.seq ?_
        refine Tr.rgn ?_
        refine Rn.fldP (o' := 2) trivial rfl rfl ?_
        refine Rn.load (v := .d (.lst 1 (List.map (eI .i64) a1.Marked))) trivial rfl (boxOwn rfl) rfl rfl ?_
        refine Rn.fldP (o' := 1) trivial rfl rfl ?_
        refine Rn.load (v := .d (.int .i64 a1.States)) trivial rfl (boxOwn rfl) rfl rfl ?_
        replace h := bnd h
        obtain ⟨x8, h7, h⟩ := h
        refine Rn.call (args := [.d (.lst 1 (List.map (eI .i64) a1.Marked)), .d (.int .i64 a1.States)]) trivial rfl (H_overseerref03_List _ _ _ h7) pc9 ?_
        refine Rn.movD trivial rfl ?_
        refine Rn.nil ?_
        refine toN ?_
        refine Tr.seq ?_
        refine Tr.rgn ?_
        refine Rn.movD trivial rfl ?_
        refine Rn.bin trivial rfl rfl rfl ?_
        refine Rn.nil ?_
        refine toN ?_
        refine Tr.cond rfl (fun hb9 => ?_) (fun hb9 => ?_)
        · replace h := bT hb9 h
          refine Tr.seq ?_
          refine Tr.rgn ?_
          refine Rn.movD trivial rfl ?_
          refine Rn.movD trivial rfl ?_
          refine Rn.nil ?_
          refine toN ?_
          refine Tr.ret ?_
          replace h := Option.some.inj h
          subst h
          exact ⟨.inr rfl, (.d (.int .i64 x8)), rfl, fun _ _ _ _ h => h, trivial, fun k hk => memOf_base hk⟩
        · replace h := bF hb9 h
          refine Tr.skip ?_
          refine toN ?_
          refine Tr.seq ?_
          refine Tr.seq ?_
          refine Tr.rgn ?_
          refine Rn.movD trivial rfl ?_
          refine Rn.nil ?_
          refine toN ?_
          refine Tr.block ?_
          refine Tr.loop (mk := fun (i10 : Int) => ⟨look [(1, .ptr (Γ.n0 + 1) 0), (5, .d (.int .i64 i10))], memOf Γ.n0 (bxs [(1, [.d (.lst 1 (List.map (eI .i64) a1.Alphabet)), .d (.int .i64 a1.States), .d (.lst 1 (List.map (eI .i64) a1.Marked)), .d (.lst 3 (List.map e_api_Edge a1.Edges))])]) M, Γ.n0 + 105⟩) h (by show WeakSt Γ (clean _ _ _) ⟨look _, memOf _ (bxs _) _, _⟩; exact weak_clean ⟨(kPtr rfl), ⟨(.same rfl), trivial⟩⟩ ⟨⟨_, rfl, rfl, (.same rfl)⟩, trivial⟩ rfl) (fun k11 z h => ?_)
          · obtain ⟨i10, rfl⟩ : ∃ x, x = z := ⟨_, rfl⟩
            replace h : _ = some _ := h
            refine Tr.seq ?_
            refine Tr.seq ?_
            refine Tr.rgn ?_
            refine Rn.movD trivial rfl ?_
            refine Rn.fldP (o' := 3) trivial rfl rfl ?_
            refine Rn.load (v := .d (.lst 3 (List.map e_api_Edge a1.Edges))) trivial rfl (boxOwn rfl) rfl rfl ?_
            refine Rn.lenD trivial rfl ?_
            refine Rn.bin trivial rfl rfl rfl ?_
            refine Rn.nil ?_
            refine toN ?_
            refine Tr.cond rfl (fun hb12 => ?_) (fun hb12 => ?_)
            · replace h := ifT hb12 h
              refine Tr.skip ?_
              refine toN ?_
              refine Tr.seq ?_
              refine Tr.block ?_
              refine Tr.seq ?_
              refine Tr.rgn ?_
              refine Rn.fldP (o' := 3) trivial rfl rfl ?_
              refine Rn.load (v := .d (.lst 3 (List.map e_api_Edge a1.Edges))) trivial rfl (boxOwn rfl) rfl rfl ?_
              refine Rn.movD trivial rfl ?_
              replace h := bnd h
              obtain ⟨x13, h14, h⟩ := h
              refine Rn.idxD (e := e_api_Edge) trivial rfl rfl h14 ?_
              refine Rn.loadCA (vs := [.d (.int .i64 x13.From), .d (.int .i64 x13.Event), .d (.int .i64 x13.To)]) trivial rfl rfl rfl ?_
              refine Rn.alloc trivial rfl ?_
              refine Rn.store (v := .agg [.d (.int .i64 x13.From), .d (.int .i64 x13.Event), .d (.int .i64 x13.To)]) (cs' := [.d (.int .i64 x13.From), .d (.int .i64 x13.Event), .d (.int .i64 x13.To)]) trivial rfl rfl rfl rfl rfl rfl ?_
              refine Rn.nil ?_
              refine toN ?_
              refine Tr.seq ?_
              refine Tr.cutB (fun (x18 : Bool) => ⟨look [(1, .ptr (Γ.n0 + 1) 0), (5, .d (.int .i64 i10)), (6, .ptr (Γ.n0 + 6) 0), (60, .d (.bool x18))], memOf Γ.n0 (bxs [(1, [.d (.lst 1 (List.map (eI .i64) a1.Alphabet)), .d (.int .i64 a1.States), .d (.lst 1 (List.map (eI .i64) a1.Marked)), .d (.lst 3 (List.map e_api_Edge a1.Edges))]), (6, [.d (.int .i64 x13.From), .d (.int .i64 x13.Event), .d (.int .i64 x13.To)])]) M, Γ.n0 + 105⟩) h (fun z h => ?_) (fun z h => ?_)
              · refine Tr.rgn ?_
                refine Rn.fldP (o' := 0) trivial rfl rfl ?_
                refine Rn.load (v := .d (.int .i64 x13.From)) trivial rfl (boxOwn rfl) rfl rfl ?_
                refine Rn.bin trivial rfl rfl rfl ?_
                refine Rn.movD trivial rfl ?_
                refine bsplit (decide (x13.From < 0)) (fun hb15 => ?_) (fun hb15 => ?_)
                · replace h := ifT hb15 h
                  refine Rn.sk (nw rfl hb15) ?_
                  refine Rn.sk (nw rfl hb15) ?_
                  refine Rn.sk (nw rfl hb15) ?_
                  refine Rn.sk (nw rfl hb15) ?_
                  refine Rn.sk (nw rfl hb15) ?_
                  refine Rn.pickT (v := .d (.bool true)) trivial rfl hb15 rfl ?_
                  refine Rn.movD trivial rfl ?_
                  refine Rn.sk (nw (b := true) rfl rfl) ?_
                  refine Rn.sk (nw (b := true) rfl rfl) ?_
                  refine Rn.sk (nw (b := true) rfl rfl) ?_
                  refine Rn.pickT (v := .d (.bool true)) trivial rfl rfl rfl ?_
                  refine Rn.movD trivial rfl ?_
                  refine Rn.sk (nw (b := true) rfl rfl) ?_
                  refine Rn.sk (nw (b := true) rfl rfl) ?_
                  refine Rn.sk (nw (b := true) rfl rfl) ?_
                  refine Rn.sk (nw (b := true) rfl rfl) ?_
                  refine Rn.sk (nw (b := true) rfl rfl) ?_
                  refine Rn.pickT (v := .d (.bool true)) trivial rfl rfl rfl ?_
                  refine Rn.nil ?_
                  replace h := Option.some.inj h
                  subst h
                  show WeakSt Γ _ ⟨look _, memOf _ (bxs _) _, _⟩; exact weak_cut [] ⟨(kPtr rfl), ⟨(.same rfl), ⟨(kPtr rfl), ⟨(.same rfl), trivial⟩⟩⟩⟩ ⟨⟨_, rfl, rfl, (.same rfl)⟩, ⟨⟨_, rfl, rfl, (.same rfl)⟩, trivial⟩⟩ rfl
                · replace h := ifF hb15 h
                  refine Rn.fldP (o' := 0) (gw rfl hb15) rfl rfl ?_
                  refine Rn.load (v := .d (.int .i64 x13.From)) (gw rfl hb15) rfl (boxOwn rfl) rfl rfl ?_
                  refine Rn.fldP (o' := 1) (gw rfl hb15) rfl rfl ?_
                  refine Rn.load (v := .d (.int .i64 a1.States)) (gw rfl hb15) rfl (boxOwn rfl) rfl rfl ?_
                  refine Rn.bin (gw rfl hb15) rfl rfl rfl ?_
                  refine Rn.pickF (v := .d (.bool (decide (x13.From ≥ a1.States)))) trivial rfl hb15 rfl ?_
                  refine Rn.movD trivial rfl ?_
                  refine bsplit (decide (x13.From ≥ a1.States)) (fun hb16 => ?_) (fun hb16 => ?_)
                  · replace h := ifT hb16 h
                    refine Rn.sk (nw rfl hb16) ?_
                    refine Rn.sk (nw rfl hb16) ?_
                    refine Rn.sk (nw rfl hb16) ?_
                    refine Rn.pickT (v := .d (.bool true)) trivial rfl hb16 rfl ?_
                    refine Rn.movD trivial rfl ?_
                    refine Rn.sk (nw (b := true) rfl rfl) ?_
                    refine Rn.sk (nw (b := true) rfl rfl) ?_
                    refine Rn.sk (nw (b := true) rfl rfl) ?_
                    refine Rn.sk (nw (b := true) rfl rfl) ?_
                    refine Rn.sk (nw (b := true) rfl rfl) ?_
                    refine Rn.pickT (v := .d (.bool true)) trivial rfl rfl rfl ?_
                    refine Rn.nil ?_
                    replace h := Option.some.inj h
                    subst h
                    show WeakSt Γ _ ⟨look _, memOf _ (bxs _) _, _⟩; exact weak_cut [] ⟨(kPtr rfl), ⟨(.same rfl), ⟨(kPtr rfl), ⟨(.same rfl), trivial⟩⟩⟩⟩ ⟨⟨_, rfl, rfl, (.same rfl)⟩, ⟨⟨_, rfl, rfl, (.same rfl)⟩, trivial⟩⟩ rfl
                  · replace h := ifF hb16 h
                    refine Rn.fldP (o' := 2) (gw rfl hb16) rfl rfl ?_
                    refine Rn.load (v := .d (.int .i64 x13.To)) (gw rfl hb16) rfl (boxOwn rfl) rfl rfl ?_
                    refine Rn.bin (gw rfl hb16) rfl rfl rfl ?_
                    refine Rn.pickF (v := .d (.bool (decide (x13.To < 0)))) trivial rfl hb16 rfl ?_
                    refine Rn.movD trivial rfl ?_
                    refine bsplit (decide (x13.To < 0)) (fun hb17 => ?_) (fun hb17 => ?_)
                    · replace h := ifT hb17 h
                      refine Rn.sk (nw rfl hb17) ?_
                      refine Rn.sk (nw rfl hb17) ?_
                      refine Rn.sk (nw rfl hb17) ?_
                      refine Rn.sk (nw rfl hb17) ?_
                      refine Rn.sk (nw rfl hb17) ?_
                      refine Rn.pickT (v := .d (.bool true)) trivial rfl hb17 rfl ?_
                      refine Rn.nil ?_
                      replace h := Option.some.inj h
                      subst h
                      show WeakSt Γ _ ⟨look _, memOf _ (bxs _) _, _⟩; exact weak_cut [] ⟨(kPtr rfl), ⟨(.same rfl), ⟨(kPtr rfl), ⟨(.same rfl), trivial⟩⟩⟩⟩ ⟨⟨_, rfl, rfl, (.same rfl)⟩, ⟨⟨_, rfl, rfl, (.same rfl)⟩, trivial⟩⟩ rfl
                    · replace h := ifF hb17 h
                      refine Rn.fldP (o' := 2) (gw rfl hb17) rfl rfl ?_
                      refine Rn.load (v := .d (.int .i64 x13.To)) (gw rfl hb17) rfl (boxOwn rfl) rfl rfl ?_
                      refine Rn.fldP (o' := 1) (gw rfl hb17) rfl rfl ?_
                      refine Rn.load (v := .d (.int .i64 a1.States)) (gw rfl hb17) rfl (boxOwn rfl) rfl rfl ?_
                      refine Rn.bin (gw rfl hb17) rfl rfl rfl ?_
                      refine Rn.pickF (v := .d (.bool (decide (x13.To ≥ a1.States)))) trivial rfl hb17 rfl ?_
                      refine Rn.nil ?_
                      replace h := Option.some.inj h
                      subst h
                      show WeakSt Γ _ ⟨look _, memOf _ (bxs _) _, _⟩; exact weak_cut [] ⟨(kPtr rfl), ⟨(.same rfl), ⟨(kPtr rfl), ⟨(.same rfl), trivial⟩⟩⟩⟩ ⟨⟨_, rfl, rfl, (.same rfl)⟩, ⟨⟨_, rfl, rfl, (.same rfl)⟩, trivial⟩⟩ rfl
              · obtain ⟨x18, rfl⟩ : ∃ x, x = z := ⟨_, rfl⟩
                refine Tr.cond rfl (fun hb19 => ?_) (fun hb19 => ?_)
                · replace h := bT hb19 h
                  refine Tr.seq ?_
                  refine Tr.rgn ?_
                  refine Rn.movD trivial rfl ?_
                  refine Rn.nil ?_
                  refine toN ?_
                  refine Tr.ret ?_
                  replace h := Option.some.inj h
                  subst h
                  exact ⟨.inr rfl, (.d (.int .i64 2)), rfl, fun _ _ _ _ h => h, trivial, fun k hk => memOf_base hk⟩
                · replace h := bF hb19 h
                  refine Tr.skip ?_
                  refine toN ?_
                  refine Tr.seq ?_
                  refine Tr.seq ?_
                  refine Tr.rgn ?_
                  refine Rn.fldP (o' := 0) trivial rfl rfl ?_
                  refine Rn.load (v := .d (.lst 1 (List.map (eI .i64) a1.Alphabet))) trivial rfl (boxOwn rfl) rfl rfl ?_
                  refine Rn.fldP (o' := 1) trivial rfl rfl ?_
                  refine Rn.load (v := .d (.int .i64 x13.Event)) trivial rfl (boxOwn rfl) rfl rfl ?_
                  replace h := bnd h
                  obtain ⟨x21, h20, h⟩ := h
                  refine Rn.call (args := [.d (.lst 1 (List.map (eI .i64) a1.Alphabet)), .d (.int .i64 x13.Event)]) trivial rfl (H_overseerref03_has _ _ _ h20) pc9 ?_
                  refine Rn.un trivial rfl rfl ?_
                  refine Rn.nil ?_
                  refine toN ?_
                  refine Tr.cond rfl (fun hb22 => ?_) (fun hb22 => ?_)
                  · have hb22 := nT' hb22
                    replace h := bF hb22 h
                    refine Tr.seq ?_
                    refine Tr.rgn ?_
                    refine Rn.movD trivial rfl ?_
                    refine Rn.nil ?_
                    refine toN ?_
                    refine Tr.ret ?_
                    replace h := Option.some.inj h
                    subst h
                    exact ⟨.inr rfl, (.d (.int .i64 9)), rfl, fun _ _ _ _ h => h, trivial, fun k hk => memOf_base hk⟩
                  · have hb22 := nF' hb22
                    replace h := bT hb22 h
                    refine Tr.skip ?_
                    refine toN ?_
                    refine Tr.cutB (fun (x32 : Bool) => ⟨look [(1, .ptr (Γ.n0 + 1) 0), (5, .d (.int .i64 i10)), (104, .d (.bool x32))], memOf Γ.n0 (bxs [(1, [.d (.lst 1 (List.map (eI .i64) a1.Alphabet)), .d (.int .i64 a1.States), .d (.lst 1 (List.map (eI .i64) a1.Marked)), .d (.lst 3 (List.map e_api_Edge a1.Edges))]), (6, [.d (.int .i64 x13.From), .d (.int .i64 x13.Event), .d (.int .i64 x13.To)])]) M, Γ.n0 + 105⟩) h (fun z h => ?_) (fun z h => ?_)
                    · refine Tr.rgnD (by decide) ?_
                      refine Rn.movD trivial rfl ?_
                      refine Rn.bin trivial rfl rfl rfl ?_
                      refine Rn.movD trivial rfl ?_
                      refine bsplit (decide (i10 > 0)) (fun hb23 => ?_) (fun hb23 => ?_)
                      · replace h := ifT hb23 h
                        refine Rn.fldP (o' := 0) (gw rfl hb23) rfl rfl ?_
                        refine Rn.load (v := .d (.int .i64 x13.From)) (gw rfl hb23) rfl (boxOwn rfl) rfl rfl ?_
                        refine Rn.fldP (o' := 3) (gw rfl hb23) rfl rfl ?_
                        refine Rn.load (v := .d (.lst 3 (List.map e_api_Edge a1.Edges))) (gw rfl hb23) rfl (boxOwn rfl) rfl rfl ?_
                        refine Rn.movD (gw rfl hb23) rfl ?_
                        refine Rn.bin (gw rfl hb23) rfl rfl rfl ?_
                        replace h := bnd h
                        obtain ⟨x24, h25, h⟩ := h
                        refine Rn.idxD (e := e_api_Edge) (gw rfl hb23) rfl rfl h25 ?_
                        refine Rn.fldC (gw rfl hb23) rfl ?_
                        refine Rn.loadC (x := .int .i64 x24.From) (gw rfl hb23) rfl ?_
                        refine Rn.bin (gw rfl hb23) rfl rfl rfl ?_
                        refine Rn.movD (gw rfl hb23) rfl ?_
                        refine bsplit (decide (x13.From < x24.From)) (fun hb26 => ?_) (fun hb26 => ?_)
                        · replace h := ifT hb26 h
                          refine Rn.sk (nw rfl hb26) ?_
                          refine Rn.sk (nw rfl hb26) ?_
                          refine Rn.sk (nw rfl hb26) ?_
                          refine Rn.sk (nw rfl hb26) ?_
                          refine Rn.sk (nw rfl hb26) ?_
                          refine Rn.sk (nw rfl hb26) ?_
                          refine Rn.sk (nw rfl hb26) ?_
                          refine Rn.sk (nw rfl hb26) ?_
                          refine Rn.sk (nw rfl hb26) ?_
                          refine Rn.sk (nw rfl hb26) ?_
                          refine Rn.sk (nw rfl hb26) ?_
                          refine Rn.sk (nu rfl) ?_
                          refine Rn.sk (nu rfl) ?_
                          refine Rn.sk (nu rfl) ?_
                          refine Rn.sk (nu rfl) ?_
                          refine Rn.sk (nu rfl) ?_
                          refine Rn.sk (nu rfl) ?_
                          refine Rn.sk (nu rfl) ?_
                          refine Rn.sk (nu rfl) ?_
                          refine Rn.sk (nu rfl) ?_
                          refine Rn.sk (nu rfl) ?_
                          refine Rn.sk (nw rfl hb26) ?_
                          refine Rn.pickT (v := .d (.bool true)) (gw rfl hb23) rfl hb26 rfl ?_
                          refine Rn.pickT (v := .d (.bool true)) trivial rfl hb23 rfl ?_
                          refine Rn.nil ⟨rfl, ?_⟩
                          replace h := Option.some.inj h
                          subst h
                          show WeakSt Γ _ ⟨look _, memOf _ (bxs _) _, _⟩; exact weak_cut [] ⟨(kPtr rfl), ⟨(.same rfl), ⟨(.same rfl), trivial⟩⟩⟩ ⟨⟨_, rfl, rfl, (.same rfl)⟩, ⟨⟨_, rfl, rfl, (.same rfl)⟩, trivial⟩⟩ rfl
                        · replace h := ifF hb26 h
                          refine Rn.fldP (o' := 0) (gw rfl hb26) rfl rfl ?_
                          refine Rn.load (v := .d (.int .i64 x13.From)) (gw rfl hb26) rfl (boxOwn rfl) rfl rfl ?_
                          refine Rn.fldP (o' := 3) (gw rfl hb26) rfl rfl ?_
                          refine Rn.load (v := .d (.lst 3 (List.map e_api_Edge a1.Edges))) (gw rfl hb26) rfl (boxOwn rfl) rfl rfl ?_
                          refine Rn.movD (gw rfl hb26) rfl ?_
                          refine Rn.bin (gw rfl hb26) rfl rfl rfl ?_
                          replace h := bnd h
                          obtain ⟨x27, h28, h⟩ := h
                          refine Rn.idxD (e := e_api_Edge) (gw rfl hb26) rfl rfl h28 ?_
                          refine Rn.fldC (gw rfl hb26) rfl ?_
                          refine Rn.loadC (x := .int .i64 x27.From) (gw rfl hb26) rfl ?_
                          refine Rn.bin (gw rfl hb26) rfl rfl rfl ?_
                          refine Rn.movD (gw rfl hb26) rfl ?_
                          refine bsplit (x13.From == x27.From) (fun hb29 => ?_) (fun hb29 => ?_)
                          · replace h := bT hb29 h
                            refine Rn.fldP (o' := 1) (gw rfl hb29) rfl rfl ?_
                            refine Rn.load (v := .d (.int .i64 x13.Event)) (gw rfl hb29) rfl (boxOwn rfl) rfl rfl ?_
                            refine Rn.fldP (o' := 3) (gw rfl hb29) rfl rfl ?_
                            refine Rn.load (v := .d (.lst 3 (List.map e_api_Edge a1.Edges))) (gw rfl hb29) rfl (boxOwn rfl) rfl rfl ?_
                            refine Rn.movD (gw rfl hb29) rfl ?_
                            refine Rn.bin (gw rfl hb29) rfl rfl rfl ?_
                            replace h := bnd h
                            obtain ⟨x30, h31, h⟩ := h
                            refine Rn.idxD (e := e_api_Edge) (gw rfl hb29) rfl rfl h31 ?_
                            refine Rn.fldC (gw rfl hb29) rfl ?_
                            refine Rn.loadC (x := .int .i64 x30.Event) (gw rfl hb29) rfl ?_
                            refine Rn.bin (gw rfl hb29) rfl rfl rfl ?_
                            refine Rn.pickT (v := .d (.bool (decide (x13.Event ≤ x30.Event)))) (gw rfl hb26) rfl hb29 rfl ?_
                            refine Rn.pickF (v := .d (.bool (decide (x13.Event ≤ x30.Event)))) (gw rfl hb23) rfl hb26 rfl ?_
                            refine Rn.pickT (v := .d (.bool (decide (x13.Event ≤ x30.Event)))) trivial rfl hb23 rfl ?_
                            refine Rn.nil ⟨rfl, ?_⟩
                            replace h := Option.some.inj h
                            subst h
                            show WeakSt Γ _ ⟨look _, memOf _ (bxs _) _, _⟩; exact weak_cut [] ⟨(kPtr rfl), ⟨(.same rfl), ⟨(.same rfl), trivial⟩⟩⟩ ⟨⟨_, rfl, rfl, (.same rfl)⟩, ⟨⟨_, rfl, rfl, (.same rfl)⟩, trivial⟩⟩ rfl
                          · replace h := bF hb29 h
                            refine Rn.sk (nw rfl hb29) ?_
                            refine Rn.sk (nw rfl hb29) ?_
                            refine Rn.sk (nw rfl hb29) ?_
                            refine Rn.sk (nw rfl hb29) ?_
                            refine Rn.sk (nw rfl hb29) ?_
                            refine Rn.sk (nw rfl hb29) ?_
                            refine Rn.sk (nw rfl hb29) ?_
                            refine Rn.sk (nw rfl hb29) ?_
                            refine Rn.sk (nw rfl hb29) ?_
                            refine Rn.sk (nw rfl hb29) ?_
                            refine Rn.pickF (v := .d (.bool false)) (gw rfl hb26) rfl hb29 rfl ?_
                            refine Rn.pickF (v := .d (.bool false)) (gw rfl hb23) rfl hb26 rfl ?_
                            refine Rn.pickT (v := .d (.bool false)) trivial rfl hb23 rfl ?_
                            refine Rn.nil ⟨rfl, ?_⟩
                            replace h := Option.some.inj h
                            subst h
                            show WeakSt Γ _ ⟨look _, memOf _ (bxs _) _, _⟩; exact weak_cut [] ⟨(kPtr rfl), ⟨(.same rfl), ⟨(.same rfl), trivial⟩⟩⟩ ⟨⟨_, rfl, rfl, (.same rfl)⟩, ⟨⟨_, rfl, rfl, (.same rfl)⟩, trivial⟩⟩ rfl
                      · replace h := ifF hb23 h
                        refine Rn.sk (nw rfl hb23) ?_
                        refine Rn.sk (nw rfl hb23) ?_
                        refine Rn.sk (nw rfl hb23) ?_
                        refine Rn.sk (nw rfl hb23) ?_
                        refine Rn.sk (nw rfl hb23) ?_
                        refine Rn.sk (nw rfl hb23) ?_
                        refine Rn.sk (nw rfl hb23) ?_
                        refine Rn.sk (nw rfl hb23) ?_
                        refine Rn.sk (nw rfl hb23) ?_
                        refine Rn.sk (nw rfl hb23) ?_
                        refine Rn.sk (nw rfl hb23) ?_
                        refine Rn.sk (nu rfl) ?_
                        refine Rn.sk (nu rfl) ?_
                        refine Rn.sk (nu rfl) ?_
                        refine Rn.sk (nu rfl) ?_
                        refine Rn.sk (nu rfl) ?_
                        refine Rn.sk (nu rfl) ?_
                        refine Rn.sk (nu rfl) ?_
                        refine Rn.sk (nu rfl) ?_
                        refine Rn.sk (nu rfl) ?_
                        refine Rn.sk (nu rfl) ?_
                        refine Rn.sk (nu rfl) ?_
                        refine Rn.sk (nu rfl) ?_
                        refine Rn.sk (nu rfl) ?_
                        refine Rn.sk (nu rfl) ?_
                        refine Rn.sk (nu rfl) ?_
                        refine Rn.sk (nu rfl) ?_
                        refine Rn.sk (nu rfl) ?_
                        refine Rn.sk (nu rfl) ?_
                        refine Rn.sk (nu rfl) ?_
                        refine Rn.sk (nu rfl) ?_
                        refine Rn.sk (nu rfl) ?_
                        refine Rn.sk (nu rfl) ?_
                        refine Rn.sk (nw rfl hb23) ?_
                        refine Rn.pickF (v := .d (.bool false)) trivial rfl hb23 rfl ?_
                        refine Rn.nil ⟨rfl, ?_⟩
                        replace h := Option.some.inj h
                        subst h
                        show WeakSt Γ _ ⟨look _, memOf _ (bxs _) _, _⟩; exact weak_cut [] ⟨(kPtr rfl), ⟨(.same rfl), ⟨(.same rfl), trivial⟩⟩⟩ ⟨⟨_, rfl, rfl, (.same rfl)⟩, ⟨⟨_, rfl, rfl, (.same rfl)⟩, trivial⟩⟩ rfl
                    · obtain ⟨x32, rfl⟩ : ∃ x, x = z := ⟨_, rfl⟩
                      refine Tr.cond rfl (fun hb33 => ?_) (fun hb33 => ?_)
                      · replace h := bT hb33 h
                        refine Tr.seq ?_
                        refine Tr.rgn ?_
                        refine Rn.movD trivial rfl ?_
                        refine Rn.nil ?_
                        refine toN ?_
                        refine Tr.ret ?_
                        replace h := Option.some.inj h
                        subst h
                        exact ⟨.inr rfl, (.d (.int .i64 5)), rfl, fun _ _ _ _ h => h, trivial, fun k hk => memOf_base hk⟩
                      · replace h := bF hb33 h
                        refine Tr.skip ?_
                        refine toN ?_
                        refine Tr.rgn ?_
                        refine Rn.movD trivial rfl ?_
                        refine Rn.bin trivial rfl rfl rfl ?_
                        refine Rn.movD trivial rfl ?_
                        refine Rn.nil ?_
                        exact ⟨_, h, (by show WeakSt Γ (clean _ _ _) ⟨look _, memOf _ (bxs _) _, _⟩; exact weak_clean ⟨(kPtr rfl), ⟨(.same rfl), trivial⟩⟩ ⟨⟨_, rfl, rfl, (.same rfl)⟩, trivial⟩ rfl)⟩
            · replace h := ifF hb12 h
              refine Tr.exit ?_
              refine toN ?_
              refine Tr.seq ?_
              refine Tr.rgn ?_
              refine Rn.movD trivial rfl ?_
              refine Rn.nil ?_
              refine toN ?_
              refine Tr.ret ?_
              replace h := Option.some.inj h
              subst h
              exact ⟨.inr rfl, (.d (.int .i64 0)), rfl, fun _ _ _ _ h => h, trivial, fun k hk => memOf_base hk⟩

theorem automaton_Step_walk {P : Program} {c : Nat} {f_slices_Contains_int : (List Int) → Int → Option Bool} {f_automaton_checkState : api_Automaton → Int → Option Int} {f_automaton_next : api_Automaton → Int → Int → Option Int}
    (H_slices_Contains_int : K_slices_Contains_int P 50 f_slices_Contains_int)
    (H_automaton_checkState : K_automaton_checkState P 63 f_automaton_checkState)
    (H_automaton_next : K_automaton_next P 67 f_automaton_next) (hcf : compFn P c = some F_automaton_Step) : K_automaton_Step P c (f_automaton_Step f_slices_Contains_int f_automaton_checkState f_automaton_next) := by
  intro a1 state2 event3 r h
  refine fn_trP hcf rfl fun Γ M hP hnt hM => ?_
  subst hP
  refine Tr.init [(0, .agg [.d (.lst 1 (List.map (eI .i64) a1.Alphabet)), .d (.int .i64 a1.States), .d (.lst 1 (List.map (eI .i64) a1.Marked)), .d (.lst 3 (List.map e_api_Edge a1.Edges))]), (1, .d (.int .i64 state2)), (2, .d (.int .i64 event3))] rfl ?_
  unfold f_automaton_Step at h
  unfold F_automaton_Step
  refine Tr.seq ?_
  refine Tr.rgn ?_
  refine Rn.box (v := .agg [.d (.lst 1 (List.map (eI .i64) a1.Alphabet)), .d (.int .i64 a1.States), .d (.lst 1 (List.map (eI .i64) a1.Marked)), .d (.lst 3 (List.map e_api_Edge a1.Edges))]) (cs := [.d (.lst 1 (List.map (eI .i64) a1.Alphabet)), .d (.int .i64 a1.States), .d (.lst 1 (List.map (eI .i64) a1.Marked)), .d (.lst 3 (List.map e_api_Edge a1.Edges))]) trivial rfl rfl rfl rfl rfl ?_
  refine Rn.movD trivial rfl ?_
  refine Rn.movD trivial rfl ?_
  refine Rn.movD trivial rfl ?_
  refine Rn.nil ?_
  refine toN ?_
  refine Tr.seq ?_
  refine Tr.seq ?_
  refine Tr.rgn ?_
  refine Rn.load (v := .agg [.d (.lst 1 (List.map (eI .i64) a1.Alphabet)), .d (.int .i64 a1.States), .d (.lst 1 (List.map (eI .i64) a1.Marked)), .d (.lst 3 (List.map e_api_Edge a1.Edges))]) trivial rfl (boxOwn rfl) rfl rfl ?_
  refine Rn.movD trivial rfl ?_
  replace h := bnd h
  obtain ⟨x5, h4, h⟩ := h
  refine Rn.call (args := [.agg [.d (.lst 1 (List.map (eI .i64) a1.Alphabet)), .d (.int .i64 a1.States), .d (.lst 1 (List.map (eI .i64) a1.Marked)), .d (.lst 3 (List.map e_api_Edge a1.Edges))], .d (.int .i64 state2)]) trivial rfl (H_automaton_checkState _ _ _ h4) pc9 ?_
  refine Rn.movD trivial rfl ?_
  refine Rn.nil ?_
  refine toN ?_
  refine Tr.seq ?_
  refine Tr.rgn ?_
  refine Rn.movD trivial rfl ?_
  refine Rn.bin trivial rfl rfl rfl ?_
  refine Rn.nil ?_
  refine toN ?_
  refine Tr.cond rfl (fun hb6 => ?_) (fun hb6 => ?_)
  · replace h := bT hb6 h
    refine Tr.seq ?_
    refine Tr.rgn ?_
    refine Rn.movD trivial rfl ?_
    refine Rn.movD trivial rfl ?_
    refine Rn.movD trivial rfl ?_
    refine Rn.movD trivial rfl ?_
    refine Rn.nil ?_
    refine toN ?_
    refine Tr.ret ?_
    replace h := Option.some.inj h
    subst h
    exact ⟨.inr rfl, .tup [.d (.int .i64 0), .d (.bool false), .d (.int .i64 x5)], res3 rfl rfl rfl, (WkV.tup (.cons (.same rfl) (.cons (.same rfl) (.cons (.same rfl) .nil)))).rd, ⟨trivial, trivial, trivial, trivial⟩, fun k hk => memOf_base hk⟩
  · replace h := bF hb6 h
    refine Tr.skip ?_
    refine toN ?_
    refine Tr.seq ?_
    refine Tr.seq ?_
    refine Tr.rgn ?_
    refine Rn.fldP (o' := 0) trivial rfl rfl ?_
    refine Rn.load (v := .d (.lst 1 (List.map (eI .i64) a1.Alphabet))) trivial rfl (boxOwn rfl) rfl rfl ?_
    refine Rn.movD trivial rfl ?_
    replace h := bnd h
    obtain ⟨x8, h7, h⟩ := h
    refine Rn.call (args := [.d (.lst 1 (List.map (eI .i64) a1.Alphabet)), .d (.int .i64 event3)]) trivial rfl (H_slices_Contains_int _ _ _ h7) pc9 ?_
    refine Rn.un trivial rfl rfl ?_
    refine Rn.nil ?_
    refine toN ?_
    refine Tr.cond rfl (fun hb9 => ?_) (fun hb9 => ?_)
    · have hb9 := nT' hb9
      replace h := bF hb9 h
      refine Tr.seq ?_
      refine Tr.rgn ?_
      refine Rn.movD trivial rfl ?_
      refine Rn.movD trivial rfl ?_
      refine Rn.movD trivial rfl ?_
      refine Rn.nil ?_
      refine toN ?_
      refine Tr.ret ?_
      replace h := Option.some.inj h
      subst h
      exact ⟨.inr rfl, .tup [.d (.int .i64 0), .d (.bool false), .d (.int .i64 9)], res3 rfl rfl rfl, (WkV.tup (.cons (.same rfl) (.cons (.same rfl) (.cons (.same rfl) .nil)))).rd, ⟨trivial, trivial, trivial, trivial⟩, fun k hk => memOf_base hk⟩
    · have hb9 := nF' hb9
      replace h := bT hb9 h
      refine Tr.skip ?_
      refine toN ?_
      refine Tr.seq ?_
      refine Tr.seq ?_
      refine Tr.rgn ?_
      refine Rn.load (v := .agg [.d (.lst 1 (List.map (eI .i64) a1.Alphabet)), .d (.int .i64 a1.States), .d (.lst 1 (List.map (eI .i64) a1.Marked)), .d (.lst 3 (List.map e_api_Edge a1.Edges))]) trivial rfl (boxOwn rfl) rfl rfl ?_
      refine Rn.movD trivial rfl ?_
      refine Rn.movD trivial rfl ?_
      replace h := bnd h
      obtain ⟨x11, h10, h⟩ := h
      refine Rn.call (args := [.agg [.d (.lst 1 (List.map (eI .i64) a1.Alphabet)), .d (.int .i64 a1.States), .d (.lst 1 (List.map (eI .i64) a1.Marked)), .d (.lst 3 (List.map e_api_Edge a1.Edges))], .d (.int .i64 state2), .d (.int .i64 event3)]) trivial rfl (H_automaton_next _ _ _ _ h10) pc9 ?_
      refine Rn.movD trivial rfl ?_
      refine Rn.nil ?_
      refine toN ?_
      refine Tr.seq ?_
      refine Tr.rgn ?_
      refine Rn.movD trivial rfl ?_
      refine Rn.bin trivial rfl rfl rfl ?_
      refine Rn.nil ?_
      refine toN ?_
      refine Tr.cond rfl (fun hb12 => ?_) (fun hb12 => ?_)
      · replace h := ifT hb12 h
        refine Tr.seq ?_
        refine Tr.rgn ?_
        refine Rn.movD trivial rfl ?_
        refine Rn.movD trivial rfl ?_
        refine Rn.movD trivial rfl ?_
        refine Rn.movD trivial rfl ?_
        refine Rn.nil ?_
        refine toN ?_
        refine Tr.ret ?_
        replace h := Option.some.inj h
        subst h
        exact ⟨.inr rfl, .tup [.d (.int .i64 x11), .d (.bool true), .d (.int .i64 0)], res3 rfl rfl rfl, (WkV.tup (.cons (.same rfl) (.cons (.same rfl) (.cons (.same rfl) .nil)))).rd, ⟨trivial, trivial, trivial, trivial⟩, fun k hk => memOf_base hk⟩
      · replace h := ifF hb12 h
        refine Tr.skip ?_
        refine toN ?_
        refine Tr.seq ?_
        refine Tr.rgn ?_
        refine Rn.movD trivial rfl ?_
        refine Rn.movD trivial rfl ?_
        refine Rn.movD trivial rfl ?_
        refine Rn.nil ?_
        refine toN ?_
        refine Tr.ret ?_
        replace h := Option.some.inj h
        subst h
        exact ⟨.inr rfl, .tup [.d (.int .i64 0), .d (.bool false), .d (.int .i64 0)], res3 rfl rfl rfl, (WkV.tup (.cons (.same rfl) (.cons (.same rfl) (.cons (.same rfl) .nil)))).rd, ⟨trivial, trivial, trivial, trivial⟩, fun k hk => memOf_base hk⟩

theorem automaton_Enabled_walk {P : Program} {c : Nat} {f_automaton_out : api_Automaton → Int → Option ((List api_Edge))} {f_automaton_checkState : api_Automaton → Int → Option Int}
    (H_automaton_out : K_automaton_out P 48 f_automaton_out)
    (H_automaton_checkState : K_automaton_checkState P 63 f_automaton_checkState) (hcf : compFn P c = some F_automaton_Enabled) (fuel : Nat) : K_automaton_Enabled P c (f_automaton_Enabled f_automaton_out f_automaton_checkState fuel) := by
  intro a1 state2 r h
  refine fn_trP hcf rfl fun Γ M hP hnt hM => ?_
  subst hP
  refine Tr.init [(0, .agg [.d (.lst 1 (List.map (eI .i64) a1.Alphabet)), .d (.int .i64 a1.States), .d (.lst 1 (List.map (eI .i64) a1.Marked)), .d (.lst 3 (List.map e_api_Edge a1.Edges))]), (1, .d (.int .i64 state2))] rfl ?_
  unfold f_automaton_Enabled at h
  unfold F_automaton_Enabled
  refine Tr.seq ?_
  refine Tr.rgn ?_
  refine Rn.box (v := .agg [.d (.lst 1 (List.map (eI .i64) a1.Alphabet)), .d (.int .i64 a1.States), .d (.lst 1 (List.map (eI .i64) a1.Marked)), .d (.lst 3 (List.map e_api_Edge a1.Edges))]) (cs := [.d (.lst 1 (List.map (eI .i64) a1.Alphabet)), .d (.int .i64 a1.States), .d (.lst 1 (List.map (eI .i64) a1.Marked)), .d (.lst 3 (List.map e_api_Edge a1.Edges))]) trivial rfl rfl rfl rfl rfl ?_
  refine Rn.movTC (v := .nils 1) trivial ?_
  refine Rn.movD trivial rfl ?_
  refine Rn.nil ?_
  refine toN ?_
  refine Tr.seq ?_
  refine Tr.seq ?_
  refine Tr.rgn ?_
  refine Rn.load (v := .agg [.d (.lst 1 (List.map (eI .i64) a1.Alphabet)), .d (.int .i64 a1.States), .d (.lst 1 (List.map (eI .i64) a1.Marked)), .d (.lst 3 (List.map e_api_Edge a1.Edges))]) trivial rfl (boxOwn rfl) rfl rfl ?_
  refine Rn.movD trivial rfl ?_
  replace h := bnd h
  obtain ⟨x4, h3, h⟩ := h
  refine Rn.call (args := [.agg [.d (.lst 1 (List.map (eI .i64) a1.Alphabet)), .d (.int .i64 a1.States), .d (.lst 1 (List.map (eI .i64) a1.Marked)), .d (.lst 3 (List.map e_api_Edge a1.Edges))], .d (.int .i64 state2)]) trivial rfl (H_automaton_checkState _ _ _ h3) pc9 ?_
  refine Rn.movD trivial rfl ?_
  refine Rn.nil ?_
  refine toN ?_
  refine Tr.seq ?_
  refine Tr.rgn ?_
  refine Rn.movD trivial rfl ?_
  refine Rn.bin trivial rfl rfl rfl ?_
  refine Rn.nil ?_
  refine toN ?_
  refine Tr.cond rfl (fun hb5 => ?_) (fun hb5 => ?_)
  · replace h := bT hb5 h
    refine Tr.seq ?_
    refine Tr.rgn ?_
    refine Rn.movD trivial rfl ?_
    refine Rn.movTC (v := .nils 1) trivial ?_
    refine Rn.movD trivial rfl ?_
    refine Rn.nil ?_
    refine toN ?_
    refine Tr.ret ?_
    replace h := Option.some.inj h
    subst h
    exact ⟨.inr rfl, .tup [.nils 1, .d (.int .i64 x4)], res2 rfl rfl, (WkV.tup (.cons (WkV.nilsO _) (.cons (.same rfl) .nil))).rd, ⟨trivial, trivial, trivial⟩, fun k hk => memOf_base hk⟩
  · replace h := bF hb5 h
    refine Tr.skip ?_
    refine toN ?_
    refine Tr.seq ?_
    refine Tr.rgn ?_
    refine Rn.movTC (v := .nils 1) trivial ?_
    refine Rn.nil ?_
    refine toN ?_
    refine Tr.cutB (fun (l16 : List Int) => ⟨look [(7, .own 1 (List.map (eI .i64) l16))], memOf Γ.n0 (bxs [(2, [.d (.lst 1 (List.map (eI .i64) a1.Alphabet)), .d (.int .i64 a1.States), .d (.lst 1 (List.map (eI .i64) a1.Marked)), .d (.lst 3 (List.map e_api_Edge a1.Edges))])]) M, Γ.n0 + 31⟩) h (fun z h => ?_) (fun z h => ?_)
    · refine Tr.seq ?_
      refine Tr.rgn ?_
      refine Rn.load (v := .agg [.d (.lst 1 (List.map (eI .i64) a1.Alphabet)), .d (.int .i64 a1.States), .d (.lst 1 (List.map (eI .i64) a1.Marked)), .d (.lst 3 (List.map e_api_Edge a1.Edges))]) trivial rfl (boxOwn rfl) rfl rfl ?_
      refine Rn.movD trivial rfl ?_
      replace h := bnd h
      obtain ⟨x7, h6, h⟩ := h
      refine Rn.call (args := [.agg [.d (.lst 1 (List.map (eI .i64) a1.Alphabet)), .d (.int .i64 a1.States), .d (.lst 1 (List.map (eI .i64) a1.Marked)), .d (.lst 3 (List.map e_api_Edge a1.Edges))], .d (.int .i64 state2)]) trivial rfl (H_automaton_out _ _ _ h6) pc9 ?_
      refine Rn.lenD trivial rfl ?_
      refine Rn.movD trivial rfl ?_
      refine Rn.nil ?_
      refine toN ?_
      refine Tr.block ?_
      refine Tr.loop (mk := fun ((l8, x9) : (List Int) × Int) => ⟨look [(7, .own 1 (List.map (eI .i64) l8)), (18, .d (.lst 3 (List.map e_api_Edge x7))), (19, .d (.int .i64 (x7.length : Int))), (20, .d (.int .i64 x9))], memOf Γ.n0 (bxs [(2, [.d (.lst 1 (List.map (eI .i64) a1.Alphabet)), .d (.int .i64 a1.States), .d (.lst 1 (List.map (eI .i64) a1.Marked)), .d (.lst 3 (List.map e_api_Edge a1.Edges))])]) M, Γ.n0 + 31⟩) h (by show WeakSt Γ (clean _ _ _) ⟨look _, memOf _ (bxs _) _, _⟩; exact weak_clean ⟨(WkV.nilsO _), ⟨(.same rfl), ⟨(.same rfl), ⟨(.same rfl), trivial⟩⟩⟩⟩ ⟨⟨_, rfl, rfl, (.same rfl)⟩, trivial⟩ rfl) (fun k10 z h => ?_)
      · obtain ⟨l8, x9⟩ := z
        replace h : _ = some _ := h
        refine Tr.seq ?_
        refine Tr.rgn ?_
        refine Rn.bin trivial rfl rfl rfl ?_
        refine Rn.nil ?_
        refine toN ?_
        refine Tr.seq ?_
        refine Tr.cond rfl (fun hb11 => ?_) (fun hb11 => ?_)
        · replace h := ifT hb11 h
          refine Tr.skip ?_
          refine toN ?_
          refine Tr.seq ?_
          refine Tr.block ?_
          refine Tr.seq ?_
          refine Tr.rgn ?_
          replace h := bnd h
          obtain ⟨x12, h13, h⟩ := h
          refine Rn.idxD (e := e_api_Edge) trivial rfl rfl h13 ?_
          refine Rn.loadCA (vs := [.d (.int .i64 x12.From), .d (.int .i64 x12.Event), .d (.int .i64 x12.To)]) trivial rfl rfl rfl ?_
          refine Rn.alloc trivial rfl ?_
          refine Rn.store (v := .agg [.d (.int .i64 x12.From), .d (.int .i64 x12.Event), .d (.int .i64 x12.To)]) (cs' := [.d (.int .i64 x12.From), .d (.int .i64 x12.Event), .d (.int .i64 x12.To)]) trivial rfl rfl rfl rfl rfl rfl ?_
          refine Rn.nil ?_
          refine toN ?_
          refine Tr.rgn ?_
          refine Rn.movTO trivial rfl ?_
          refine Rn.fldP (o' := 1) trivial rfl rfl ?_
          refine Rn.load (v := .d (.int .i64 x12.Event)) trivial rfl (boxOwn rfl) rfl rfl ?_
          refine Rn.bslice (xs := [.d (.int .i64 x12.Event)]) (cs := [.d (.int .i64 x12.Event)]) trivial rfl rfl rfl rfl ?_
          replace h := bnd h
          obtain ⟨x14, h15, h⟩ := h
          refine Rn.app (e := (eI .i64)) trivial rfl rfl rfl (elems_box rfl rfl rfl) h15 rfl ?_
          refine Rn.movTO trivial rfl ?_
          refine Rn.nil ?_
          refine toN ?_
          refine Tr.rgn ?_
          refine Rn.bin trivial rfl rfl rfl ?_
          refine Rn.movD trivial rfl ?_
          refine Rn.nil ?_
          exact ⟨_, h, (by show WeakSt Γ (clean _ _ _) ⟨look _, memOf _ (bxs _) _, _⟩; exact weak_clean ⟨(.same rfl), ⟨(.same rfl), ⟨(.same rfl), ⟨(.same rfl), trivial⟩⟩⟩⟩ ⟨⟨_, rfl, rfl, (.same rfl)⟩, trivial⟩ rfl)⟩
        · replace h := ifF hb11 h
          refine Tr.exit ?_
          replace h := Option.some.inj h
          subst h
          show WeakSt Γ _ ⟨look _, memOf _ (bxs _) _, _⟩; exact weak_cut [] ⟨(.same rfl), trivial⟩ ⟨⟨_, rfl, rfl, (.same rfl)⟩, trivial⟩ rfl
    · obtain ⟨l16, rfl⟩ : ∃ x, x = z := ⟨_, rfl⟩
      refine Tr.seq ?_
      refine Tr.rgn ?_
      refine Rn.movTO trivial rfl ?_
      refine Rn.movTO trivial rfl ?_
      refine Rn.movD trivial rfl ?_
      refine Rn.nil ?_
      refine toN ?_
      refine Tr.ret ?_
      replace h := Option.some.inj h
      subst h
      exact ⟨.inr rfl, .tup [.own 1 (List.map (eI .i64) l16), .d (.int .i64 0)], res2 rfl rfl, (WkV.tup (.cons (.same rfl) (.cons (.same rfl) .nil))).rd, ⟨trivial, trivial, trivial⟩, fun k hk => memOf_base hk⟩

theorem automaton_reached_walk {P : Program} {c : Nat} {f_automaton_follow : api_Automaton → Int → (List Int) → Option (Int × Int)}
    (H_automaton_follow : K_automaton_follow P 66 f_automaton_follow) (hcf : compFn P c = some F_automaton_reached) : K_automaton_reached P c (f_automaton_reached f_automaton_follow) := by
  intro a1 word2 r h
  refine fn_trP hcf rfl fun Γ M hP hnt hM => ?_
  subst hP
  refine Tr.init [(0, .agg [.d (.lst 1 (List.map (eI .i64) a1.Alphabet)), .d (.int .i64 a1.States), .d (.lst 1 (List.map (eI .i64) a1.Marked)), .d (.lst 3 (List.map e_api_Edge a1.Edges))]), (1, .d (.lst 1 (List.map (eI .i64) word2)))] rfl ?_
  unfold f_automaton_reached at h
  unfold F_automaton_reached
  refine Tr.seq ?_
  refine Tr.rgn ?_
  refine Rn.box (v := .agg [.d (.lst 1 (List.map (eI .i64) a1.Alphabet)), .d (.int .i64 a1.States), .d (.lst 1 (List.map (eI .i64) a1.Marked)), .d (.lst 3 (List.map e_api_Edge a1.Edges))]) (cs := [.d (.lst 1 (List.map (eI .i64) a1.Alphabet)), .d (.int .i64 a1.States), .d (.lst 1 (List.map (eI .i64) a1.Marked)), .d (.lst 3 (List.map e_api_Edge a1.Edges))]) trivial rfl rfl rfl rfl rfl ?_
  refine Rn.movD trivial rfl ?_
  refine Rn.movD trivial rfl ?_
  refine Rn.nil ?_
  refine toN ?_
  refine Tr.seq ?_
  refine Tr.seq ?_
  refine Tr.rgn ?_
  refine Rn.fldP (o' := 1) trivial rfl rfl ?_
  refine Rn.load (v := .d (.int .i64 a1.States)) trivial rfl (boxOwn rfl) rfl rfl ?_
  refine Rn.bin trivial rfl rfl rfl ?_
  refine Rn.nil ?_
  refine toN ?_
  refine Tr.cond rfl (fun hb3 => ?_) (fun hb3 => ?_)
  · replace h := bT hb3 h
    refine Tr.seq ?_
    refine Tr.rgn ?_
    refine Rn.movD trivial rfl ?_
    refine Rn.movD trivial rfl ?_
    refine Rn.nil ?_
    refine toN ?_
    refine Tr.ret ?_
    replace h := Option.some.inj h
    subst h
    exact ⟨.inr rfl, .tup [.d (.int .i64 0), .d (.bool false)], res2 rfl rfl, (WkV.tup (.cons (.same rfl) (.cons (.same rfl) .nil))).rd, ⟨trivial, trivial, trivial⟩, fun k hk => memOf_base hk⟩
  · replace h := bF hb3 h
    refine Tr.skip ?_
    refine toN ?_
    refine Tr.seq ?_
    refine Tr.rgn ?_
    refine Rn.load (v := .agg [.d (.lst 1 (List.map (eI .i64) a1.Alphabet)), .d (.int .i64 a1.States), .d (.lst 1 (List.map (eI .i64) a1.Marked)), .d (.lst 3 (List.map e_api_Edge a1.Edges))]) trivial rfl (boxOwn rfl) rfl rfl ?_
    refine Rn.movD trivial rfl ?_
    replace h := bnd h
    obtain ⟨⟨r5, r6⟩, h4, h⟩ := h
    refine Rn.call (args := [.agg [.d (.lst 1 (List.map (eI .i64) a1.Alphabet)), .d (.int .i64 a1.States), .d (.lst 1 (List.map (eI .i64) a1.Marked)), .d (.lst 3 (List.map e_api_Edge a1.Edges))], .d (.int .i64 0), .d (.lst 1 (List.map (eI .i64) word2))]) trivial rfl (H_automaton_follow _ _ _ _ h4) pc9 ?_
    refine Rn.mov (v := .tup [.d (.int .i64 r5), .d (.int .i64 r6)]) trivial rfl ?_
    refine Rn.ext (v := .d (.int .i64 r5)) (vs := [.d (.int .i64 r5), .d (.int .i64 r6)]) trivial rfl rfl rfl ?_
    refine Rn.ext (v := .d (.int .i64 r6)) (vs := [.d (.int .i64 r5), .d (.int .i64 r6)]) trivial rfl rfl rfl ?_
    refine Rn.movD trivial rfl ?_
    refine Rn.movD trivial rfl ?_
    refine Rn.nil ?_
    refine toN ?_
    refine Tr.seq ?_
    refine Tr.rgn ?_
    refine Rn.movD trivial rfl ?_
    refine Rn.movD trivial rfl ?_
    refine Rn.movD trivial rfl ?_
    refine Rn.lenD trivial rfl ?_
    refine Rn.bin trivial rfl rfl rfl ?_
    refine Rn.movD trivial rfl ?_
    refine Rn.movD trivial rfl ?_
    refine Rn.nil ?_
    refine toN ?_
    refine Tr.ret ?_
    replace h := Option.some.inj h
    subst h
    exact ⟨.inr rfl, .tup [.d (.int .i64 r5), .d (.bool (r6 == (word2.length : Int)))], res2 rfl rfl, (WkV.tup (.cons (.same rfl) (.cons (.same rfl) .nil))).rd, ⟨trivial, trivial, trivial⟩, fun k hk => memOf_base hk⟩

theorem automaton_Generates_walk {P : Program} {c : Nat} {f_automaton_Check : api_Automaton → Option Int} {f_automaton_reached : api_Automaton → (List Int) → Option (Int × Bool)}
    (H_automaton_Check : K_automaton_Check P 45 f_automaton_Check)
    (H_automaton_reached : K_automaton_reached P 62 f_automaton_reached) (hcf : compFn P c = some F_automaton_Generates) : K_automaton_Generates P c (f_automaton_Generates f_automaton_Check f_automaton_reached) := by
  intro a1 word2 r h
  refine fn_trP hcf rfl fun Γ M hP hnt hM => ?_
  subst hP
  refine Tr.init [(0, .agg [.d (.lst 1 (List.map (eI .i64) a1.Alphabet)), .d (.int .i64 a1.States), .d (.lst 1 (List.map (eI .i64) a1.Marked)), .d (.lst 3 (List.map e_api_Edge a1.Edges))]), (1, .d (.lst 1 (List.map (eI .i64) word2)))] rfl ?_
  unfold f_automaton_Generates at h
  unfold F_automaton_Generates
  refine Tr.seq ?_
  refine Tr.rgn ?_
  refine Rn.box (v := .agg [.d (.lst 1 (List.map (eI .i64) a1.Alphabet)), .d (.int .i64 a1.States), .d (.lst 1 (List.map (eI .i64) a1.Marked)), .d (.lst 3 (List.map e_api_Edge a1.Edges))]) (cs := [.d (.lst 1 (List.map (eI .i64) a1.Alphabet)), .d (.int .i64 a1.States), .d (.lst 1 (List.map (eI .i64) a1.Marked)), .d (.lst 3 (List.map e_api_Edge a1.Edges))]) trivial rfl rfl rfl rfl rfl ?_
  refine Rn.movD trivial rfl ?_
  refine Rn.movD trivial rfl ?_
  refine Rn.nil ?_
  refine toN ?_
  refine Tr.seq ?_
  refine Tr.seq ?_
  refine Tr.rgn ?_
  refine Rn.load (v := .agg [.d (.lst 1 (List.map (eI .i64) a1.Alphabet)), .d (.int .i64 a1.States), .d (.lst 1 (List.map (eI .i64) a1.Marked)), .d (.lst 3 (List.map e_api_Edge a1.Edges))]) trivial rfl (boxOwn rfl) rfl rfl ?_
  replace h := bnd h
  obtain ⟨x4, h3, h⟩ := h
  refine Rn.call (args := [.agg [.d (.lst 1 (List.map (eI .i64) a1.Alphabet)), .d (.int .i64 a1.States), .d (.lst 1 (List.map (eI .i64) a1.Marked)), .d (.lst 3 (List.map e_api_Edge a1.Edges))]]) trivial rfl (H_automaton_Check _ _ h3) pc9 ?_
  refine Rn.movD trivial rfl ?_
  refine Rn.nil ?_
  refine toN ?_
  refine Tr.seq ?_
  refine Tr.rgn ?_
  refine Rn.movD trivial rfl ?_
  refine Rn.bin trivial rfl rfl rfl ?_
  refine Rn.nil ?_
  refine toN ?_
  refine Tr.cond rfl (fun hb5 => ?_) (fun hb5 => ?_)
  · replace h := bT hb5 h
    refine Tr.seq ?_
    refine Tr.rgn ?_
    refine Rn.movD trivial rfl ?_
    refine Rn.movD trivial rfl ?_
    refine Rn.movD trivial rfl ?_
    refine Rn.nil ?_
    refine toN ?_
    refine Tr.ret ?_
    replace h := Option.some.inj h
    subst h
    exact ⟨.inr rfl, .tup [.d (.bool false), .d (.int .i64 x4)], res2 rfl rfl, (WkV.tup (.cons (.same rfl) (.cons (.same rfl) .nil))).rd, ⟨trivial, trivial, trivial⟩, fun k hk => memOf_base hk⟩
  · replace h := bF hb5 h
    refine Tr.skip ?_
    refine toN ?_
    refine Tr.seq ?_
    refine Tr.rgn ?_
    refine Rn.load (v := .agg [.d (.lst 1 (List.map (eI .i64) a1.Alphabet)), .d (.int .i64 a1.States), .d (.lst 1 (List.map (eI .i64) a1.Marked)), .d (.lst 3 (List.map e_api_Edge a1.Edges))]) trivial rfl (boxOwn rfl) rfl rfl ?_
    refine Rn.movD trivial rfl ?_
    replace h := bnd h
    obtain ⟨⟨r7, r8⟩, h6, h⟩ := h
    refine Rn.call (args := [.agg [.d (.lst 1 (List.map (eI .i64) a1.Alphabet)), .d (.int .i64 a1.States), .d (.lst 1 (List.map (eI .i64) a1.Marked)), .d (.lst 3 (List.map e_api_Edge a1.Edges))], .d (.lst 1 (List.map (eI .i64) word2))]) trivial rfl (H_automaton_reached _ _ _ h6) pc9 ?_
    refine Rn.mov (v := .tup [.d (.int .i64 r7), .d (.bool r8)]) trivial rfl ?_
    refine Rn.ext (v := .d (.int .i64 r7)) (vs := [.d (.int .i64 r7), .d (.bool r8)]) trivial rfl rfl rfl ?_
    refine Rn.ext (v := .d (.bool r8)) (vs := [.d (.int .i64 r7), .d (.bool r8)]) trivial rfl rfl rfl ?_
    refine Rn.movD trivial rfl ?_
    refine Rn.movD trivial rfl ?_
    refine Rn.nil ?_
    refine toN ?_
    refine Tr.seq ?_
    refine Tr.rgn ?_
    refine Rn.movD trivial rfl ?_
    refine Rn.movD trivial rfl ?_
    refine Rn.movD trivial rfl ?_
    refine Rn.nil ?_
    refine toN ?_
    refine Tr.ret ?_
    replace h := Option.some.inj h
    subst h
    exact ⟨.inr rfl, .tup [.d (.bool r8), .d (.int .i64 0)], res2 rfl rfl, (WkV.tup (.cons (.same rfl) (.cons (.same rfl) .nil))).rd, ⟨trivial, trivial, trivial⟩, fun k hk => memOf_base hk⟩

theorem automaton_Accepts_walk {P : Program} {c : Nat} {f_automaton_Check : api_Automaton → Option Int} {f_slices_Contains_int : (List Int) → Int → Option Bool} {f_automaton_reached : api_Automaton → (List Int) → Option (Int × Bool)}
    (H_automaton_Check : K_automaton_Check P 45 f_automaton_Check)
    (H_slices_Contains_int : K_slices_Contains_int P 50 f_slices_Contains_int)
    (H_automaton_reached : K_automaton_reached P 62 f_automaton_reached) (hcf : compFn P c = some F_automaton_Accepts) : K_automaton_Accepts P c (f_automaton_Accepts f_automaton_Check f_slices_Contains_int f_automaton_reached) := by
  intro a1 word2 r h
  refine fn_trP hcf rfl fun Γ M hP hnt hM => ?_
  subst hP
  refine Tr.init [(0, .agg [.d (.lst 1 (List.map (eI .i64) a1.Alphabet)), .d (.int .i64 a1.States), .d (.lst 1 (List.map (eI .i64) a1.Marked)), .d (.lst 3 (List.map e_api_Edge a1.Edges))]), (1, .d (.lst 1 (List.map (eI .i64) word2)))] rfl ?_
  unfold f_automaton_Accepts at h
  unfold F_automaton_Accepts
  refine Tr.seq ?_
  refine Tr.rgn ?_
  refine Rn.box (v := .agg [.d (.lst 1 (List.map (eI .i64) a1.Alphabet)), .d (.int .i64 a1.States), .d (.lst 1 (List.map (eI .i64) a1.Marked)), .d (.lst 3 (List.map e_api_Edge a1.Edges))]) (cs := [.d (.lst 1 (List.map (eI .i64) a1.Alphabet)), .d (.int .i64 a1.States), .d (.lst 1 (List.map (eI .i64) a1.Marked)), .d (.lst 3 (List.map e_api_Edge a1.Edges))]) trivial rfl rfl rfl rfl rfl ?_
  refine Rn.movD trivial rfl ?_
  refine Rn.movD trivial rfl ?_
  refine Rn.nil ?_
  refine toN ?_
  refine Tr.seq ?_
  refine Tr.seq ?_
  refine Tr.rgn ?_
  refine Rn.load (v := .agg [.d (.lst 1 (List.map (eI .i64) a1.Alphabet)), .d (.int .i64 a1.States), .d (.lst 1 (List.map (eI .i64) a1.Marked)), .d (.lst 3 (List.map e_api_Edge a1.Edges))]) trivial rfl (boxOwn rfl) rfl rfl ?_
  replace h := bnd h
  obtain ⟨x4, h3, h⟩ := h
  refine Rn.call (args := [.agg [.d (.lst 1 (List.map (eI .i64) a1.Alphabet)), .d (.int .i64 a1.States), .d (.lst 1 (List.map (eI .i64) a1.Marked)), .d (.lst 3 (List.map e_api_Edge a1.Edges))]]) trivial rfl (H_automaton_Check _ _ h3) pc9 ?_
  refine Rn.movD trivial rfl ?_
  refine Rn.nil ?_
  refine toN ?_
  refine Tr.seq ?_
  refine Tr.rgn ?_
  refine Rn.movD trivial rfl ?_
  refine Rn.bin trivial rfl rfl rfl ?_
  refine Rn.nil ?_
  refine toN ?_
  refine Tr.cond rfl (fun hb5 => ?_) (fun hb5 => ?_)
  · replace h := bT hb5 h
    refine Tr.seq ?_
    refine Tr.rgn ?_
    refine Rn.movD trivial rfl ?_
    refine Rn.movD trivial rfl ?_
    refine Rn.movD trivial rfl ?_
    refine Rn.nil ?_
    refine toN ?_
    refine Tr.ret ?_
    replace h := Option.some.inj h
    subst h
    exact ⟨.inr rfl, .tup [.d (.bool false), .d (.int .i64 x4)], res2 rfl rfl, (WkV.tup (.cons (.same rfl) (.cons (.same rfl) .nil))).rd, ⟨trivial, trivial, trivial⟩, fun k hk => memOf_base hk⟩
  · replace h := bF hb5 h
    refine Tr.skip ?_
    refine toN ?_
    refine Tr.seq ?_
    refine Tr.rgn ?_
    refine Rn.load (v := .agg [.d (.lst 1 (List.map (eI .i64) a1.Alphabet)), .d (.int .i64 a1.States), .d (.lst 1 (List.map (eI .i64) a1.Marked)), .d (.lst 3 (List.map e_api_Edge a1.Edges))]) trivial rfl (boxOwn rfl) rfl rfl ?_
    refine Rn.movD trivial rfl ?_
    replace h := bnd h
    obtain ⟨⟨r7, r8⟩, h6, h⟩ := h
    refine Rn.call (args := [.agg [.d (.lst 1 (List.map (eI .i64) a1.Alphabet)), .d (.int .i64 a1.States), .d (.lst 1 (List.map (eI .i64) a1.Marked)), .d (.lst 3 (List.map e_api_Edge a1.Edges))], .d (.lst 1 (List.map (eI .i64) word2))]) trivial rfl (H_automaton_reached _ _ _ h6) pc9 ?_
    refine Rn.mov (v := .tup [.d (.int .i64 r7), .d (.bool r8)]) trivial rfl ?_
    refine Rn.ext (v := .d (.int .i64 r7)) (vs := [.d (.int .i64 r7), .d (.bool r8)]) trivial rfl rfl rfl ?_
    refine Rn.ext (v := .d (.bool r8)) (vs := [.d (.int .i64 r7), .d (.bool r8)]) trivial rfl rfl rfl ?_
    refine Rn.movD trivial rfl ?_
    refine Rn.movD trivial rfl ?_
    refine Rn.nil ?_
    refine toN ?_
    refine Tr.seq ?_
    refine Tr.rgn ?_
    refine Rn.movD trivial rfl ?_
    refine Rn.movD trivial rfl ?_
    refine bsplit r8 (fun hb9 => ?_) (fun hb9 => ?_)
    · replace h := bT hb9 h
      refine Rn.fldP (o' := 2) (gw rfl hb9) rfl rfl ?_
      refine Rn.load (v := .d (.lst 1 (List.map (eI .i64) a1.Marked))) (gw rfl hb9) rfl (boxOwn rfl) rfl rfl ?_
      refine Rn.movD (gw rfl hb9) rfl ?_
      replace h := bnd h
      obtain ⟨x11, h10, h⟩ := h
      refine Rn.call (args := [.d (.lst 1 (List.map (eI .i64) a1.Marked)), .d (.int .i64 r7)]) (gw rfl hb9) rfl (H_slices_Contains_int _ _ _ h10) pc9 ?_
      refine Rn.pickT (v := .d (.bool x11)) trivial rfl hb9 rfl ?_
      refine Rn.movD trivial rfl ?_
      refine Rn.movD trivial rfl ?_
      refine Rn.nil ?_
      refine toN ?_
      refine Tr.ret ?_
      replace h := Option.some.inj h
      subst h
      exact ⟨.inr rfl, .tup [.d (.bool x11), .d (.int .i64 0)], res2 rfl rfl, (WkV.tup (.cons (.same rfl) (.cons (.same rfl) .nil))).rd, ⟨trivial, trivial, trivial⟩, fun k hk => memOf_base hk⟩
    · replace h := bF hb9 h
      refine Rn.sk (nw rfl hb9) ?_
      refine Rn.sk (nw rfl hb9) ?_
      refine Rn.sk (nw rfl hb9) ?_
      refine Rn.sk (nw rfl hb9) ?_
      refine Rn.pickF (v := .d (.bool false)) trivial rfl hb9 rfl ?_
      refine Rn.movD trivial rfl ?_
      refine Rn.movD trivial rfl ?_
      refine Rn.nil ?_
      refine toN ?_
      refine Tr.ret ?_
      replace h := Option.some.inj h
      subst h
      exact ⟨.inr rfl, .tup [.d (.bool false), .d (.int .i64 0)], res2 rfl rfl, (WkV.tup (.cons (.same rfl) (.cons (.same rfl) .nil))).rd, ⟨trivial, trivial, trivial⟩, fun k hk => memOf_base hk⟩

theorem automaton_Complete_walk {P : Program} {c : Nat} {f_automaton_Check : api_Automaton → Option Int} {f_automaton_canonical : api_Automaton → Option api_Automaton} {f_automaton_next : api_Automaton → Int → Int → Option Int}
    (H_automaton_Check : K_automaton_Check P 45 f_automaton_Check)
    (H_automaton_canonical : K_automaton_canonical P 56 f_automaton_canonical)
    (H_automaton_next : K_automaton_next P 67 f_automaton_next) (hcf : compFn P c = some F_automaton_Complete) (fuel : Nat) : K_automaton_Complete P c (f_automaton_Complete f_automaton_Check f_automaton_canonical f_automaton_next fuel) := by
  intro a1 r h
  refine fn_trP hcf rfl fun Γ M hP hnt hM => ?_
  subst hP
  refine Tr.init [(0, .agg [.d (.lst 1 (List.map (eI .i64) a1.Alphabet)), .d (.int .i64 a1.States), .d (.lst 1 (List.map (eI .i64) a1.Marked)), .d (.lst 3 (List.map e_api_Edge a1.Edges))])] rfl ?_
  unfold f_automaton_Complete at h
  unfold F_automaton_Complete
  refine Tr.seq ?_
  refine Tr.rgn ?_
  refine Rn.box (v := .agg [.d (.lst 1 (List.map (eI .i64) a1.Alphabet)), .d (.int .i64 a1.States), .d (.lst 1 (List.map (eI .i64) a1.Marked)), .d (.lst 3 (List.map e_api_Edge a1.Edges))]) (cs := [.d (.lst 1 (List.map (eI .i64) a1.Alphabet)), .d (.int .i64 a1.States), .d (.lst 1 (List.map (eI .i64) a1.Marked)), .d (.lst 3 (List.map e_api_Edge a1.Edges))]) trivial rfl rfl rfl rfl rfl ?_
  refine Rn.alloc trivial rfl ?_
  refine Rn.movD trivial rfl ?_
  refine Rn.nil ?_
  refine toN ?_
  refine Tr.seq ?_
  refine Tr.seq ?_
  refine Tr.rgn ?_
  refine Rn.load (v := .agg [.d (.lst 1 (List.map (eI .i64) a1.Alphabet)), .d (.int .i64 a1.States), .d (.lst 1 (List.map (eI .i64) a1.Marked)), .d (.lst 3 (List.map e_api_Edge a1.Edges))]) trivial rfl (boxOwn rfl) rfl rfl ?_
  replace h := bnd h
  obtain ⟨x3, h2, h⟩ := h
  refine Rn.call (args := [.agg [.d (.lst 1 (List.map (eI .i64) a1.Alphabet)), .d (.int .i64 a1.States), .d (.lst 1 (List.map (eI .i64) a1.Marked)), .d (.lst 3 (List.map e_api_Edge a1.Edges))]]) trivial rfl (H_automaton_Check _ _ h2) pc9 ?_
  refine Rn.movD trivial rfl ?_
  refine Rn.nil ?_
  refine toN ?_
  refine Tr.seq ?_
  refine Tr.rgn ?_
  refine Rn.movD trivial rfl ?_
  refine Rn.bin trivial rfl rfl rfl ?_
  refine Rn.nil ?_
  refine toN ?_
  refine Tr.cond rfl (fun hb4 => ?_) (fun hb4 => ?_)
  · replace h := bT hb4 h
    refine Tr.seq ?_
    refine Tr.rgn ?_
    refine Rn.build (v := .agg [.nils 1, .d (.int .i64 0), .nils 1, .nils 3]) trivial rfl ?_
    refine Rn.movD trivial rfl ?_
    refine Rn.store (v := .agg [.nils 1, .d (.int .i64 0), .nils 1, .nils 3]) (cs' := [.nils 1, .d (.int .i64 0), .nils 1, .nils 3]) trivial rfl rfl rfl rfl rfl rfl ?_
    refine Rn.movD trivial rfl ?_
    refine Rn.nil ?_
    refine toN ?_
    refine Tr.ret ?_
    replace h := Option.some.inj h
    subst h
    exact ⟨.inr rfl, .tup [.agg [.nils 1, .d (.int .i64 0), .nils 1, .nils 3], .d (.int .i64 x3)], res2 (resCell rfl rfl rfl rfl) rfl, (WkV.tup (.cons (WkV.agg (.cons (WkV.nilsD _) (.cons (.same rfl) (.cons (WkV.nilsD _) (.cons (WkV.nilsD _) .nil))))) (.cons (.same rfl) .nil))).rd, ⟨⟨trivial, trivial, trivial, trivial, trivial⟩, trivial, trivial⟩, fun k hk => memOf_base hk⟩
  · replace h := bF hb4 h
    refine Tr.skip ?_
    refine toN ?_
    refine Tr.seq ?_
    refine Tr.rgn ?_
    refine Rn.fldP (o' := 0) trivial rfl rfl ?_
    refine Rn.load (v := .d (.lst 1 (List.map (eI .i64) a1.Alphabet))) trivial rfl (boxOwn rfl) rfl rfl ?_
    refine Rn.fldP (o' := 1) trivial rfl rfl ?_
    refine Rn.load (v := .d (.int .i64 a1.States)) trivial rfl (boxOwn rfl) rfl rfl ?_
    refine Rn.bin trivial rfl rfl rfl ?_
    refine Rn.fldP (o' := 2) trivial rfl rfl ?_
    refine Rn.load (v := .d (.lst 1 (List.map (eI .i64) a1.Marked))) trivial rfl (boxOwn rfl) rfl rfl ?_
    refine Rn.build (v := .agg [.d (.lst 1 (List.map (eI .i64) a1.Alphabet)), .d (.int .i64 (IntKind.wrap .i64 (a1.States + 1))), .d (.lst 1 (List.map (eI .i64) a1.Marked)), .nils 3]) trivial rfl ?_
    refine Rn.alloc trivial rfl ?_
    refine Rn.store (v := .agg [.d (.lst 1 (List.map (eI .i64) a1.Alphabet)), .d (.int .i64 (IntKind.wrap .i64 (a1.States + 1))), .d (.lst 1 (List.map (eI .i64) a1.Marked)), .nils 3]) (cs' := [.d (.lst 1 (List.map (eI .i64) a1.Alphabet)), .d (.int .i64 (IntKind.wrap .i64 (a1.States + 1))), .d (.lst 1 (List.map (eI .i64) a1.Marked)), .nils 3]) trivial rfl rfl rfl rfl rfl rfl ?_
    refine Rn.nil ?_
    refine toN ?_
    refine Tr.cutB (fun ((c28, c29, c30, r31, r32) : (List Int) × (List Int) × (List api_Edge) × Int × (List api_Edge)) => ⟨look [(2, .ptr (Γ.n0 + 2) 0), (5, .ptr (Γ.n0 + 5) 0)], memOf Γ.n0 (bxs [(1, [.d (.lst 1 (List.map (eI .i64) a1.Alphabet)), .d (.int .i64 a1.States), .d (.lst 1 (List.map (eI .i64) a1.Marked)), .d (.lst 3 (List.map e_api_Edge a1.Edges))]), (2, [.own 1 (List.map (eI .i64) c28), .d (.int .i64 0), .own 1 (List.map (eI .i64) c29), .own 3 (List.map e_api_Edge c30)]), (5, [.d (.lst 1 (List.map (eI .i64) a1.Alphabet)), .d (.int .i64 r31), .d (.lst 1 (List.map (eI .i64) a1.Marked)), .own 3 (List.map e_api_Edge r32)])]) M, Γ.n0 + 68⟩) h (fun z h => ?_) (fun z h => ?_)
    · refine Tr.seq ?_
      refine Tr.rgn ?_
      refine Rn.fldP (o' := 1) trivial rfl rfl ?_
      refine Rn.load (v := .d (.int .i64 (IntKind.wrap .i64 (a1.States + 1)))) trivial rfl (boxOwn rfl) rfl rfl ?_
      refine Rn.movD trivial rfl ?_
      refine Rn.nil ?_
      refine toN ?_
      refine Tr.block ?_
      refine Tr.loop (mk := fun ((x5, x6, c7, c8, c9, r10, r11) : Int × Int × (List Int) × (List Int) × (List api_Edge) × Int × (List api_Edge)) => ⟨look [(1, .ptr (Γ.n0 + 1) 0), (2, .ptr (Γ.n0 + 2) 0), (5, .ptr (Γ.n0 + 5) 0), (26, .d (.int .i64 x5)), (27, .d (.int .i64 x6))], memOf Γ.n0 (bxs [(1, [.d (.lst 1 (List.map (eI .i64) a1.Alphabet)), .d (.int .i64 a1.States), .d (.lst 1 (List.map (eI .i64) a1.Marked)), .d (.lst 3 (List.map e_api_Edge a1.Edges))]), (2, [.own 1 (List.map (eI .i64) c7), .d (.int .i64 0), .own 1 (List.map (eI .i64) c8), .own 3 (List.map e_api_Edge c9)]), (5, [.d (.lst 1 (List.map (eI .i64) a1.Alphabet)), .d (.int .i64 r10), .d (.lst 1 (List.map (eI .i64) a1.Marked)), .own 3 (List.map e_api_Edge r11)])]) M, Γ.n0 + 68⟩) h (by show WeakSt Γ (clean _ _ _) ⟨look _, memOf _ (bxs _) _, _⟩; exact weak_clean ⟨(kPtr rfl), ⟨(kPtr rfl), ⟨(kPtr rfl), ⟨(.same rfl), ⟨(.same rfl), trivial⟩⟩⟩⟩⟩ ⟨⟨_, rfl, rfl, (.same rfl)⟩, ⟨⟨_, rfl, rfl, (.cons (WkV.nilsO _) (.cons (.same rfl) (.cons (WkV.nilsO _) (.cons (WkV.nilsO _) .nil))))⟩, ⟨⟨_, rfl, rfl, (.cons (.same rfl) (.cons (.same rfl) (.cons (.same rfl) (.cons (WkV.nilsO _) .nil))))⟩, trivial⟩⟩⟩ rfl) (fun k12 z h => ?_)
      · obtain ⟨x5, x6, c7, c8, c9, r10, r11⟩ := z
        replace h : _ = some _ := h
        refine Tr.seq ?_
        refine Tr.rgn ?_
        refine Rn.bin trivial rfl rfl rfl ?_
        refine Rn.nil ?_
        refine toN ?_
        refine Tr.seq ?_
        refine Tr.cond rfl (fun hb13 => ?_) (fun hb13 => ?_)
        · replace h := ifT hb13 h
          refine Tr.skip ?_
          refine toN ?_
          refine Tr.cutB (fun (r27 : List api_Edge) => ⟨look [(1, .ptr (Γ.n0 + 1) 0), (2, .ptr (Γ.n0 + 2) 0), (5, .ptr (Γ.n0 + 5) 0), (26, .d (.int .i64 x5)), (27, .d (.int .i64 x6))], memOf Γ.n0 (bxs [(1, [.d (.lst 1 (List.map (eI .i64) a1.Alphabet)), .d (.int .i64 a1.States), .d (.lst 1 (List.map (eI .i64) a1.Marked)), .d (.lst 3 (List.map e_api_Edge a1.Edges))]), (2, [.own 1 (List.map (eI .i64) c7), .d (.int .i64 0), .own 1 (List.map (eI .i64) c8), .own 3 (List.map e_api_Edge c9)]), (5, [.d (.lst 1 (List.map (eI .i64) a1.Alphabet)), .d (.int .i64 r10), .d (.lst 1 (List.map (eI .i64) a1.Marked)), .own 3 (List.map e_api_Edge r27)])]) M, Γ.n0 + 68⟩) h (fun z h => ?_) (fun z h => ?_)
          · refine Tr.block ?_
            refine Tr.seq ?_
            refine Tr.rgn ?_
            refine Rn.movD trivial rfl ?_
            refine Rn.movD trivial rfl ?_
            refine Rn.nil ?_
            refine toN ?_
            refine Tr.seq ?_
            refine Tr.rgn ?_
            refine Rn.fldP (o' := 0) trivial rfl rfl ?_
            refine Rn.load (v := .d (.lst 1 (List.map (eI .i64) a1.Alphabet))) trivial rfl (boxOwn rfl) rfl rfl ?_
            refine Rn.lenD trivial rfl ?_
            refine Rn.movD trivial rfl ?_
            refine Rn.nil ?_
            refine toN ?_
            refine Tr.block ?_
            refine Tr.loop (mk := fun ((x14, r15) : Int × (List api_Edge)) => ⟨look [(1, .ptr (Γ.n0 + 1) 0), (2, .ptr (Γ.n0 + 2) 0), (5, .ptr (Γ.n0 + 5) 0), (6, .d (.int .i64 x6)), (26, .d (.int .i64 x5)), (27, .d (.int .i64 x6)), (31, .d (.lst 1 (List.map (eI .i64) a1.Alphabet))), (32, .d (.int .i64 (a1.Alphabet.length : Int))), (33, .d (.int .i64 x14))], memOf Γ.n0 (bxs [(1, [.d (.lst 1 (List.map (eI .i64) a1.Alphabet)), .d (.int .i64 a1.States), .d (.lst 1 (List.map (eI .i64) a1.Marked)), .d (.lst 3 (List.map e_api_Edge a1.Edges))]), (2, [.own 1 (List.map (eI .i64) c7), .d (.int .i64 0), .own 1 (List.map (eI .i64) c8), .own 3 (List.map e_api_Edge c9)]), (5, [.d (.lst 1 (List.map (eI .i64) a1.Alphabet)), .d (.int .i64 r10), .d (.lst 1 (List.map (eI .i64) a1.Marked)), .own 3 (List.map e_api_Edge r15)])]) M, Γ.n0 + 68⟩) h (by show WeakSt Γ (clean _ _ _) ⟨look _, memOf _ (bxs _) _, _⟩; exact weak_clean ⟨(kPtr rfl), ⟨(kPtr rfl), ⟨(kPtr rfl), ⟨(.same rfl), ⟨(.same rfl), ⟨(.same rfl), ⟨(.same rfl), ⟨(.same rfl), ⟨(.same rfl), trivial⟩⟩⟩⟩⟩⟩⟩⟩⟩ ⟨⟨_, rfl, rfl, (.same rfl)⟩, ⟨⟨_, rfl, rfl, (.same rfl)⟩, ⟨⟨_, rfl, rfl, (.same rfl)⟩, trivial⟩⟩⟩ rfl) (fun k16 z h => ?_)
            · obtain ⟨x14, r15⟩ := z
              replace h : _ = some _ := h
              refine Tr.seq ?_
              refine Tr.rgn ?_
              refine Rn.bin trivial rfl rfl rfl ?_
              refine Rn.nil ?_
              refine toN ?_
              refine Tr.seq ?_
              refine Tr.cond rfl (fun hb17 => ?_) (fun hb17 => ?_)
              · replace h := ifT hb17 h
                refine Tr.skip ?_
                refine toN ?_
                refine Tr.seq ?_
                refine Tr.block ?_
                refine Tr.seq ?_
                refine Tr.rgn ?_
                replace h := bnd h
                obtain ⟨x18, h19, h⟩ := h
                refine Rn.idxD (e := (eI .i64)) trivial rfl rfl h19 ?_
                refine Rn.loadC (x := .int .i64 x18) trivial rfl ?_
                refine Rn.movD trivial rfl ?_
                refine Rn.nil ?_
                refine toN ?_
                refine Tr.seq ?_
                refine Tr.rgn ?_
                refine Rn.fldP (o' := 1) trivial rfl rfl ?_
                refine Rn.load (v := .d (.int .i64 a1.States)) trivial rfl (boxOwn rfl) rfl rfl ?_
                refine Rn.movD trivial rfl ?_
                refine Rn.nil ?_
                refine toN ?_
                refine Tr.cutB (fun (to24 : Int) => ⟨look [(1, .ptr (Γ.n0 + 1) 0), (2, .ptr (Γ.n0 + 2) 0), (5, .ptr (Γ.n0 + 5) 0), (6, .d (.int .i64 x6)), (8, .d (.int .i64 x18)), (9, .d (.int .i64 to24)), (26, .d (.int .i64 x5)), (27, .d (.int .i64 x6)), (31, .d (.lst 1 (List.map (eI .i64) a1.Alphabet))), (32, .d (.int .i64 (a1.Alphabet.length : Int))), (33, .d (.int .i64 x14))], memOf Γ.n0 (bxs [(1, [.d (.lst 1 (List.map (eI .i64) a1.Alphabet)), .d (.int .i64 a1.States), .d (.lst 1 (List.map (eI .i64) a1.Marked)), .d (.lst 3 (List.map e_api_Edge a1.Edges))]), (2, [.own 1 (List.map (eI .i64) c7), .d (.int .i64 0), .own 1 (List.map (eI .i64) c8), .own 3 (List.map e_api_Edge c9)]), (5, [.d (.lst 1 (List.map (eI .i64) a1.Alphabet)), .d (.int .i64 r10), .d (.lst 1 (List.map (eI .i64) a1.Marked)), .own 3 (List.map e_api_Edge r15)])]) M, Γ.n0 + 68⟩) h (fun z h => ?_) (fun z h => ?_)
                · refine Tr.seq ?_
                  refine Tr.rgn ?_
                  refine Rn.movD trivial rfl ?_
                  refine Rn.fldP (o' := 1) trivial rfl rfl ?_
                  refine Rn.load (v := .d (.int .i64 a1.States)) trivial rfl (boxOwn rfl) rfl rfl ?_
                  refine Rn.bin trivial rfl rfl rfl ?_
                  refine Rn.nil ?_
                  refine toN ?_
                  refine Tr.cond rfl (fun hb20 => ?_) (fun hb20 => ?_)
                  · replace h := ifT hb20 h
                    refine Tr.seq ?_
                    refine Tr.rgn ?_
                    refine Rn.load (v := .agg [.d (.lst 1 (List.map (eI .i64) a1.Alphabet)), .d (.int .i64 a1.States), .d (.lst 1 (List.map (eI .i64) a1.Marked)), .d (.lst 3 (List.map e_api_Edge a1.Edges))]) trivial rfl (boxOwn rfl) rfl rfl ?_
                    refine Rn.movD trivial rfl ?_
                    refine Rn.movD trivial rfl ?_
                    replace h := bnd h
                    obtain ⟨x22, h21, h⟩ := h
                    refine Rn.call (args := [.agg [.d (.lst 1 (List.map (eI .i64) a1.Alphabet)), .d (.int .i64 a1.States), .d (.lst 1 (List.map (eI .i64) a1.Marked)), .d (.lst 3 (List.map e_api_Edge a1.Edges))], .d (.int .i64 x6), .d (.int .i64 x18)]) trivial rfl (H_automaton_next _ _ _ _ h21) pc9 ?_
                    refine Rn.movD trivial rfl ?_
                    refine Rn.nil ?_
                    refine toN ?_
                    refine Tr.seq ?_
                    refine Tr.rgn ?_
                    refine Rn.movD trivial rfl ?_
                    refine Rn.bin trivial rfl rfl rfl ?_
                    refine Rn.nil ?_
                    refine toN ?_
                    refine Tr.cond rfl (fun hb23 => ?_) (fun hb23 => ?_)
                    · replace h := ifT hb23 h
                      refine Tr.rgn ?_
                      refine Rn.movD trivial rfl ?_
                      refine Rn.movD trivial rfl ?_
                      refine Rn.nil ?_
                      replace h := Option.some.inj h
                      subst h
                      show WeakSt Γ _ ⟨look _, memOf _ (bxs _) _, _⟩; exact weak_cut [] ⟨(kPtr rfl), ⟨(kPtr rfl), ⟨(kPtr rfl), ⟨(.same rfl), ⟨(.same rfl), ⟨(.same rfl), ⟨(.same rfl), ⟨(.same rfl), ⟨(.same rfl), ⟨(.same rfl), ⟨(.same rfl), trivial⟩⟩⟩⟩⟩⟩⟩⟩⟩⟩⟩ ⟨⟨_, rfl, rfl, (.same rfl)⟩, ⟨⟨_, rfl, rfl, (.same rfl)⟩, ⟨⟨_, rfl, rfl, (.same rfl)⟩, trivial⟩⟩⟩ rfl
                    · replace h := ifF hb23 h
                      refine Tr.skip ?_
                      replace h := Option.some.inj h
                      subst h
                      show WeakSt Γ _ ⟨look _, memOf _ (bxs _) _, _⟩; exact weak_cut [] ⟨(kPtr rfl), ⟨(kPtr rfl), ⟨(kPtr rfl), ⟨(.same rfl), ⟨(.same rfl), ⟨(.same rfl), ⟨(.same rfl), ⟨(.same rfl), ⟨(.same rfl), ⟨(.same rfl), ⟨(.same rfl), trivial⟩⟩⟩⟩⟩⟩⟩⟩⟩⟩⟩ ⟨⟨_, rfl, rfl, (.same rfl)⟩, ⟨⟨_, rfl, rfl, (.same rfl)⟩, ⟨⟨_, rfl, rfl, (.same rfl)⟩, trivial⟩⟩⟩ rfl
                  · replace h := ifF hb20 h
                    refine Tr.skip ?_
                    replace h := Option.some.inj h
                    subst h
                    show WeakSt Γ _ ⟨look _, memOf _ (bxs _) _, _⟩; exact weak_cut [] ⟨(kPtr rfl), ⟨(kPtr rfl), ⟨(kPtr rfl), ⟨(.same rfl), ⟨(.same rfl), ⟨(.same rfl), ⟨(.same rfl), ⟨(.same rfl), ⟨(.same rfl), ⟨(.same rfl), ⟨(.same rfl), trivial⟩⟩⟩⟩⟩⟩⟩⟩⟩⟩⟩ ⟨⟨_, rfl, rfl, (.same rfl)⟩, ⟨⟨_, rfl, rfl, (.same rfl)⟩, ⟨⟨_, rfl, rfl, (.same rfl)⟩, trivial⟩⟩⟩ rfl
                · obtain ⟨to24, rfl⟩ : ∃ x, x = z := ⟨_, rfl⟩
                  refine Tr.rgn ?_
                  refine Rn.fldP (o' := 3) trivial rfl rfl ?_
                  refine Rn.loadT (cs' := [.d (.lst 1 (List.map (eI .i64) a1.Alphabet)), .d (.int .i64 r10), .d (.lst 1 (List.map (eI .i64) a1.Marked)), .d (.lst 3 (List.map e_api_Edge r15))]) trivial rfl rfl rfl rfl ?_
                  refine Rn.movD trivial rfl ?_
                  refine Rn.movD trivial rfl ?_
                  refine Rn.movD trivial rfl ?_
                  refine Rn.build (v := .agg [.d (.int .i64 x6), .d (.int .i64 x18), .d (.int .i64 to24)]) trivial rfl ?_
                  refine Rn.bslice (xs := [.agg [.d (.int .i64 x6), .d (.int .i64 x18), .d (.int .i64 to24)]]) (cs := [.d (.int .i64 x6), .d (.int .i64 x18), .d (.int .i64 to24)]) trivial rfl rfl rfl rfl ?_
                  replace h := bnd h
                  obtain ⟨x25, h26, h⟩ := h
                  refine Rn.app (e := e_api_Edge) trivial rfl rfl rfl (elems_box rfl rfl rfl) h26 rfl ?_
                  refine Rn.fldP (o' := 3) trivial rfl rfl ?_
                  refine Rn.storeO (cs' := [.d (.lst 1 (List.map (eI .i64) a1.Alphabet)), .d (.int .i64 r10), .d (.lst 1 (List.map (eI .i64) a1.Marked)), .own 3 (List.map e_api_Edge x25)]) trivial rfl rfl rfl rfl rfl ?_
                  refine Rn.nil ?_
                  refine toN ?_
                  refine Tr.rgn ?_
                  refine Rn.bin trivial rfl rfl rfl ?_
                  refine Rn.movD trivial rfl ?_
                  refine Rn.nil ?_
                  exact ⟨_, h, (by show WeakSt Γ (clean _ _ _) ⟨look _, memOf _ (bxs _) _, _⟩; exact weak_clean ⟨(kPtr rfl), ⟨(kPtr rfl), ⟨(kPtr rfl), ⟨(.same rfl), ⟨(.same rfl), ⟨(.same rfl), ⟨(.same rfl), ⟨(.same rfl), ⟨(.same rfl), trivial⟩⟩⟩⟩⟩⟩⟩⟩⟩ ⟨⟨_, rfl, rfl, (.same rfl)⟩, ⟨⟨_, rfl, rfl, (.same rfl)⟩, ⟨⟨_, rfl, rfl, (.same rfl)⟩, trivial⟩⟩⟩ rfl)⟩
              · replace h := ifF hb17 h
                refine Tr.exit ?_
                replace h := Option.some.inj h
                subst h
                show WeakSt Γ _ ⟨look _, memOf _ (bxs _) _, _⟩; exact weak_cut [] ⟨(kPtr rfl), ⟨(kPtr rfl), ⟨(kPtr rfl), ⟨(.same rfl), ⟨(.same rfl), trivial⟩⟩⟩⟩⟩ ⟨⟨_, rfl, rfl, (.same rfl)⟩, ⟨⟨_, rfl, rfl, (.same rfl)⟩, ⟨⟨_, rfl, rfl, (.same rfl)⟩, trivial⟩⟩⟩ rfl
          · obtain ⟨r27, rfl⟩ : ∃ x, x = z := ⟨_, rfl⟩
            refine Tr.rgn ?_
            refine Rn.bin trivial rfl rfl rfl ?_
            refine Rn.movD trivial rfl ?_
            refine Rn.nil ?_
            exact ⟨_, h, (by show WeakSt Γ (clean _ _ _) ⟨look _, memOf _ (bxs _) _, _⟩; exact weak_clean ⟨(kPtr rfl), ⟨(kPtr rfl), ⟨(kPtr rfl), ⟨(.same rfl), ⟨(.same rfl), trivial⟩⟩⟩⟩⟩ ⟨⟨_, rfl, rfl, (.same rfl)⟩, ⟨⟨_, rfl, rfl, (.same rfl)⟩, ⟨⟨_, rfl, rfl, (.same rfl)⟩, trivial⟩⟩⟩ rfl)⟩
        · replace h := ifF hb13 h
          refine Tr.exit ?_
          replace h := Option.some.inj h
          subst h
          show WeakSt Γ _ ⟨look _, memOf _ (bxs _) _, _⟩; exact weak_cut [] ⟨(kPtr rfl), ⟨(kPtr rfl), trivial⟩⟩ ⟨⟨_, rfl, rfl, (.same rfl)⟩, ⟨⟨_, rfl, rfl, (.same rfl)⟩, ⟨⟨_, rfl, rfl, (.same rfl)⟩, trivial⟩⟩⟩ rfl
    · obtain ⟨c28, c29, c30, r31, r32⟩ := z
      refine Tr.seq ?_
      refine Tr.rgn ?_
      refine Rn.load (v := .agg [.d (.lst 1 (List.map (eI .i64) a1.Alphabet)), .d (.int .i64 r31), .d (.lst 1 (List.map (eI .i64) a1.Marked)), .d (.lst 3 (List.map e_api_Edge r32))]) trivial rfl (boxOwn rfl) rfl rfl ?_
      replace h := bnd h
      obtain ⟨x34, h33, h⟩ := h
      refine Rn.call (args := [.agg [.d (.lst 1 (List.map (eI .i64) a1.Alphabet)), .d (.int .i64 r31), .d (.lst 1 (List.map (eI .i64) a1.Marked)), .d (.lst 3 (List.map e_api_Edge r32))]]) trivial rfl (H_automaton_canonical _ _ h33) pc9 ?_
      refine Rn.store (v := .agg [.d (.lst 1 (List.map (eI .i64) x34.Alphabet)), .d (.int .i64 x34.States), .d (.lst 1 (List.map (eI .i64) x34.Marked)), .d (.lst 3 (List.map e_api_Edge x34.Edges))]) (cs' := [.d (.lst 1 (List.map (eI .i64) x34.Alphabet)), .d (.int .i64 x34.States), .d (.lst 1 (List.map (eI .i64) x34.Marked)), .d (.lst 3 (List.map e_api_Edge x34.Edges))]) trivial rfl rfl rfl rfl rfl rfl ?_
      refine Rn.nil ?_
      refine toN ?_
      refine Tr.seq ?_
      refine Tr.seq ?_
      refine Tr.rgn ?_
      refine Rn.fldP (o' := 1) trivial rfl rfl ?_
      refine Rn.load (v := .d (.int .i64 x34.States)) trivial rfl (boxOwn rfl) rfl rfl ?_
      refine Rn.bin trivial rfl rfl rfl ?_
      refine Rn.nil ?_
      refine toN ?_
      refine Tr.cond rfl (fun hb35 => ?_) (fun hb35 => ?_)
      · replace h := ifT hb35 h
        refine Tr.seq ?_
        refine Tr.rgn ?_
        refine Rn.build (v := .agg [.nils 1, .d (.int .i64 0), .nils 1, .nils 3]) trivial rfl ?_
        refine Rn.store (v := .agg [.nils 1, .d (.int .i64 0), .nils 1, .nils 3]) (cs' := [.nils 1, .d (.int .i64 0), .nils 1, .nils 3]) trivial rfl rfl rfl rfl rfl rfl ?_
        refine Rn.movD trivial rfl ?_
        refine Rn.nil ?_
        refine toN ?_
        refine Tr.ret ?_
        replace h := Option.some.inj h
        subst h
        exact ⟨.inr rfl, .tup [.agg [.nils 1, .d (.int .i64 0), .nils 1, .nils 3], .d (.int .i64 3)], res2 (resCell rfl rfl rfl rfl) rfl, (WkV.tup (.cons (WkV.agg (.cons (WkV.nilsD _) (.cons (.same rfl) (.cons (WkV.nilsD _) (.cons (WkV.nilsD _) .nil))))) (.cons (.same rfl) .nil))).rd, ⟨⟨trivial, trivial, trivial, trivial, trivial⟩, trivial, trivial⟩, fun k hk => memOf_base hk⟩
      · replace h := ifF hb35 h
        refine Tr.skip ?_
        refine toN ?_
        refine Tr.seq ?_
        refine Tr.rgn ?_
        refine Rn.load (v := .agg [.d (.lst 1 (List.map (eI .i64) x34.Alphabet)), .d (.int .i64 x34.States), .d (.lst 1 (List.map (eI .i64) x34.Marked)), .d (.lst 3 (List.map e_api_Edge x34.Edges))]) trivial rfl (boxOwn rfl) rfl rfl ?_
        refine Rn.store (v := .agg [.d (.lst 1 (List.map (eI .i64) x34.Alphabet)), .d (.int .i64 x34.States), .d (.lst 1 (List.map (eI .i64) x34.Marked)), .d (.lst 3 (List.map e_api_Edge x34.Edges))]) (cs' := [.d (.lst 1 (List.map (eI .i64) x34.Alphabet)), .d (.int .i64 x34.States), .d (.lst 1 (List.map (eI .i64) x34.Marked)), .d (.lst 3 (List.map e_api_Edge x34.Edges))]) trivial rfl rfl rfl rfl rfl rfl ?_
        refine Rn.movD trivial rfl ?_
        refine Rn.nil ?_
        refine toN ?_
        refine Tr.ret ?_
        replace h := Option.some.inj h
        subst h
        exact ⟨.inr rfl, .tup [.agg [.d (.lst 1 (List.map (eI .i64) x34.Alphabet)), .d (.int .i64 x34.States), .d (.lst 1 (List.map (eI .i64) x34.Marked)), .d (.lst 3 (List.map e_api_Edge x34.Edges))], .d (.int .i64 0)], res2 (resCell rfl rfl rfl rfl) rfl, (WkV.tup (.cons (.same rfl) (.cons (.same rfl) .nil))).rd, ⟨⟨trivial, trivial, trivial, trivial, trivial⟩, trivial, trivial⟩, fun k hk => memOf_base hk⟩

theorem automaton_Closed_walk {P : Program} {c : Nat} {f_automaton_Check : api_Automaton → Option Int} {f_automaton_canonical : api_Automaton → Option api_Automaton}
    (H_automaton_Check : K_automaton_Check P 45 f_automaton_Check)
    (H_automaton_canonical : K_automaton_canonical P 56 f_automaton_canonical) (hcf : compFn P c = some F_automaton_Closed) (fuel : Nat) : K_automaton_Closed P c (f_automaton_Closed f_automaton_Check f_automaton_canonical fuel) := by
  intro a1 r h
  refine fn_trP hcf rfl fun Γ M hP hnt hM => ?_
  subst hP
  refine Tr.init [(0, .agg [.d (.lst 1 (List.map (eI .i64) a1.Alphabet)), .d (.int .i64 a1.States), .d (.lst 1 (List.map (eI .i64) a1.Marked)), .d (.lst 3 (List.map e_api_Edge a1.Edges))])] rfl ?_
  unfold f_automaton_Closed at h
  unfold F_automaton_Closed
  refine Tr.seq ?_
  refine Tr.rgn ?_
  refine Rn.box (v := .agg [.d (.lst 1 (List.map (eI .i64) a1.Alphabet)), .d (.int .i64 a1.States), .d (.lst 1 (List.map (eI .i64) a1.Marked)), .d (.lst 3 (List.map e_api_Edge a1.Edges))]) (cs := [.d (.lst 1 (List.map (eI .i64) a1.Alphabet)), .d (.int .i64 a1.States), .d (.lst 1 (List.map (eI .i64) a1.Marked)), .d (.lst 3 (List.map e_api_Edge a1.Edges))]) trivial rfl rfl rfl rfl rfl ?_
  refine Rn.alloc trivial rfl ?_
  refine Rn.movD trivial rfl ?_
  refine Rn.nil ?_
  refine toN ?_
  refine Tr.seq ?_
  refine Tr.seq ?_
  refine Tr.rgn ?_
  refine Rn.load (v := .agg [.d (.lst 1 (List.map (eI .i64) a1.Alphabet)), .d (.int .i64 a1.States), .d (.lst 1 (List.map (eI .i64) a1.Marked)), .d (.lst 3 (List.map e_api_Edge a1.Edges))]) trivial rfl (boxOwn rfl) rfl rfl ?_
  replace h := bnd h
  obtain ⟨x3, h2, h⟩ := h
  refine Rn.call (args := [.agg [.d (.lst 1 (List.map (eI .i64) a1.Alphabet)), .d (.int .i64 a1.States), .d (.lst 1 (List.map (eI .i64) a1.Marked)), .d (.lst 3 (List.map e_api_Edge a1.Edges))]]) trivial rfl (H_automaton_Check _ _ h2) pc9 ?_
  refine Rn.movD trivial rfl ?_
  refine Rn.nil ?_
  refine toN ?_
  refine Tr.seq ?_
  refine Tr.rgn ?_
  refine Rn.movD trivial rfl ?_
  refine Rn.bin trivial rfl rfl rfl ?_
  refine Rn.nil ?_
  refine toN ?_
  refine Tr.cond rfl (fun hb4 => ?_) (fun hb4 => ?_)
  · replace h := bT hb4 h
    refine Tr.seq ?_
    refine Tr.rgn ?_
    refine Rn.build (v := .agg [.nils 1, .d (.int .i64 0), .nils 1, .nils 3]) trivial rfl ?_
    refine Rn.movD trivial rfl ?_
    refine Rn.store (v := .agg [.nils 1, .d (.int .i64 0), .nils 1, .nils 3]) (cs' := [.nils 1, .d (.int .i64 0), .nils 1, .nils 3]) trivial rfl rfl rfl rfl rfl rfl ?_
    refine Rn.movD trivial rfl ?_
    refine Rn.nil ?_
    refine toN ?_
    refine Tr.ret ?_
    replace h := Option.some.inj h
    subst h
    exact ⟨.inr rfl, .tup [.agg [.nils 1, .d (.int .i64 0), .nils 1, .nils 3], .d (.int .i64 x3)], res2 (resCell rfl rfl rfl rfl) rfl, (WkV.tup (.cons (WkV.agg (.cons (WkV.nilsD _) (.cons (.same rfl) (.cons (WkV.nilsD _) (.cons (WkV.nilsD _) .nil))))) (.cons (.same rfl) .nil))).rd, ⟨⟨trivial, trivial, trivial, trivial, trivial⟩, trivial, trivial⟩, fun k hk => memOf_base hk⟩
  · replace h := bF hb4 h
    refine Tr.skip ?_
    refine toN ?_
    refine Tr.seq ?_
    refine Tr.rgn ?_
    refine Rn.load (v := .agg [.d (.lst 1 (List.map (eI .i64) a1.Alphabet)), .d (.int .i64 a1.States), .d (.lst 1 (List.map (eI .i64) a1.Marked)), .d (.lst 3 (List.map e_api_Edge a1.Edges))]) trivial rfl (boxOwn rfl) rfl rfl ?_
    replace h := bnd h
    obtain ⟨x6, h5, h⟩ := h
    refine Rn.call (args := [.agg [.d (.lst 1 (List.map (eI .i64) a1.Alphabet)), .d (.int .i64 a1.States), .d (.lst 1 (List.map (eI .i64) a1.Marked)), .d (.lst 3 (List.map e_api_Edge a1.Edges))]]) trivial rfl (H_automaton_canonical _ _ h5) pc9 ?_
    refine Rn.alloc trivial rfl ?_
    refine Rn.store (v := .agg [.d (.lst 1 (List.map (eI .i64) x6.Alphabet)), .d (.int .i64 x6.States), .d (.lst 1 (List.map (eI .i64) x6.Marked)), .d (.lst 3 (List.map e_api_Edge x6.Edges))]) (cs' := [.d (.lst 1 (List.map (eI .i64) x6.Alphabet)), .d (.int .i64 x6.States), .d (.lst 1 (List.map (eI .i64) x6.Marked)), .d (.lst 3 (List.map e_api_Edge x6.Edges))]) trivial rfl rfl rfl rfl rfl rfl ?_
    refine Rn.nil ?_
    refine toN ?_
    refine Tr.seq ?_
    refine Tr.rgn ?_
    refine Rn.fldP (o' := 2) trivial rfl rfl ?_
    refine Rn.store (v := .nils 1) (cs' := [.d (.lst 1 (List.map (eI .i64) x6.Alphabet)), .d (.int .i64 x6.States), .nils 1, .d (.lst 3 (List.map e_api_Edge x6.Edges))]) trivial rfl rfl rfl rfl rfl rfl ?_
    refine Rn.nil ?_
    refine toN ?_
    refine Tr.cutB (fun ((c16, c17, c18, r19) : (List Int) × (List Int) × (List api_Edge) × (List Int)) => ⟨look [(2, .ptr (Γ.n0 + 2) 0), (5, .ptr (Γ.n0 + 5) 0)], memOf Γ.n0 (bxs [(1, [.d (.lst 1 (List.map (eI .i64) a1.Alphabet)), .d (.int .i64 a1.States), .d (.lst 1 (List.map (eI .i64) a1.Marked)), .d (.lst 3 (List.map e_api_Edge a1.Edges))]), (2, [.own 1 (List.map (eI .i64) c16), .d (.int .i64 0), .own 1 (List.map (eI .i64) c17), .own 3 (List.map e_api_Edge c18)]), (5, [.d (.lst 1 (List.map (eI .i64) x6.Alphabet)), .d (.int .i64 x6.States), .own 1 (List.map (eI .i64) r19), .d (.lst 3 (List.map e_api_Edge x6.Edges))])]) M, Γ.n0 + 29⟩) h (fun z h => ?_) (fun z h => ?_)
    · refine Tr.seq ?_
      refine Tr.rgn ?_
      refine Rn.fldP (o' := 1) trivial rfl rfl ?_
      refine Rn.load (v := .d (.int .i64 x6.States)) trivial rfl (boxOwn rfl) rfl rfl ?_
      refine Rn.movD trivial rfl ?_
      refine Rn.nil ?_
      refine toN ?_
      refine Tr.block ?_
      refine Tr.loop (mk := fun ((x7, c8, c9, c10, r11) : Int × (List Int) × (List Int) × (List api_Edge) × (List Int)) => ⟨look [(2, .ptr (Γ.n0 + 2) 0), (5, .ptr (Γ.n0 + 5) 0), (17, .d (.int .i64 x6.States)), (18, .d (.int .i64 x7))], memOf Γ.n0 (bxs [(1, [.d (.lst 1 (List.map (eI .i64) a1.Alphabet)), .d (.int .i64 a1.States), .d (.lst 1 (List.map (eI .i64) a1.Marked)), .d (.lst 3 (List.map e_api_Edge a1.Edges))]), (2, [.own 1 (List.map (eI .i64) c8), .d (.int .i64 0), .own 1 (List.map (eI .i64) c9), .own 3 (List.map e_api_Edge c10)]), (5, [.d (.lst 1 (List.map (eI .i64) x6.Alphabet)), .d (.int .i64 x6.States), .own 1 (List.map (eI .i64) r11), .d (.lst 3 (List.map e_api_Edge x6.Edges))])]) M, Γ.n0 + 29⟩) h (by show WeakSt Γ (clean _ _ _) ⟨look _, memOf _ (bxs _) _, _⟩; exact weak_clean ⟨(kPtr rfl), ⟨(kPtr rfl), ⟨(.same rfl), ⟨(.same rfl), trivial⟩⟩⟩⟩ ⟨⟨_, rfl, rfl, (.same rfl)⟩, ⟨⟨_, rfl, rfl, (.cons (WkV.nilsO _) (.cons (.same rfl) (.cons (WkV.nilsO _) (.cons (WkV.nilsO _) .nil))))⟩, ⟨⟨_, rfl, rfl, (.cons (.same rfl) (.cons (.same rfl) (.cons (WkV.nilsO _) (.cons (.same rfl) .nil))))⟩, trivial⟩⟩⟩ rfl) (fun k12 z h => ?_)
      · obtain ⟨x7, c8, c9, c10, r11⟩ := z
        replace h : _ = some _ := h
        refine Tr.seq ?_
        refine Tr.rgn ?_
        refine Rn.bin trivial rfl rfl rfl ?_
        refine Rn.nil ?_
        refine toN ?_
        refine Tr.seq ?_
        refine Tr.cond rfl (fun hb13 => ?_) (fun hb13 => ?_)
        · replace h := ifT hb13 h
          refine Tr.skip ?_
          refine toN ?_
          refine Tr.seq ?_
          refine Tr.block ?_
          refine Tr.seq ?_
          refine Tr.rgn ?_
          refine Rn.movD trivial rfl ?_
          refine Rn.movD trivial rfl ?_
          refine Rn.nil ?_
          refine toN ?_
          refine Tr.rgn ?_
          refine Rn.fldP (o' := 2) trivial rfl rfl ?_
          refine Rn.loadT (cs' := [.d (.lst 1 (List.map (eI .i64) x6.Alphabet)), .d (.int .i64 x6.States), .d (.lst 1 (List.map (eI .i64) r11)), .d (.lst 3 (List.map e_api_Edge x6.Edges))]) trivial rfl rfl rfl rfl ?_
          refine Rn.movD trivial rfl ?_
          refine Rn.bslice (xs := [.d (.int .i64 x7)]) (cs := [.d (.int .i64 x7)]) trivial rfl rfl rfl rfl ?_
          replace h := bnd h
          obtain ⟨x14, h15, h⟩ := h
          refine Rn.app (e := (eI .i64)) trivial rfl rfl rfl (elems_box rfl rfl rfl) h15 rfl ?_
          refine Rn.fldP (o' := 2) trivial rfl rfl ?_
          refine Rn.storeO (cs' := [.d (.lst 1 (List.map (eI .i64) x6.Alphabet)), .d (.int .i64 x6.States), .own 1 (List.map (eI .i64) x14), .d (.lst 3 (List.map e_api_Edge x6.Edges))]) trivial rfl rfl rfl rfl rfl ?_
          refine Rn.nil ?_
          refine toN ?_
          refine Tr.rgn ?_
          refine Rn.bin trivial rfl rfl rfl ?_
          refine Rn.movD trivial rfl ?_
          refine Rn.nil ?_
          exact ⟨_, h, (by show WeakSt Γ (clean _ _ _) ⟨look _, memOf _ (bxs _) _, _⟩; exact weak_clean ⟨(kPtr rfl), ⟨(kPtr rfl), ⟨(.same rfl), ⟨(.same rfl), trivial⟩⟩⟩⟩ ⟨⟨_, rfl, rfl, (.same rfl)⟩, ⟨⟨_, rfl, rfl, (.same rfl)⟩, ⟨⟨_, rfl, rfl, (.same rfl)⟩, trivial⟩⟩⟩ rfl)⟩
        · replace h := ifF hb13 h
          refine Tr.exit ?_
          replace h := Option.some.inj h
          subst h
          show WeakSt Γ _ ⟨look _, memOf _ (bxs _) _, _⟩; exact weak_cut [] ⟨(kPtr rfl), ⟨(kPtr rfl), trivial⟩⟩ ⟨⟨_, rfl, rfl, (.same rfl)⟩, ⟨⟨_, rfl, rfl, (.same rfl)⟩, ⟨⟨_, rfl, rfl, (.same rfl)⟩, trivial⟩⟩⟩ rfl
    · obtain ⟨c16, c17, c18, r19⟩ := z
      refine Tr.seq ?_
      refine Tr.rgn ?_
      refine Rn.load (v := .agg [.d (.lst 1 (List.map (eI .i64) x6.Alphabet)), .d (.int .i64 x6.States), .d (.lst 1 (List.map (eI .i64) r19)), .d (.lst 3 (List.map e_api_Edge x6.Edges))]) trivial rfl (boxOwn rfl) rfl rfl ?_
      refine Rn.store (v := .agg [.d (.lst 1 (List.map (eI .i64) x6.Alphabet)), .d (.int .i64 x6.States), .d (.lst 1 (List.map (eI .i64) r19)), .d (.lst 3 (List.map e_api_Edge x6.Edges))]) (cs' := [.d (.lst 1 (List.map (eI .i64) x6.Alphabet)), .d (.int .i64 x6.States), .d (.lst 1 (List.map (eI .i64) r19)), .d (.lst 3 (List.map e_api_Edge x6.Edges))]) trivial rfl rfl rfl rfl rfl rfl ?_
      refine Rn.movD trivial rfl ?_
      refine Rn.nil ?_
      refine toN ?_
      refine Tr.ret ?_
      replace h := Option.some.inj h
      subst h
      exact ⟨.inr rfl, .tup [.agg [.d (.lst 1 (List.map (eI .i64) x6.Alphabet)), .d (.int .i64 x6.States), .d (.lst 1 (List.map (eI .i64) r19)), .d (.lst 3 (List.map e_api_Edge x6.Edges))], .d (.int .i64 0)], res2 (resCell rfl rfl rfl rfl) rfl, (WkV.tup (.cons (.same rfl) (.cons (.same rfl) .nil))).rd, ⟨⟨trivial, trivial, trivial, trivial, trivial⟩, trivial, trivial⟩, fun k hk => memOf_base hk⟩

theorem overseerlaw03_none_walk {P : Program} {c : Nat} (hcf : compFn P c = some F_overseerlaw03_none) : K_overseerlaw03_none P c (f_overseerlaw03_none) := by
  intro a1 r h
  refine fn_trP hcf rfl fun Γ M hP hnt hM => ?_
  subst hP
  refine Tr.init [(0, .agg [.d (.lst 1 (List.map (eI .i64) a1.Alphabet)), .d (.int .i64 a1.States), .d (.lst 1 (List.map (eI .i64) a1.Marked)), .d (.lst 3 (List.map e_api_Edge a1.Edges))])] rfl ?_
  unfold f_overseerlaw03_none at h
  unfold F_overseerlaw03_none
  refine Tr.seq ?_
  refine Tr.rgn ?_
  refine Rn.box (v := .agg [.d (.lst 1 (List.map (eI .i64) a1.Alphabet)), .d (.int .i64 a1.States), .d (.lst 1 (List.map (eI .i64) a1.Marked)), .d (.lst 3 (List.map e_api_Edge a1.Edges))]) (cs := [.d (.lst 1 (List.map (eI .i64) a1.Alphabet)), .d (.int .i64 a1.States), .d (.lst 1 (List.map (eI .i64) a1.Marked)), .d (.lst 3 (List.map e_api_Edge a1.Edges))]) trivial rfl rfl rfl rfl rfl ?_
  refine Rn.movD trivial rfl ?_
  refine Rn.nil ?_
  refine toN ?_
  refine Tr.seq ?_
  refine Tr.rgn ?_
  refine Rn.fldP (o' := 0) trivial rfl rfl ?_
  refine Rn.load (v := .d (.lst 1 (List.map (eI .i64) a1.Alphabet))) trivial rfl (boxOwn rfl) rfl rfl ?_
  refine Rn.lenD trivial rfl ?_
  refine Rn.bin trivial rfl rfl rfl ?_
  refine Rn.movD trivial rfl ?_
  refine bsplit ((a1.Alphabet.length : Int) == 0) (fun hb2 => ?_) (fun hb2 => ?_)
  · replace h := bT hb2 h
    refine Rn.fldP (o' := 1) (gw rfl hb2) rfl rfl ?_
    refine Rn.load (v := .d (.int .i64 a1.States)) (gw rfl hb2) rfl (boxOwn rfl) rfl rfl ?_
    refine Rn.bin (gw rfl hb2) rfl rfl rfl ?_
    refine Rn.pickT (v := .d (.bool (a1.States == 0))) trivial rfl hb2 rfl ?_
    refine Rn.movD trivial rfl ?_
    refine bsplit (a1.States == 0) (fun hb3 => ?_) (fun hb3 => ?_)
    · replace h := bT hb3 h
      refine Rn.fldP (o' := 2) (gw rfl hb3) rfl rfl ?_
      refine Rn.load (v := .d (.lst 1 (List.map (eI .i64) a1.Marked))) (gw rfl hb3) rfl (boxOwn rfl) rfl rfl ?_
      refine Rn.lenD (gw rfl hb3) rfl ?_
      refine Rn.bin (gw rfl hb3) rfl rfl rfl ?_
      refine Rn.pickT (v := .d (.bool ((a1.Marked.length : Int) == 0))) trivial rfl hb3 rfl ?_
      refine Rn.movD trivial rfl ?_
      refine bsplit ((a1.Marked.length : Int) == 0) (fun hb4 => ?_) (fun hb4 => ?_)
      · replace h := bT hb4 h
        refine Rn.fldP (o' := 3) (gw rfl hb4) rfl rfl ?_
        refine Rn.load (v := .d (.lst 3 (List.map e_api_Edge a1.Edges))) (gw rfl hb4) rfl (boxOwn rfl) rfl rfl ?_
        refine Rn.lenD (gw rfl hb4) rfl ?_
        refine Rn.bin (gw rfl hb4) rfl rfl rfl ?_
        refine Rn.pickT (v := .d (.bool ((a1.Edges.length : Int) == 0))) trivial rfl hb4 rfl ?_
        refine Rn.movD trivial rfl ?_
        refine Rn.nil ?_
        refine toN ?_
        refine Tr.ret ?_
        replace h := Option.some.inj h
        subst h
        exact ⟨.inr rfl, (.d (.bool ((a1.Edges.length : Int) == 0))), rfl, fun _ _ _ _ h => h, trivial, fun k hk => memOf_base hk⟩
      · replace h := bF hb4 h
        refine Rn.sk (nw rfl hb4) ?_
        refine Rn.sk (nw rfl hb4) ?_
        refine Rn.sk (nw rfl hb4) ?_
        refine Rn.sk (nw rfl hb4) ?_
        refine Rn.pickF (v := .d (.bool false)) trivial rfl hb4 rfl ?_
        refine Rn.movD trivial rfl ?_
        refine Rn.nil ?_
        refine toN ?_
        refine Tr.ret ?_
        replace h := Option.some.inj h
        subst h
        exact ⟨.inr rfl, (.d (.bool false)), rfl, fun _ _ _ _ h => h, trivial, fun k hk => memOf_base hk⟩
    · replace h := bF hb3 h
      refine Rn.sk (nw rfl hb3) ?_
      refine Rn.sk (nw rfl hb3) ?_
      refine Rn.sk (nw rfl hb3) ?_
      refine Rn.sk (nw rfl hb3) ?_
      refine Rn.pickF (v := .d (.bool false)) trivial rfl hb3 rfl ?_
      refine Rn.movD trivial rfl ?_
      refine Rn.sk (nw (b := false) rfl rfl) ?_
      refine Rn.sk (nw (b := false) rfl rfl) ?_
      refine Rn.sk (nw (b := false) rfl rfl) ?_
      refine Rn.sk (nw (b := false) rfl rfl) ?_
      refine Rn.pickF (v := .d (.bool false)) trivial rfl rfl rfl ?_
      refine Rn.movD trivial rfl ?_
      refine Rn.nil ?_
      refine toN ?_
      refine Tr.ret ?_
      replace h := Option.some.inj h
      subst h
      exact ⟨.inr rfl, (.d (.bool false)), rfl, fun _ _ _ _ h => h, trivial, fun k hk => memOf_base hk⟩
  · replace h := bF hb2 h
    refine Rn.sk (nw rfl hb2) ?_
    refine Rn.sk (nw rfl hb2) ?_
    refine Rn.sk (nw rfl hb2) ?_
    refine Rn.pickF (v := .d (.bool false)) trivial rfl hb2 rfl ?_
    refine Rn.movD trivial rfl ?_
    refine Rn.sk (nw (b := false) rfl rfl) ?_
    refine Rn.sk (nw (b := false) rfl rfl) ?_
    refine Rn.sk (nw (b := false) rfl rfl) ?_
    refine Rn.sk (nw (b := false) rfl rfl) ?_
    refine Rn.pickF (v := .d (.bool false)) trivial rfl rfl rfl ?_
    refine Rn.movD trivial rfl ?_
    refine Rn.sk (nw (b := false) rfl rfl) ?_
    refine Rn.sk (nw (b := false) rfl rfl) ?_
    refine Rn.sk (nw (b := false) rfl rfl) ?_
    refine Rn.sk (nw (b := false) rfl rfl) ?_
    refine Rn.pickF (v := .d (.bool false)) trivial rfl rfl rfl ?_
    refine Rn.movD trivial rfl ?_
    refine Rn.nil ?_
    refine toN ?_
    refine Tr.ret ?_
    replace h := Option.some.inj h
    subst h
    exact ⟨.inr rfl, (.d (.bool false)), rfl, fun _ _ _ _ h => h, trivial, fun k hk => memOf_base hk⟩

theorem slices_Equal_int_walk {P : Program} {c : Nat} (hcf : compFn P c = some F_slices_Equal_int) (fuel : Nat) : K_slices_Equal_int P c (f_slices_Equal_int fuel) := by
  intro s1 s2 r h
  refine fn_trP hcf rfl fun Γ M hP hnt hM => ?_
  subst hP
  refine Tr.init [(0, .d (.lst 1 (List.map (eI .i64) s1))), (1, .d (.lst 1 (List.map (eI .i64) s2)))] rfl ?_
  unfold f_slices_Equal_int at h
  unfold F_slices_Equal_int
  refine Tr.seq ?_
  refine Tr.rgn ?_
  refine Rn.movD trivial rfl ?_
  refine Rn.nil ?_
  refine toN ?_
  refine Tr.seq ?_
  refine Tr.seq ?_
  refine Tr.rgn ?_
  refine Rn.movD trivial rfl ?_
  refine Rn.lenD trivial rfl ?_
  refine Rn.movD trivial rfl ?_
  refine Rn.lenD trivial rfl ?_
  refine Rn.bin trivial rfl rfl rfl ?_
  refine Rn.nil ?_
  refine toN ?_
  refine Tr.cond rfl (fun hb3 => ?_) (fun hb3 => ?_)
  · replace h := bT hb3 h
    refine Tr.seq ?_
    refine Tr.rgn ?_
    refine Rn.movD trivial rfl ?_
    refine Rn.nil ?_
    refine toN ?_
    refine Tr.ret ?_
    replace h := Option.some.inj h
    subst h
    exact ⟨.inr rfl, (.d (.bool false)), rfl, fun _ _ _ _ h => h, trivial, fun k hk => memOf_base hk⟩
  · replace h := bF hb3 h
    refine Tr.skip ?_
    refine toN ?_
    refine Tr.seq ?_
    refine Tr.seq ?_
    refine Tr.rgn ?_
    refine Rn.movD trivial rfl ?_
    refine Rn.lenD trivial rfl ?_
    refine Rn.movD trivial rfl ?_
    refine Rn.nil ?_
    refine toN ?_
    refine Tr.block ?_
    refine Tr.loop (mk := fun (x4 : Int) => ⟨look [(0, .d (.lst 1 (List.map (eI .i64) s1))), (1, .d (.lst 1 (List.map (eI .i64) s2))), (12, .d (.int .i64 (s1.length : Int))), (13, .d (.int .i64 x4))], memOf Γ.n0 (bxs []) M, Γ.n0 + 26⟩) h (by show WeakSt Γ (clean _ _ _) ⟨look _, memOf _ (bxs _) _, _⟩; exact weak_clean ⟨(.same rfl), ⟨(.same rfl), ⟨(.same rfl), ⟨(.same rfl), trivial⟩⟩⟩⟩ trivial rfl) (fun k5 z h => ?_)
    · obtain ⟨x4, rfl⟩ : ∃ x, x = z := ⟨_, rfl⟩
      replace h : _ = some _ := h
      refine Tr.seq ?_
      refine Tr.rgn ?_
      refine Rn.bin trivial rfl rfl rfl ?_
      refine Rn.nil ?_
      refine toN ?_
      refine Tr.seq ?_
      refine Tr.cond rfl (fun hb6 => ?_) (fun hb6 => ?_)
      · replace h := ifT hb6 h
        refine Tr.skip ?_
        refine toN ?_
        refine Tr.seq ?_
        refine Tr.block ?_
        refine Tr.seq ?_
        refine Tr.rgn ?_
        refine Rn.movD trivial rfl ?_
        refine Rn.movD trivial rfl ?_
        refine Rn.nil ?_
        refine toN ?_
        refine Tr.seq ?_
        refine Tr.rgnD (by decide) ?_
        refine Rn.movD trivial rfl ?_
        refine Rn.movD trivial rfl ?_
        replace h := bnd h
        obtain ⟨x7, h8, h⟩ := h
        refine Rn.idxD (e := (eI .i64)) trivial rfl rfl h8 ?_
        refine Rn.loadC (x := .int .i64 x7) trivial rfl ?_
        refine Rn.movD trivial rfl ?_
        refine Rn.movD trivial rfl ?_
        replace h := bnd h
        obtain ⟨x9, h10, h⟩ := h
        refine Rn.idxD (e := (eI .i64)) trivial rfl rfl h10 ?_
        refine Rn.loadC (x := .int .i64 x9) trivial rfl ?_
        refine Rn.bin trivial rfl rfl rfl ?_
        refine Rn.nil ⟨rfl, ?_⟩
        refine toN ?_
        refine Tr.cond rfl (fun hb11 => ?_) (fun hb11 => ?_)
        · replace h := bT hb11 h
          refine Tr.seq ?_
          refine Tr.rgn ?_
          refine Rn.movD trivial rfl ?_
          refine Rn.nil ?_
          refine toN ?_
          refine Tr.ret ?_
          replace h := Option.some.inj h
          subst h
          exact ⟨.inr rfl, (.d (.bool false)), rfl, fun _ _ _ _ h => h, trivial, fun k hk => memOf_base hk⟩
        · replace h := bF hb11 h
          refine Tr.skip ?_
          refine toN ?_
          refine Tr.rgn ?_
          refine Rn.bin trivial rfl rfl rfl ?_
          refine Rn.movD trivial rfl ?_
          refine Rn.nil ?_
          exact ⟨_, h, (by show WeakSt Γ (clean _ _ _) ⟨look _, memOf _ (bxs _) _, _⟩; exact weak_clean ⟨(.same rfl), ⟨(.same rfl), ⟨(.same rfl), ⟨(.same rfl), trivial⟩⟩⟩⟩ trivial rfl)⟩
      · replace h := ifF hb6 h
        refine Tr.exit ?_
        refine toN ?_
        refine Tr.seq ?_
        refine Tr.rgn ?_
        refine Rn.movD trivial rfl ?_
        refine Rn.nil ?_
        refine toN ?_
        refine Tr.ret ?_
        replace h := Option.some.inj h
        subst h
        exact ⟨.inr rfl, (.d (.bool true)), rfl, fun _ _ _ _ h => h, trivial, fun k hk => memOf_base hk⟩

theorem slices_Equal_Edge_walk {P : Program} {c : Nat} (hcf : compFn P c = some F_slices_Equal_Edge) (fuel : Nat) : K_slices_Equal_Edge P c (f_slices_Equal_Edge fuel) := by
  intro s1 s2 r h
  refine fn_trP hcf rfl fun Γ M hP hnt hM => ?_
  subst hP
  refine Tr.init [(0, .d (.lst 3 (List.map e_api_Edge s1))), (1, .d (.lst 3 (List.map e_api_Edge s2)))] rfl ?_
  unfold f_slices_Equal_Edge at h
  unfold F_slices_Equal_Edge
  refine Tr.seq ?_
  refine Tr.rgn ?_
  refine Rn.movD trivial rfl ?_
  refine Rn.nil ?_
  refine toN ?_
  refine Tr.seq ?_
  refine Tr.seq ?_
  refine Tr.rgn ?_
  refine Rn.movD trivial rfl ?_
  refine Rn.lenD trivial rfl ?_
  refine Rn.movD trivial rfl ?_
  refine Rn.lenD trivial rfl ?_
  refine Rn.bin trivial rfl rfl rfl ?_
  refine Rn.nil ?_
  refine toN ?_
  refine Tr.cond rfl (fun hb3 => ?_) (fun hb3 => ?_)
  · replace h := bT hb3 h
    refine Tr.seq ?_
    refine Tr.rgn ?_
    refine Rn.movD trivial rfl ?_
    refine Rn.nil ?_
    refine toN ?_
    refine Tr.ret ?_
    replace h := Option.some.inj h
    subst h
    exact ⟨.inr rfl, (.d (.bool false)), rfl, fun _ _ _ _ h => h, trivial, fun k hk => memOf_base hk⟩
  · replace h := bF hb3 h
    refine Tr.skip ?_
    refine toN ?_
    refine Tr.seq ?_
    refine Tr.seq ?_
    refine Tr.rgn ?_
    refine Rn.movD trivial rfl ?_
    refine Rn.lenD trivial rfl ?_
    refine Rn.movD trivial rfl ?_
    refine Rn.nil ?_
    refine toN ?_
    refine Tr.block ?_
    refine Tr.loop (mk := fun (x4 : Int) => ⟨look [(0, .d (.lst 3 (List.map e_api_Edge s1))), (1, .d (.lst 3 (List.map e_api_Edge s2))), (12, .d (.int .i64 (s1.length : Int))), (13, .d (.int .i64 x4))], memOf Γ.n0 (bxs []) M, Γ.n0 + 26⟩) h (by show WeakSt Γ (clean _ _ _) ⟨look _, memOf _ (bxs _) _, _⟩; exact weak_clean ⟨(.same rfl), ⟨(.same rfl), ⟨(.same rfl), ⟨(.same rfl), trivial⟩⟩⟩⟩ trivial rfl) (fun k5 z h => ?_)
    · obtain ⟨x4, rfl⟩ : ∃ x, x = z := ⟨_, rfl⟩
      replace h : _ = some _ := h
      refine Tr.seq ?_
      refine Tr.rgn ?_
      refine Rn.bin trivial rfl rfl rfl ?_
      refine Rn.nil ?_
      refine toN ?_
      refine Tr.seq ?_
      refine Tr.cond rfl (fun hb6 => ?_) (fun hb6 => ?_)
      · replace h := ifT hb6 h
        refine Tr.skip ?_
        refine toN ?_
        refine Tr.seq ?_
        refine Tr.block ?_
        refine Tr.seq ?_
        refine Tr.rgn ?_
        refine Rn.movD trivial rfl ?_
        refine Rn.movD trivial rfl ?_
        refine Rn.nil ?_
        refine toN ?_
        refine Tr.seq ?_
        refine Tr.rgnD (by decide) ?_
        refine Rn.movD trivial rfl ?_
        refine Rn.movD trivial rfl ?_
        replace h := bnd h
        obtain ⟨x7, h8, h⟩ := h
        refine Rn.idxD (e := e_api_Edge) trivial rfl rfl h8 ?_
        refine Rn.loadCA (vs := [.d (.int .i64 x7.From), .d (.int .i64 x7.Event), .d (.int .i64 x7.To)]) trivial rfl rfl rfl ?_
        refine Rn.movD trivial rfl ?_
        refine Rn.movD trivial rfl ?_
        replace h := bnd h
        obtain ⟨x9, h10, h⟩ := h
        refine Rn.idxD (e := e_api_Edge) trivial rfl rfl h10 ?_
        refine Rn.loadCA (vs := [.d (.int .i64 x9.From), .d (.int .i64 x9.Event), .d (.int .i64 x9.To)]) trivial rfl rfl rfl ?_
        refine Rn.eqa (r := ((x7.From == x9.From) && ((x7.Event == x9.Event) && ((x7.To == x9.To) && true)))) trivial rfl rfl rfl ?_
        refine Rn.nil ⟨rfl, ?_⟩
        refine toN ?_
        refine Tr.cond rfl (fun hb11 => ?_) (fun hb11 => ?_)
        · have hb11 := nT' hb11
          replace h := bF hb11 h
          refine Tr.seq ?_
          refine Tr.rgn ?_
          refine Rn.movD trivial rfl ?_
          refine Rn.nil ?_
          refine toN ?_
          refine Tr.ret ?_
          replace h := Option.some.inj h
          subst h
          exact ⟨.inr rfl, (.d (.bool false)), rfl, fun _ _ _ _ h => h, trivial, fun k hk => memOf_base hk⟩
        · have hb11 := nF' hb11
          replace h := bT hb11 h
          refine Tr.skip ?_
          refine toN ?_
          refine Tr.rgn ?_
          refine Rn.bin trivial rfl rfl rfl ?_
          refine Rn.movD trivial rfl ?_
          refine Rn.nil ?_
          exact ⟨_, h, (by show WeakSt Γ (clean _ _ _) ⟨look _, memOf _ (bxs _) _, _⟩; exact weak_clean ⟨(.same rfl), ⟨(.same rfl), ⟨(.same rfl), ⟨(.same rfl), trivial⟩⟩⟩⟩ trivial rfl)⟩
      · replace h := ifF hb6 h
        refine Tr.exit ?_
        refine toN ?_
        refine Tr.seq ?_
        refine Tr.rgn ?_
        refine Rn.movD trivial rfl ?_
        refine Rn.nil ?_
        refine toN ?_
        refine Tr.ret ?_
        replace h := Option.some.inj h
        subst h
        exact ⟨.inr rfl, (.d (.bool true)), rfl, fun _ _ _ _ h => h, trivial, fun k hk => memOf_base hk⟩

theorem automaton_Equal_walk {P : Program} {c : Nat} {f_slices_Equal_int : (List Int) → (List Int) → Option Bool} {f_slices_Equal_Edge : (List api_Edge) → (List api_Edge) → Option Bool}
    (H_slices_Equal_int : K_slices_Equal_int P 58 f_slices_Equal_int)
    (H_slices_Equal_Edge : K_slices_Equal_Edge P 59 f_slices_Equal_Edge) (hcf : compFn P c = some F_automaton_Equal) : K_automaton_Equal P c (f_automaton_Equal f_slices_Equal_int f_slices_Equal_Edge) := by
  intro a1 b2 r h
  refine fn_trP hcf rfl fun Γ M hP hnt hM => ?_
  subst hP
  refine Tr.init [(0, .agg [.d (.lst 1 (List.map (eI .i64) a1.Alphabet)), .d (.int .i64 a1.States), .d (.lst 1 (List.map (eI .i64) a1.Marked)), .d (.lst 3 (List.map e_api_Edge a1.Edges))]), (1, .agg [.d (.lst 1 (List.map (eI .i64) b2.Alphabet)), .d (.int .i64 b2.States), .d (.lst 1 (List.map (eI .i64) b2.Marked)), .d (.lst 3 (List.map e_api_Edge b2.Edges))])] rfl ?_
  unfold f_automaton_Equal at h
  unfold F_automaton_Equal
  refine Tr.seq ?_
  refine Tr.rgn ?_
  refine Rn.box (v := .agg [.d (.lst 1 (List.map (eI .i64) a1.Alphabet)), .d (.int .i64 a1.States), .d (.lst 1 (List.map (eI .i64) a1.Marked)), .d (.lst 3 (List.map e_api_Edge a1.Edges))]) (cs := [.d (.lst 1 (List.map (eI .i64) a1.Alphabet)), .d (.int .i64 a1.States), .d (.lst 1 (List.map (eI .i64) a1.Marked)), .d (.lst 3 (List.map e_api_Edge a1.Edges))]) trivial rfl rfl rfl rfl rfl ?_
  refine Rn.box (v := .agg [.d (.lst 1 (List.map (eI .i64) b2.Alphabet)), .d (.int .i64 b2.States), .d (.lst 1 (List.map (eI .i64) b2.Marked)), .d (.lst 3 (List.map e_api_Edge b2.Edges))]) (cs := [.d (.lst 1 (List.map (eI .i64) b2.Alphabet)), .d (.int .i64 b2.States), .d (.lst 1 (List.map (eI .i64) b2.Marked)), .d (.lst 3 (List.map e_api_Edge b2.Edges))]) trivial rfl rfl rfl rfl rfl ?_
  refine Rn.movD trivial rfl ?_
  refine Rn.nil ?_
  refine toN ?_
  refine Tr.seq ?_
  refine Tr.rgn ?_
  refine Rn.fldP (o' := 1) trivial rfl rfl ?_
  refine Rn.load (v := .d (.int .i64 a1.States)) trivial rfl (boxOwn rfl) rfl rfl ?_
  refine Rn.fldP (o' := 1) trivial rfl rfl ?_
  refine Rn.load (v := .d (.int .i64 b2.States)) trivial rfl (boxOwn rfl) rfl rfl ?_
  refine Rn.bin trivial rfl rfl rfl ?_
  refine Rn.movD trivial rfl ?_
  refine bsplit (a1.States == b2.States) (fun hb3 => ?_) (fun hb3 => ?_)
  · replace h := bT hb3 h
    refine Rn.fldP (o' := 0) (gw rfl hb3) rfl rfl ?_
    refine Rn.load (v := .d (.lst 1 (List.map (eI .i64) a1.Alphabet))) (gw rfl hb3) rfl (boxOwn rfl) rfl rfl ?_
    refine Rn.fldP (o' := 0) (gw rfl hb3) rfl rfl ?_
    refine Rn.load (v := .d (.lst 1 (List.map (eI .i64) b2.Alphabet))) (gw rfl hb3) rfl (boxOwn rfl) rfl rfl ?_
    replace h := bnd h
    obtain ⟨x5, h4, h⟩ := h
    refine Rn.call (args := [.d (.lst 1 (List.map (eI .i64) a1.Alphabet)), .d (.lst 1 (List.map (eI .i64) b2.Alphabet))]) (gw rfl hb3) rfl (H_slices_Equal_int _ _ _ h4) pc9 ?_
    refine Rn.pickT (v := .d (.bool x5)) trivial rfl hb3 rfl ?_
    refine Rn.movD trivial rfl ?_
    refine bsplit x5 (fun hb6 => ?_) (fun hb6 => ?_)
    · replace h := bT hb6 h
      refine Rn.fldP (o' := 2) (gw rfl hb6) rfl rfl ?_
      refine Rn.load (v := .d (.lst 1 (List.map (eI .i64) a1.Marked))) (gw rfl hb6) rfl (boxOwn rfl) rfl rfl ?_
      refine Rn.fldP (o' := 2) (gw rfl hb6) rfl rfl ?_
      refine Rn.load (v := .d (.lst 1 (List.map (eI .i64) b2.Marked))) (gw rfl hb6) rfl (boxOwn rfl) rfl rfl ?_
      replace h := bnd h
      obtain ⟨x8, h7, h⟩ := h
      refine Rn.call (args := [.d (.lst 1 (List.map (eI .i64) a1.Marked)), .d (.lst 1 (List.map (eI .i64) b2.Marked))]) (gw rfl hb6) rfl (H_slices_Equal_int _ _ _ h7) pc9 ?_
      refine Rn.pickT (v := .d (.bool x8)) trivial rfl hb6 rfl ?_
      refine Rn.movD trivial rfl ?_
      refine bsplit x8 (fun hb9 => ?_) (fun hb9 => ?_)
      · replace h := bT hb9 h
        refine Rn.fldP (o' := 3) (gw rfl hb9) rfl rfl ?_
        refine Rn.load (v := .d (.lst 3 (List.map e_api_Edge a1.Edges))) (gw rfl hb9) rfl (boxOwn rfl) rfl rfl ?_
        refine Rn.fldP (o' := 3) (gw rfl hb9) rfl rfl ?_
        refine Rn.load (v := .d (.lst 3 (List.map e_api_Edge b2.Edges))) (gw rfl hb9) rfl (boxOwn rfl) rfl rfl ?_
        replace h := bnd h
        obtain ⟨x11, h10, h⟩ := h
        refine Rn.call (args := [.d (.lst 3 (List.map e_api_Edge a1.Edges)), .d (.lst 3 (List.map e_api_Edge b2.Edges))]) (gw rfl hb9) rfl (H_slices_Equal_Edge _ _ _ h10) pc9 ?_
        refine Rn.pickT (v := .d (.bool x11)) trivial rfl hb9 rfl ?_
        refine Rn.movD trivial rfl ?_
        refine Rn.nil ?_
        refine toN ?_
        refine Tr.ret ?_
        replace h := Option.some.inj h
        subst h
        exact ⟨.inr rfl, (.d (.bool x11)), rfl, fun _ _ _ _ h => h, trivial, fun k hk => memOf_base hk⟩
      · replace h := bF hb9 h
        refine Rn.sk (nw rfl hb9) ?_
        refine Rn.sk (nw rfl hb9) ?_
        refine Rn.sk (nw rfl hb9) ?_
        refine Rn.sk (nw rfl hb9) ?_
        refine Rn.sk (nw rfl hb9) ?_
        refine Rn.pickF (v := .d (.bool false)) trivial rfl hb9 rfl ?_
        refine Rn.movD trivial rfl ?_
        refine Rn.nil ?_
        refine toN ?_
        refine Tr.ret ?_
        replace h := Option.some.inj h
        subst h
        exact ⟨.inr rfl, (.d (.bool false)), rfl, fun _ _ _ _ h => h, trivial, fun k hk => memOf_base hk⟩
    · replace h := bF hb6 h
      refine Rn.sk (nw rfl hb6) ?_
      refine Rn.sk (nw rfl hb6) ?_
      refine Rn.sk (nw rfl hb6) ?_
      refine Rn.sk (nw rfl hb6) ?_
      refine Rn.sk (nw rfl hb6) ?_
      refine Rn.pickF (v := .d (.bool false)) trivial rfl hb6 rfl ?_
      refine Rn.movD trivial rfl ?_
      refine Rn.sk (nw (b := false) rfl rfl) ?_
      refine Rn.sk (nw (b := false) rfl rfl) ?_
      refine Rn.sk (nw (b := false) rfl rfl) ?_
      refine Rn.sk (nw (b := false) rfl rfl) ?_
      refine Rn.sk (nw (b := false) rfl rfl) ?_
      refine Rn.pickF (v := .d (.bool false)) trivial rfl rfl rfl ?_
      refine Rn.movD trivial rfl ?_
      refine Rn.nil ?_
      refine toN ?_
      refine Tr.ret ?_
      replace h := Option.some.inj h
      subst h
      exact ⟨.inr rfl, (.d (.bool false)), rfl, fun _ _ _ _ h => h, trivial, fun k hk => memOf_base hk⟩
  · replace h := bF hb3 h
    refine Rn.sk (nw rfl hb3) ?_
    refine Rn.sk (nw rfl hb3) ?_
    refine Rn.sk (nw rfl hb3) ?_
    refine Rn.sk (nw rfl hb3) ?_
    refine Rn.sk (nw rfl hb3) ?_
    refine Rn.pickF (v := .d (.bool false)) trivial rfl hb3 rfl ?_
    refine Rn.movD trivial rfl ?_
    refine Rn.sk (nw (b := false) rfl rfl) ?_
    refine Rn.sk (nw (b := false) rfl rfl) ?_
    refine Rn.sk (nw (b := false) rfl rfl) ?_
    refine Rn.sk (nw (b := false) rfl rfl) ?_
    refine Rn.sk (nw (b := false) rfl rfl) ?_
    refine Rn.pickF (v := .d (.bool false)) trivial rfl rfl rfl ?_
    refine Rn.movD trivial rfl ?_
    refine Rn.sk (nw (b := false) rfl rfl) ?_
    refine Rn.sk (nw (b := false) rfl rfl) ?_
    refine Rn.sk (nw (b := false) rfl rfl) ?_
    refine Rn.sk (nw (b := false) rfl rfl) ?_
    refine Rn.sk (nw (b := false) rfl rfl) ?_
    refine Rn.pickF (v := .d (.bool false)) trivial rfl rfl rfl ?_
    refine Rn.movD trivial rfl ?_
    refine Rn.nil ?_
    refine toN ?_
    refine Tr.ret ?_
    replace h := Option.some.inj h
    subst h
    exact ⟨.inr rfl, (.d (.bool false)), rfl, fun _ _ _ _ h => h, trivial, fun k hk => memOf_base hk⟩

theorem automaton_IsCanonical_walk {P : Program} {c : Nat} {f_automaton_Equal : api_Automaton → api_Automaton → Option Bool} {f_automaton_Check : api_Automaton → Option Int} {f_automaton_canonical : api_Automaton → Option api_Automaton}
    (H_automaton_Equal : K_automaton_Equal P 26 f_automaton_Equal)
    (H_automaton_Check : K_automaton_Check P 45 f_automaton_Check)
    (H_automaton_canonical : K_automaton_canonical P 56 f_automaton_canonical) (hcf : compFn P c = some F_automaton_IsCanonical) : K_automaton_IsCanonical P c (f_automaton_IsCanonical f_automaton_Equal f_automaton_Check f_automaton_canonical) := by
  intro a1 r h
  refine fn_trP hcf rfl fun Γ M hP hnt hM => ?_
  subst hP
  refine Tr.init [(0, .agg [.d (.lst 1 (List.map (eI .i64) a1.Alphabet)), .d (.int .i64 a1.States), .d (.lst 1 (List.map (eI .i64) a1.Marked)), .d (.lst 3 (List.map e_api_Edge a1.Edges))])] rfl ?_
  unfold f_automaton_IsCanonical at h
  unfold F_automaton_IsCanonical
  refine Tr.seq ?_
  refine Tr.rgn ?_
  refine Rn.box (v := .agg [.d (.lst 1 (List.map (eI .i64) a1.Alphabet)), .d (.int .i64 a1.States), .d (.lst 1 (List.map (eI .i64) a1.Marked)), .d (.lst 3 (List.map e_api_Edge a1.Edges))]) (cs := [.d (.lst 1 (List.map (eI .i64) a1.Alphabet)), .d (.int .i64 a1.States), .d (.lst 1 (List.map (eI .i64) a1.Marked)), .d (.lst 3 (List.map e_api_Edge a1.Edges))]) trivial rfl rfl rfl rfl rfl ?_
  refine Rn.movD trivial rfl ?_
  refine Rn.nil ?_
  refine toN ?_
  refine Tr.seq ?_
  refine Tr.rgnD (by decide) ?_
  refine Rn.load (v := .agg [.d (.lst 1 (List.map (eI .i64) a1.Alphabet)), .d (.int .i64 a1.States), .d (.lst 1 (List.map (eI .i64) a1.Marked)), .d (.lst 3 (List.map e_api_Edge a1.Edges))]) trivial rfl (boxOwn rfl) rfl rfl ?_
  replace h := bnd h
  obtain ⟨x3, h2, h⟩ := h
  refine Rn.call (args := [.agg [.d (.lst 1 (List.map (eI .i64) a1.Alphabet)), .d (.int .i64 a1.States), .d (.lst 1 (List.map (eI .i64) a1.Marked)), .d (.lst 3 (List.map e_api_Edge a1.Edges))]]) trivial rfl (H_automaton_Check _ _ h2) (fun _ => memOut hM rfl) ?_
  refine Rn.bin trivial rfl rfl rfl ?_
  refine Rn.movD trivial rfl ?_
  refine bsplit (x3 == 0) (fun hb4 => ?_) (fun hb4 => ?_)
  · replace h := bT hb4 h
    refine Rn.load (v := .agg [.d (.lst 1 (List.map (eI .i64) a1.Alphabet)), .d (.int .i64 a1.States), .d (.lst 1 (List.map (eI .i64) a1.Marked)), .d (.lst 3 (List.map e_api_Edge a1.Edges))]) (gw rfl hb4) rfl (boxOwn rfl) rfl rfl ?_
    refine Rn.load (v := .agg [.d (.lst 1 (List.map (eI .i64) a1.Alphabet)), .d (.int .i64 a1.States), .d (.lst 1 (List.map (eI .i64) a1.Marked)), .d (.lst 3 (List.map e_api_Edge a1.Edges))]) (gw rfl hb4) rfl (boxOwn rfl) rfl rfl ?_
    replace h := bnd h
    obtain ⟨x6, h5, h⟩ := h
    refine Rn.call (args := [.agg [.d (.lst 1 (List.map (eI .i64) a1.Alphabet)), .d (.int .i64 a1.States), .d (.lst 1 (List.map (eI .i64) a1.Marked)), .d (.lst 3 (List.map e_api_Edge a1.Edges))]]) (gw rfl hb4) rfl (H_automaton_canonical _ _ h5) (fun _ => memOut hM rfl) ?_
    replace h := bnd h
    obtain ⟨x8, h7, h⟩ := h
    refine Rn.call (args := [.agg [.d (.lst 1 (List.map (eI .i64) a1.Alphabet)), .d (.int .i64 a1.States), .d (.lst 1 (List.map (eI .i64) a1.Marked)), .d (.lst 3 (List.map e_api_Edge a1.Edges))], .agg [.d (.lst 1 (List.map (eI .i64) x6.Alphabet)), .d (.int .i64 x6.States), .d (.lst 1 (List.map (eI .i64) x6.Marked)), .d (.lst 3 (List.map e_api_Edge x6.Edges))]]) (gw rfl hb4) rfl (H_automaton_Equal _ _ _ h7) (fun _ => memOut hM rfl) ?_
    refine Rn.pickT (v := .d (.bool x8)) trivial rfl hb4 rfl ?_
    refine Rn.movD trivial rfl ?_
    refine Rn.nil ⟨rfl, ?_⟩
    refine toN ?_
    refine Tr.ret ?_
    replace h := Option.some.inj h
    subst h
    exact ⟨.inr rfl, (.d (.bool x8)), rfl, fun _ _ _ _ h => h, trivial, fun k hk => memOf_base hk⟩
  · replace h := bF hb4 h
    refine Rn.sk (nw rfl hb4) ?_
    refine Rn.sk (nw rfl hb4) ?_
    refine Rn.sk (nw rfl hb4) ?_
    refine Rn.sk (nw rfl hb4) ?_
    refine Rn.pickF (v := .d (.bool false)) trivial rfl hb4 rfl ?_
    refine Rn.movD trivial rfl ?_
    refine Rn.nil ⟨rfl, ?_⟩
    refine toN ?_
    refine Tr.ret ?_
    replace h := Option.some.inj h
    subst h
    exact ⟨.inr rfl, (.d (.bool false)), rfl, fun _ _ _ _ h => h, trivial, fun k hk => memOf_base hk⟩
end Go.Abs
