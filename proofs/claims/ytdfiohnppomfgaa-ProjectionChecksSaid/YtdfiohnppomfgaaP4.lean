/-
  Part 4 of the proof: see the last text.
-/
import Derived.Test.YtdfiohnppomfgaaP3
set_option linter.unusedVariables false
set_option linter.unusedSimpArgs false
set_option linter.unusedSectionVars false
namespace Go.Abs
open Go
set_option linter.unusedVariables false
set_option maxRecDepth 10000
set_option maxHeartbeats 4000000
def Qfb (P : Program) (c : Nat) (f : Option Qb) : Prop := ∀ r, f = some r → ∀ M nb, ACalls P c [] M nb (Qa r) M nb
def Qnj : List COp := [oo 0 (.alloc [.nils 1, .d (.int .i64 0), .nils 1, .nils 3]) []]
def Qnk : List COp := [oo 1 (.bslice 1 2 [.d (.int .i64 0)] [0, 1]) [cI 0, cI 1], oo 2 (.bslice 1 1 [.d (.int .i64 0)] [0]) [cI 2], oo 3 (.build [.d (.int .i64 0), .d (.int .i64 0), .d (.int .i64 0)] [(0, 1), (1, 1), (2, 1)]) [cI 0, cI 0, cI 1], oo 4 (.build [.d (.int .i64 0), .d (.int .i64 0), .d (.int .i64 0)] [(0, 1), (1, 1), (2, 1)]) [cI 0, cI 1, cI 0], oo 5 (.build [.d (.int .i64 0), .d (.int .i64 0), .d (.int .i64 0)] [(0, 1), (1, 1), (2, 1)]) [cI 1, cI 1, cI 2], oo 6 (.build [.d (.int .i64 0), .d (.int .i64 0), .d (.int .i64 0)] [(0, 1), (1, 1), (2, 1)]) [cI 2, cI 0, cI 0], oo 7 (.bslice 3 4 [.d (.int .i64 0), .d (.int .i64 0), .d (.int .i64 0)] [0, 1, 2, 3]) [.t 3, .t 4, .t 5, .t 6], ot 8 (.build [.nils 1, .d (.int .i64 0), .nils 1, .nils 3] [(0, 1), (1, 1), (2, 1), (3, 1)]) [.t 1, cI 3, .t 2, .t 7], ⟨none, .store 4, [.t 0, .t 8], true, none⟩]
def Qfc : CFn := ⟨0, 9, [.cell 0 true 4], .seq (.region Qnj 9 []) (.seq (.region Qnk 9 []) (.ret))⟩
def Qbo : Option Qb :=
  some (Qb.mk [0, 1] 3 [2] [(Qh.mk 0 0 1), (Qh.mk 0 1 0), (Qh.mk 1 1 2), (Qh.mk 2 0 0)])
def Qgm (P : Program) (c : Nat) (f : (List Int) → Int → Option Int) : Prop := ∀ l1 n2 r, f l1 n2 = some r → ∀ M nb, ACalls P c [(l_ l1), (i_ n2)] M nb (i_ r) M nb
def Qs4 : List COp := [oo 4 .mov [cI 0]]
def Qs5 : List COp := [oM 7 0, oo 8 .len [.t 7], oo 9 .mov [cI 0]]
def Qs6 : List COp := [oo 10 (.bin .lss false) [.t 9, .t 8]]
def Qs7 : List COp := [oM 11 9, oo 12 (.idx 1) [.t 7, .t 9], oL 13 12, oM 5 11, oM 6 13]
def Qs8 : List COp := [oM 15 6, oo 16 (.bin .lss false) [.t 15, cI 0], oM 17 16, ⟨some 18, .mov, [.t 6], false, some (17, false)⟩, ⟨some 19, .mov, [.t 1], false, some (17, false)⟩, ⟨some 20, .bin .geq false, [.t 18, .t 19], false, some (17, false)⟩, oo 21 .pick [.t 17, .c (.d (.bool true)), .t 20], oM 14 21]
def Qs9 : List COp := [oo 4 .mov [cI 2]]
def Qta : List COp := [oM 23 5, oo 24 (.bin .gtr false) [.t 23, cI 0], oM 25 24, ⟨some 26, .mov, [.t 6], false, some (25, true)⟩, ⟨some 27, .mov, [.t 0], false, some (25, true)⟩, ⟨some 28, .mov, [.t 5], false, some (25, true)⟩, ⟨some 29, .bin .sub false, [.t 28, cI 1], false, some (25, true)⟩, ⟨some 30, .idx 1, [.t 27, .t 29], false, some (25, true)⟩, ⟨some 31, .load false 1, [.t 30], false, some (25, true)⟩, ⟨some 32, .bin .leq false, [.t 26, .t 31], false, some (25, true)⟩, oo 33 .pick [.t 25, .t 32, .c (.d (.bool false))], oM 22 33]
def Qtb : List COp := [oo 4 .mov [cI 5]]
def Qtc : List COp := [oo 34 (.bin .add false) [.t 9, cI 1], oM 9 34]
def Qtd : List COp := [oo 4 .mov [cI 0]]
def Qgn : CFn := ⟨2, 35, [.t 4], .seq (.region Qs4 9 []) (.seq (.seq (.region Qs5 9 []) (.block 0 (.loop [] (.seq (.region Qs6 9 []) (.seq (.cond (.t 10) (.skip) (.exit 0)) (.seq (.block 1 (.seq (.region Qs7 9 []) (.block 2 (.seq (.region Qs8 9 []) (.cond (.t 14) (.seq (.region Qs9 9 []) (.ret)) (.seq (.region Qta 9 []) (.cond (.t 22) (.seq (.region Qtb 9 []) (.ret)) (.skip)))))))) (.region Qtc 9 []))))))) (.seq (.region Qtd 9 []) (.ret)))⟩
def Qbm (fuel : Nat) (l1 : (List Int)) (n2 : Int) : Option Int :=
  Qfa (fun k4 (x3 : Int) => (if (x3 < (l1.length : Int)) then ((getO l1 x3).bind fun x6 => (((if (x6 < 0) then some true else some (decide (x6 ≥ n2)))).bind fun (x9 : Bool) => (if x9 then some 2 else (((if (x3 > 0) then ((getO l1 (IntKind.wrap .i64 (x3 - 1))).bind fun x12 => some (decide (x6 ≤ x12))) else some false)).bind fun (x14 : Bool) => (if x14 then some 5 else k4 (IntKind.wrap .i64 (x3 + 1))))))) else some 0)) fuel 0
def Qh0 (P : Program) (c : Nat) (f : (List Int) → Int → Option Int) : Prop := ∀ s1 v2 r, f s1 v2 = some r → ∀ M nb, ACalls P c [(l_ s1), (i_ v2)] M nb (i_ r) M nb
def Qw0 : List COp := [oo 4 .mov [cI 0]]
def Qw1 : List COp := [oM 6 0, oo 7 .len [.t 6], oo 8 .mov [cI 0]]
def Qw2 : List COp := [oo 9 (.bin .lss false) [.t 8, .t 7]]
def Qw3 : List COp := [oM 10 8, oM 5 10]
def Qw4 : List COp := [oM 11 1, oM 12 0, oM 13 5, oo 14 (.idx 1) [.t 12, .t 13], oL 15 14, oo 16 (.bin .eql false) [.t 11, .t 15]]
def Qw5 : List COp := [oM 17 5, oM 4 17]
def Qw6 : List COp := [oo 18 (.bin .add false) [.t 8, cI 1], oM 8 18]
def Qw7 : List COp := [oo 4 .mov [cI (-1)]]
def Qh1 : CFn := ⟨2, 19, [.t 4], .seq (.region Qw0 9 []) (.seq (.seq (.region Qw1 9 []) (.block 0 (.loop [] (.seq (.region Qw2 9 []) (.seq (.cond (.t 9) (.skip) (.exit 0)) (.seq (.block 1 (.seq (.region Qw3 9 []) (.seq (.region Qw4 9 []) (.cond (.t 16) (.seq (.region Qw5 9 []) (.ret)) (.skip))))) (.region Qw6 9 []))))))) (.seq (.region Qw7 9 []) (.ret)))⟩
def Qb6 (fuel : Nat) (s1 : (List Int)) (v2 : Int) : Option Int :=
  Qfa (fun k4 (x3 : Int) => (if (x3 < (s1.length : Int)) then ((getO s1 x3).bind fun x6 => (if (v2 == x6) then some x3 else k4 (IntKind.wrap .i64 (x3 + 1)))) else some (-1))) fuel 0
def Qbp (P : Program) (c : Nat) (f : (List Int) → Int → Option Bool) : Prop := ∀ s1 v2 r, f s1 v2 = some r → ∀ M nb, ACalls P c [(l_ s1), (i_ v2)] M nb (b_ r) M nb
def Qp9 : List COp := [oo 4 .mov [.c (.d (.bool false))]]
def Qqa : List COp := [oM 5 0, oM 6 1, oo 7 (.call 57) [.t 5, .t 6], oo 8 (.bin .geq false) [.t 7, cI 0], oM 4 8]
def Qf1 : CFn := ⟨2, 9, [.t 4], .seq (.region Qp9 9 []) (.seq (.region Qqa 9 []) (.ret))⟩
def Qi (Qb6 : (List Int) → Int → Option Int) (s1 : (List Int)) (v2 : Int) : Option Bool :=
  ((Qb6 s1 v2).bind fun x4 => some (decide (x4 ≥ 0)))
def Qfo (P : Program) (c : Nat) (f : Qb → Option Int) : Prop := ∀ a1 r, f a1 = some r → ∀ M nb, ACalls P c [(Qa a1)] M nb (i_ r) M nb
def Qn0 : List COp := [oo 1 (.box 4) [.t 0], oo 2 .mov [cI 0]]
def Qn1 : List COp := [oF 6 3 1, oL 7 6, oo 8 .len [.t 7], oo 9 .mov [cI 0]]
def Qn2 : List COp := [oo 10 (.bin .lss false) [.t 9, .t 8]]
def Qn3 : List COp := [oM 11 9, oo 12 (.idx 3) [.t 7, .t 9], oo 13 (.load true 3) [.t 12], oo 4 (.alloc [.d (.int .i64 0), .d (.int .i64 0), .d (.int .i64 0)]) [], oM 3 11, ⟨none, .store 3, [.t 4, .t 13], false, none⟩]
def Qn4 : List COp := [oF 15 0 4, oL 16 15, oo 17 (.bin .lss false) [.t 16, cI 0], oM 18 17, ⟨some 19, .fld 0, [.t 4], false, some (18, false)⟩, ⟨some 20, .load false 1, [.t 19], false, some (18, false)⟩, ⟨some 21, .fld 1, [.t 1], false, some (18, false)⟩, ⟨some 22, .load false 1, [.t 21], false, some (18, false)⟩, ⟨some 23, .bin .geq false, [.t 20, .t 22], false, some (18, false)⟩, oo 24 .pick [.t 18, .c (.d (.bool true)), .t 23], oM 25 24, ⟨some 26, .fld 2, [.t 4], false, some (25, false)⟩, ⟨some 27, .load false 1, [.t 26], false, some (25, false)⟩, ⟨some 28, .bin .lss false, [.t 27, cI 0], false, some (25, false)⟩, oo 29 .pick [.t 25, .c (.d (.bool true)), .t 28], oM 30 29, ⟨some 31, .fld 2, [.t 4], false, some (30, false)⟩, ⟨some 32, .load false 1, [.t 31], false, some (30, false)⟩, ⟨some 33, .fld 1, [.t 1], false, some (30, false)⟩, ⟨some 34, .load false 1, [.t 33], false, some (30, false)⟩, ⟨some 35, .bin .geq false, [.t 32, .t 34], false, some (30, false)⟩, oo 36 .pick [.t 30, .c (.d (.bool true)), .t 35], oM 14 36]
def Qn5 : List COp := [oo 2 .mov [cI 2]]
def Qn6 : List COp := [oF 38 0 1, oL 39 38, oF 40 1 4, oL 41 40, oo 42 (.call 35) [.t 39, .t 41], oo 43 (.un .not) [.t 42], oM 37 43]
def Qn7 : List COp := [oo 2 .mov [cI 9]]
def Qn8 : List COp := [oM 44 3, oo 45 (.bin .eql false) [.t 44, cI 0]]
def Qn9 : List COp := [oF 46 3 1, oL 47 46, oM 48 3, oo 49 (.bin .sub false) [.t 48, cI 1], oo 50 (.idx 3) [.t 47, .t 49], oo 51 (.load true 3) [.t 50], oo 5 (.alloc [.d (.int .i64 0), .d (.int .i64 0), .d (.int .i64 0)]) [], ⟨none, .store 3, [.t 5, .t 51], false, none⟩]
def Qnl : List COp := [oF 52 0 4, oL 53 52, oF 54 0 5, oL 55 54, oo 56 (.bin .lss false) [.t 53, .t 55], oM 57 56, ⟨some 58, .fld 0, [.t 4], false, some (57, false)⟩, ⟨some 59, .load false 1, [.t 58], false, some (57, false)⟩, ⟨some 60, .fld 0, [.t 5], false, some (57, false)⟩, ⟨some 61, .load false 1, [.t 60], false, some (57, false)⟩, ⟨some 62, .bin .eql false, [.t 59, .t 61], false, some (57, false)⟩, ⟨some 63, .mov, [.t 62], false, some (57, false)⟩, ⟨some 64, .fld 1, [.t 4], false, some (63, true)⟩, ⟨some 65, .load false 1, [.t 64], false, some (63, true)⟩, ⟨some 66, .fld 1, [.t 5], false, some (63, true)⟩, ⟨some 67, .load false 1, [.t 66], false, some (63, true)⟩, ⟨some 68, .bin .leq false, [.t 65, .t 67], false, some (63, true)⟩, ⟨some 69, .pick, [.t 63, .t 68, .c (.d (.bool false))], false, some (57, false)⟩, oo 70 .pick [.t 57, .c (.d (.bool true)), .t 69]]
def Qnm : List COp := [oo 2 .mov [cI 5]]
def Qnn : List COp := [oo 71 (.bin .add false) [.t 9, cI 1], oM 9 71]
def Qno : List COp := [oo 2 .mov [cI 0]]
def Qfp : CFn := ⟨1, 72, [.t 2], .seq (.region Qn0 9 []) (.seq (.seq (.region Qn1 9 []) (.block 0 (.loop [4, 5] (.seq (.region Qn2 9 []) (.seq (.cond (.t 10) (.skip) (.exit 0)) (.seq (.block 1 (.seq (.region Qn3 9 []) (.seq (.block 2 (.seq (.region Qn4 9 []) (.cond (.t 14) (.seq (.region Qn5 9 []) (.ret)) (.seq (.region Qn6 9 []) (.cond (.t 37) (.seq (.region Qn7 9 []) (.ret)) (.skip)))))) (.seq (.seq (.region Qn8 9 []) (.cond (.t 45) (.exit 1) (.skip))) (.seq (.region Qn9 9 []) (.seq (.region Qnl 9 []) (.cond (.t 70) (.seq (.region Qnm 9 []) (.ret)) (.skip)))))))) (.region Qnn 9 []))))))) (.seq (.region Qno 9 []) (.ret)))⟩
def Qbl (Qi : (List Int) → Int → Option Bool) (fuel : Nat) (a1 : Qb) : Option Int :=
  Qfa (fun k3 (x2 : Int) => (if (x2 < (a1.Edges.length : Int)) then letJ (fun ((c22, c23, c24) : Int × Int × Int) => k3 (IntKind.wrap .i64 (x2 + 1))) fun J25 => ((getO a1.Edges x2).bind fun x5 => (((if (x5.From < 0) then some true else (if (x5.From ≥ a1.States) then some true else (if (x5.To < 0) then some true else some (decide (x5.To ≥ a1.States)))))).bind fun (x10 : Bool) => (if x10 then some 2 else ((Qi a1.Alphabet x5.Event).bind fun x13 => (if x13 then (if (x2 == 0) then J25 (x5.From, x5.Event, x5.To) else ((getO a1.Edges (IntKind.wrap .i64 (x2 - 1))).bind fun x16 => (((if (x5.From < x16.From) then some true else (if (x5.From == x16.From) then some (decide (x5.Event ≤ x16.Event)) else some false))).bind fun (x20 : Bool) => (if x20 then some 5 else J25 (x5.From, x5.Event, x5.To))))) else some 9))))) else some 0)) fuel 0
def Qgf (P : Program) (c : Nat) (f : Qb → Option Int) : Prop := ∀ a1 r, f a1 = some r → ∀ M nb, ACalls P c [(Qa a1)] M nb (i_ r) M nb
def Qy8 : List COp := [oo 1 (.box 4) [.t 0], oo 2 .mov [cI 0]]
def Qy9 : List COp := [oF 5 0 1, oL 6 5, oo 7 (.call 66) [.t 6, cI 32], oM 3 7]
def Qza : List COp := [oM 8 3, oo 9 (.bin .neq false) [.t 8, cI 0]]
def Qzb : List COp := [oM 10 3, oM 2 10]
def Qzc : List COp := [oF 12 1 1, oL 13 12, oo 14 (.bin .lss false) [.t 13, cI 0], oM 11 14]
def Qzd : List COp := [oo 2 .mov [cI 2]]
def Qze : List COp := [oF 16 1 1, oL 17 16, oo 18 (.bin .gtr false) [.t 17, cI 4096], oM 15 18]
def Qzf : List COp := [oo 2 .mov [cI 3]]
def Qzg : List COp := [oF 19 2 1, oL 20 19, oF 21 1 1, oL 22 21, oo 23 (.call 66) [.t 20, .t 22], oM 4 23]
def Qzh : List COp := [oM 24 4, oo 25 (.bin .neq false) [.t 24, cI 0]]
def Qw8 : List COp := [oM 26 4, oM 2 26]
def Qw9 : List COp := [oo 27 (.load true 4) [.t 1], oo 28 (.call 67) [.t 27], oM 2 28]
def Qis : CFn := ⟨1, 29, [.t 2], .seq (.region Qy8 9 []) (.seq (.seq (.region Qy9 9 []) (.seq (.region Qza 9 []) (.cond (.t 9) (.seq (.region Qzb 9 []) (.ret)) (.skip)))) (.seq (.block 0 (.seq (.region Qzc 9 []) (.cond (.t 11) (.seq (.region Qzd 9 []) (.ret)) (.seq (.region Qze 9 []) (.cond (.t 15) (.seq (.region Qzf 9 []) (.ret)) (.skip)))))) (.seq (.seq (.region Qzg 9 []) (.seq (.region Qzh 9 []) (.cond (.t 25) (.seq (.region Qw8 9 []) (.ret)) (.skip)))) (.seq (.region Qw9 9 []) (.ret)))))⟩
def Qbd (Qbm : (List Int) → Int → Option Int) (Qbl : Qb → Option Int) (a1 : Qb) : Option Int :=
  ((Qbm a1.Alphabet 32).bind fun x3 => (if (x3 != 0) then some x3 else (if (a1.States < 0) then some 2 else (if (a1.States > 4096) then some 3 else ((Qbm a1.Marked a1.States).bind fun x8 => (if (x8 != 0) then some x8 else ((Qbl a1).bind fun x11 => some x11)))))))
def Qdd (P : Program) (c : Nat) (f : (List Int) → Int → Option Int) : Prop := ∀ l1 n2 r, f l1 n2 = some r → ∀ M nb, ACalls P c [(l_ l1), (i_ n2)] M nb (i_ r) M nb
def Qqb : List COp := [oo 4 .mov [cI 0]]
def Qqc : List COp := [oM 7 0, oo 8 .len [.t 7], oo 9 .mov [cI 0]]
def Qqd : List COp := [oo 10 (.bin .lss false) [.t 9, .t 8]]
def Qqe : List COp := [oM 11 9, oo 12 (.idx 1) [.t 7, .t 9], oL 13 12, oM 5 11, oM 6 13]
def Qqf : List COp := [oM 15 6, oo 16 (.bin .lss false) [.t 15, cI 0], oM 17 16, ⟨some 18, .mov, [.t 6], false, some (17, false)⟩, ⟨some 19, .mov, [.t 1], false, some (17, false)⟩, ⟨some 20, .bin .geq false, [.t 18, .t 19], false, some (17, false)⟩, oo 21 .pick [.t 17, .c (.d (.bool true)), .t 20], oM 14 21]
def Qqg : List COp := [oo 4 .mov [cI 2]]
def Qqh : List COp := [oM 23 5, oo 24 (.bin .gtr false) [.t 23, cI 0], oM 25 24, ⟨some 26, .mov, [.t 6], false, some (25, true)⟩, ⟨some 27, .mov, [.t 0], false, some (25, true)⟩, ⟨some 28, .mov, [.t 5], false, some (25, true)⟩, ⟨some 29, .bin .sub false, [.t 28, cI 1], false, some (25, true)⟩, ⟨some 30, .idx 1, [.t 27, .t 29], false, some (25, true)⟩, ⟨some 31, .load false 1, [.t 30], false, some (25, true)⟩, ⟨some 32, .bin .leq false, [.t 26, .t 31], false, some (25, true)⟩, oo 33 .pick [.t 25, .t 32, .c (.d (.bool false))], oM 22 33]
def Qqi : List COp := [oo 4 .mov [cI 5]]
def Qqj : List COp := [oo 34 (.bin .add false) [.t 9, cI 1], oM 9 34]
def Qqk : List COp := [oo 4 .mov [cI 0]]
def Qf2 : CFn := ⟨2, 35, [.t 4], .seq (.region Qqb 9 []) (.seq (.seq (.region Qqc 9 []) (.block 0 (.loop [] (.seq (.region Qqd 9 []) (.seq (.cond (.t 10) (.skip) (.exit 0)) (.seq (.block 1 (.seq (.region Qqe 9 []) (.block 2 (.seq (.region Qqf 9 []) (.cond (.t 14) (.seq (.region Qqg 9 []) (.ret)) (.seq (.region Qqh 9 []) (.cond (.t 22) (.seq (.region Qqi 9 []) (.ret)) (.skip)))))))) (.region Qqj 9 []))))))) (.seq (.region Qqk 9 []) (.ret)))⟩
def Qx (fuel : Nat) (l1 : (List Int)) (n2 : Int) : Option Int :=
  Qfa (fun k4 (x3 : Int) => (if (x3 < (l1.length : Int)) then ((getO l1 x3).bind fun x6 => (((if (x6 < 0) then some true else some (decide (x6 ≥ n2)))).bind fun (x9 : Bool) => (if x9 then some 2 else (((if (x3 > 0) then ((getO l1 (IntKind.wrap .i64 (x3 - 1))).bind fun x12 => some (decide (x6 ≤ x12))) else some false)).bind fun (x14 : Bool) => (if x14 then some 5 else k4 (IntKind.wrap .i64 (x3 + 1))))))) else some 0)) fuel 0
def Qcm (P : Program) (c : Nat) (f : Qb → (List Int) → Option Int) : Prop := ∀ a1 events2 r, f a1 events2 = some r → ∀ M nb, ACalls P c [(Qa a1), (l_ events2)] M nb (i_ r) M nb
def Qxa : List COp := [oo 2 (.box 4) [.t 0], oo 4 .mov [cI 0]]
def Qxb : List COp := [oo 6 (.load true 4) [.t 2], oo 7 (.call 53) [.t 6], oM 5 7]
def Qxc : List COp := [oM 8 5, oo 9 (.bin .neq false) [.t 8, cI 0]]
def Qxd : List COp := [oM 10 5, oM 4 10]
def Qxe : List COp := [oM 11 1, oo 12 (.call 49) [.t 11, cI 32], oM 4 12]
def Qh2 : CFn := ⟨2, 13, [.t 4], .seq (.region Qxa 9 []) (.seq (.seq (.region Qxb 9 []) (.seq (.region Qxc 9 []) (.cond (.t 9) (.seq (.region Qxd 9 []) (.ret)) (.skip)))) (.seq (.region Qxe 9 []) (.ret)))⟩
def Qp (Qx : (List Int) → Int → Option Int) (Qbd : Qb → Option Int) (a1 : Qb) (events2 : (List Int)) : Option Int :=
  ((Qbd a1).bind fun x4 => (if (x4 != 0) then some x4 else ((Qx events2 32).bind fun x7 => some x7)))
def Qcl (P : Program) (c : Nat) (f : Qb → (List Int) → Option Qe) : Prop := ∀ a1 onto2 r, f a1 onto2 = some r → ∀ M nb, ACalls P c [(Qa a1), (l_ onto2)] M nb (Qf r) M nb
def Qte : List COp := [oo 2 (.box 4) [.t 0], oo 4 (.alloc [.nils 1, .nils 1, .nils 1, .nils 1]) []]
def Qtf : List COp := [oF 10 1 2, oL 11 10, oo 12 (.makes 1 24 [.nils 3]) [.t 11, .t 11], oF 13 2 2, oL 14 13, ot 15 (.build [.nils 1, .nils 1, .nils 1, .nils 1] [(0, 1), (3, 1)]) [.t 12, .t 14], oo 5 (.alloc [.nils 1, .nils 1, .nils 1, .nils 1]) [], ⟨none, .store 4, [.t 5, .t 15], true, none⟩]
def Qtg : List COp := [oF 16 3 2, oL 17 16, oo 18 .len [.t 17], oo 19 .mov [cI 0]]
def Qth : List COp := [oo 20 (.bin .lss false) [.t 19, .t 18]]
def Qti : List COp := [oo 21 (.idx 3) [.t 17, .t 19], oo 22 (.load true 3) [.t 21], oo 7 (.alloc [.d (.int .i64 0), .d (.int .i64 0), .d (.int .i64 0)]) [], ⟨none, .store 3, [.t 7, .t 22], false, none⟩]
def Qtj : List COp := [oF 23 0 5, oL 24 23, oF 25 0 7, oL 26 25, oF 27 0 5, oL 28 27, oF 29 0 7, oL 30 29, oo 31 (.idx 1) [.t 28, .t 30], oo 32 .loadT [.t 31], oo 33 (.load true 3) [.t 7], oo 34 (.bslice 3 1 [.d (.int .i64 0), .d (.int .i64 0), .d (.int .i64 0)] [0]) [.t 33], ot 35 (.append 3 24) [.t 32, .t 34], oo 36 (.idx 1) [.t 24, .t 26], ⟨none, .store 1, [.t 36, .t 35], true, none⟩]
def Qtk : List COp := [oo 37 (.bin .add false) [.t 19, cI 1], oM 19 37]
def Qtl : List COp := [oF 38 0 2, oL 39 38, oo 40 .len [.t 39], oo 41 .mov [cI 0]]
def Qtm : List COp := [oo 42 (.bin .lss false) [.t 41, .t 40]]
def Qtn : List COp := [oo 43 (.idx 1) [.t 39, .t 41], oL 44 43, oM 9 44]
def Qql : List COp := [oM 45 1, oM 46 9, oo 47 (.call 35) [.t 45, .t 46]]
def Qqm : List COp := [oF 48 1 5, oo 49 .loadT [.t 48], oM 50 9, oo 51 (.bslice 1 1 [.d (.int .i64 0)] [0]) [.t 50], ot 52 (.append 1 8) [.t 49, .t 51], oF 53 1 5, ⟨none, .store 1, [.t 53, .t 52], true, none⟩]
def Qqn : List COp := [oF 54 2 5, oo 55 .loadT [.t 54], oM 56 9, oo 57 (.bslice 1 1 [.d (.int .i64 0)] [0]) [.t 56], ot 58 (.append 1 8) [.t 55, .t 57], oF 59 2 5, ⟨none, .store 1, [.t 59, .t 58], true, none⟩]
def Qqo : List COp := [oo 60 (.bin .add false) [.t 41, cI 1], oM 41 60]
def Qqp : List COp := [oo 61 (.load true 4) [.t 5], ⟨none, .store 4, [.t 4, .t 61], true, none⟩]
def Qgo : CFn := ⟨2, 62, [.cell 4 true 4], .seq (.region Qte 9 []) (.seq (.region Qtf 0 []) (.seq (.seq (.region Qtg 9 []) (.block 0 (.loop [7, 34] (.seq (.region Qth 9 []) (.seq (.cond (.t 20) (.skip) (.exit 0)) (.seq (.block 1 (.seq (.region Qti 9 []) (.region Qtj 0 []))) (.region Qtk 9 []))))))) (.seq (.seq (.region Qtl 9 []) (.block 2 (.loop [51, 57] (.seq (.region Qtm 9 []) (.seq (.cond (.t 42) (.skip) (.exit 2)) (.seq (.block 3 (.seq (.region Qtn 9 []) (.seq (.region Qql 9 []) (.cond (.t 47) (.region Qqm 9 []) (.region Qqn 9 []))))) (.region Qqo 9 []))))))) (.seq (.region Qqp 9 []) (.ret)))))⟩
def Qq (Qi : (List Int) → Int → Option Bool) (fuel : Nat) (a1 : Qb) (onto2 : (List Int)) : Option Qe :=
  ((mkO a1.States ([] : List Qh)).bind fun x3 => ((Qfa (fun k7 ((x5, c6) : Int × (List (List Qh))) => (if (x5 < (a1.Edges.length : Int)) then ((getO a1.Edges x5).bind fun x9 => ((inO (Int.toNat a1.States) x9.From).bind fun u11 => ((getO c6 x9.From).bind fun x13 => ((appO x13 [x9]).bind fun x15 => ((inO (Int.toNat a1.States) x9.From).bind fun u17 => ((setO c6 x9.From x15).bind fun x19 => k7 ((IntKind.wrap .i64 (x5 + 1)), x19))))))) else some c6)) fuel (0, x3)).bind fun (c21 : List (List Qh)) => ((Qfa (fun k29 ((x22, c23, c24, c25, c26, o27, o28) : Int × (List (List Qh)) × (List Int) × (List Int) × (List Int) × (List Int) × (List Int)) => (if (x22 < (a1.Alphabet.length : Int)) then ((((getO a1.Alphabet x22).bind fun x31 => ((Qi onto2 x31).bind fun x34 => (if x34 then ((appO o27 [x31]).bind fun x36 => some (x36, o28)) else ((appO o28 [x31]).bind fun x38 => some (o27, x38)))))).bind fun ((o40, o41) : (List Int) × (List Int)) => k29 ((IntKind.wrap .i64 (x22 + 1)), c23, c24, c25, c26, o40, o41)) else some (c23, c24, c25, c26, o27, o28))) fuel (0, [], [], [], [], [], [])).bind fun ((c42, c43, c44, c45, o46, o47) : (List (List Qh)) × (List Int) × (List Int) × (List Int) × (List Int) × (List Int)) => ((lenO c21 (Int.toNat a1.States)).bind fun _ => some (Qe.mk c21 o46 o47 a1.Marked)))))
def Qdo (P : Program) (c : Nat) (f : Int → (List Bool) → (List Int) → Option ((List Bool) × (List Int))) : Prop := ∀ x1 x2 x7 (k3 : Nat) (k5 : Nat) (k8 : Nat) r, f x1 x2 x7 = some r → ∀ M nb, (M k3 = some (.cells [.sl 1 k5 0 x2.length x2.length])) → (M k5 = some (.cells (Qca (fun (x : Bool) => [V.d (.bool x)]) x2))) → (M k8 = some (.cells [.own 1 (List.map (eI .i64) x7)])) → (k5 ≠ k3) → (k5 ≠ k8) → (k8 ≠ k3) → ACalls P c [(i_ x1), .ptr k3 0, .ptr k8 0] M nb (.tup []) (Mem.puts M [(k5, .cells (Qca (fun (x : Bool) => [V.d (.bool x)]) r.1)), (k8, .cells ([.own 1 (List.map (eI .i64) r.2)]))]) nb
def Qit : List COp := [oL 4 1, oM 5 0, oo 6 (.idx 1) [.t 4, .t 5], oL 7 6, oo 8 (.un .not) [.t 7]]
def Qiu : List COp := [oL 9 1, oM 10 0, oo 11 (.idx 1) [.t 9, .t 10], ⟨none, .store 1, [.t 11, .c (.d (.bool true))], false, none⟩]
def Qiv : List COp := [oo 12 .loadT [.t 2], oM 13 0, oo 14 (.bslice 1 1 [.d (.int .i64 0)] [0]) [.t 13], ot 15 (.append 1 8) [.t 12, .t 14], ⟨none, .store 1, [.t 2, .t 15], true, none⟩]
def Qdp : CFn := ⟨3, 16, [], .seq (.region Qit 9 []) (.cond (.t 8) (.seq (.region Qiu 9 []) (.region Qiv 9 [])) (.skip))⟩
def Q4 (x1 : Int) (x2 : (List Bool)) (x7 : (List Int)) : Option ((List Bool) × (List Int)) :=
  ((inO x2.length x1).bind fun u13 => ((getO x2 x1).bind fun x15 => (if x15 then some (x2, x7) else ((inO x2.length x1).bind fun u18 => ((setO x2 x1 true).bind fun c20 => ((appO x7 [x1]).bind fun x22 => some (c20, x22)))))))
def Qcd (P : Program) (c : Nat) (f : Qe → (List Int) → (List Int) → Option ((List Int))) : Prop := ∀ o1 xfrom2 events3 r, f o1 xfrom2 events3 = some r → ∀ M nb, ACalls P c [(Qf o1), (l_ xfrom2), (l_ events3)] M nb (l_ r) M nb
def Qka : List COp := [oo 3 (.box 4) [.t 0], ot 6 .mov [.c (.nils 1)]]
def Qkb : List COp := [oF 15 0 3, oL 16 15, oo 17 .len [.t 16], oo 18 (.makes 1 1 [.d (.bool false)]) [.t 17, .t 17], oo 7 (.alloc [.nils 1]) [], ⟨none, .store 1, [.t 7, .t 18], true, none⟩]
def Qkc : List COp := [oo 8 (.alloc [.nils 1]) []]
def Qkd : List COp := [oo 19 (.func 65) [.t 7, .t 8], oM 9 19]
def Qke : List COp := [oM 20 1, oo 21 .len [.t 20], oo 22 .mov [cI 0]]
def Qkf : List COp := [oo 23 (.bin .lss false) [.t 22, .t 21]]
def Qkg : List COp := [oo 24 (.idx 1) [.t 20, .t 22], oL 25 24, oM 11 25]
def Qkh : List COp := [oM 26 9, oM 27 11, oo 28 .callv [.t 26, .t 27]]
def Qki : List COp := [oo 29 (.bin .add false) [.t 22, cI 1], oM 22 29]
def Qkj : List COp := [oo 12 .mov [cI 0]]
def Qjm : List COp := [oM 30 12, oL 31 8, oo 32 .len [.t 31], oo 33 (.bin .lss false) [.t 30, .t 32]]
def Qjn : List COp := [oF 36 0 3, oL 37 36, oL 38 8, oM 39 12, oo 40 (.idx 1) [.t 38, .t 39], oL 41 40, oo 42 (.idx 1) [.t 37, .t 41], oL 43 42, oo 44 .len [.t 43], oo 45 .mov [cI 0]]
def Qjo : List COp := [oo 46 (.bin .lss false) [.t 45, .t 44]]
def Qjp : List COp := [oo 47 (.idx 3) [.t 43, .t 45], oo 48 (.load true 3) [.t 47], oo 14 (.alloc [.d (.int .i64 0), .d (.int .i64 0), .d (.int .i64 0)]) [], ⟨none, .store 3, [.t 14, .t 48], false, none⟩]
def Qjq : List COp := [oM 49 2, oF 50 1 14, oL 51 50, oo 52 (.call 35) [.t 49, .t 51]]
def Qjr : List COp := [oM 53 9, oF 54 2 14, oL 55 54, oo 56 .callv [.t 53, .t 55]]
def Qjs : List COp := [oo 57 (.bin .add false) [.t 45, cI 1], oM 45 57]
def Qjt : List COp := [oM 34 12, oo 35 (.bin .add false) [.t 34, cI 1], oM 12 35]
def Qju : List COp := [oL 58 8, oo 59 (.call 33) [.t 58]]
def Qjv : List COp := [oL 60 8, ot 6 .mov [.t 60]]
def Qd5 : CFn := ⟨3, 61, [.t 6], .seq (.region Qka 9 []) (.seq (.region Qkb 9 []) (.seq (.region Qkc 9 []) (.seq (.region Qkd 9 []) (.seq (.seq (.region Qke 9 []) (.block 0 (.loop [] (.seq (.region Qkf 9 []) (.seq (.cond (.t 23) (.skip) (.exit 0)) (.seq (.block 1 (.seq (.region Qkg 9 []) (.region Qkh 9 []))) (.region Qki 9 []))))))) (.seq (.seq (.region Qkj 9 []) (.block 2 (.loop [14] (.seq (.seq (.region Qjm 9 []) (.cond (.t 33) (.skip) (.exit 2))) (.seq (.block 3 (.seq (.region Qjn 0 []) (.block 4 (.loop [14] (.seq (.region Qjo 9 []) (.seq (.cond (.t 46) (.skip) (.exit 4)) (.seq (.block 5 (.seq (.region Qjp 9 []) (.seq (.region Qjq 9 []) (.cond (.t 52) (.region Qjr 9 []) (.skip))))) (.region Qjs 9 [])))))))) (.region Qjt 9 [])))))) (.seq (.region Qju 9 []) (.seq (.region Qjv 9 []) (.ret))))))))⟩
def Qs (f_slices_Sort_int : List Int → Option (List Int)) (Qi : (List Int) → Int → Option Bool) (Q4 : Int → (List Bool) → (List Int) → Option ((List Bool) × (List Int))) (fuel : Nat) (o1 : Qe) (xfrom2 : (List Int)) (events3 : (List Int)) : Option ((List Int)) :=
  ((mkO (o1.out_.length : Int) false).bind fun x4 => ((Qfa (fun k9 ((x6, l7, c8) : Int × (List Int) × (List Bool)) => (if (x6 < (xfrom2.length : Int)) then ((getO xfrom2 x6).bind fun x11 => ((lenO c8 (Int.toNat (o1.out_.length : Int))).bind fun _ => ((Q4 x11 c8 l7).bind fun (c14, c15) => k9 ((IntKind.wrap .i64 (x6 + 1)), c15, c14)))) else some (l7, c8))) fuel (0, [], x4)).bind fun ((l17, c18) : (List Int) × (List Bool)) => ((Qfa (fun k22 ((i19, l20, c21) : Int × (List Int) × (List Bool)) => (if (i19 < (l20.length : Int)) then ((((getO l20 i19).bind fun x24 => ((getO o1.out_ x24).bind fun x26 => Qfa (fun k31 ((x28, l29, c30) : Int × (List Int) × (List Bool)) => (if (x28 < (x26.length : Int)) then ((((getO x26 x28).bind fun x33 => ((Qi events3 x33.Event).bind fun x36 => (if x36 then ((lenO c30 (Int.toNat (o1.out_.length : Int))).bind fun _ => ((Q4 x33.To c30 l29).bind fun (c39, c40) => some (c40, c39, x33.From, x33.Event, x33.To))) else some (l29, c30, x33.From, x33.Event, x33.To))))).bind fun ((l42, c43, c44, c45, c46) : (List Int) × (List Bool) × Int × Int × Int) => k31 ((IntKind.wrap .i64 (x28 + 1)), l42, c43)) else some (l29, c30))) fuel (0, l20, c21)))).bind fun ((l47, c48) : (List Int) × (List Bool)) => k22 ((IntKind.wrap .i64 (i19 + 1)), l47, c48)) else some (l20, c21))) fuel (0, l17, c18)).bind fun ((l49, c50) : (List Int) × (List Bool)) => ((f_slices_Sort_int l49).bind fun row51 => some row51))))
def Qcw (P : Program) (c : Nat) (f : Qe → Option ((List Int))) : Prop := ∀ o1 r, f o1 = some r → ∀ M nb, ACalls P c [(Qf o1)] M nb (l_ r) M nb
def Qkk : List COp := [oo 1 (.box 4) [.t 0], ot 2 .mov [.c (.nils 1)]]
def Qkl : List COp := [oF 3 0 1, oL 4 3, oo 5 .len [.t 4], oo 6 (.bin .eql false) [.t 5, cI 0]]
def Qkm : List COp := [ot 2 .mov [.c (.nils 1)]]
def Qkn : List COp := [oo 7 (.load true 4) [.t 1], oo 8 (.bslice 1 1 [.d (.int .i64 0)] [0]) [cI 0], oF 9 2 1, oL 10 9, oo 11 (.call 50) [.t 7, .t 8, .t 10], ot 2 .mov [.t 11]]
def Qd6 : CFn := ⟨1, 12, [.t 2], .seq (.region Qkk 9 []) (.seq (.seq (.region Qkl 9 []) (.cond (.t 6) (.seq (.region Qkm 9 []) (.ret)) (.skip))) (.seq (.region Qkn 9 []) (.ret)))⟩
def Qy (Qs : Qe → (List Int) → (List Int) → Option ((List Int))) (o1 : Qe) : Option ((List Int)) :=
  (if ((o1.out_.length : Int) == 0) then some [] else ((Qs o1 [0] o1.erased_).bind fun x4 => some x4))
def K_projection_key (P : Program) (c : Nat) (f : (List Int) → Option ByteArray) : Prop := ∀ l1 r, f l1 = some r → ∀ M nb, ACalls P c [(l_ l1)] M nb (.d (.str r)) M nb
def Qc2 (P : Program) (c : Nat) (f : Int → Qe → Option Bool) : Prop := ∀ x1 x2 (k3 : Nat) r, f x1 x2 = some r → ∀ M nb, (M k3 = some (.cells (Qj x2))) → ACalls P c [(i_ x1), .ptr k3 0] M nb (b_ r) M nb
def Qhm : List COp := [oo 3 .mov [.c (.d (.bool false))]]
def Qhn : List COp := [oF 4 3 1, oL 5 4, oM 6 0, oo 7 (.call 35) [.t 5, .t 6], oM 3 7]
def Qc3 : CFn := ⟨2, 8, [.t 3], .seq (.region Qhm 9 []) (.seq (.region Qhn 9 []) (.ret))⟩
def Q3 (Qi : (List Int) → Int → Option Bool) (x1 : Int) (x2 : Qe) : Option Bool :=
  ((Qi x2.marked_ x1).bind fun x6 => some x6)
def Qfq (P : Program) (c : Nat) (f : (List Int) → (Int → Option Bool) → Option Int) : Prop := ∀ s1 f2 (g3 : Nat) (cp4 : List V) r, f s1 f2 = some r → ∀ M nb, (V.dems cp4 = cp4) → (V.ons (There M) cp4) → (∀ a8 r, f2 a8 = some r → ∀ M2 nb2, nb ≤ nb2 → Ext M M2 → ACalls P g3 ([(i_ a8)] ++ cp4) M2 nb2 (b_ r) M2 nb2) → ACalls P c [(l_ s1), .clo g3 cp4] M nb (i_ r) M nb
def Qoa : List COp := [oo 4 .mov [cI 0]]
def Qob : List COp := [oM 6 0, oo 7 .len [.t 6], oo 8 .mov [cI 0]]
def Qoc : List COp := [oo 9 (.bin .lss false) [.t 8, .t 7]]
def Qod : List COp := [oM 10 8, oM 5 10]
def Qoe : List COp := [oM 11 1, oM 12 0, oM 13 5, oo 14 (.idx 1) [.t 12, .t 13], oL 15 14, oo 16 .callv [.t 11, .t 15]]
def Qof : List COp := [oM 17 5, oM 4 17]
def Qog : List COp := [oo 18 (.bin .add false) [.t 8, cI 1], oM 8 18]
def Qoh : List COp := [oo 4 .mov [cI (-1)]]
def Qfr : CFn := ⟨2, 19, [.t 4], .seq (.region Qoa 9 []) (.seq (.seq (.region Qob 9 []) (.block 0 (.loop [] (.seq (.region Qoc 9 []) (.seq (.cond (.t 9) (.skip) (.exit 0)) (.seq (.block 1 (.seq (.region Qod 9 []) (.seq (.region Qoe 9 []) (.cond (.t 16) (.seq (.region Qof 9 []) (.ret)) (.skip))))) (.region Qog 9 []))))))) (.seq (.region Qoh 9 []) (.ret)))⟩
def Qbt (fuel : Nat) (s1 : (List Int)) (f2 : (Int → Option Bool)) : Option Int :=
  Qfa (fun k10 (x9 : Int) => (if (x9 < (s1.length : Int)) then ((getO s1 x9).bind fun x12 => ((f2 x12).bind fun x15 => (if x15 then some x9 else k10 (IntKind.wrap .i64 (x9 + 1))))) else some (-1))) fuel 0
def Qda (P : Program) (c : Nat) (f : (List Int) → (Int → Option Bool) → Option Bool) : Prop := ∀ s1 f2 (g3 : Nat) (cp4 : List V) r, f s1 f2 = some r → ∀ M nb, (V.dems cp4 = cp4) → (V.ons (There M) cp4) → (∀ a8 r, f2 a8 = some r → ∀ M2 nb2, nb ≤ nb2 → Ext M M2 → ACalls P g3 ([(i_ a8)] ++ cp4) M2 nb2 (b_ r) M2 nb2) → ACalls P c [(l_ s1), .clo g3 cp4] M nb (b_ r) M nb
def Qly : List COp := [oo 4 .mov [.c (.d (.bool false))]]
def Qlz : List COp := [oM 5 0, oM 6 1, oo 7 (.call 91) [.t 5, .t 6], oo 8 (.bin .geq false) [.t 7, cI 0], oM 4 8]
def Qek : CFn := ⟨2, 9, [.t 4], .seq (.region Qly 9 []) (.seq (.region Qlz 9 []) (.ret))⟩
def Q0 (Qbt : (List Int) → (Int → Option Bool) → Option Int) (s1 : (List Int)) (f2 : (Int → Option Bool)) : Option Bool :=
  ((Qbt s1 f2).bind fun x13 => some (decide (x13 ≥ 0)))
def Qde (P : Program) (c : Nat) (f : Qe → (List Int) → Option Bool) : Prop := ∀ o1 estimate2 r, f o1 estimate2 = some r → ∀ M nb, ACalls P c [(Qf o1), (l_ estimate2)] M nb (b_ r) M nb
def Qie : List COp := [oo 2 (.box 4) [.t 0], oo 4 .mov [.c (.d (.bool false))]]
def Qif : List COp := [oM 5 1, oo 6 (.func 63) [.t 2], oo 7 (.call 62) [.t 5, .t 6], oM 4 7]
def Qdf : CFn := ⟨2, 8, [.t 4], .seq (.region Qie 9 []) (.seq (.region Qif 9 []) (.ret))⟩
def Q9 (Q0 : (List Int) → (Int → Option Bool) → Option Bool) (Q3 : Int → Qe → Option Bool) (o1 : Qe) (estimate2 : (List Int)) : Option Bool :=
  ((Q0 estimate2 (fun a3 => Q3 a3 o1)).bind fun x7 => some x7)
def Qck (P : Program) (c : Nat) (f : Qe → (List Int) → Int → Option ((List Int))) : Prop := ∀ o1 estimate2 event3 r, f o1 estimate2 event3 = some r → ∀ M nb, ACalls P c [(Qf o1), (l_ estimate2), (i_ event3)] M nb (l_ r) M nb
def Qk3 : List COp := [oo 3 (.box 4) [.t 0], ot 6 .mov [.c (.nils 1)]]
def Qk4 : List COp := [ot 7 .mov [.c (.nils 1)]]
def Qk5 : List COp := [oM 12 1, oo 13 .len [.t 12], oo 14 .mov [cI 0]]
def Qk6 : List COp := [oo 15 (.bin .lss false) [.t 14, .t 13]]
def Qk7 : List COp := [oo 16 (.idx 1) [.t 12, .t 14], oL 17 16, oM 9 17]
def Qk8 : List COp := [oF 18 0 3, oL 19 18, oM 20 9, oo 21 (.idx 1) [.t 19, .t 20], oL 22 21, oo 23 .len [.t 22], oo 24 .mov [cI 0]]
def Qk9 : List COp := [oo 25 (.bin .lss false) [.t 24, .t 23]]
def Qla : List COp := [oo 26 (.idx 3) [.t 22, .t 24], oo 27 (.load true 3) [.t 26], oo 11 (.alloc [.d (.int .i64 0), .d (.int .i64 0), .d (.int .i64 0)]) [], ⟨none, .store 3, [.t 11, .t 27], false, none⟩]
def Qlb : List COp := [oF 28 1 11, oL 29 28, oM 30 2, oo 31 (.bin .eql false) [.t 29, .t 30]]
def Qlc : List COp := [ot 32 .mov [.t 7], oF 33 2 11, oL 34 33, oo 35 (.bslice 1 1 [.d (.int .i64 0)] [0]) [.t 34], ot 36 (.append 1 8) [.t 32, .t 35], ot 7 .mov [.t 36]]
def Qko : List COp := [oo 37 (.bin .add false) [.t 24, cI 1], oM 24 37]
def Qkp : List COp := [oo 38 (.bin .add false) [.t 14, cI 1], oM 14 38]
def Qkq : List COp := [oo 39 (.load true 4) [.t 3], oM 40 7, oF 41 2 3, oL 42 41, oo 43 (.call 50) [.t 39, .t 40, .t 42], ot 6 .mov [.t 43]]
def Qee : CFn := ⟨3, 44, [.t 6], .seq (.region Qk3 9 []) (.seq (.region Qk4 9 []) (.seq (.seq (.region Qk5 9 []) (.block 0 (.loop [11, 35] (.seq (.region Qk6 9 []) (.seq (.cond (.t 15) (.skip) (.exit 0)) (.seq (.block 1 (.seq (.region Qk7 9 []) (.seq (.region Qk8 9 []) (.block 2 (.loop [11, 35] (.seq (.region Qk9 9 []) (.seq (.cond (.t 25) (.skip) (.exit 2)) (.seq (.block 3 (.seq (.region Qla 9 []) (.seq (.region Qlb 9 []) (.cond (.t 31) (.region Qlc 9 []) (.skip))))) (.region Qko 9 []))))))))) (.region Qkp 9 []))))))) (.seq (.region Qkq 9 []) (.ret))))⟩
def Qu (Qs : Qe → (List Int) → (List Int) → Option ((List Int))) (fuel : Nat) (o1 : Qe) (estimate2 : (List Int)) (event3 : Int) : Option ((List Int)) :=
  ((Qfa (fun k6 ((l4, x5) : (List Int) × Int) => (if (x5 < (estimate2.length : Int)) then ((((getO estimate2 x5).bind fun x8 => ((getO o1.out_ x8).bind fun x10 => Qfa (fun k14 ((l12, x13) : (List Int) × Int) => (if (x13 < (x10.length : Int)) then ((((getO x10 x13).bind fun x16 => (if (x16.Event == event3) then ((appO l12 [x16.To]).bind fun x19 => some (x19, x16.From, x16.Event, x16.To)) else some (l12, x16.From, x16.Event, x16.To)))).bind fun ((l21, c22, c23, c24) : (List Int) × Int × Int × Int) => k14 (l21, (IntKind.wrap .i64 (x13 + 1)))) else some l12)) fuel (l4, 0)))).bind fun (l25 : List Int) => k6 (l25, (IntKind.wrap .i64 (x5 + 1)))) else some l4)) fuel ([], 0)).bind fun (l26 : List Int) => ((Qs o1 l26 o1.erased_).bind fun x28 => some x28))
def Qew (P : Program) (c : Nat) (f : Qb → (List Int) → Option (Qb × (List (List Int)) × Int)) : Prop := ∀ a1 onto2 r, f a1 onto2 = some r → ∀ M nb, ACalls P c [(Qa a1), (l_ onto2)] M nb (.tup [(Qa r.1), .own 1 (List.map (eL 1 (eI .i64)) r.2.1), (i_ r.2.2)]) M nb
def Qto : List COp := [oo 2 (.box 4) [.t 0], oo 4 (.alloc [.nils 1, .d (.int .i64 0), .nils 1, .nils 3]) [], ot 5 .mov [.c (.nils 1)], oo 6 .mov [cI 0]]
def Qtp : List COp := [oo 18 (.load true 4) [.t 2], oM 19 1, oo 20 (.call 30) [.t 18, .t 19], oM 7 20]
def Qtq : List COp := [oM 21 7, oo 22 (.bin .neq false) [.t 21, cI 0]]
def Qtr : List COp := [oo 23 (.build [.nils 1, .d (.int .i64 0), .nils 1, .nils 3] []) [], oM 24 7, ⟨none, .store 4, [.t 4, .t 23], true, none⟩, ot 5 .mov [.c (.nils 1)], oM 6 24]
def Qts : List COp := [oo 25 (.load true 4) [.t 2], oM 26 1, oo 27 (.call 41) [.t 25, .t 26], oo 8 (.alloc [.nils 1, .nils 1, .nils 1, .nils 1]) [], ⟨none, .store 4, [.t 8, .t 27], true, none⟩]
def Qtt : List COp := [oF 28 1 8, oL 29 28, ot 30 (.build [.nils 1, .d (.int .i64 0), .nils 1, .nils 3] [(0, 1)]) [.t 29], oo 9 (.alloc [.nils 1, .d (.int .i64 0), .nils 1, .nils 3]) [], ⟨none, .store 4, [.t 9, .t 30], true, none⟩]
def Qtu : List COp := [oF 31 1 2, oL 32 31, oo 33 (.bin .eql false) [.t 32, cI 0]]
def Qtv : List COp := [oo 34 (.load true 4) [.t 9], ⟨none, .store 4, [.t 4, .t 34], true, none⟩, ot 5 .mov [.c (.nils 1)], oo 6 .mov [cI 0]]
def Qtw : List COp := [oo 35 (.load true 4) [.t 8], oo 36 (.call 42) [.t 35], oo 37 (.bslice 1 1 [.nils 1] [0]) [.t 36], ot 10 .mov [.t 37]]
def Qtx : List COp := [oo 38 .mkmap [], oM 39 10, oo 40 (.idx 1) [.t 39, cI 0], oL 41 40, oo 42 (.call 43) [.t 41], ⟨none, .mapset .str, [.t 38, .t 42, cI 0], false, none⟩, oM 43 38, oM 11 43]
def Qqq : List COp := [oo 12 .mov [cI 0]]
def Qqr : List COp := [oM 44 12, oM 45 10, oo 46 .len [.t 45], oo 47 (.bin .lss false) [.t 44, .t 46]]
def Qqs : List COp := [oo 50 (.load true 4) [.t 8], oM 51 10, oM 52 12, oo 53 (.idx 1) [.t 51, .t 52], oL 54 53, oo 55 (.call 44) [.t 50, .t 54]]
def Qqt : List COp := [oF 56 2 9, oo 57 .loadT [.t 56], oM 58 12, oo 59 (.bslice 1 1 [.d (.int .i64 0)] [0]) [.t 58], ot 60 (.append 1 8) [.t 57, .t 59], oF 61 2 9, ⟨none, .store 1, [.t 61, .t 60], true, none⟩]
def Qqu : List COp := [oF 62 1 8, oL 63 62, oo 64 .len [.t 63], oo 65 .mov [cI 0]]
def Qqv : List COp := [oo 66 (.bin .lss false) [.t 65, .t 64]]
def Qqw : List COp := [oo 67 (.idx 1) [.t 63, .t 65], oL 68 67, oM 14 68]
def Qqx : List COp := [oo 69 (.load true 4) [.t 8], oM 70 10, oM 71 12, oo 72 (.idx 1) [.t 70, .t 71], oL 73 72, oM 74 14, oo 75 (.call 45) [.t 69, .t 73, .t 74], ot 15 .mov [.t 75]]
def Qqy : List COp := [oM 76 15, oo 77 .len [.t 76], oo 78 (.bin .eql false) [.t 77, cI 0]]
def Qqz : List COp := [oM 80 11, oM 81 15, oo 82 (.call 43) [.t 81], oo 83 (.lookup .str true (.d (.int .i64 0))) [.t 80, .t 82], oM 79 83, oo 84 (.extract 0) [.t 79], oo 85 (.extract 1) [.t 79], oM 16 84, oM 17 85]
def Qq0 : List COp := [oM 86 17, oo 87 (.un .not) [.t 86]]
def Qq1 : List COp := [oM 88 10, oo 89 .len [.t 88], oM 16 89]
def Qq2 : List COp := [oM 90 11, oM 91 15, oo 92 (.call 43) [.t 91], oM 93 16, ⟨none, .mapset .str, [.t 90, .t 92, .t 93], false, none⟩]
def Qq3 : List COp := [ot 94 .mov [.t 10], oM 95 15, oo 96 (.bslice 1 1 [.nils 1] [0]) [.t 95], ot 97 (.append 1 24) [.t 94, .t 96], ot 10 .mov [.t 97]]
def Qq4 : List COp := [oF 98 3 9, oo 99 .loadT [.t 98], oM 100 12, oM 101 14, oM 102 16, oo 103 (.build [.d (.int .i64 0), .d (.int .i64 0), .d (.int .i64 0)] [(0, 1), (1, 1), (2, 1)]) [.t 100, .t 101, .t 102], oo 104 (.bslice 3 1 [.d (.int .i64 0), .d (.int .i64 0), .d (.int .i64 0)] [0]) [.t 103], ot 105 (.append 3 24) [.t 99, .t 104], oF 106 3 9, ⟨none, .store 1, [.t 106, .t 105], true, none⟩]
def Qq5 : List COp := [oo 107 (.bin .add false) [.t 65, cI 1], oM 65 107]
def Qq6 : List COp := [oM 108 10, oo 109 .len [.t 108], oo 110 (.bin .gtr false) [.t 109, cI 4096]]
def Qq7 : List COp := [oo 111 (.build [.nils 1, .d (.int .i64 0), .nils 1, .nils 3] []) [], ⟨none, .store 4, [.t 4, .t 111], true, none⟩, ot 5 .mov [.c (.nils 1)], oo 6 .mov [cI 3]]
def Qq8 : List COp := [oM 48 12, oo 49 (.bin .add false) [.t 48, cI 1], oM 12 49]
def Qq9 : List COp := [oM 112 10, oo 113 .len [.t 112], oF 114 1 9, ⟨none, .store 1, [.t 114, .t 113], false, none⟩]
def Qra : List COp := [oo 115 (.load true 4) [.t 9], ot 116 .mov [.t 10], ⟨none, .store 4, [.t 4, .t 115], true, none⟩, ot 5 .mov [.t 116], oo 6 .mov [cI 0]]
def Qgp : CFn := ⟨2, 117, [.cell 4 true 4, .t 5, .t 6], .seq (.region Qto 9 []) (.seq (.seq (.region Qtp 9 []) (.seq (.region Qtq 9 []) (.cond (.t 22) (.seq (.region Qtr 9 []) (.ret)) (.skip)))) (.seq (.region Qts 9 []) (.seq (.region Qtt 9 []) (.seq (.seq (.region Qtu 9 []) (.cond (.t 33) (.seq (.region Qtv 9 []) (.ret)) (.skip))) (.seq (.region Qtw 9 []) (.seq (.region Qtx 9 []) (.seq (.seq (.region Qqq 9 []) (.block 0 (.loop [59, 96, 104] (.seq (.seq (.region Qqr 9 []) (.cond (.t 47) (.skip) (.exit 0))) (.seq (.block 1 (.seq (.seq (.region Qqs 0 []) (.cond (.t 55) (.region Qqt 9 []) (.skip))) (.seq (.seq (.region Qqu 9 []) (.block 2 (.loop [96, 104] (.seq (.region Qqv 9 []) (.seq (.cond (.t 66) (.skip) (.exit 2)) (.seq (.block 3 (.seq (.region Qqw 9 []) (.seq (.region Qqx 0 []) (.seq (.seq (.region Qqy 9 []) (.cond (.t 78) (.exit 3) (.skip))) (.seq (.region Qqz 9 []) (.seq (.seq (.region Qq0 9 []) (.cond (.t 87) (.seq (.region Qq1 9 []) (.seq (.region Qq2 9 []) (.region Qq3 9 []))) (.skip))) (.region Qq4 9 []))))))) (.region Qq5 9 []))))))) (.seq (.region Qq6 9 []) (.cond (.t 110) (.seq (.region Qq7 9 []) (.ret)) (.skip)))))) (.region Qq8 9 [])))))) (.seq (.region Qq9 9 []) (.seq (.region Qra 9 []) (.ret))))))))))⟩
def Q6 (Qp : Qb → (List Int) → Option Int) (Qq : Qb → (List Int) → Option Qe) (Qy : Qe → Option ((List Int))) (f_projection_key : (List Int) → Option ByteArray) (Q9 : Qe → (List Int) → Option Bool) (Qu : Qe → (List Int) → Int → Option ((List Int))) (fuel : Nat) (a1 : Qb) (onto2 : (List Int)) : Option (Qb × (List (List Int)) × Int) :=
  ((Qp a1 onto2).bind fun x4 => (if (x4 != 0) then some ((Qb.mk [] 0 [] []), [], x4) else ((Qq a1 onto2).bind fun x7 => (if (a1.States == 0) then some ((Qb.mk x7.kept_ 0 [] []), [], 0) else ((Qy x7).bind fun x10 => ((f_projection_key x10).bind fun x12 => Qfa (fun k21 ((states13, i14, c15, c16, c17, r18, r19, c20) : (List (List Int)) × Int × (List Int) × (List Int) × (List Qh) × (List Int) × (List Qh) × (List (ByteArray × Int))) => (if (i14 < (states13.length : Int)) then ((((getO states13 i14).bind fun x23 => ((Q9 x7 x23).bind fun x26 => (if x26 then ((appO r18 [i14]).bind fun x28 => some x28) else some r18)))).bind fun (r30 : List Int) => ((Qfa (fun k35 ((states31, x32, r33, c34) : (List (List Int)) × Int × (List Qh) × (List (ByteArray × Int))) => (if (x32 < (x7.kept_.length : Int)) then ((((getO x7.kept_ x32).bind fun x37 => ((getO states31 i14).bind fun x39 => ((Qu x7 x39 x37).bind fun x42 => (if ((x42.length : Int) == 0) then some (states31, r33, c34) else ((f_projection_key x42).bind fun x45 => (((if (hasM c34 x45) then some (states31, (getM c34 x45 0), c34) else ((f_projection_key x42).bind fun x48 => ((appO states31 [x42]).bind fun x49 => some (x49, (states31.length : Int), (setM c34 x48 (states31.length : Int))))))).bind fun ((states51, to52, c53) : (List (List Int)) × Int × (List (ByteArray × Int))) => ((appO r33 [(Qh.mk i14 x37 to52)]).bind fun x54 => some (states51, x54, c53))))))))).bind fun ((states56, r57, c58) : (List (List Int)) × (List Qh) × (List (ByteArray × Int))) => k35 (states56, (IntKind.wrap .i64 (x32 + 1)), r57, c58)) else some (states31, r33, c34))) fuel (states13, 0, r19, c20)).bind fun ((states59, r60, c61) : (List (List Int)) × (List Qh) × (List (ByteArray × Int))) => (if ((states59.length : Int) > 4096) then some ((Qb.mk [] 0 [] []), [], 3) else k21 (states59, (IntKind.wrap .i64 (i14 + 1)), c15, c16, c17, r30, r60, c61)))) else some ((Qb.mk x7.kept_ (states13.length : Int) r18 r19), states13, 0))) fuel ([x10], 0, [], [], [], [], [], (setM ([] : List (ByteArray × Int)) x12 0))))))))
def Qdq (P : Program) (c : Nat) (f : Int → Qe → Option Bool) : Prop := ∀ x1 x2 (k3 : Nat) r, f x1 x2 = some r → ∀ M nb, (M k3 = some (.cells (Qj x2))) → ACalls P c [(i_ x1), .ptr k3 0] M nb (b_ r) M nb
def Qiw : List COp := [oo 3 .mov [.c (.d (.bool false))]]
def Qix : List COp := [oF 4 1 1, oL 5 4, oM 6 0, oo 7 (.call 35) [.t 5, .t 6], oo 8 (.un .not) [.t 7], oM 3 8]
def Qdr : CFn := ⟨2, 9, [.t 3], .seq (.region Qiw 9 []) (.seq (.region Qix 9 []) (.ret))⟩
def Qbb (Qi : (List Int) → Int → Option Bool) (x1 : Int) (x2 : Qe) : Option Bool :=
  ((Qi x2.kept_ x1).bind fun x6 => some (!x6))
def Qce (P : Program) (c : Nat) (f : Qe → (List Int) → Option Bool) : Prop := ∀ o1 observation2 r, f o1 observation2 = some r → ∀ M nb, ACalls P c [(Qf o1), (l_ observation2)] M nb (b_ r) M nb
def Qkr : List COp := [oo 2 (.box 4) [.t 0], oo 4 .mov [.c (.d (.bool false))]]
def Qks : List COp := [oM 5 1, oo 6 (.func 64) [.t 2], oo 7 (.call 62) [.t 5, .t 6], oo 8 (.un .not) [.t 7], oM 4 8]
def Qd7 : CFn := ⟨2, 9, [.t 4], .seq (.region Qkr 9 []) (.seq (.region Qks 9 []) (.ret))⟩
def Qt (Q0 : (List Int) → (Int → Option Bool) → Option Bool) (Qbb : Int → Qe → Option Bool) (o1 : Qe) (observation2 : (List Int)) : Option Bool :=
  ((Q0 observation2 (fun a3 => Qbb a3 o1)).bind fun x7 => some (!x7))
def Qfw (P : Program) (c : Nat) (f : (List Int) → Option ((List Int))) : Prop := ∀ s1 r, f s1 = some r → ∀ M nb, ACalls P c [(l_ s1)] M nb (.own 1 (List.map (eI .i64) r)) M nb
def Qxf : List COp := [ot 2 .mov [.c (.nils 1)]]
def Qxg : List COp := [oM 3 0, oo 4 (.isnil false) [.t 3]]
def Qxh : List COp := [ot 2 .mov [.c (.nils 1)]]
def Qxi : List COp := [oo 5 (.bslice 1 0 [.d (.int .i64 0)] []) [], oM 6 0, ot 7 (.append 1 8) [.t 5, .t 6], ot 2 .mov [.t 7]]
def Qh3 : CFn := ⟨1, 8, [.t 2], .seq (.region Qxf 9 []) (.seq (.seq (.region Qxg 9 []) (.cond (.t 4) (.seq (.region Qxh 9 []) (.ret)) (.skip))) (.seq (.region Qxi 9 []) (.ret)))⟩
def Qbe (s1 : (List Int)) : Option ((List Int)) :=
  (nilO s1 fun b2 => (if b2 then some [] else ((appO [] s1).bind fun x4 => some x4)))
def Qgg (P : Program) (c : Nat) (f : Qb → (List Int) → (List Int) → Bool → Option ((List Int) × Bool × Int)) : Prop := ∀ a1 onto2 observation3 marked4 r, f a1 onto2 observation3 marked4 = some r → ∀ M nb, ACalls P c [(Qa a1), (l_ onto2), (l_ observation3), (b_ marked4)] M nb (.tup [(l_ r.1), (b_ r.2.1), (i_ r.2.2)]) M nb
def Qzi : List COp := [oo 4 (.box 4) [.t 0], ot 8 .mov [.c (.nils 1)], oo 9 .mov [.c (.d (.bool false))], oo 10 .mov [cI 0]]
def Qzj : List COp := [oo 20 (.load true 4) [.t 4], oM 21 1, oo 22 (.call 30) [.t 20, .t 21], oM 10 22]
def Qzk : List COp := [oM 23 10, oo 24 (.bin .neq false) [.t 23, cI 0]]
def Qzl : List COp := [oM 25 10, ot 8 .mov [.c (.nils 1)], oo 9 .mov [.c (.d (.bool false))], oM 10 25]
def Qzm : List COp := [oo 26 (.load true 4) [.t 4], oM 27 1, oo 28 (.call 41) [.t 26, .t 27], oo 11 (.alloc [.nils 1, .nils 1, .nils 1, .nils 1]) [], ⟨none, .store 4, [.t 11, .t 28], true, none⟩]
def Qzn : List COp := [oo 29 (.load true 4) [.t 11], oM 30 2, oo 31 (.call 46) [.t 29, .t 30], oo 32 (.un .not) [.t 31]]
def Qzo : List COp := [ot 8 .mov [.c (.nils 1)], oo 9 .mov [.c (.d (.bool false))], oo 10 .mov [cI 9]]
def Qzp : List COp := [oF 33 1 4, oL 34 33, oo 35 (.bin .eql false) [.t 34, cI 0]]
def Qzq : List COp := [ot 8 .mov [.c (.nils 1)], oo 9 .mov [.c (.d (.bool false))], oo 10 .mov [cI 0]]
def Qzr : List COp := [oo 36 .mkmap [], oo 37 (.build [.d (.int .i64 0), .d (.int .i64 0)] []) [], ⟨none, .mapset (.st [.int .i64, .int .i64]), [.t 36, .t 37, .c (.nils 1)], false, none⟩, oM 38 36, oM 12 38]
def Qxj : List COp := [oo 39 (.build [.d (.int .i64 0), .d (.int .i64 0)] []) [], oo 40 (.bslice 2 1 [.d (.int .i64 0), .d (.int .i64 0)] [0]) [.t 39], ot 13 .mov [.t 40]]
def Qxk : List COp := [oM 41 13, oo 42 .len [.t 41], oo 43 (.bin .gtr false) [.t 42, cI 0]]
def Qxl : List COp := [oM 46 13, oo 47 (.idx 2) [.t 46, cI 0], oo 48 (.load true 2) [.t 47], oo 14 (.alloc [.d (.int .i64 0), .d (.int .i64 0)]) [], ⟨none, .store 2, [.t 14, .t 48], false, none⟩]
def Qxm : List COp := [oF 49 1 14, oL 50 49, oM 51 2, oo 52 .len [.t 51], oo 53 (.bin .eql false) [.t 50, .t 52], oM 54 53, ⟨some 55, .mov, [.t 3], false, some (54, true)⟩, ⟨some 56, .un .not, [.t 55], false, some (54, true)⟩, ⟨some 57, .mov, [.t 56], false, some (54, true)⟩, ⟨some 58, .fld 2, [.t 4], false, some (57, false)⟩, ⟨some 59, .load false 1, [.t 58], false, some (57, false)⟩, ⟨some 60, .fld 0, [.t 14], false, some (57, false)⟩, ⟨some 61, .load false 1, [.t 60], false, some (57, false)⟩, ⟨some 62, .call 35, [.t 59, .t 61], false, some (57, false)⟩, ⟨some 63, .pick, [.t 57, .c (.d (.bool true)), .t 62], false, some (54, true)⟩, oo 64 .pick [.t 54, .t 63, .c (.d (.bool false))]]
def Qxn : List COp := [oM 65 12, oo 66 (.load true 2) [.t 14], oo 67 (.lookup (.st [.int .i64, .int .i64]) false (.d (.lst 1 []))) [.t 65, .t 66], ot 8 .mov [.t 67], oo 9 .mov [.c (.d (.bool true))], oo 10 .mov [cI 0]]
def Qxo : List COp := [oF 68 0 11, oL 69 68, oF 70 0 14, oL 71 70, oo 72 (.idx 1) [.t 69, .t 71], oL 73 72, oo 74 .len [.t 73], oo 75 .mov [cI 0]]
def Qxp : List COp := [oo 76 (.bin .lss false) [.t 75, .t 74]]
def Qxq : List COp := [oo 77 (.idx 3) [.t 73, .t 75], oo 78 (.load true 3) [.t 77], oo 16 (.alloc [.d (.int .i64 0), .d (.int .i64 0), .d (.int .i64 0)]) [], ⟨none, .store 3, [.t 16, .t 78], false, none⟩]
def Qxr : List COp := [oF 79 2 16, oL 80 79, oF 81 1 14, oL 82 81, oo 83 (.build [.d (.int .i64 0), .d (.int .i64 0)] [(0, 1), (1, 1)]) [.t 80, .t 82], oo 17 (.alloc [.d (.int .i64 0), .d (.int .i64 0)]) [], ⟨none, .store 2, [.t 17, .t 83], false, none⟩]
def Qxs : List COp := [oF 84 1 11, oL 85 84, oF 86 1 16, oL 87 86, oo 88 (.call 35) [.t 85, .t 87]]
def Qxt : List COp := [oF 89 1 14, oL 90 89, oM 91 2, oo 92 .len [.t 91], oo 93 (.bin .eql false) [.t 90, .t 92], oM 94 93, ⟨some 95, .mov, [.t 2], false, some (94, false)⟩, ⟨some 96, .fld 1, [.t 14], false, some (94, false)⟩, ⟨some 97, .load false 1, [.t 96], false, some (94, false)⟩, ⟨some 98, .idx 1, [.t 95, .t 97], false, some (94, false)⟩, ⟨some 99, .load false 1, [.t 98], false, some (94, false)⟩, ⟨some 100, .fld 1, [.t 16], false, some (94, false)⟩, ⟨some 101, .load false 1, [.t 100], false, some (94, false)⟩, ⟨some 102, .bin .neq false, [.t 99, .t 101], false, some (94, false)⟩, oo 103 .pick [.t 94, .c (.d (.bool true)), .t 102]]
def Qxu : List COp := [oF 104 1 17, oL 105 104, oo 106 (.bin .add false) [.t 105, cI 1], oF 107 1 17, ⟨none, .store 1, [.t 107, .t 106], false, none⟩]
def Qxv : List COp := [oM 109 12, oo 110 (.load true 2) [.t 17], oo 111 (.lookup (.st [.int .i64, .int .i64]) true (.d (.lst 1 []))) [.t 109, .t 110], oM 108 111, ot 112 (.extract 0) [.t 108], oo 113 (.extract 1) [.t 108], ot 18 .mov [.t 112], oM 19 113]
def Qxw : List COp := [oM 114 19, oo 115 (.un .not) [.t 114]]
def Qxx : List COp := [oM 116 12, oo 117 (.load true 2) [.t 17], oM 118 12, oo 119 (.load true 2) [.t 14], oo 120 (.lookup (.st [.int .i64, .int .i64]) false (.d (.lst 1 []))) [.t 118, .t 119], oo 121 (.call 47) [.t 120], oF 122 1 16, oL 123 122, oo 124 (.bslice 1 1 [.d (.int .i64 0)] [0]) [.t 123], ot 125 (.append 1 8) [.t 121, .t 124], ⟨none, .mapset (.st [.int .i64, .int .i64]), [.t 116, .t 117, .t 125], false, none⟩]
def Qxy : List COp := [ot 126 .mov [.t 13], oo 127 (.load true 2) [.t 17], oo 128 (.bslice 2 1 [.d (.int .i64 0), .d (.int .i64 0)] [0]) [.t 127], ot 129 (.append 2 16) [.t 126, .t 128], ot 13 .mov [.t 129]]
def Qxz : List COp := [oo 130 (.bin .add false) [.t 75, cI 1], oM 75 130]
def Qx0 : List COp := [ot 44 .mov [.t 13], ot 45 (.slcT 2) [.t 44, cI 1], ot 13 .mov [.t 45]]
def Qx1 : List COp := [ot 8 .mov [.c (.nils 1)], oo 9 .mov [.c (.d (.bool false))], oo 10 .mov [cI 0]]
def Qiy : CFn := ⟨4, 131, [.t 8, .t 9, .t 10], .seq (.region Qzi 9 []) (.seq (.seq (.region Qzj 9 []) (.seq (.region Qzk 9 []) (.cond (.t 24) (.seq (.region Qzl 9 []) (.ret)) (.skip)))) (.seq (.region Qzm 9 []) (.seq (.seq (.region Qzn 9 []) (.cond (.t 32) (.seq (.region Qzo 9 []) (.ret)) (.skip))) (.seq (.seq (.region Qzp 9 []) (.cond (.t 35) (.seq (.region Qzq 9 []) (.ret)) (.skip))) (.seq (.region Qzr 9 []) (.seq (.seq (.region Qxj 9 []) (.block 0 (.loop [14, 16, 17, 124, 128] (.seq (.seq (.region Qxk 9 []) (.cond (.t 43) (.skip) (.exit 0))) (.seq (.block 1 (.seq (.region Qxl 9 []) (.seq (.seq (.region Qxm 9 []) (.cond (.t 64) (.seq (.region Qxn 9 []) (.ret)) (.skip))) (.seq (.region Qxo 9 []) (.block 2 (.loop [16, 17, 124, 128] (.seq (.region Qxp 9 []) (.seq (.cond (.t 76) (.skip) (.exit 2)) (.seq (.block 3 (.seq (.region Qxq 9 []) (.seq (.region Qxr 9 []) (.seq (.seq (.region Qxs 9 []) (.cond (.t 88) (.seq (.seq (.region Qxt 0 []) (.cond (.t 103) (.exit 3) (.skip))) (.region Qxu 9 [])) (.skip))) (.seq (.region Qxv 9 []) (.seq (.region Qxw 9 []) (.cond (.t 115) (.seq (.region Qxx 1 []) (.region Qxy 9 [])) (.skip)))))))) (.region Qxz 9 [])))))))))) (.region Qx0 9 [])))))) (.seq (.region Qx1 9 []) (.ret))))))))⟩
def Qbf (Qp : Qb → (List Int) → Option Int) (Qi : (List Int) → Int → Option Bool) (Qq : Qb → (List Int) → Option Qe) (Qt : Qe → (List Int) → Option Bool) (Qbe : (List Int) → Option ((List Int))) (fuel : Nat) (a1 : Qb) (onto2 : (List Int)) (observation3 : (List Int)) (marked4 : Bool) : Option ((List Int) × Bool × Int) :=
  ((Qp a1 onto2).bind fun x6 => (if (x6 != 0) then some ([], false, x6) else ((Qq a1 onto2).bind fun x9 => ((Qt x9 observation3).bind fun x11 => (if x11 then (if (a1.States == 0) then some ([], false, 0) else Qfa (fun k16 ((l14, c15) : (List Qk) × (List (Qk × (List Int)))) => (if ((l14.length : Int) > 0) then ((getO l14 0).bind fun x18 => (((if (x18.done_ == (observation3.length : Int)) then (if marked4 then ((Qi a1.Marked x18.state_).bind fun x23 => some x23) else some true) else some false)).bind fun (x24 : Bool) => (if x24 then some ((getM c15 x18 []), true, 0) else ((getO x9.out_ x18.state_).bind fun x26 => Qfa (fun k31 ((l28, x29, c30) : (List Qk) × Int × (List (Qk × (List Int)))) => (if (x29 < (x26.length : Int)) then ((((getO x26 x29).bind fun x33 => letJ (fun (q43 : Int) => (if (hasM c30 (Qk.mk x33.To q43)) then some (l28, c30, x33.From, x33.Event, x33.To, x33.To, q43) else ((Qbe (getM c30 x18 [])).bind fun x46 => ((appO x46 [x33.Event]).bind fun x47 => ((appO l28 [(Qk.mk x33.To q43)]).bind fun x49 => some (x49, (setM c30 (Qk.mk x33.To q43) x47), x33.From, x33.Event, x33.To, x33.To, q43)))))) fun J51 => ((Qi x9.kept_ x33.Event).bind fun x36 => (if x36 then (((if (x18.done_ == (observation3.length : Int)) then some true else ((getO observation3 x18.done_).bind fun x39 => some (x39 != x33.Event)))).bind fun (x41 : Bool) => (if x41 then some (l28, c30, x33.From, x33.Event, x33.To, x33.To, x18.done_) else J51 (IntKind.wrap .i64 (x18.done_ + 1)))) else J51 x18.done_)))).bind fun ((l52, c53, c54, c55, c56, q57, q58) : (List Qk) × (List (Qk × (List Int))) × Int × Int × Int × Int × Int) => k31 (l52, (IntKind.wrap .i64 (x29 + 1)), c53)) else ((slcO l28 1 (l28.length : Int)).bind fun x59 => k16 (x59, c30)))) fuel (l14, 0, c15))))) else some ([], false, 0))) fuel ([(Qk.mk 0 0)], (setM ([] : List (Qk × (List Int))) (Qk.mk 0 0) []))) else some ([], false, 9))))))
def Qg4 (P : Program) (c : Nat) (f : (List Qh) → Option ((List Qh))) : Prop := ∀ s1 r, f s1 = some r → ∀ M nb, ACalls P c [.d (.lst 3 (List.map Qc s1))] M nb (.own 3 (List.map Qc r)) M nb
def Qvm : List COp := [ot 2 .mov [.c (.nils 3)]]
def Qvn : List COp := [oM 3 0, oo 4 (.isnil false) [.t 3]]
def Qvo : List COp := [ot 2 .mov [.c (.nils 3)]]
def Qvp : List COp := [oo 5 (.bslice 3 0 [.d (.int .i64 0), .d (.int .i64 0), .d (.int .i64 0)] []) [], oM 6 0, ot 7 (.append 3 24) [.t 5, .t 6], ot 2 .mov [.t 7]]
def Qg5 : CFn := ⟨1, 8, [.t 2], .seq (.region Qvm 9 []) (.seq (.seq (.region Qvn 9 []) (.cond (.t 4) (.seq (.region Qvo 9 []) (.ret)) (.skip))) (.seq (.region Qvp 9 []) (.ret)))⟩
def Qcf (s1 : (List Qh)) : Option ((List Qh)) :=
  (nilO s1 fun b2 => (if b2 then some [] else ((appO [] s1).bind fun x4 => some x4)))
def K_slices_Grow_int (P : Program) (c : Nat) (f : Int → Option ((List Int))) : Prop := ∀ n1 r, f n1 = some r → ∀ M nb, ACalls P c [.nils 1, (i_ n1)] M nb (.own 1 (List.map (eI .i64) r)) M nb
def Qg6 (P : Program) (c : Nat) (f : (List (List Int)) → Option ((List Int))) : Prop := ∀ slices1 r, f slices1 = some r → ∀ M nb, ACalls P c [.d (.lst 1 (List.map (eL 1 (eI .i64)) slices1))] M nb (.own 1 (List.map (eI .i64) r)) M nb
def Qvq : List COp := [ot 2 .mov [.c (.nils 1)]]
def Qvr : List COp := [oo 3 .mov [cI 0]]
def Qvs : List COp := [oM 9 0, oo 10 .len [.t 9], oo 11 .mov [cI 0]]
def Qvt : List COp := [oo 12 (.bin .lss false) [.t 11, .t 10]]
def Qvu : List COp := [oo 13 (.idx 1) [.t 9, .t 11], oL 14 13, ot 5 .mov [.t 14]]
def Qvv : List COp := [oM 15 3, oM 16 5, oo 17 .len [.t 16], oo 18 (.bin .add false) [.t 15, .t 17], oM 3 18]
def Qvw : List COp := [oM 19 3, oo 20 (.bin .lss false) [.t 19, cI 0]]
def Qvx : List COp := [oo 22 (.bin .add false) [.t 11, cI 1], oM 11 22]
def Qvy : List COp := [oM 23 3, oo 24 (.call 54) [.c (.nils 1), .t 23], ot 6 .mov [.t 24]]
def Qvz : List COp := [oM 25 0, oo 26 .len [.t 25], oo 27 .mov [cI 0]]
def Qty : List COp := [oo 28 (.bin .lss false) [.t 27, .t 26]]
def Qtz : List COp := [oo 29 (.idx 1) [.t 25, .t 27], oL 30 29, ot 8 .mov [.t 30]]
def Qt0 : List COp := [ot 31 .mov [.t 6], oM 32 8, ot 33 (.append 1 8) [.t 31, .t 32], ot 6 .mov [.t 33]]
def Qt1 : List COp := [oo 34 (.bin .add false) [.t 27, cI 1], oM 27 34]
def Qt2 : List COp := [ot 35 .mov [.t 6], ot 2 .mov [.t 35]]
def Qg7 : CFn := ⟨1, 36, [.t 2], .seq (.region Qvq 9 []) (.seq (.region Qvr 9 []) (.seq (.seq (.region Qvs 9 []) (.block 0 (.loop [] (.seq (.region Qvt 9 []) (.seq (.cond (.t 12) (.skip) (.exit 0)) (.seq (.block 1 (.seq (.region Qvu 9 []) (.seq (.region Qvv 9 []) (.seq (.region Qvw 9 []) (.cond (.t 20) (.dead) (.skip)))))) (.region Qvx 9 []))))))) (.seq (.region Qvy 9 []) (.seq (.seq (.region Qvz 9 []) (.block 2 (.loop [] (.seq (.region Qty 9 []) (.seq (.cond (.t 28) (.skip) (.exit 2)) (.seq (.block 3 (.seq (.region Qtz 9 []) (.region Qt0 9 []))) (.region Qt1 9 []))))))) (.seq (.region Qt2 9 []) (.ret))))))⟩
def Qcg (f_slices_Grow_int : Int → Option ((List Int))) (fuel : Nat) (slices1 : (List (List Int))) : Option ((List Int)) :=
  ((Qfa (fun k4 ((size2, x3) : Int × Int) => (if (x3 < (slices1.length : Int)) then ((getO slices1 x3).bind fun x6 => (if ((IntKind.wrap .i64 (size2 + (x6.length : Int))) < 0) then none else k4 ((IntKind.wrap .i64 (size2 + (x6.length : Int))), (IntKind.wrap .i64 (x3 + 1))))) else some size2)) fuel (0, 0)).bind fun (size9 : Int) => ((f_slices_Grow_int size9).bind fun x11 => ((Qfa (fun k14 ((newslice12, x13) : (List Int) × Int) => (if (x13 < (slices1.length : Int)) then ((getO slices1 x13).bind fun x16 => ((appO newslice12 x16).bind fun x18 => k14 (x18, (IntKind.wrap .i64 (x13 + 1))))) else some newslice12)) fuel (x11, 0)).bind fun (newslice20 : List Int) => some newslice20)))
def Qim (P : Program) (c : Nat) (f : Qh → Qh → Option Int) : Prop := ∀ x1 y2 r, f x1 y2 = some r → ∀ M nb, ACalls P c [(Qbn x1), (Qbn y2)] M nb (i_ r) M nb
def Qoi : List COp := [oo 2 (.box 3) [.t 0], oo 3 (.box 3) [.t 1], oo 4 .mov [cI 0]]
def Qoj : List COp := [oF 5 0 2, oL 6 5, oF 7 0 3, oL 8 7, oo 9 (.bin .neq false) [.t 6, .t 8]]
def Qok : List COp := [oF 10 0 2, oL 11 10, oF 12 0 3, oL 13 12, oo 14 (.bin .sub false) [.t 11, .t 13], oM 4 14]
def Qol : List COp := [oF 15 1 2, oL 16 15, oF 17 1 3, oL 18 17, oo 19 (.bin .sub false) [.t 16, .t 18], oM 4 19]
def Qfs : CFn := ⟨2, 20, [.t 4], .seq (.region Qoi 9 []) (.seq (.seq (.region Qoj 9 []) (.cond (.t 9) (.seq (.region Qok 9 []) (.ret)) (.skip))) (.seq (.region Qol 9 []) (.ret)))⟩
def Qft (x1 : Qh) (y2 : Qh) : Option Int :=
  (if (x1.From != y2.From) then some (IntKind.wrap .i64 (x1.From - y2.From)) else some (IntKind.wrap .i64 (x1.Event - y2.Event)))
def Ql0 (P : Program) (c : Nat) (f : Int → Option Bool) : Prop := ∀ x1 r, f x1 = some r → ∀ M nb, ACalls P c [(i_ x1)] M nb (b_ r) M nb
def Q1s : List COp := [oo 2 .mov [.c (.d (.bool false))]]
def Q1t : List COp := [oM 3 0, oM 4 0, oo 5 (.bin .neq false) [.t 3, .t 4], oM 2 5]
def Ql1 : CFn := ⟨1, 6, [.t 2], .seq (.region Q1s 9 []) (.seq (.region Q1t 9 []) (.ret))⟩
def Qcx (x1 : Int) : Option Bool :=
  some (x1 != x1)
def Qnp (P : Program) (c : Nat) (f : Int → Int → Option Bool) : Prop := ∀ x1 y2 r, f x1 y2 = some r → ∀ M nb, ACalls P c [(i_ x1), (i_ y2)] M nb (b_ r) M nb
def Q2h : List COp := [oo 4 .mov [.c (.d (.bool false))]]
def Q2i : List COp := [oM 5 0, oo 6 (.call 97) [.t 5], oM 7 6, ⟨some 8, .mov, [.t 1], false, some (7, true)⟩, ⟨some 9, .call 97, [.t 8], false, some (7, true)⟩, ⟨some 10, .un .not, [.t 9], false, some (7, true)⟩, oo 11 .pick [.t 7, .t 10, .c (.d (.bool false))], oM 12 11, ⟨some 13, .mov, [.t 0], false, some (12, false)⟩, ⟨some 14, .mov, [.t 1], false, some (12, false)⟩, ⟨some 15, .bin .lss false, [.t 13, .t 14], false, some (12, false)⟩, oo 16 .pick [.t 12, .c (.d (.bool true)), .t 15], oM 4 16]
def Qnq : CFn := ⟨2, 17, [.t 4], .seq (.region Q2h 9 []) (.seq (.region Q2i 9 []) (.ret))⟩
def Qd2 (Qcx : Int → Option Bool) (x1 : Int) (y2 : Int) : Option Bool :=
  ((Qcx x1).bind fun x4 => (if x4 then ((Qcx y2).bind fun x7 => (if x7 then some (decide (x1 < y2)) else some true)) else some (decide (x1 < y2))))
def Qh4 (P : Program) (c : Nat) (f : Int → Option Bool) : Prop := ∀ x1 r, f x1 = some r → ∀ M nb, ACalls P c [(i_ x1)] M nb (b_ r) M nb
def Qx2 : List COp := [oo 2 .mov [.c (.d (.bool false))]]
def Qx3 : List COp := [oM 3 0, oM 4 0, oo 5 (.bin .neq false) [.t 3, .t 4], oM 2 5]
def Qh5 : CFn := ⟨1, 6, [.t 2], .seq (.region Qx2 9 []) (.seq (.region Qx3 9 []) (.ret))⟩
def Qb7 (x1 : Int) : Option Bool :=
  some (x1 != x1)
def Qel (P : Program) (c : Nat) (f : (List Int) → Int → Option (Int × Bool)) : Prop := ∀ x1 target2 r, f x1 target2 = some r → ∀ M nb, ACalls P c [(l_ x1), (i_ target2)] M nb (.tup [(i_ r.1), (b_ r.2)]) M nb
def Ql2 : List COp := [oo 4 .mov [cI 0], oo 5 .mov [.c (.d (.bool false))]]
def Ql3 : List COp := [oM 10 0, oo 11 .len [.t 10], oM 6 11]
def Ql4 : List COp := [oM 12 6, oo 7 .mov [cI 0], oM 8 12]
def Ql5 : List COp := [oM 13 7, oM 14 8, oo 15 (.bin .lss false) [.t 13, .t 14]]
def Ql6 : List COp := [oM 16 7, oM 17 8, oo 18 (.bin .add false) [.t 16, .t 17], oo 19 (.conv .u64) [.t 18], oo 20 (.bin .shr false) [.t 19, .c (.d (.int .u64 1))], oo 21 (.conv .i64) [.t 20], oM 9 21]
def Ql7 : List COp := [oM 22 0, oM 23 9, oo 24 (.idx 1) [.t 22, .t 23], oL 25 24, oM 26 1, oo 27 (.call 74) [.t 25, .t 26]]
def Ql8 : List COp := [oM 28 9, oo 29 (.bin .add false) [.t 28, cI 1], oM 7 29]
def Ql9 : List COp := [oM 30 9, oM 8 30]
def Qma : List COp := [oM 31 7, oM 32 7, oM 33 6, oo 34 (.bin .lss false) [.t 32, .t 33], oM 35 34, ⟨some 36, .mov, [.t 0], false, some (35, true)⟩, ⟨some 37, .mov, [.t 7], false, some (35, true)⟩, ⟨some 38, .idx 1, [.t 36, .t 37], false, some (35, true)⟩, ⟨some 39, .load false 1, [.t 38], false, some (35, true)⟩, ⟨some 40, .mov, [.t 1], false, some (35, true)⟩, ⟨some 41, .bin .eql false, [.t 39, .t 40], false, some (35, true)⟩, ⟨some 42, .mov, [.t 41], false, some (35, true)⟩, ⟨some 43, .mov, [.t 0], false, some (42, false)⟩, ⟨some 44, .mov, [.t 7], false, some (42, false)⟩, ⟨some 45, .idx 1, [.t 43, .t 44], false, some (42, false)⟩, ⟨some 46, .load false 1, [.t 45], false, some (42, false)⟩, ⟨some 47, .call 101, [.t 46], false, some (42, false)⟩, ⟨some 48, .mov, [.t 47], false, some (42, false)⟩, ⟨some 49, .mov, [.t 1], false, some (48, true)⟩, ⟨some 50, .call 101, [.t 49], false, some (48, true)⟩, ⟨some 51, .pick, [.t 48, .t 50, .c (.d (.bool false))], false, some (42, false)⟩, ⟨some 52, .pick, [.t 42, .c (.d (.bool true)), .t 51], false, some (35, true)⟩, oo 53 .pick [.t 35, .t 52, .c (.d (.bool false))], oM 4 31, oM 5 53]
def Qem : CFn := ⟨2, 54, [.t 4, .t 5], .seq (.region Ql2 9 []) (.seq (.region Ql3 9 []) (.seq (.region Ql4 9 []) (.seq (.block 0 (.loop [] (.seq (.seq (.region Ql5 9 []) (.cond (.t 15) (.skip) (.exit 0))) (.block 1 (.seq (.region Ql6 9 []) (.seq (.region Ql7 9 []) (.cond (.t 27) (.region Ql8 9 []) (.region Ql9 9 [])))))))) (.seq (.region Qma 9 []) (.ret)))))⟩
def Qbh (Qd2 : Int → Int → Option Bool) (Qb7 : Int → Option Bool) (fuel : Nat) (x1 : (List Int)) (target2 : Int) : Option (Int × Bool) :=
  ((Qfa (fun k5 ((i3, j4) : Int × Int) => (if (i3 < j4) then ((getO x1 (IntKind.wrap .i64 (Int.fdiv (IntKind.wrap .u64 (IntKind.wrap .i64 (i3 + j4))) (2 ^ (min (Int.toNat 1) (IntKind.bits .u64)))))).bind fun x7 => ((Qd2 x7 target2).bind fun x10 => (if x10 then k5 ((IntKind.wrap .i64 ((IntKind.wrap .i64 (Int.fdiv (IntKind.wrap .u64 (IntKind.wrap .i64 (i3 + j4))) (2 ^ (min (Int.toNat 1) (IntKind.bits .u64))))) + 1)), j4) else k5 (i3, (IntKind.wrap .i64 (Int.fdiv (IntKind.wrap .u64 (IntKind.wrap .i64 (i3 + j4))) (2 ^ (min (Int.toNat 1) (IntKind.bits .u64))))))))) else some i3)) fuel (0, (x1.length : Int))).bind fun (i12 : Int) => (if (i12 < (x1.length : Int)) then ((getO x1 i12).bind fun x14 => (if (x14 == target2) then some (i12, true) else ((getO x1 i12).bind fun x17 => ((Qb7 x17).bind fun x20 => (if x20 then ((Qb7 target2).bind fun x23 => some (i12, x23)) else some (i12, false)))))) else some (i12, false)))
def Qds (P : Program) (c : Nat) (f : (List Qh) → Int → (Qh → Int → Option Int) → Option (Int × Bool)) : Prop := ∀ x1 target2 cmp3 (g4 : Nat) (cp5 : List V) r, f x1 target2 cmp3 = some r → ∀ M nb, (V.dems cp5 = cp5) → (V.ons (There M) cp5) → (∀ a9 a10 r, cmp3 a9 a10 = some r → ∀ M2 nb2, nb ≤ nb2 → Ext M M2 → ACalls P g4 ([(Qbn a9), (i_ a10)] ++ cp5) M2 nb2 (i_ r) M2 nb2) → ACalls P c [.d (.lst 3 (List.map Qc x1)), (i_ target2), .clo g4 cp5] M nb (.tup [(i_ r.1), (b_ r.2)]) M nb
def Qiz : List COp := [oo 6 .mov [cI 0], oo 7 .mov [.c (.d (.bool false))]]
def Qi0 : List COp := [oM 12 0, oo 13 .len [.t 12], oM 8 13]
def Qi1 : List COp := [oM 14 8, oo 9 .mov [cI 0], oM 10 14]
def Qi2 : List COp := [oM 15 9, oM 16 10, oo 17 (.bin .lss false) [.t 15, .t 16]]
def Qi3 : List COp := [oM 18 9, oM 19 10, oo 20 (.bin .add false) [.t 18, .t 19], oo 21 (.conv .u64) [.t 20], oo 22 (.bin .shr false) [.t 21, .c (.d (.int .u64 1))], oo 23 (.conv .i64) [.t 22], oM 11 23]
def Qi4 : List COp := [oM 24 2, oM 25 0, oM 26 11, oo 27 (.idx 3) [.t 25, .t 26], oo 28 (.load true 3) [.t 27], oM 29 1, oo 30 .callv [.t 24, .t 28, .t 29], oo 31 (.bin .lss false) [.t 30, cI 0]]
def Qi5 : List COp := [oM 32 11, oo 33 (.bin .add false) [.t 32, cI 1], oM 9 33]
def Qi6 : List COp := [oM 34 11, oM 10 34]
def Qi7 : List COp := [oM 35 9, oM 36 9, oM 37 8, oo 38 (.bin .lss false) [.t 36, .t 37], oM 39 38, ⟨some 40, .mov, [.t 2], false, some (39, true)⟩, ⟨some 41, .mov, [.t 0], false, some (39, true)⟩, ⟨some 42, .mov, [.t 9], false, some (39, true)⟩, ⟨some 43, .idx 3, [.t 41, .t 42], false, some (39, true)⟩, ⟨some 44, .load true 3, [.t 43], false, some (39, true)⟩, ⟨some 45, .mov, [.t 1], false, some (39, true)⟩, ⟨some 46, .callv, [.t 40, .t 44, .t 45], false, some (39, true)⟩, ⟨some 47, .bin .eql false, [.t 46, cI 0], false, some (39, true)⟩, oo 48 .pick [.t 39, .t 47, .c (.d (.bool false))], oM 6 35, oM 7 48]
def Qdt : CFn := ⟨3, 49, [.t 6, .t 7], .seq (.region Qiz 9 []) (.seq (.region Qi0 9 []) (.seq (.region Qi1 9 []) (.seq (.block 0 (.loop [] (.seq (.seq (.region Qi2 9 []) (.cond (.t 17) (.skip) (.exit 0))) (.block 1 (.seq (.region Qi3 9 []) (.seq (.region Qi4 9 []) (.cond (.t 31) (.region Qi5 9 []) (.region Qi6 9 [])))))))) (.seq (.region Qi7 9 []) (.ret)))))⟩
def Q5 (fuel : Nat) (x1 : (List Qh)) (target2 : Int) (cmp3 : (Qh → Int → Option Int)) : Option (Int × Bool) :=
  ((Qfa (fun k13 ((i11, j12) : Int × Int) => (if (i11 < j12) then ((getO x1 (IntKind.wrap .i64 (Int.fdiv (IntKind.wrap .u64 (IntKind.wrap .i64 (i11 + j12))) (2 ^ (min (Int.toNat 1) (IntKind.bits .u64)))))).bind fun x15 => ((cmp3 x15 target2).bind fun x18 => (if (x18 < 0) then k13 ((IntKind.wrap .i64 ((IntKind.wrap .i64 (Int.fdiv (IntKind.wrap .u64 (IntKind.wrap .i64 (i11 + j12))) (2 ^ (min (Int.toNat 1) (IntKind.bits .u64))))) + 1)), j12) else k13 (i11, (IntKind.wrap .i64 (Int.fdiv (IntKind.wrap .u64 (IntKind.wrap .i64 (i11 + j12))) (2 ^ (min (Int.toNat 1) (IntKind.bits .u64))))))))) else some i11)) fuel (0, (x1.length : Int))).bind fun (i20 : Int) => (if (i20 < (x1.length : Int)) then ((getO x1 i20).bind fun x22 => ((cmp3 x22 target2).bind fun x25 => some (i20, (x25 == 0)))) else some (i20, false)))
def Qi8 (P : Program) (c : Nat) (f : Qh → Int → Option Int) : Prop := ∀ x1 s2 r, f x1 s2 = some r → ∀ M nb, ACalls P c [(Qbn x1), (i_ s2)] M nb (i_ r) M nb
def Qzs : List COp := [oo 2 (.box 3) [.t 0], oo 4 .mov [cI 0]]
def Qzt : List COp := [oF 5 0 2, oL 6 5, oM 7 1, oo 8 (.bin .sub false) [.t 6, .t 7], oM 4 8]
def Qi9 : CFn := ⟨2, 9, [.t 4], .seq (.region Qzs 9 []) (.seq (.region Qzt 9 []) (.ret))⟩
def Qcq (x1 : Qh) (s2 : Int) : Option Int :=
  some (IntKind.wrap .i64 (x1.From - s2))
def Qja (P : Program) (c : Nat) (f : Qh → Int → Option Int) : Prop := ∀ x1 s2 r, f x1 s2 = some r → ∀ M nb, ACalls P c [(Qbn x1), (i_ s2)] M nb (i_ r) M nb
def Qzu : List COp := [oo 2 (.box 3) [.t 0], oo 4 .mov [cI 0]]
def Qzv : List COp := [oF 5 0 2, oL 6 5, oM 7 1, oo 8 (.bin .sub false) [.t 6, .t 7], oM 4 8]
def Qjb : CFn := ⟨2, 9, [.t 4], .seq (.region Qzu 9 []) (.seq (.region Qzv 9 []) (.ret))⟩
def Qcr (x1 : Qh) (s2 : Int) : Option Int :=
  some (IntKind.wrap .i64 (x1.From - s2))
def Qmb (P : Program) (c : Nat) (f : Qb → Int → Option ((List Qh))) : Prop := ∀ a1 state2 r, f a1 state2 = some r → ∀ M nb, ACalls P c [(Qa a1), (i_ state2)] M nb (.d (.lst 3 (List.map Qc r))) M nb
def Q1u : List COp := [oo 2 (.box 4) [.t 0], ot 4 .mov [.c (.nils 3)]]
def Q1v : List COp := [oF 10 3 2, oL 11 10, oM 12 1, oo 13 (.call 102) [.t 11, .t 12, .c (.clo 103 [])], oM 9 13, oo 14 (.extract 0) [.t 9], oo 15 (.extract 1) [.t 9], oM 5 14, oM 6 15]
def Q1w : List COp := [oF 17 3 2, oL 18 17, oM 19 1, oo 20 (.bin .add false) [.t 19, cI 1], oo 21 (.call 102) [.t 18, .t 20, .c (.clo 104 [])], oM 16 21, oo 22 (.extract 0) [.t 16], oo 23 (.extract 1) [.t 16], oM 7 22, oM 8 23]
def Q1x : List COp := [oF 24 3 2, oL 25 24, oM 26 5, oM 27 7, oo 28 (.slice 3 true true) [.t 25, .t 26, .t 27], ot 4 .mov [.t 28]]
def Qmc : CFn := ⟨2, 29, [.t 4], .seq (.region Q1u 9 []) (.seq (.region Q1v 9 []) (.seq (.region Q1w 9 []) (.seq (.region Q1x 9 []) (.ret))))⟩
def Qdg (Q5 : (List Qh) → Int → (Qh → Int → Option Int) → Option (Int × Bool)) (Qcq : Qh → Int → Option Int) (Qcr : Qh → Int → Option Int) (a1 : Qb) (state2 : Int) : Option ((List Qh)) :=
  ((Q5 a1.Edges state2 Qcq).bind fun (r8, r9) => ((Q5 a1.Edges (IntKind.wrap .i64 (state2 + 1)) Qcr).bind fun (r15, r16) => ((slcO a1.Edges r8 r15).bind fun x17 => some x17)))
def Qf3 (P : Program) (c : Nat) (f : Qb → Option Qb) : Prop := ∀ a1 r, f a1 = some r → ∀ M nb, ACalls P c [(Qa a1)] M nb (Qa r) M nb
def Qrb : List COp := [oo 1 (.box 4) [.t 0], oo 2 (.alloc [.nils 1, .d (.int .i64 0), .nils 1, .nils 3]) []]
def Qrc : List COp := [oF 12 0 1, oL 13 12, oo 14 (.call 47) [.t 13], ot 15 (.build [.nils 1, .d (.int .i64 0), .nils 1, .nils 3] [(0, 1)]) [.t 14], oo 3 (.alloc [.nils 1, .d (.int .i64 0), .nils 1, .nils 3]) [], ⟨none, .store 4, [.t 3, .t 15], true, none⟩]
def Qrd : List COp := [oF 16 1 1, oL 17 16, oo 18 (.bin .eql false) [.t 17, cI 0]]
def Qre : List COp := [oo 19 (.load true 4) [.t 3], ⟨none, .store 4, [.t 2, .t 19], true, none⟩]
def Qrf : List COp := [oF 20 1 1, oL 21 20, oo 22 (.makes 1 8 [.d (.int .i64 0)]) [.t 21, .t 21], ot 4 .mov [.t 22]]
def Qrg : List COp := [oM 23 4, oo 24 .len [.t 23], oo 25 .mov [cI 0]]
def Qrh : List COp := [oo 26 (.bin .lss false) [.t 25, .t 24]]
def Qri : List COp := [oM 27 25, oM 5 27]
def Qrj : List COp := [oM 28 4, oM 29 5, oo 30 (.idx 1) [.t 28, .t 29], ⟨none, .store 1, [.t 30, cI (-1)], false, none⟩]
def Qrk : List COp := [oo 31 (.bin .add false) [.t 25, cI 1], oM 25 31]
def Qom : List COp := [oM 32 4, oo 33 (.idx 1) [.t 32, cI 0], ⟨none, .store 1, [.t 33, cI 0], false, none⟩]
def Qon : List COp := [oo 34 (.bslice 1 1 [.d (.int .i64 0)] [0]) [cI 0], ot 6 .mov [.t 34]]
def Qoo : List COp := [oo 7 .mov [cI 0]]
def Qop : List COp := [oM 35 7, oM 36 6, oo 37 .len [.t 36], oo 38 (.bin .lss false) [.t 35, .t 37]]
def Qoq : List COp := [oF 42 2 1, oL 43 42, oM 44 6, oM 45 7, oo 46 (.idx 1) [.t 44, .t 45], oL 47 46, oo 48 (.call 87) [.t 43, .t 47], oM 41 48, oo 49 (.extract 0) [.t 41], oo 50 (.extract 1) [.t 41], oM 8 49, oM 9 50]
def Qor : List COp := [oM 51 9]
def Qos : List COp := [oF 52 2 3, oo 53 .loadT [.t 52], oM 54 7, oo 55 (.bslice 1 1 [.d (.int .i64 0)] [0]) [.t 54], ot 56 (.append 1 8) [.t 53, .t 55], oF 57 2 3, ⟨none, .store 1, [.t 57, .t 56], true, none⟩]
def Qot : List COp := [oo 58 (.load true 4) [.t 1], oM 59 6, oM 60 7, oo 61 (.idx 1) [.t 59, .t 60], oL 62 61, oo 63 (.call 88) [.t 58, .t 62], oo 64 .len [.t 63], oo 65 .mov [cI 0]]
def Qou : List COp := [oo 66 (.bin .lss false) [.t 65, .t 64]]
def Qov : List COp := [oo 67 (.idx 3) [.t 63, .t 65], oo 68 (.load true 3) [.t 67], oo 11 (.alloc [.d (.int .i64 0), .d (.int .i64 0), .d (.int .i64 0)]) [], ⟨none, .store 3, [.t 11, .t 68], false, none⟩]
def Qow : List COp := [oM 69 4, oF 70 2 11, oL 71 70, oo 72 (.idx 1) [.t 69, .t 71], oL 73 72, oo 74 (.bin .lss false) [.t 73, cI 0]]
def Qox : List COp := [oM 75 4, oF 76 2 11, oL 77 76, oM 78 6, oo 79 .len [.t 78], oo 80 (.idx 1) [.t 75, .t 77], ⟨none, .store 1, [.t 80, .t 79], false, none⟩]
def Qoy : List COp := [ot 81 .mov [.t 6], oF 82 2 11, oL 83 82, oo 84 (.bslice 1 1 [.d (.int .i64 0)] [0]) [.t 83], ot 85 (.append 1 8) [.t 81, .t 84], ot 6 .mov [.t 85]]
def Qoz : List COp := [oF 86 3 3, oo 87 .loadT [.t 86], oM 88 7, oF 89 1 11, oL 90 89, oM 91 4, oF 92 2 11, oL 93 92, oo 94 (.idx 1) [.t 91, .t 93], oL 95 94, oo 96 (.build [.d (.int .i64 0), .d (.int .i64 0), .d (.int .i64 0)] [(0, 1), (1, 1), (2, 1)]) [.t 88, .t 90, .t 95], oo 97 (.bslice 3 1 [.d (.int .i64 0), .d (.int .i64 0), .d (.int .i64 0)] [0]) [.t 96], ot 98 (.append 3 24) [.t 87, .t 97], oF 99 3 3, ⟨none, .store 1, [.t 99, .t 98], true, none⟩]
def Qo0 : List COp := [oo 100 (.bin .add false) [.t 65, cI 1], oM 65 100]
def Qo1 : List COp := [oM 39 7, oo 40 (.bin .add false) [.t 39, cI 1], oM 7 40]
def Qo2 : List COp := [oM 101 6, oo 102 .len [.t 101], oF 103 1 3, ⟨none, .store 1, [.t 103, .t 102], false, none⟩]
def Qo3 : List COp := [oo 104 (.load true 4) [.t 3], ⟨none, .store 4, [.t 2, .t 104], true, none⟩]
def Qf4 : CFn := ⟨1, 105, [.cell 2 true 4], .seq (.region Qrb 9 []) (.seq (.region Qrc 9 []) (.seq (.seq (.region Qrd 9 []) (.cond (.t 18) (.seq (.region Qre 9 []) (.ret)) (.skip))) (.seq (.region Qrf 9 []) (.seq (.seq (.region Qrg 9 []) (.block 0 (.loop [] (.seq (.region Qrh 9 []) (.seq (.cond (.t 26) (.skip) (.exit 0)) (.seq (.block 1 (.seq (.region Qri 9 []) (.region Qrj 9 []))) (.region Qrk 9 []))))))) (.seq (.region Qom 9 []) (.seq (.region Qon 9 []) (.seq (.seq (.region Qoo 9 []) (.block 2 (.loop [55, 11, 84, 97] (.seq (.seq (.region Qop 9 []) (.cond (.t 38) (.skip) (.exit 2))) (.seq (.block 3 (.seq (.seq (.region Qoq 0 []) (.seq (.region Qor 9 []) (.cond (.t 51) (.region Qos 9 []) (.skip)))) (.seq (.region Qot 0 []) (.block 4 (.loop [11, 84, 97] (.seq (.region Qou 9 []) (.seq (.cond (.t 66) (.skip) (.exit 4)) (.seq (.block 5 (.seq (.region Qov 9 []) (.seq (.seq (.region Qow 9 []) (.cond (.t 74) (.seq (.region Qox 9 []) (.region Qoy 9 [])) (.skip))) (.region Qoz 0 [])))) (.region Qo0 9 []))))))))) (.region Qo1 9 [])))))) (.seq (.region Qo2 9 []) (.seq (.region Qo3 9 []) (.ret))))))))))⟩
def Qbx (Qbe : (List Int) → Option ((List Int))) (Qbh : (List Int) → Int → Option (Int × Bool)) (Qdg : Qb → Int → Option ((List Qh))) (fuel : Nat) (a1 : Qb) : Option Qb :=
  ((Qbe a1.Alphabet).bind fun x3 => (if (a1.States == 0) then some (Qb.mk x3 0 [] []) else ((mkO a1.States 0).bind fun x5 => ((Qfa (fun k9 ((x7, c8) : Int × (List Int)) => (if (x7 < ((Int.toNat a1.States) : Int)) then ((inO (Int.toNat a1.States) x7).bind fun u11 => ((setO c8 x7 (-1)).bind fun x13 => k9 ((IntKind.wrap .i64 (x7 + 1)), x13))) else some c8)) fuel (0, x5)).bind fun (c15 : List Int) => ((inO (Int.toNat a1.States) 0).bind fun u16 => ((setO c15 0 0).bind fun x18 => ((Qfa (fun k28 ((order20, i21, c22, c23, c24, r25, r26, c27) : (List Int) × Int × (List Int) × (List Int) × (List Qh) × (List Int) × (List Qh) × (List Int)) => (if (i21 < (order20.length : Int)) then ((((((getO order20 i21).bind fun x30 => ((Qbh a1.Marked x30).bind fun (r33, r34) => (if r34 then ((appO r25 [i21]).bind fun x36 => some x36) else some r25)))).bind fun (r38 : List Int) => ((getO order20 i21).bind fun x39 => ((Qdg a1 x39).bind fun x42 => Qfa (fun k47 ((order43, x44, r45, c46) : (List Int) × Int × (List Qh) × (List Int)) => (if (x44 < (x42.length : Int)) then ((getO x42 x44).bind fun x49 => ((((inO (Int.toNat a1.States) x49.To).bind fun u51 => ((getO c46 x49.To).bind fun x53 => (if (x53 < 0) then ((inO (Int.toNat a1.States) x49.To).bind fun u56 => ((setO c46 x49.To (order43.length : Int)).bind fun x58 => ((appO order43 [x49.To]).bind fun x60 => some (x60, x58)))) else some (order43, c46))))).bind fun ((order62, c63) : (List Int) × (List Int)) => ((inO (Int.toNat a1.States) x49.To).bind fun u64 => ((getO c63 x49.To).bind fun x66 => ((appO r45 [(Qh.mk i21 x49.Event x66)]).bind fun x68 => k47 (order62, (IntKind.wrap .i64 (x44 + 1)), x68, c63)))))) else some (order43, r38, r45, c46))) fuel (order20, 0, r26, c27))))).bind fun ((order70, r71, r72, c73) : (List Int) × (List Int) × (List Qh) × (List Int)) => k28 (order70, (IntKind.wrap .i64 (i21 + 1)), c22, c23, c24, r71, r72, c73)) else some (order20, c22, c23, c24, r25, r26, c27))) fuel ([0], 0, [], [], [], [], [], x18)).bind fun ((order74, c75, c76, c77, r78, r79, c80) : (List Int) × (List Int) × (List Int) × (List Qh) × (List Int) × (List Qh) × (List Int)) => some (Qb.mk x3 (order74.length : Int) r78 r79))))))))
def Qf5 (P : Program) (c : Nat) (f : Qb → Option (Qb × Int)) : Prop := ∀ a1 r, f a1 = some r → ∀ M nb, ACalls P c [(Qa a1)] M nb (.tup [(Qa r.1), (i_ r.2)]) M nb
def Qrl : List COp := [oo 1 (.box 4) [.t 0], oo 2 (.alloc [.nils 1, .d (.int .i64 0), .nils 1, .nils 3]) [], oo 3 .mov [cI 0]]
def Qrm : List COp := [oo 5 (.load true 4) [.t 1], oo 6 (.call 53) [.t 5], oM 4 6]
def Qrn : List COp := [oM 7 4, oo 8 (.bin .neq false) [.t 7, cI 0]]
def Qro : List COp := [oo 9 (.build [.nils 1, .d (.int .i64 0), .nils 1, .nils 3] []) [], oM 10 4, ⟨none, .store 4, [.t 2, .t 9], true, none⟩, oM 3 10]
def Qrp : List COp := [oo 11 (.load true 4) [.t 1], oo 12 (.call 59) [.t 11], ⟨none, .store 4, [.t 2, .t 12], true, none⟩, oo 3 .mov [cI 0]]
def Qf6 : CFn := ⟨1, 13, [.cell 2 true 4, .t 3], .seq (.region Qrl 9 []) (.seq (.seq (.region Qrm 9 []) (.seq (.region Qrn 9 []) (.cond (.t 8) (.seq (.region Qro 9 []) (.ret)) (.skip)))) (.seq (.region Qrp 9 []) (.ret)))⟩
def Qby (Qbd : Qb → Option Int) (Qbx : Qb → Option Qb) (a1 : Qb) : Option (Qb × Int) :=
  ((Qbd a1).bind fun x3 => (if (x3 != 0) then some ((Qb.mk [] 0 [] []), x3) else ((Qbx a1).bind fun x6 => some (x6, 0))))
def Qex (P : Program) (c : Nat) (f : Qb → (List Int) → Option (Qb × Int)) : Prop := ∀ a1 alphabet2 r, f a1 alphabet2 = some r → ∀ M nb, ACalls P c [(Qa a1), (l_ alphabet2)] M nb (.tup [(Qa r.1), (i_ r.2)]) M nb
def Qt3 : List COp := [oo 2 (.box 4) [.t 0], oo 4 (.alloc [.nils 1, .d (.int .i64 0), .nils 1, .nils 3]) [], oo 5 .mov [cI 0]]
def Qt4 : List COp := [oo 11 (.load true 4) [.t 2], oM 12 1, oo 13 (.call 30) [.t 11, .t 12], oM 6 13]
def Qt5 : List COp := [oM 14 6, oo 15 (.bin .neq false) [.t 14, cI 0]]
def Qt6 : List COp := [oo 16 (.build [.nils 1, .d (.int .i64 0), .nils 1, .nils 3] []) [], oM 17 6, ⟨none, .store 4, [.t 4, .t 16], true, none⟩, oM 5 17]
def Qt7 : List COp := [oF 18 1 2, oL 19 18, oF 20 2 2, oL 21 20, oF 22 3 2, oL 23 22, oo 24 (.call 31) [.t 23], ot 25 (.build [.nils 1, .d (.int .i64 0), .nils 1, .nils 3] [(1, 1), (2, 1), (3, 1)]) [.t 19, .t 21, .t 24], oo 7 (.alloc [.nils 1, .d (.int .i64 0), .nils 1, .nils 3]) [], ⟨none, .store 4, [.t 7, .t 25], true, none⟩]
def Qt8 : List COp := [oF 26 0 2, oL 27 26, oM 28 1, oo 29 (.bslice 1 2 [.nils 1] [0, 1]) [.t 27, .t 28], oo 30 (.call 32) [.t 29], oF 31 0 7, ⟨none, .store 1, [.t 31, .t 30], true, none⟩]
def Qt9 : List COp := [oF 32 0 7, oL 33 32, oo 34 (.call 33) [.t 33]]
def Qua : List COp := [oF 35 0 7, oL 36 35, oo 37 (.call 34) [.t 36], oF 38 0 7, ⟨none, .store 1, [.t 38, .t 37], true, none⟩]
def Qub : List COp := [oF 39 1 2, oL 40 39, oo 41 .mov [cI 0]]
def Quc : List COp := [oo 42 (.bin .lss false) [.t 41, .t 40]]
def Qrq : List COp := [oM 43 41, oM 8 43]
def Qrr : List COp := [oF 44 0 7, oL 45 44, oo 46 .len [.t 45], oo 47 .mov [cI 0]]
def Qrs : List COp := [oo 48 (.bin .lss false) [.t 47, .t 46]]
def Qrt : List COp := [oo 49 (.idx 1) [.t 45, .t 47], oL 50 49, oM 10 50]
def Qru : List COp := [oF 51 0 2, oL 52 51, oM 53 10, oo 54 (.call 35) [.t 52, .t 53], oo 55 (.un .not) [.t 54]]
def Qrv : List COp := [oF 56 3 7, oo 57 .loadT [.t 56], oM 58 8, oM 59 10, oM 60 8, oo 61 (.build [.d (.int .i64 0), .d (.int .i64 0), .d (.int .i64 0)] [(0, 1), (1, 1), (2, 1)]) [.t 58, .t 59, .t 60], oo 62 (.bslice 3 1 [.d (.int .i64 0), .d (.int .i64 0), .d (.int .i64 0)] [0]) [.t 61], ot 63 (.append 3 24) [.t 57, .t 62], oF 64 3 7, ⟨none, .store 1, [.t 64, .t 63], true, none⟩]
def Qrw : List COp := [oo 65 (.bin .add false) [.t 47, cI 1], oM 47 65]
def Qrx : List COp := [oo 66 (.bin .add false) [.t 41, cI 1], oM 41 66]
def Qry : List COp := [oF 67 3 7, oL 68 67, oo 69 (.call 36) [.t 68, .c (.clo 37 [])]]
def Qrz : List COp := [oo 70 (.load true 4) [.t 7], oo 71 (.call 38) [.t 70], oo 72 (.extract 0) [.t 71], oo 73 (.extract 1) [.t 71], ⟨none, .store 4, [.t 4, .t 72], true, none⟩, oM 5 73]
def Qgq : CFn := ⟨2, 74, [.cell 4 true 4, .t 5], .seq (.region Qt3 9 []) (.seq (.seq (.region Qt4 9 []) (.seq (.region Qt5 9 []) (.cond (.t 15) (.seq (.region Qt6 9 []) (.ret)) (.skip)))) (.seq (.region Qt7 1 []) (.seq (.region Qt8 9 []) (.seq (.region Qt9 9 []) (.seq (.region Qua 9 []) (.seq (.seq (.region Qub 9 []) (.block 0 (.loop [62] (.seq (.region Quc 9 []) (.seq (.cond (.t 42) (.skip) (.exit 0)) (.seq (.block 1 (.seq (.region Qrq 9 []) (.seq (.region Qrr 9 []) (.block 2 (.loop [62] (.seq (.region Qrs 9 []) (.seq (.cond (.t 48) (.skip) (.exit 2)) (.seq (.block 3 (.seq (.region Qrt 9 []) (.seq (.region Qru 9 []) (.cond (.t 55) (.region Qrv 9 []) (.skip))))) (.region Qrw 9 []))))))))) (.region Qrx 9 []))))))) (.seq (.region Qry 9 []) (.seq (.region Qrz 9 []) (.ret)))))))))⟩
def Q7 (Qp : Qb → (List Int) → Option Int) (Qcf : (List Qh) → Option ((List Qh))) (Qcg : (List (List Int)) → Option ((List Int))) (f_slices_Sort_int : List Int → Option (List Int)) (f_slices_Compact_int : List Int → Option (List Int)) (Qi : (List Int) → Int → Option Bool) (f_slices_SortFunc_Edge : List Qh → Option (List Qh)) (Qby : Qb → Option (Qb × Int)) (fuel : Nat) (a1 : Qb) (alphabet2 : (List Int)) : Option (Qb × Int) :=
  ((Qp a1 alphabet2).bind fun x4 => (if (x4 != 0) then some ((Qb.mk [] 0 [] []), x4) else ((Qcf a1.Edges).bind fun x7 => ((Qcg [a1.Alphabet, alphabet2]).bind fun x9 => ((f_slices_Sort_int x9).bind fun row10 => ((f_slices_Compact_int row10).bind fun row16 => ((Qfa (fun k26 ((x24, r25) : Int × (List Qh)) => (if (x24 < a1.States) then ((Qfa (fun k30 ((x28, r29) : Int × (List Qh)) => (if (x28 < (row16.length : Int)) then ((((getO row16 x28).bind fun x32 => ((Qi a1.Alphabet x32).bind fun x35 => (if x35 then some r29 else ((appO r29 [(Qh.mk x24 x32 x24)]).bind fun x37 => some x37))))).bind fun (r39 : List Qh) => k30 ((IntKind.wrap .i64 (x28 + 1)), r39)) else some r29)) fuel (0, r25)).bind fun (r40 : List Qh) => k26 ((IntKind.wrap .i64 (x24 + 1)), r40)) else some r25)) fuel (0, x7)).bind fun (r41 : List Qh) => ((f_slices_SortFunc_Edge r41).bind fun row42 => ((Qby (Qb.mk row16 a1.States a1.Marked row42)).bind fun (r52, r53) => some (r52, r53))))))))))
def Qcs (P : Program) (c : Nat) (f : (List Int) → (List Int) → Option Bool) : Prop := ∀ a1 b2 r, f a1 b2 = some r → ∀ M nb, ACalls P c [(l_ a1), (l_ b2)] M nb (b_ r) M nb
def Qmt : List COp := [oo 4 .mov [.c (.d (.bool false))]]
def Qmu : List COp := [oM 6 0, oo 7 .len [.t 6], oM 8 1, oo 9 .len [.t 8], oo 10 (.bin .neq false) [.t 7, .t 9]]
def Qmv : List COp := [oo 4 .mov [.c (.d (.bool false))]]
def Qmw : List COp := [oo 5 .mov [cI 0]]
def Qmx : List COp := [oM 11 5, oM 12 0, oo 13 .len [.t 12], oo 14 (.bin .lss false) [.t 11, .t 13]]
def Qmy : List COp := [oM 17 0, oM 18 5, oo 19 (.idx 1) [.t 17, .t 18], oL 20 19, oM 21 1, oM 22 5, oo 23 (.idx 1) [.t 21, .t 22], oL 24 23, oo 25 (.bin .neq false) [.t 20, .t 24]]
def Qmz : List COp := [oo 4 .mov [.c (.d (.bool false))]]
def Qm0 : List COp := [oM 15 5, oo 16 (.bin .add false) [.t 15, cI 1], oM 5 16]
def Qm1 : List COp := [oo 4 .mov [.c (.d (.bool true))]]
def Qe3 : CFn := ⟨2, 26, [.t 4], .seq (.region Qmt 9 []) (.seq (.seq (.region Qmu 9 []) (.cond (.t 10) (.seq (.region Qmv 9 []) (.ret)) (.skip))) (.seq (.seq (.region Qmw 9 []) (.block 0 (.loop [] (.seq (.seq (.region Qmx 9 []) (.cond (.t 14) (.skip) (.exit 0))) (.seq (.block 1 (.seq (.region Qmy 0 []) (.cond (.t 25) (.seq (.region Qmz 9 []) (.ret)) (.skip)))) (.region Qm0 9 [])))))) (.seq (.region Qm1 9 []) (.ret))))⟩
def Qv (fuel : Nat) (a1 : (List Int)) (b2 : (List Int)) : Option Bool :=
  (if ((a1.length : Int) != (b2.length : Int)) then some false else Qfa (fun k5 (i4 : Int) => (if (i4 < (a1.length : Int)) then ((getO a1 i4).bind fun x7 => ((getO b2 i4).bind fun x9 => (if (x7 != x9) then some false else k5 (IntKind.wrap .i64 (i4 + 1))))) else some true)) fuel 0)
def Qgr (P : Program) (c : Nat) (f : Qb → Qb → Option Bool) : Prop := ∀ a1 b2 r, f a1 b2 = some r → ∀ M nb, ACalls P c [(Qa a1), (Qa b2)] M nb (b_ r) M nb
def Qud : List COp := [oo 2 (.box 4) [.t 0], oo 3 (.box 4) [.t 1], oo 4 .mov [.c (.d (.bool false))]]
def Que : List COp := [oF 6 0 2, oL 7 6, oF 8 0 3, oL 9 8, oo 10 (.call 19) [.t 7, .t 9], oo 11 (.un .not) [.t 10], oM 12 11, ⟨some 13, .fld 1, [.t 2], false, some (12, false)⟩, ⟨some 14, .load false 1, [.t 13], false, some (12, false)⟩, ⟨some 15, .fld 1, [.t 3], false, some (12, false)⟩, ⟨some 16, .load false 1, [.t 15], false, some (12, false)⟩, ⟨some 17, .bin .neq false, [.t 14, .t 16], false, some (12, false)⟩, oo 18 .pick [.t 12, .c (.d (.bool true)), .t 17], oM 19 18, ⟨some 20, .fld 2, [.t 2], false, some (19, false)⟩, ⟨some 21, .load false 1, [.t 20], false, some (19, false)⟩, ⟨some 22, .fld 2, [.t 3], false, some (19, false)⟩, ⟨some 23, .load false 1, [.t 22], false, some (19, false)⟩, ⟨some 24, .call 19, [.t 21, .t 23], false, some (19, false)⟩, ⟨some 25, .un .not, [.t 24], false, some (19, false)⟩, oo 26 .pick [.t 19, .c (.d (.bool true)), .t 25], oM 27 26, ⟨some 28, .fld 3, [.t 2], false, some (27, false)⟩, ⟨some 29, .load false 1, [.t 28], false, some (27, false)⟩, ⟨some 30, .len, [.t 29], false, some (27, false)⟩, ⟨some 31, .fld 3, [.t 3], false, some (27, false)⟩, ⟨some 32, .load false 1, [.t 31], false, some (27, false)⟩, ⟨some 33, .len, [.t 32], false, some (27, false)⟩, ⟨some 34, .bin .neq false, [.t 30, .t 33], false, some (27, false)⟩, oo 35 .pick [.t 27, .c (.d (.bool true)), .t 34]]
def Quf : List COp := [oo 4 .mov [.c (.d (.bool false))]]
def Qug : List COp := [oo 5 .mov [cI 0]]
def Quh : List COp := [oM 36 5, oF 37 3 2, oL 38 37, oo 39 .len [.t 38], oo 40 (.bin .lss false) [.t 36, .t 39]]
def Qui : List COp := [oF 43 3 2, oL 44 43, oM 45 5, oo 46 (.idx 3) [.t 44, .t 45], oo 47 (.load true 3) [.t 46], oF 48 3 3, oL 49 48, oM 50 5, oo 51 (.idx 3) [.t 49, .t 50], oo 52 (.load true 3) [.t 51], oo 53 (.eqa true [0, 0, 0]) [.t 47, .t 52]]
def Quj : List COp := [oo 4 .mov [.c (.d (.bool false))]]
def Quk : List COp := [oM 41 5, oo 42 (.bin .add false) [.t 41, cI 1], oM 5 42]
def Qul : List COp := [oo 4 .mov [.c (.d (.bool true))]]
def Qgs : CFn := ⟨2, 54, [.t 4], .seq (.region Qud 9 []) (.seq (.seq (.region Que 9 []) (.cond (.t 35) (.seq (.region Quf 9 []) (.ret)) (.skip))) (.seq (.seq (.region Qug 9 []) (.block 0 (.loop [] (.seq (.seq (.region Quh 9 []) (.cond (.t 40) (.skip) (.exit 0))) (.seq (.block 1 (.seq (.region Qui 0 []) (.cond (.t 53) (.seq (.region Quj 9 []) (.ret)) (.skip)))) (.region Quk 9 [])))))) (.seq (.region Qul 9 []) (.ret))))⟩
def Qb3 (Qv : (List Int) → (List Int) → Option Bool) (fuel : Nat) (a1 : Qb) (b2 : Qb) : Option Bool :=
  ((((Qv a1.Alphabet b2.Alphabet).bind fun x4 => (if x4 then (if (a1.States != b2.States) then some true else ((Qv a1.Marked b2.Marked).bind fun x8 => (if x8 then some ((a1.Edges.length : Int) != (b2.Edges.length : Int)) else some true))) else some true))).bind fun (x10 : Bool) => (if x10 then some false else Qfa (fun k13 (i12 : Int) => (if (i12 < (a1.Edges.length : Int)) then ((getO a1.Edges i12).bind fun x15 => ((getO b2.Edges i12).bind fun x17 => (if ((x15.From == x17.From) && ((x15.Event == x17.Event) && ((x15.To == x17.To) && true))) then k13 (IntKind.wrap .i64 (i12 + 1)) else some false))) else some true)) fuel 0))
def Qen (P : Program) (c : Nat) (f : (List (List Int)) → (List (List Int)) → Option Bool) : Prop := ∀ a1 b2 r, f a1 b2 = some r → ∀ M nb, ACalls P c [.d (.lst 1 (List.map (eL 1 (eI .i64)) a1)), .d (.lst 1 (List.map (eL 1 (eI .i64)) b2))] M nb (b_ r) M nb
def Qmd : List COp := [oo 4 .mov [.c (.d (.bool false))]]
def Qme : List COp := [oM 6 0, oo 7 .len [.t 6], oM 8 1, oo 9 .len [.t 8], oo 10 (.bin .neq false) [.t 7, .t 9]]
def Qmf : List COp := [oo 4 .mov [.c (.d (.bool false))]]
def Qmg : List COp := [oo 5 .mov [cI 0]]
def Qmh : List COp := [oM 11 5, oM 12 0, oo 13 .len [.t 12], oo 14 (.bin .lss false) [.t 11, .t 13]]
def Qmi : List COp := [oM 17 0, oM 18 5, oo 19 (.idx 1) [.t 17, .t 18], oL 20 19, oM 21 1, oM 22 5, oo 23 (.idx 1) [.t 21, .t 22], oL 24 23, oo 25 (.call 19) [.t 20, .t 24], oo 26 (.un .not) [.t 25]]
def Qmj : List COp := [oo 4 .mov [.c (.d (.bool false))]]
def Qmk : List COp := [oM 15 5, oo 16 (.bin .add false) [.t 15, cI 1], oM 5 16]
def Qml : List COp := [oo 4 .mov [.c (.d (.bool true))]]
def Qeo : CFn := ⟨2, 27, [.t 4], .seq (.region Qmd 9 []) (.seq (.seq (.region Qme 9 []) (.cond (.t 10) (.seq (.region Qmf 9 []) (.ret)) (.skip))) (.seq (.seq (.region Qmg 9 []) (.block 0 (.loop [] (.seq (.seq (.region Qmh 9 []) (.cond (.t 14) (.skip) (.exit 0))) (.seq (.block 1 (.seq (.region Qmi 0 []) (.cond (.t 26) (.seq (.region Qmj 9 []) (.ret)) (.skip)))) (.region Qmk 9 [])))))) (.seq (.region Qml 9 []) (.ret))))⟩
def Qbi (Qv : (List Int) → (List Int) → Option Bool) (fuel : Nat) (a1 : (List (List Int))) (b2 : (List (List Int))) : Option Bool :=
  (if ((a1.length : Int) != (b2.length : Int)) then some false else Qfa (fun k5 (i4 : Int) => (if (i4 < (a1.length : Int)) then ((getO a1 i4).bind fun x7 => ((getO b2 i4).bind fun x9 => ((Qv x7 x9).bind fun x12 => (if x12 then k5 (IntKind.wrap .i64 (i4 + 1)) else some false)))) else some true)) fuel 0)
def Qf7 (P : Program) (c : Nat) (f : Option Bool) : Prop := ∀ r, f = some r → ∀ M nb, ACalls P c [] M nb (b_ r) M nb
def Qr0 : List COp := [oo 0 .mov [.c (.d (.bool false))]]
def Qr1 : List COp := [oo 10 (.call 26) [], oo 1 (.alloc [.nils 1, .d (.int .i64 0), .nils 1, .nils 3]) [], ⟨none, .store 4, [.t 1, .t 10], true, none⟩]
def Qr2 : List COp := [oo 12 (.load true 4) [.t 1], oo 13 (.bslice 1 1 [.d (.int .i64 0)] [0]) [cI 1], oo 14 (.call 14) [.t 12, .t 13], oM 11 14, oo 15 (.extract 0) [.t 11], ot 16 (.extract 1) [.t 11], oo 17 (.extract 2) [.t 11], oo 2 (.alloc [.nils 1, .d (.int .i64 0), .nils 1, .nils 3]) [], ⟨none, .store 4, [.t 2, .t 15], true, none⟩, ot 3 .mov [.t 16], oM 4 17]
def Qr3 : List COp := [oo 19 (.load true 4) [.t 1], oo 20 (.bslice 1 1 [.d (.int .i64 0)] [0]) [cI 1], oo 21 (.bslice 1 1 [.d (.int .i64 0)] [0]) [cI 1], oo 22 (.call 16) [.t 19, .t 20, .t 21, .c (.d (.bool true))], oM 18 22, ot 23 (.extract 0) [.t 18], oo 24 (.extract 1) [.t 18], oo 25 (.extract 2) [.t 18], ot 5 .mov [.t 23], oM 6 24, oM 7 25]
def Qr4 : List COp := [oo 27 (.bslice 1 1 [.d (.int .i64 0)] [0]) [cI 1], ot 28 (.build [.nils 1, .d (.int .i64 0), .nils 1, .nils 3] [(0, 1), (1, 1)]) [.t 27, cI 1], oo 29 (.bslice 1 2 [.d (.int .i64 0)] [0, 1]) [cI 0, cI 1], oo 30 (.call 11) [.t 28, .t 29], oM 26 30, oo 31 (.extract 0) [.t 26], oo 32 (.extract 1) [.t 26], oo 8 (.alloc [.nils 1, .d (.int .i64 0), .nils 1, .nils 3]) [], ⟨none, .store 4, [.t 8, .t 31], true, none⟩, oM 9 32]
def Qr5 : List COp := [oM 33 4, oo 34 (.bin .eql false) [.t 33, cI 0], oM 35 34, ⟨some 36, .load true 4, [.t 2], false, some (35, true)⟩, ⟨some 37, .bslice 1 1 [.d (.int .i64 0)] [0], [cI 1], false, some (35, true)⟩, ⟨some 38, .bslice 1 1 [.d (.int .i64 0)] [0], [cI 1], false, some (35, true)⟩, ⟨some 39, .build [.d (.int .i64 0), .d (.int .i64 0), .d (.int .i64 0)] [(0, 1), (1, 1), (2, 1)], [cI 0, cI 1, cI 1], false, some (35, true)⟩, ⟨some 40, .build [.d (.int .i64 0), .d (.int .i64 0), .d (.int .i64 0)] [(0, 1), (1, 1), (2, 1)], [cI 1, cI 1, cI 1], false, some (35, true)⟩, ⟨some 41, .bslice 3 2 [.d (.int .i64 0), .d (.int .i64 0), .d (.int .i64 0)] [0, 1], [.t 39, .t 40], false, some (35, true)⟩, ⟨some 42, .build [.nils 1, .d (.int .i64 0), .nils 1, .nils 3] [(0, 1), (1, 1), (2, 1), (3, 1)], [.t 37, cI 2, .t 38, .t 41], true, some (35, true)⟩, ⟨some 43, .call 12, [.t 36, .t 42], false, some (35, true)⟩, oo 44 .pick [.t 35, .t 43, .c (.d (.bool false))], oM 45 44, ⟨some 46, .mov, [.t 3], false, some (45, true)⟩, ⟨some 47, .bslice 1 2 [.d (.int .i64 0)] [0, 1], [cI 0, cI 1], false, some (45, true)⟩, ⟨some 48, .bslice 1 3 [.d (.int .i64 0)] [0, 1, 2], [cI 0, cI 1, cI 2], false, some (45, true)⟩, ⟨some 49, .bslice 1 2 [.nils 1] [0, 1], [.t 47, .t 48], false, some (45, true)⟩, ⟨some 50, .call 27, [.t 46, .t 49], false, some (45, true)⟩, oo 51 .pick [.t 45, .t 50, .c (.d (.bool false))], oM 52 51, ⟨some 53, .mov, [.t 7], false, some (52, true)⟩, ⟨some 54, .bin .eql false, [.t 53, cI 0], false, some (52, true)⟩, oo 55 .pick [.t 52, .t 54, .c (.d (.bool false))], oM 56 55, ⟨some 57, .mov, [.t 6], false, some (56, true)⟩, oo 58 .pick [.t 56, .t 57, .c (.d (.bool false))], oM 59 58, ⟨some 60, .mov, [.t 5], false, some (59, true)⟩, ⟨some 61, .bslice 1 2 [.d (.int .i64 0)] [0, 1], [cI 0, cI 1], false, some (59, true)⟩, ⟨some 62, .call 19, [.t 60, .t 61], false, some (59, true)⟩, oo 63 .pick [.t 59, .t 62, .c (.d (.bool false))], oM 64 63, ⟨some 65, .mov, [.t 9], false, some (64, true)⟩, ⟨some 66, .bin .eql false, [.t 65, cI 0], false, some (64, true)⟩, oo 67 .pick [.t 64, .t 66, .c (.d (.bool false))], oM 68 67, ⟨some 69, .fld 3, [.t 8], false, some (68, true)⟩, ⟨some 70, .load false 1, [.t 69], false, some (68, true)⟩, ⟨some 71, .len, [.t 70], false, some (68, true)⟩, ⟨some 72, .bin .eql false, [.t 71, cI 1], false, some (68, true)⟩, oo 73 .pick [.t 68, .t 72, .c (.d (.bool false))], oM 0 73]
def Qf8 : CFn := ⟨0, 74, [.t 0], .seq (.region Qr0 9 []) (.seq (.region Qr1 9 []) (.seq (.region Qr2 9 []) (.seq (.region Qr3 9 []) (.seq (.region Qr4 9 []) (.seq (.region Qr5 9 []) (.ret))))))⟩
def Qbq (Q7 : Qb → (List Int) → Option (Qb × Int)) (Qb3 : Qb → Qb → Option Bool) (Q6 : Qb → (List Int) → Option (Qb × (List (List Int)) × Int)) (Qbf : Qb → (List Int) → (List Int) → Bool → Option ((List Int) × Bool × Int)) (Qv : (List Int) → (List Int) → Option Bool) (Qbo : Option Qb) (Qbi : (List (List Int)) → (List (List Int)) → Option Bool) : Option Bool :=
  (Qbo.bind fun x2 => ((Q6 x2 [1]).bind fun (r4, r5, r6) => ((Qbf x2 [1] [1] true).bind fun (r8, r9, r10) => ((Q7 (Qb.mk [1] 1 [] []) [0, 1]).bind fun (r12, r13) => (((if (r6 == 0) then ((Qb3 r4 (Qb.mk [1] 2 [1] [(Qh.mk 0 1 1), (Qh.mk 1 1 1)])).bind fun x16 => (if x16 then ((Qbi r5 ([[0, 1], [0, 1, 2]])).bind fun x19 => (if x19 then (if (r10 == 0) then (if r9 then ((Qv r8 [0, 1]).bind fun x24 => (if x24 then (if (r13 == 0) then some ((r12.Edges.length : Int) == 1) else some false) else some false)) else some false) else some false) else some false)) else some false)) else some false)).bind fun (x27 : Bool) => some x27)))))
def Qey (P : Program) (c : Nat) (f : (List Int) → Int → Option Int) : Prop := ∀ l1 most2 r, f l1 most2 = some r → ∀ M nb, ACalls P c [(l_ l1), (i_ most2)] M nb (i_ r) M nb
def Qum : List COp := [oo 4 .mov [cI 0]]
def Qun : List COp := [oo 5 .mov [cI 0]]
def Quo : List COp := [oM 6 5, oM 7 0, oo 8 .len [.t 7], oo 9 (.bin .lss false) [.t 6, .t 8]]
def Qup : List COp := [oM 12 0, oM 13 5, oo 14 (.idx 1) [.t 12, .t 13], oL 15 14, oo 16 (.bin .lss false) [.t 15, cI 0], oM 17 16, ⟨some 18, .mov, [.t 0], false, some (17, false)⟩, ⟨some 19, .mov, [.t 5], false, some (17, false)⟩, ⟨some 20, .idx 1, [.t 18, .t 19], false, some (17, false)⟩, ⟨some 21, .load false 1, [.t 20], false, some (17, false)⟩, ⟨some 22, .mov, [.t 1], false, some (17, false)⟩, ⟨some 23, .bin .geq false, [.t 21, .t 22], false, some (17, false)⟩, oo 24 .pick [.t 17, .c (.d (.bool true)), .t 23]]
def Quq : List COp := [oo 4 .mov [cI 2]]
def Qur : List COp := [oM 25 5, oo 26 (.bin .gtr false) [.t 25, cI 0], oM 27 26, ⟨some 28, .mov, [.t 0], false, some (27, true)⟩, ⟨some 29, .mov, [.t 5], false, some (27, true)⟩, ⟨some 30, .idx 1, [.t 28, .t 29], false, some (27, true)⟩, ⟨some 31, .load false 1, [.t 30], false, some (27, true)⟩, ⟨some 32, .mov, [.t 0], false, some (27, true)⟩, ⟨some 33, .mov, [.t 5], false, some (27, true)⟩, ⟨some 34, .bin .sub false, [.t 33, cI 1], false, some (27, true)⟩, ⟨some 35, .idx 1, [.t 32, .t 34], false, some (27, true)⟩, ⟨some 36, .load false 1, [.t 35], false, some (27, true)⟩, ⟨some 37, .bin .leq false, [.t 31, .t 36], false, some (27, true)⟩, oo 38 .pick [.t 27, .t 37, .c (.d (.bool false))]]
def Qus : List COp := [oo 4 .mov [cI 5]]
def Qut : List COp := [oM 10 5, oo 11 (.bin .add false) [.t 10, cI 1], oM 5 11]
def Quu : List COp := [oo 4 .mov [cI 0]]
def Qgt : CFn := ⟨2, 39, [.t 4], .seq (.region Qum 9 []) (.seq (.seq (.region Qun 9 []) (.block 0 (.loop [] (.seq (.seq (.region Quo 9 []) (.cond (.t 9) (.skip) (.exit 0))) (.seq (.block 1 (.seq (.seq (.region Qup 9 []) (.cond (.t 24) (.seq (.region Quq 9 []) (.ret)) (.skip))) (.seq (.region Qur 0 []) (.cond (.t 38) (.seq (.region Qus 9 []) (.ret)) (.skip))))) (.region Qut 9 [])))))) (.seq (.region Quu 9 []) (.ret)))⟩
def Q2 (fuel : Nat) (l1 : (List Int)) (most2 : Int) : Option Int :=
  Qfa (fun k4 (i3 : Int) => (if (i3 < (l1.length : Int)) then ((((getO l1 i3).bind fun x6 => (if (x6 < 0) then some true else ((getO l1 i3).bind fun x9 => some (decide (x9 ≥ most2)))))).bind fun (x11 : Bool) => (if x11 then some 2 else (((if (i3 > 0) then ((getO l1 i3).bind fun x14 => ((getO l1 (IntKind.wrap .i64 (i3 - 1))).bind fun x16 => some (decide (x14 ≤ x16)))) else some false)).bind fun (x18 : Bool) => (if x18 then some 5 else k4 (IntKind.wrap .i64 (i3 + 1)))))) else some 0)) fuel 0
def Qg8 (P : Program) (c : Nat) (f : (List Int) → Int → Option Bool) : Prop := ∀ l1 n2 r, f l1 n2 = some r → ∀ M nb, ACalls P c [(l_ l1), (i_ n2)] M nb (b_ r) M nb
def Qv0 : List COp := [oo 4 .mov [.c (.d (.bool false))]]
def Qv1 : List COp := [oo 5 .mov [cI 0]]
def Qv2 : List COp := [oM 6 5, oM 7 0, oo 8 .len [.t 7], oo 9 (.bin .lss false) [.t 6, .t 8]]
def Qv3 : List COp := [oM 12 0, oM 13 5, oo 14 (.idx 1) [.t 12, .t 13], oL 15 14, oM 16 1, oo 17 (.bin .eql false) [.t 15, .t 16]]
def Qv4 : List COp := [oo 4 .mov [.c (.d (.bool true))]]
def Qv5 : List COp := [oM 10 5, oo 11 (.bin .add false) [.t 10, cI 1], oM 5 11]
def Qv6 : List COp := [oo 4 .mov [.c (.d (.bool false))]]
def Qg9 : CFn := ⟨2, 18, [.t 4], .seq (.region Qv0 9 []) (.seq (.seq (.region Qv1 9 []) (.block 0 (.loop [] (.seq (.seq (.region Qv2 9 []) (.cond (.t 9) (.skip) (.exit 0))) (.seq (.block 1 (.seq (.region Qv3 9 []) (.cond (.t 17) (.seq (.region Qv4 9 []) (.ret)) (.skip)))) (.region Qv5 9 [])))))) (.seq (.region Qv6 9 []) (.ret)))⟩
def Qb1 (fuel : Nat) (l1 : (List Int)) (n2 : Int) : Option Bool :=
  Qfa (fun k4 (i3 : Int) => (if (i3 < (l1.length : Int)) then ((getO l1 i3).bind fun x6 => (if (x6 == n2) then some true else k4 (IntKind.wrap .i64 (i3 + 1)))) else some false)) fuel 0
def Qf9 (P : Program) (c : Nat) (f : Qb → Option Int) : Prop := ∀ a1 r, f a1 = some r → ∀ M nb, ACalls P c [(Qa a1)] M nb (i_ r) M nb
def Qr6 : List COp := [oo 1 (.box 4) [.t 0], oo 2 .mov [cI 0]]
def Qr7 : List COp := [oF 7 0 1, oL 8 7, oo 9 (.call 8) [.t 8, cI 32], oM 3 9]
def Qr8 : List COp := [oM 10 3, oo 11 (.bin .neq false) [.t 10, cI 0]]
def Qr9 : List COp := [oM 12 3, oM 2 12]
def Qsa : List COp := [oF 13 1 1, oL 14 13, oo 15 (.bin .lss false) [.t 14, cI 0]]
def Qsb : List COp := [oo 2 .mov [cI 2]]
def Qsc : List COp := [oF 16 1 1, oL 17 16, oo 18 (.bin .gtr false) [.t 17, cI 4096]]
def Qsd : List COp := [oo 2 .mov [cI 3]]
def Qse : List COp := [oF 19 2 1, oL 20 19, oF 21 1 1, oL 22 21, oo 23 (.call 8) [.t 20, .t 22], oM 4 23]
def Qsf : List COp := [oM 24 4, oo 25 (.bin .neq false) [.t 24, cI 0]]
def Qo4 : List COp := [oM 26 4, oM 2 26]
def Qo5 : List COp := [oo 5 .mov [cI 0]]
def Qo6 : List COp := [oM 27 5, oF 28 3 1, oL 29 28, oo 30 .len [.t 29], oo 31 (.bin .lss false) [.t 27, .t 30]]
def Qo7 : List COp := [oF 34 3 1, oL 35 34, oM 36 5, oo 37 (.idx 3) [.t 35, .t 36], oo 38 (.load true 3) [.t 37], oo 6 (.alloc [.d (.int .i64 0), .d (.int .i64 0), .d (.int .i64 0)]) [], ⟨none, .store 3, [.t 6, .t 38], false, none⟩]
def Qo8 : List COp := [oF 39 0 6, oL 40 39, oo 41 (.bin .lss false) [.t 40, cI 0], oM 42 41, ⟨some 43, .fld 0, [.t 6], false, some (42, false)⟩, ⟨some 44, .load false 1, [.t 43], false, some (42, false)⟩, ⟨some 45, .fld 1, [.t 1], false, some (42, false)⟩, ⟨some 46, .load false 1, [.t 45], false, some (42, false)⟩, ⟨some 47, .bin .geq false, [.t 44, .t 46], false, some (42, false)⟩, oo 48 .pick [.t 42, .c (.d (.bool true)), .t 47], oM 49 48, ⟨some 50, .fld 2, [.t 6], false, some (49, false)⟩, ⟨some 51, .load false 1, [.t 50], false, some (49, false)⟩, ⟨some 52, .bin .lss false, [.t 51, cI 0], false, some (49, false)⟩, oo 53 .pick [.t 49, .c (.d (.bool true)), .t 52], oM 54 53, ⟨some 55, .fld 2, [.t 6], false, some (54, false)⟩, ⟨some 56, .load false 1, [.t 55], false, some (54, false)⟩, ⟨some 57, .fld 1, [.t 1], false, some (54, false)⟩, ⟨some 58, .load false 1, [.t 57], false, some (54, false)⟩, ⟨some 59, .bin .geq false, [.t 56, .t 58], false, some (54, false)⟩, oo 60 .pick [.t 54, .c (.d (.bool true)), .t 59]]
def Qo9 : List COp := [oo 2 .mov [cI 2]]
def Qpa : List COp := [oF 61 0 1, oL 62 61, oF 63 1 6, oL 64 63, oo 65 (.call 48) [.t 62, .t 64], oo 66 (.un .not) [.t 65]]
def Qpb : List COp := [oo 2 .mov [cI 9]]
def Qpc : List COp := [oM 67 5, oo 68 (.bin .gtr false) [.t 67, cI 0], oM 69 68, ⟨some 70, .fld 0, [.t 6], false, some (69, true)⟩, ⟨some 71, .load false 1, [.t 70], false, some (69, true)⟩, ⟨some 72, .fld 3, [.t 1], false, some (69, true)⟩, ⟨some 73, .load false 1, [.t 72], false, some (69, true)⟩, ⟨some 74, .mov, [.t 5], false, some (69, true)⟩, ⟨some 75, .bin .sub false, [.t 74, cI 1], false, some (69, true)⟩, ⟨some 76, .idx 3, [.t 73, .t 75], false, some (69, true)⟩, ⟨some 77, .fld 0, [.t 76], false, some (69, true)⟩, ⟨some 78, .load false 1, [.t 77], false, some (69, true)⟩, ⟨some 79, .bin .lss false, [.t 71, .t 78], false, some (69, true)⟩, ⟨some 80, .mov, [.t 79], false, some (69, true)⟩, ⟨some 81, .fld 0, [.t 6], false, some (80, false)⟩, ⟨some 82, .load false 1, [.t 81], false, some (80, false)⟩, ⟨some 83, .fld 3, [.t 1], false, some (80, false)⟩, ⟨some 84, .load false 1, [.t 83], false, some (80, false)⟩, ⟨some 85, .mov, [.t 5], false, some (80, false)⟩, ⟨some 86, .bin .sub false, [.t 85, cI 1], false, some (80, false)⟩, ⟨some 87, .idx 3, [.t 84, .t 86], false, some (80, false)⟩, ⟨some 88, .fld 0, [.t 87], false, some (80, false)⟩, ⟨some 89, .load false 1, [.t 88], false, some (80, false)⟩, ⟨some 90, .bin .eql false, [.t 82, .t 89], false, some (80, false)⟩, ⟨some 91, .mov, [.t 90], false, some (80, false)⟩, ⟨some 92, .fld 1, [.t 6], false, some (91, true)⟩, ⟨some 93, .load false 1, [.t 92], false, some (91, true)⟩, ⟨some 94, .fld 3, [.t 1], false, some (91, true)⟩, ⟨some 95, .load false 1, [.t 94], false, some (91, true)⟩, ⟨some 96, .mov, [.t 5], false, some (91, true)⟩, ⟨some 97, .bin .sub false, [.t 96, cI 1], false, some (91, true)⟩, ⟨some 98, .idx 3, [.t 95, .t 97], false, some (91, true)⟩, ⟨some 99, .fld 1, [.t 98], false, some (91, true)⟩, ⟨some 100, .load false 1, [.t 99], false, some (91, true)⟩, ⟨some 101, .bin .leq false, [.t 93, .t 100], false, some (91, true)⟩, ⟨some 102, .pick, [.t 91, .t 101, .c (.d (.bool false))], false, some (80, false)⟩, ⟨some 103, .pick, [.t 80, .c (.d (.bool true)), .t 102], false, some (69, true)⟩, oo 104 .pick [.t 69, .t 103, .c (.d (.bool false))]]
def Qpd : List COp := [oo 2 .mov [cI 5]]
def Qpe : List COp := [oM 32 5, oo 33 (.bin .add false) [.t 32, cI 1], oM 5 33]
def Qpf : List COp := [oo 2 .mov [cI 0]]
def Qga : CFn := ⟨1, 105, [.t 2], .seq (.region Qr6 9 []) (.seq (.seq (.region Qr7 9 []) (.seq (.region Qr8 9 []) (.cond (.t 11) (.seq (.region Qr9 9 []) (.ret)) (.skip)))) (.seq (.seq (.region Qsa 9 []) (.cond (.t 15) (.seq (.region Qsb 9 []) (.ret)) (.skip))) (.seq (.seq (.region Qsc 9 []) (.cond (.t 18) (.seq (.region Qsd 9 []) (.ret)) (.skip))) (.seq (.seq (.region Qse 9 []) (.seq (.region Qsf 9 []) (.cond (.t 25) (.seq (.region Qo4 9 []) (.ret)) (.skip)))) (.seq (.seq (.region Qo5 9 []) (.block 0 (.loop [6] (.seq (.seq (.region Qo6 9 []) (.cond (.t 31) (.skip) (.exit 0))) (.seq (.block 1 (.seq (.region Qo7 9 []) (.seq (.seq (.region Qo8 9 []) (.cond (.t 60) (.seq (.region Qo9 9 []) (.ret)) (.skip))) (.seq (.seq (.region Qpa 9 []) (.cond (.t 66) (.seq (.region Qpb 9 []) (.ret)) (.skip))) (.seq (.region Qpc 0 []) (.cond (.t 104) (.seq (.region Qpd 9 []) (.ret)) (.skip))))))) (.region Qpe 9 [])))))) (.seq (.region Qpf 9 []) (.ret)))))))⟩
def Qbr (Q2 : (List Int) → Int → Option Int) (Qb1 : (List Int) → Int → Option Bool) (fuel : Nat) (a1 : Qb) : Option Int :=
  ((Q2 a1.Alphabet 32).bind fun x3 => (if (x3 != 0) then some x3 else (if (a1.States < 0) then some 2 else (if (a1.States > 4096) then some 3 else ((Q2 a1.Marked a1.States).bind fun x8 => (if (x8 != 0) then some x8 else Qfa (fun k11 (i10 : Int) => (if (i10 < (a1.Edges.length : Int)) then ((getO a1.Edges i10).bind fun x13 => (((if (x13.From < 0) then some true else (if (x13.From ≥ a1.States) then some true else (if (x13.To < 0) then some true else some (decide (x13.To ≥ a1.States)))))).bind fun (x18 : Bool) => (if x18 then some 2 else ((Qb1 a1.Alphabet x13.Event).bind fun x21 => (if x21 then (((if (i10 > 0) then ((getO a1.Edges (IntKind.wrap .i64 (i10 - 1))).bind fun x24 => (if (x13.From < x24.From) then some true else ((getO a1.Edges (IntKind.wrap .i64 (i10 - 1))).bind fun x27 => (if (x13.From == x27.From) then ((getO a1.Edges (IntKind.wrap .i64 (i10 - 1))).bind fun x30 => some (decide (x13.Event ≤ x30.Event))) else some false)))) else some false)).bind fun (x32 : Bool) => (if x32 then some 5 else k11 (IntKind.wrap .i64 (i10 + 1)))) else some 9))))) else some 0)) fuel 0))))))
def Qh6 (P : Program) (c : Nat) (f : Qb → (List Int) → (List Int) → Option ((List Int) × Int)) : Prop := ∀ a1 xfrom2 events3 r, f a1 xfrom2 events3 = some r → ∀ M nb, ACalls P c [(Qa a1), (l_ xfrom2), (l_ events3)] M nb (.tup [(l_ r.1), (i_ r.2)]) M nb
def Qx4 : List COp := [oo 3 (.box 4) [.t 0], ot 6 .mov [.c (.nils 1)], oo 7 .mov [cI 0]]
def Qx5 : List COp := [oo 10 (.load true 4) [.t 3], oM 11 2, oo 12 (.call 30) [.t 10, .t 11], oM 8 12]
def Qx6 : List COp := [oM 13 8, oo 14 (.bin .neq false) [.t 13, cI 0]]
def Qx7 : List COp := [oM 15 8, ot 6 .mov [.c (.nils 1)], oM 7 15]
def Qx8 : List COp := [oM 16 1, oF 17 1 3, oL 18 17, oo 19 (.call 49) [.t 16, .t 18], oM 9 19]
def Qx9 : List COp := [oM 20 9, oo 21 (.bin .neq false) [.t 20, cI 0]]
def Qya : List COp := [oM 22 9, ot 6 .mov [.c (.nils 1)], oM 7 22]
def Qyb : List COp := [oo 23 (.load true 4) [.t 3], oo 24 (.call 41) [.t 23, .c (.nils 1)], oM 25 1, oM 26 2, oo 27 (.call 50) [.t 24, .t 25, .t 26], ot 6 .mov [.t 27], oo 7 .mov [cI 0]]
def Qh7 : CFn := ⟨3, 28, [.t 6, .t 7], .seq (.region Qx4 9 []) (.seq (.seq (.region Qx5 9 []) (.seq (.region Qx6 9 []) (.cond (.t 14) (.seq (.region Qx7 9 []) (.ret)) (.skip)))) (.seq (.seq (.region Qx8 9 []) (.seq (.region Qx9 9 []) (.cond (.t 21) (.seq (.region Qya 9 []) (.ret)) (.skip)))) (.seq (.region Qyb 9 []) (.ret))))⟩
def Qb8 (Qp : Qb → (List Int) → Option Int) (Qq : Qb → (List Int) → Option Qe) (Qx : (List Int) → Int → Option Int) (Qs : Qe → (List Int) → (List Int) → Option ((List Int))) (a1 : Qb) (xfrom2 : (List Int)) (events3 : (List Int)) : Option ((List Int) × Int) :=
  ((Qp a1 events3).bind fun x5 => (if (x5 != 0) then some ([], x5) else ((Qx xfrom2 a1.States).bind fun x8 => (if (x8 != 0) then some ([], x8) else ((Qq a1 []).bind fun x11 => ((Qs x11 xfrom2 events3).bind fun x13 => some (x13, 0)))))))
def Qgb (P : Program) (c : Nat) (f : Qb → (List Int) → (List Int) → Option ((List Int) × Int)) : Prop := ∀ a1 onto2 observation3 r, f a1 onto2 observation3 = some r → ∀ M nb, ACalls P c [(Qa a1), (l_ onto2), (l_ observation3)] M nb (.tup [(l_ r.1), (i_ r.2)]) M nb
def Qsg : List COp := [oo 3 (.box 4) [.t 0], ot 6 .mov [.c (.nils 1)], oo 7 .mov [cI 0]]
def Qsh : List COp := [oo 13 (.load true 4) [.t 3], oM 14 1, oo 15 (.call 30) [.t 13, .t 14], oM 8 15]
def Qsi : List COp := [oM 16 8, oo 17 (.bin .neq false) [.t 16, cI 0]]
def Qsj : List COp := [oM 18 8, ot 6 .mov [.c (.nils 1)], oM 7 18]
def Qsk : List COp := [oo 19 (.load true 4) [.t 3], oM 20 1, oo 21 (.call 41) [.t 19, .t 20], oo 9 (.alloc [.nils 1, .nils 1, .nils 1, .nils 1]) [], ⟨none, .store 4, [.t 9, .t 21], true, none⟩]
def Qsl : List COp := [oo 22 (.load true 4) [.t 9], oM 23 2, oo 24 (.call 46) [.t 22, .t 23], oo 25 (.un .not) [.t 24]]
def Qsm : List COp := [ot 6 .mov [.c (.nils 1)], oo 7 .mov [cI 9]]
def Qsn : List COp := [oo 26 (.load true 4) [.t 9], oo 27 (.call 42) [.t 26], ot 10 .mov [.t 27]]
def Qso : List COp := [oM 28 2, oo 29 .len [.t 28], oo 30 .mov [cI 0]]
def Qsp : List COp := [oo 31 (.bin .lss false) [.t 30, .t 29]]
def Qpg : List COp := [oo 32 (.idx 1) [.t 28, .t 30], oL 33 32, oM 12 33]
def Qph : List COp := [oo 34 (.load true 4) [.t 9], oM 35 10, oM 36 12, oo 37 (.call 45) [.t 34, .t 35, .t 36], ot 10 .mov [.t 37]]
def Qpi : List COp := [oo 38 (.bin .add false) [.t 30, cI 1], oM 30 38]
def Qpj : List COp := [ot 39 .mov [.t 10], ot 6 .mov [.t 39], oo 7 .mov [cI 0]]
def Qgc : CFn := ⟨3, 40, [.t 6, .t 7], .seq (.region Qsg 9 []) (.seq (.seq (.region Qsh 9 []) (.seq (.region Qsi 9 []) (.cond (.t 17) (.seq (.region Qsj 9 []) (.ret)) (.skip)))) (.seq (.region Qsk 9 []) (.seq (.seq (.region Qsl 9 []) (.cond (.t 25) (.seq (.region Qsm 9 []) (.ret)) (.skip))) (.seq (.region Qsn 9 []) (.seq (.seq (.region Qso 9 []) (.block 0 (.loop [] (.seq (.region Qsp 9 []) (.seq (.cond (.t 31) (.skip) (.exit 0)) (.seq (.block 1 (.seq (.region Qpg 9 []) (.region Qph 9 []))) (.region Qpi 9 []))))))) (.seq (.region Qpj 9 []) (.ret)))))))⟩
def Qbs (Qp : Qb → (List Int) → Option Int) (Qq : Qb → (List Int) → Option Qe) (Qy : Qe → Option ((List Int))) (Qu : Qe → (List Int) → Int → Option ((List Int))) (Qt : Qe → (List Int) → Option Bool) (fuel : Nat) (a1 : Qb) (onto2 : (List Int)) (observation3 : (List Int)) : Option ((List Int) × Int) :=
  ((Qp a1 onto2).bind fun x5 => (if (x5 != 0) then some ([], x5) else ((Qq a1 onto2).bind fun x8 => ((Qt x8 observation3).bind fun x10 => (if x10 then ((Qy x8).bind fun x13 => ((Qfa (fun k16 ((l14, x15) : (List Int) × Int) => (if (x15 < (observation3.length : Int)) then ((getO observation3 x15).bind fun x18 => ((Qu x8 l14 x18).bind fun x21 => k16 (x21, (IntKind.wrap .i64 (x15 + 1))))) else some l14)) fuel (x13, 0)).bind fun (l22 : List Int) => some (l22, 0))) else some ([], 9))))))
def Qjc (P : Program) (c : Nat) (f : Qb → (List Int) → (List Int) → Int → Option ((List Int) × Int)) : Prop := ∀ a1 onto2 estimate3 event4 r, f a1 onto2 estimate3 event4 = some r → ∀ M nb, ACalls P c [(Qa a1), (l_ onto2), (l_ estimate3), (i_ event4)] M nb (.tup [(l_ r.1), (i_ r.2)]) M nb
def Qzw : List COp := [oo 4 (.box 4) [.t 0], ot 8 .mov [.c (.nils 1)], oo 9 .mov [cI 0]]
def Qzx : List COp := [oo 13 (.load true 4) [.t 4], oM 14 1, oo 15 (.call 30) [.t 13, .t 14], oM 10 15]
def Qzy : List COp := [oM 16 10, oo 17 (.bin .neq false) [.t 16, cI 0]]
def Qzz : List COp := [oM 18 10, ot 8 .mov [.c (.nils 1)], oM 9 18]
def Qz0 : List COp := [oM 19 2, oF 20 1 4, oL 21 20, oo 22 (.call 49) [.t 19, .t 21], oM 11 22]
def Qz1 : List COp := [oM 23 11, oo 24 (.bin .neq false) [.t 23, cI 0]]
def Qz2 : List COp := [oM 25 11, ot 8 .mov [.c (.nils 1)], oM 9 25]
def Qz3 : List COp := [oo 26 (.load true 4) [.t 4], oM 27 1, oo 28 (.call 41) [.t 26, .t 27], oo 12 (.alloc [.nils 1, .nils 1, .nils 1, .nils 1]) [], ⟨none, .store 4, [.t 12, .t 28], true, none⟩]
def Qz4 : List COp := [oo 29 (.load true 4) [.t 12], oM 30 3, oo 31 (.bslice 1 1 [.d (.int .i64 0)] [0]) [.t 30], oo 32 (.call 46) [.t 29, .t 31], oo 33 (.un .not) [.t 32]]
def Qz5 : List COp := [ot 8 .mov [.c (.nils 1)], oo 9 .mov [cI 9]]
def Qyc : List COp := [oo 34 (.load true 4) [.t 12], oM 35 2, oM 36 3, oo 37 (.call 45) [.t 34, .t 35, .t 36], ot 8 .mov [.t 37], oo 9 .mov [cI 0]]
def Qjd : CFn := ⟨4, 38, [.t 8, .t 9], .seq (.region Qzw 9 []) (.seq (.seq (.region Qzx 9 []) (.seq (.region Qzy 9 []) (.cond (.t 17) (.seq (.region Qzz 9 []) (.ret)) (.skip)))) (.seq (.seq (.region Qz0 9 []) (.seq (.region Qz1 9 []) (.cond (.t 24) (.seq (.region Qz2 9 []) (.ret)) (.skip)))) (.seq (.region Qz3 9 []) (.seq (.seq (.region Qz4 9 []) (.cond (.t 33) (.seq (.region Qz5 9 []) (.ret)) (.skip))) (.seq (.region Qyc 9 []) (.ret))))))⟩
def Qci (Qp : Qb → (List Int) → Option Int) (Qq : Qb → (List Int) → Option Qe) (Qu : Qe → (List Int) → Int → Option ((List Int))) (Qt : Qe → (List Int) → Option Bool) (Qx : (List Int) → Int → Option Int) (a1 : Qb) (onto2 : (List Int)) (estimate3 : (List Int)) (event4 : Int) : Option ((List Int) × Int) :=
  ((Qp a1 onto2).bind fun x6 => (if (x6 != 0) then some ([], x6) else ((Qx estimate3 a1.States).bind fun x9 => (if (x9 != 0) then some ([], x9) else ((Qq a1 onto2).bind fun x12 => ((Qt x12 [event4]).bind fun x14 => (if x14 then ((Qu x12 estimate3 event4).bind fun x17 => some (x17, 0)) else some ([], 9))))))))
def Qgu (P : Program) (c : Nat) (f : Qb → Option Bool) : Prop := ∀ a1 r, f a1 = some r → ∀ M nb, ACalls P c [(Qa a1)] M nb (b_ r) M nb
def Quv : List COp := [oo 1 (.box 4) [.t 0], oo 2 .mov [.c (.d (.bool false))]]
def Quw : List COp := [oF 3 0 1, oL 4 3, oo 5 .len [.t 4], oF 6 1 1, oL 7 6, oo 8 (.bin .add false) [.t 5, .t 7], oF 9 2 1, oL 10 9, oo 11 .len [.t 10], oo 12 (.bin .add false) [.t 8, .t 11], oF 13 3 1, oL 14 13, oo 15 .len [.t 14], oo 16 (.bin .add false) [.t 12, .t 15], oo 17 (.bin .eql false) [.t 16, cI 0], oM 2 17]
def Qgv : CFn := ⟨1, 18, [.t 2], .seq (.region Quv 9 []) (.seq (.region Quw 9 []) (.ret))⟩
def Qbu (a1 : Qb) : Option Bool :=
  some ((IntKind.wrap .i64 ((IntKind.wrap .i64 ((IntKind.wrap .i64 ((a1.Alphabet.length : Int) + a1.States)) + (a1.Marked.length : Int))) + (a1.Edges.length : Int))) == 0)
def Qer (P : Program) (c : Nat) (f : Qb → (List Int) → Option Bool) : Prop := ∀ a1 onto2 r, f a1 onto2 = some r → ∀ M nb, ACalls P c [(Qa a1), (l_ onto2)] M nb (b_ r) M nb
def Qho : List COp := [oo 2 (.box 4) [.t 0], oo 4 .mov [.c (.d (.bool false))]]
def Qhp : List COp := [oo 20 (.call 7) [], oo 21 (.un .not) [.t 20], oM 22 21, ⟨some 23, .fld 0, [.t 2], false, some (22, false)⟩, ⟨some 24, .load false 1, [.t 23], false, some (22, false)⟩, ⟨some 25, .len, [.t 24], false, some (22, false)⟩, ⟨some 26, .bin .gtr false, [.t 25, cI 12], false, some (22, false)⟩, oo 27 .pick [.t 22, .c (.d (.bool true)), .t 26], oM 28 27, ⟨some 29, .fld 2, [.t 2], false, some (28, false)⟩, ⟨some 30, .load false 1, [.t 29], false, some (28, false)⟩, ⟨some 31, .len, [.t 30], false, some (28, false)⟩, ⟨some 32, .bin .gtr false, [.t 31, cI 12], false, some (28, false)⟩, oo 33 .pick [.t 28, .c (.d (.bool true)), .t 32], oM 34 33, ⟨some 35, .fld 3, [.t 2], false, some (34, false)⟩, ⟨some 36, .load false 1, [.t 35], false, some (34, false)⟩, ⟨some 37, .len, [.t 36], false, some (34, false)⟩, ⟨some 38, .bin .gtr false, [.t 37, cI 12], false, some (34, false)⟩, oo 39 .pick [.t 34, .c (.d (.bool true)), .t 38], oM 40 39, ⟨some 41, .mov, [.t 1], false, some (40, false)⟩, ⟨some 42, .len, [.t 41], false, some (40, false)⟩, ⟨some 43, .bin .gtr false, [.t 42, cI 8], false, some (40, false)⟩, oo 44 .pick [.t 40, .c (.d (.bool true)), .t 43]]
def Qhq : List COp := [oo 45 (.call 7) [], oM 4 45]
def Qhr : List COp := [oo 46 (.load true 4) [.t 2], oo 47 (.call 21) [.t 46], oM 5 47]
def Qhs : List COp := [oM 48 5, oo 49 (.bin .eql false) [.t 48, cI 0]]
def Qht : List COp := [oM 50 1, oo 51 (.call 8) [.t 50, cI 32], oM 5 51]
def Qhu : List COp := [oM 52 5, oo 53 (.bin .eql false) [.t 52, cI 0]]
def Qhv : List COp := [oo 4 .mov [.c (.d (.bool true))]]
def Qhw : List COp := [oo 55 (.load true 4) [.t 2], oM 56 1, oo 57 (.call 14) [.t 55, .t 56], oM 54 57, oo 58 (.extract 0) [.t 54], ot 59 (.extract 1) [.t 54], oo 60 (.extract 2) [.t 54], oo 6 (.alloc [.nils 1, .d (.int .i64 0), .nils 1, .nils 3]) [], ⟨none, .store 4, [.t 6, .t 58], true, none⟩, ot 7 .mov [.t 59], oM 8 60]
def Qhx : List COp := [oo 62 (.load true 4) [.t 2], oM 63 1, oo 64 (.call 11) [.t 62, .t 63], oM 61 64, oo 65 (.extract 0) [.t 61], oo 66 (.extract 1) [.t 61], oo 9 (.alloc [.nils 1, .d (.int .i64 0), .nils 1, .nils 3]) [], ⟨none, .store 4, [.t 9, .t 65], true, none⟩, oM 10 66]
def Qha : List COp := [oo 68 (.load true 4) [.t 2], oM 69 1, oo 70 (.call 22) [.t 68, .c (.nils 1), .t 69], oM 67 70, ot 71 (.extract 0) [.t 67], oo 72 (.extract 1) [.t 67], ot 11 .mov [.t 71], oM 12 72]
def Qhb : List COp := [oo 74 (.load true 4) [.t 2], oM 75 1, oo 76 (.call 23) [.t 74, .t 75, .c (.nils 1)], oM 73 76, ot 77 (.extract 0) [.t 73], oo 78 (.extract 1) [.t 73], ot 13 .mov [.t 77], oM 14 78]
def Qhc : List COp := [oo 80 (.load true 4) [.t 2], oM 81 1, oo 82 (.call 24) [.t 80, .t 81, .c (.nils 1), cI 0], oM 79 82, ot 83 (.extract 0) [.t 79], oo 84 (.extract 1) [.t 79], ot 15 .mov [.t 83], oM 16 84]
def Qhd : List COp := [oo 86 (.load true 4) [.t 2], oM 87 1, oo 88 (.call 16) [.t 86, .t 87, .c (.nils 1), .c (.d (.bool false))], oM 85 88, ot 89 (.extract 0) [.t 85], oo 90 (.extract 1) [.t 85], oo 91 (.extract 2) [.t 85], ot 17 .mov [.t 89], oM 18 90, oM 19 91]
def Qhe : List COp := [oo 92 (.load true 4) [.t 6], oo 93 (.call 25) [.t 92], oM 94 93, ⟨some 95, .mov, [.t 7], false, some (94, true)⟩, ⟨some 96, .len, [.t 95], false, some (94, true)⟩, ⟨some 97, .bin .eql false, [.t 96, cI 0], false, some (94, true)⟩, oo 98 .pick [.t 94, .t 97, .c (.d (.bool false))], oM 99 98, ⟨some 100, .mov, [.t 8], false, some (99, true)⟩, ⟨some 101, .mov, [.t 5], false, some (99, true)⟩, ⟨some 102, .bin .eql false, [.t 100, .t 101], false, some (99, true)⟩, oo 103 .pick [.t 99, .t 102, .c (.d (.bool false))], oM 104 103, ⟨some 105, .load true 4, [.t 9], false, some (104, true)⟩, ⟨some 106, .call 25, [.t 105], false, some (104, true)⟩, oo 107 .pick [.t 104, .t 106, .c (.d (.bool false))], oM 108 107, ⟨some 109, .mov, [.t 10], false, some (108, true)⟩, ⟨some 110, .mov, [.t 5], false, some (108, true)⟩, ⟨some 111, .bin .eql false, [.t 109, .t 110], false, some (108, true)⟩, oo 112 .pick [.t 108, .t 111, .c (.d (.bool false))], oM 113 112, ⟨some 114, .mov, [.t 11], false, some (113, true)⟩, ⟨some 115, .len, [.t 114], false, some (113, true)⟩, ⟨some 116, .bin .eql false, [.t 115, cI 0], false, some (113, true)⟩, oo 117 .pick [.t 113, .t 116, .c (.d (.bool false))], oM 118 117, ⟨some 119, .mov, [.t 12], false, some (118, true)⟩, ⟨some 120, .mov, [.t 5], false, some (118, true)⟩, ⟨some 121, .bin .eql false, [.t 119, .t 120], false, some (118, true)⟩, oo 122 .pick [.t 118, .t 121, .c (.d (.bool false))], oM 123 122, ⟨some 124, .mov, [.t 13], false, some (123, true)⟩, ⟨some 125, .len, [.t 124], false, some (123, true)⟩, ⟨some 126, .bin .eql false, [.t 125, cI 0], false, some (123, true)⟩, oo 127 .pick [.t 123, .t 126, .c (.d (.bool false))], oM 128 127, ⟨some 129, .mov, [.t 14], false, some (128, true)⟩, ⟨some 130, .mov, [.t 5], false, some (128, true)⟩, ⟨some 131, .bin .eql false, [.t 129, .t 130], false, some (128, true)⟩, oo 132 .pick [.t 128, .t 131, .c (.d (.bool false))], oM 133 132, ⟨some 134, .mov, [.t 15], false, some (133, true)⟩, ⟨some 135, .len, [.t 134], false, some (133, true)⟩, ⟨some 136, .bin .eql false, [.t 135, cI 0], false, some (133, true)⟩, oo 137 .pick [.t 133, .t 136, .c (.d (.bool false))], oM 138 137, ⟨some 139, .mov, [.t 16], false, some (138, true)⟩, ⟨some 140, .mov, [.t 5], false, some (138, true)⟩, ⟨some 141, .bin .eql false, [.t 139, .t 140], false, some (138, true)⟩, oo 142 .pick [.t 138, .t 141, .c (.d (.bool false))], oM 143 142, ⟨some 144, .mov, [.t 17], false, some (143, true)⟩, ⟨some 145, .len, [.t 144], false, some (143, true)⟩, ⟨some 146, .bin .eql false, [.t 145, cI 0], false, some (143, true)⟩, oo 147 .pick [.t 143, .t 146, .c (.d (.bool false))], oM 148 147, ⟨some 149, .mov, [.t 18], false, some (148, true)⟩, ⟨some 150, .un .not, [.t 149], false, some (148, true)⟩, oo 151 .pick [.t 148, .t 150, .c (.d (.bool false))], oM 152 151, ⟨some 153, .mov, [.t 19], false, some (152, true)⟩, ⟨some 154, .mov, [.t 5], false, some (152, true)⟩, ⟨some 155, .bin .eql false, [.t 153, .t 154], false, some (152, true)⟩, oo 156 .pick [.t 152, .t 155, .c (.d (.bool false))], oM 4 156]
def Qc4 : CFn := ⟨2, 157, [.t 4], .seq (.region Qho 9 []) (.seq (.seq (.region Qhp 9 []) (.cond (.t 44) (.seq (.region Qhq 9 []) (.ret)) (.skip))) (.seq (.region Qhr 9 []) (.seq (.seq (.region Qhs 9 []) (.cond (.t 49) (.region Qht 9 []) (.skip))) (.seq (.seq (.region Qhu 9 []) (.cond (.t 53) (.seq (.region Qhv 9 []) (.ret)) (.skip))) (.seq (.region Qhw 9 []) (.seq (.region Qhx 9 []) (.seq (.region Qha 9 []) (.seq (.region Qhb 9 []) (.seq (.region Qhc 9 []) (.seq (.region Qhd 9 []) (.seq (.region Qhe 9 []) (.ret))))))))))))⟩
def Qcc (Qbq : Option Bool) (Q2 : (List Int) → Int → Option Int) (Q7 : Qb → (List Int) → Option (Qb × Int)) (Q6 : Qb → (List Int) → Option (Qb × (List (List Int)) × Int)) (Qbf : Qb → (List Int) → (List Int) → Bool → Option ((List Int) × Bool × Int)) (Qbr : Qb → Option Int) (Qb8 : Qb → (List Int) → (List Int) → Option ((List Int) × Int)) (Qbs : Qb → (List Int) → (List Int) → Option ((List Int) × Int)) (Qci : Qb → (List Int) → (List Int) → Int → Option ((List Int) × Int)) (Qbu : Qb → Option Bool) (a1 : Qb) (onto2 : (List Int)) : Option Bool :=
  (((Qbq.bind fun x4 => (if x4 then (if ((a1.Alphabet.length : Int) > 12) then some true else (if ((a1.Marked.length : Int) > 12) then some true else (if ((a1.Edges.length : Int) > 12) then some true else some (decide ((onto2.length : Int) > 8))))) else some true))).bind fun (x9 : Bool) => (if x9 then (Qbq.bind fun x12 => some x12) else ((Qbr a1).bind fun x14 => (((if (x14 == 0) then ((Q2 onto2 32).bind fun x17 => some x17) else some x14)).bind fun (want18 : Int) => (if (want18 == 0) then some true else ((Q6 a1 onto2).bind fun (r21, r22, r23) => ((Q7 a1 onto2).bind fun (r25, r26) => ((Qb8 a1 [] onto2).bind fun (r28, r29) => ((Qbs a1 onto2 []).bind fun (r31, r32) => ((Qci a1 onto2 [] 0).bind fun (r34, r35) => ((Qbf a1 onto2 [] false).bind fun (r37, r38, r39) => ((((Qbu r21).bind fun x41 => (if x41 then (if ((r22.length : Int) == 0) then (if (r23 == want18) then ((Qbu r25).bind fun x46 => (if x46 then (if (r26 == want18) then (if ((r28.length : Int) == 0) then (if (r29 == want18) then (if ((r31.length : Int) == 0) then (if (r32 == want18) then (if ((r34.length : Int) == 0) then (if (r35 == want18) then (if ((r37.length : Int) == 0) then (if r38 then some false else some (r39 == want18)) else some false) else some false) else some false) else some false) else some false) else some false) else some false) else some false) else some false)) else some false) else some false) else some false))).bind fun (x57 : Bool) => some x57))))))))))))
end Go.Abs
