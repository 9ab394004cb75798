/-
  Part 4 of the proof: see the last text.
-/
import Derived.Test.YtddmeallinaokaaP3
set_option linter.unusedVariables false
set_option linter.unusedSimpArgs false
set_option linter.unusedSectionVars false
namespace Go.Abs
open Go
set_option linter.unusedVariables false
set_option maxRecDepth 10000
set_option maxHeartbeats 4000000
def Qgn (P : Program) (c : Nat) (f : (List Int) → Int → Option Int) : Prop:=∀ s1 v2 r,f s1 v2 = some r → ∀ M nb,ACalls P c [(l_ s1),(i_ v2)] M nb (i_ r) M nb
def Q1p : List COp:=[oo 4 .mov [cI 0]]
def Q1q : List COp:=[oM 6 0,oo 7 .len [.t 6],oo 8 .mov [cI 0]]
def Q1r : List COp:=[oo 9 (.bin .lss false) [.t 8,.t 7]]
def Q1s : List COp:=[oM 10 8,oM 5 10]
def Q1t : List COp:=[oM 11 1,oM 12 0,oM 13 5,oo 14 (.idx 1) [.t 12,.t 13],oL 15 14,oo 16 (.bin .eql false) [.t 11,.t 15]]
def Q1u : List COp:=[oM 17 5,oM 4 17]
def Q1v : List COp:=[oo 18 (.bin .add false) [.t 8,cI 1],oM 8 18]
def Q1w : List COp:=[oo 4 .mov [cI (-1)]]
def Qju : CFn:=⟨2,19,[.t 4],.seq (.region Q1p 9 []) (.seq (.seq (.region Q1q 9 []) (.block 0 (.loop [] (.seq (.region Q1r 9 []) (.seq (.cond (.t 9) (.skip) (.exit 0)) (.seq (.block 1 (.seq (.region Q1s 9 []) (.seq (.region Q1t 9 []) (.cond (.t 16) (.seq (.region Q1u 9 []) (.ret)) (.skip))))) (.region Q1v 9 []))))))) (.seq (.region Q1w 9 []) (.ret)))⟩
def Q7 (fuel : Nat) (s1 : (List Int)) (v2 : Int) : Option Int :=
  Qcy (fun k4 (x3 : Int)=>(if (x3 < (s1.length : Int)) then ((getO s1 x3).bind fun x6=>(if (v2 == x6) then some x3 else k4 (IntKind.wrap .i64 (x3 + 1)))) else some (-1))) fuel 0
def Qc6 (P : Program) (c : Nat) (f : (List Int) → Int → Option Bool) : Prop:=∀ s1 v2 r,f s1 v2 = some r → ∀ M nb,ACalls P c [(l_ s1),(i_ v2)] M nb (b_ r) M nb
def Qsl : List COp:=[oo 4 .mov [.c (.d (.bool false))]]
def Qsm : List COp:=[oM 5 0,oM 6 1,oo 7 (.call 26) [.t 5,.t 6],oo 8 (.bin .geq false) [.t 7,cI 0],oM 4 8]
def Qgv : CFn:=⟨2,9,[.t 4],.seq (.region Qsl 9 []) (.seq (.region Qsm 9 []) (.ret))⟩
def Ql (Q7 : (List Int) → Int → Option Int) (s1 : (List Int)) (v2 : Int) : Option Bool :=
  ((Q7 s1 v2).bind fun x4=>some (decide (x4 ≥ 0)))
def Qeg (P : Program) (c : Nat) (f : (List Int) → Option Int) : Prop:=∀ l1 r,f l1 = some r → ∀ M nb,ACalls P c [(l_ l1)] M nb (i_ r) M nb
def Qpp : List COp:=[oo 2 .mov [cI 0]]
def Qpq : List COp:=[oM 5 0,oo 6 .len [.t 5],oo 7 .mov [cI 0]]
def Qpr : List COp:=[oo 8 (.bin .lss false) [.t 7,.t 6]]
def Qps : List COp:=[oM 9 7,oo 10 (.idx 1) [.t 5,.t 7],oL 11 10,oM 3 9,oM 4 11]
def Qpt : List COp:=[oM 12 4,oo 13 (.bin .lss false) [.t 12,cI 0],oM 14 13,⟨some 15,.mov,[.t 4],false,some (14,false)⟩,⟨some 16,.bin .geq false,[.t 15,cI 32],false,some (14,false)⟩,oo 17 .pick [.t 14,.c (.d (.bool true)),.t 16]]
def Qpu : List COp:=[oo 2 .mov [cI 2]]
def Qpv : List COp:=[oM 18 0,oM 19 3,oo 20 (.slice 1 false true) [.t 18,.t 19],oM 21 4,oo 22 (.call 12) [.t 20,.t 21]]
def Qpw : List COp:=[oo 2 .mov [cI 8]]
def Qpx : List COp:=[oo 23 (.bin .add false) [.t 7,cI 1],oM 7 23]
def Qpy : List COp:=[oo 2 .mov [cI 0]]
def Qf5 : CFn:=⟨1,24,[.t 2],.seq (.region Qpp 9 []) (.seq (.seq (.region Qpq 9 []) (.block 0 (.loop [] (.seq (.region Qpr 9 []) (.seq (.cond (.t 8) (.skip) (.exit 0)) (.seq (.block 1 (.seq (.region Qps 9 []) (.seq (.seq (.region Qpt 9 []) (.cond (.t 17) (.seq (.region Qpu 9 []) (.ret)) (.skip))) (.seq (.region Qpv 9 []) (.cond (.t 22) (.seq (.region Qpw 9 []) (.ret)) (.skip)))))) (.region Qpx 9 []))))))) (.seq (.region Qpy 9 []) (.ret)))⟩
def Qx (Ql : (List Int) → Int → Option Bool) (fuel : Nat) (l1 : (List Int)) : Option Int :=
  Qcy (fun k3 (x2 : Int)=>(if (x2 < (l1.length : Int)) then ((getO l1 x2).bind fun x5=>(((if (x5 < 0) then some true else some (decide (x5 ≥ 32)))).bind fun (x8 : Bool)=>(if x8 then some 2 else ((slcO l1 0 x2).bind fun x10=>((Ql x10 x5).bind fun x13=>(if x13 then some 8 else k3 (IntKind.wrap .i64 (x2 + 1)))))))) else some 0)) fuel 0
def Qdw (P : Program) (c : Nat) (f : (List Int) → Option ((List Int))) : Prop:=∀ s1 r,f s1 = some r → ∀ M nb,ACalls P c [(l_ s1)] M nb (o_ r) M nb
def Q1x : List COp:=[ot 2 .mov [.c (.nils 1)]]
def Q1y : List COp:=[oM 3 0,oo 4 (.isnil false) [.t 3]]
def Q1z : List COp:=[ot 2 .mov [.c (.nils 1)]]
def Q10 : List COp:=[oo 5 (.bslice 1 0 [.d (.int .i64 0)] []) [],oM 6 0,ot 7 (.append 1 8) [.t 5,.t 6],ot 2 .mov [.t 7]]
def Qjv : CFn:=⟨1,8,[.t 2],.seq (.region Q1x 9 []) (.seq (.seq (.region Q1y 9 []) (.cond (.t 4) (.seq (.region Q1z 9 []) (.ret)) (.skip))) (.seq (.region Q10 9 []) (.ret)))⟩
def Qn (s1 : (List Int)) : Option ((List Int)) :=
  (nilO s1 fun b2=>(if b2 then some [] else ((appO [] s1).bind fun x4=>some x4)))
def Qe7 (P : Program) (c : Nat) (f : (List Int) → Option ((List Int))) : Prop:=∀ l1 r,f l1 = some r → ∀ M nb,ACalls P c [(l_ l1)] M nb (l_ r) M nb
def Qvu : List COp:=[ot 2 .mov [.c (.nils 1)]]
def Qvv : List COp:=[oM 4 0,oo 5 (.call 11) [.t 4],ot 3 .mov [.t 5]]
def Qvw : List COp:=[oM 6 3,oo 7 (.call 24) [.t 6]]
def Qvx : List COp:=[ot 8 .mov [.t 3],ot 2 .mov [.t 8]]
def Qhp : CFn:=⟨1,9,[.t 2],.seq (.region Qvu 9 []) (.seq (.region Qvv 9 []) (.seq (.region Qvw 9 []) (.seq (.region Qvx 9 []) (.ret))))⟩
def Q5 (Qn : (List Int) → Option ((List Int))) (f_slices_Sort_int : List Int → Option (List Int)) (l1 : (List Int)) : Option ((List Int)) :=
  ((Qn l1).bind fun x3=>((f_slices_Sort_int x3).bind fun out4=>some out4))
def Qez (P : Program) (c : Nat) (f : Int → Int → (List Int) → Option (Int × Bool)) : Prop:=∀ state1 event2 x3 (k4 : Nat) r,f state1 event2 x3 = some r → ∀ M nb,(M k4 = some (.cells [(l_ x3)])) → ACalls P c [(i_ state1),(i_ event2),.ptr k4 0] M nb (.tup [(i_ r.1),(b_ r.2)]) M nb
def Qm8 : List COp:=[oo 5 .mov [cI 0],oo 6 .mov [.c (.d (.bool false))]]
def Qm9 : List COp:=[oM 7 0,oo 8 (.bin .add false) [.t 7,cI 1],oL 9 2,oo 10 .len [.t 9],oo 11 (.bin .rem false) [.t 8,.t 10],oL 12 2,oM 13 0,oo 14 (.idx 1) [.t 12,.t 13],oL 15 14,oM 16 1,oo 17 (.bin .eql false) [.t 15,.t 16],oM 5 11,oM 6 17]
def Qe0 : CFn:=⟨3,18,[.t 5,.t 6],.seq (.region Qm8 9 []) (.seq (.region Qm9 0 []) (.ret))⟩
def Qbc (state1 : Int) (event2 : Int) (x3 : (List Int)) : Option (Int × Bool) :=
  ((remO .i64 (IntKind.wrap .i64 (state1 + 1)) (x3.length : Int)).bind fun s6=>((getO x3 state1).bind fun x8=>some (s6,(x8 == event2))))
def Qdt (P : Program) (c : Nat) (f : (List Int) → (Int → Option Bool) → (Int → Int → Option (Int × Bool)) → Option Qa) : Prop:=∀ events1 marked2 next9 (g3 : Nat) (cp4 : List V) (g10 : Nat) (cp11 : List V) r,f events1 marked2 next9 = some r → ∀ M nb,(V.dems cp4 = cp4) → (V.ons (There M) cp4) → (∀ a8 r,marked2 a8 = some r → ∀ M2 nb2,nb ≤ nb2 → Ext M M2 → ACalls P g3 ([(i_ a8)] ++ cp4) M2 nb2 (b_ r) M2 nb2) → (V.dems cp11 = cp11) → (V.ons (There M) cp11) → (∀ a15 a16 r,next9 a15 a16 = some r → ∀ M2 nb2,nb ≤ nb2 → Ext M M2 → ACalls P g10 ([(i_ a15),(i_ a16)] ++ cp11) M2 nb2 (.tup [(i_ r.1),(b_ r.2)]) M2 nb2) → ACalls P c [(l_ events1),.clo g3 cp4,.clo g10 cp11] M nb (Qb r) M nb
def Qsn : List COp:=[oo 6 (.alloc [.nils 1,.d (.int .i64 0),.nils 1,.nils 3]) []]
def Qso : List COp:=[oM 17 0,ot 18 (.build [.nils 1,.d (.int .i64 0),.nils 1,.nils 3] [(0,1)]) [.t 17],oo 7 (.alloc [.nils 1,.d (.int .i64 0),.nils 1,.nils 3]) [],⟨none,.store 4,[.t 7,.t 18],true,none⟩]
def Qsp : List COp:=[oo 19 (.bslice 1 1 [.d (.int .i64 0)] [0]) [cI 0],oo 20 .mkmap [],⟨none,.mapset (.int .i64),[.t 20,cI 0,cI 0],false,none⟩,oM 21 20,ot 8 .mov [.t 19],oM 9 21]
def Qsq : List COp:=[oo 10 .mov [cI 0]]
def Qsr : List COp:=[oM 22 10,oM 23 8,oo 24 .len [.t 23],oo 25 (.bin .lss false) [.t 22,.t 24]]
def Qss : List COp:=[oM 28 1,oM 29 8,oM 30 10,oo 31 (.idx 1) [.t 29,.t 30],oL 32 31,oo 33 .callv [.t 28,.t 32]]
def Qst : List COp:=[oF 34 2 7,oo 35 .loadT [.t 34],oM 36 10,oo 37 (.bslice 1 1 [.d (.int .i64 0)] [0]) [.t 36],ot 38 (.append 1 8) [.t 35,.t 37],oF 39 2 7,⟨none,.store 1,[.t 39,.t 38],true,none⟩]
def Qsu : List COp:=[oM 40 0,oo 41 .len [.t 40],oo 42 .mov [cI 0]]
def Qsv : List COp:=[oo 43 (.bin .lss false) [.t 42,.t 41]]
def Qsw : List COp:=[oo 44 (.idx 1) [.t 40,.t 42],oL 45 44,oM 12 45]
def Qpz : List COp:=[oM 47 2,oM 48 8,oM 49 10,oo 50 (.idx 1) [.t 48,.t 49],oL 51 50,oM 52 12,oo 53 .callv [.t 47,.t 51,.t 52],oM 46 53,oo 54 (.extract 0) [.t 46],oo 55 (.extract 1) [.t 46],oM 13 54,oM 14 55]
def Qp0 : List COp:=[oM 56 14,oo 57 (.un .not) [.t 56]]
def Qp1 : List COp:=[oM 59 9,oM 60 13,oo 61 (.lookup (.int .i64) true (.d (.int .i64 0))) [.t 59,.t 60],oM 58 61,oo 62 (.extract 0) [.t 58],oo 63 (.extract 1) [.t 58],oM 15 62,oM 16 63]
def Qp2 : List COp:=[oM 64 16,oo 65 (.un .not) [.t 64]]
def Qp3 : List COp:=[oM 66 8,oo 67 .len [.t 66],oM 15 67]
def Qp4 : List COp:=[oM 68 9,oM 69 13,oM 70 15,ot 71 .mov [.t 8],oM 72 13,oo 73 (.bslice 1 1 [.d (.int .i64 0)] [0]) [.t 72],ot 74 (.append 1 8) [.t 71,.t 73],⟨none,.mapset (.int .i64),[.t 68,.t 69,.t 70],false,none⟩,ot 8 .mov [.t 74]]
def Qp5 : List COp:=[oF 75 3 7,oo 76 .loadT [.t 75],oM 77 10,oM 78 12,oM 79 15,oo 80 (.build [.d (.int .i64 0),.d (.int .i64 0),.d (.int .i64 0)] [(0,1),(1,1),(2,1)]) [.t 77,.t 78,.t 79],oo 81 (.bslice 3 1 [.d (.int .i64 0),.d (.int .i64 0),.d (.int .i64 0)] [0]) [.t 80],ot 82 (.append 3 24) [.t 76,.t 81],oF 83 3 7,⟨none,.store 1,[.t 83,.t 82],true,none⟩]
def Qp6 : List COp:=[oo 84 (.bin .add false) [.t 42,cI 1],oM 42 84]
def Qp7 : List COp:=[oM 26 10,oo 27 (.bin .add false) [.t 26,cI 1],oM 10 27]
def Qp8 : List COp:=[oM 85 8,oo 86 .len [.t 85],oF 87 1 7,⟨none,.store 1,[.t 87,.t 86],false,none⟩]
def Qp9 : List COp:=[oo 88 (.load true 4) [.t 7],⟨none,.store 4,[.t 6,.t 88],true,none⟩]
def Qgw : CFn:=⟨3,89,[.cell 6 true 4],.seq (.region Qsn 9 []) (.seq (.region Qso 9 []) (.seq (.region Qsp 9 []) (.seq (.seq (.region Qsq 9 []) (.block 0 (.loop [37,73,81] (.seq (.seq (.region Qsr 9 []) (.cond (.t 25) (.skip) (.exit 0))) (.seq (.block 1 (.seq (.seq (.region Qss 9 []) (.cond (.t 33) (.region Qst 9 []) (.skip))) (.seq (.region Qsu 9 []) (.block 2 (.loop [73,81] (.seq (.region Qsv 9 []) (.seq (.cond (.t 43) (.skip) (.exit 2)) (.seq (.block 3 (.seq (.region Qsw 9 []) (.seq (.region Qpz 9 []) (.seq (.seq (.region Qp0 9 []) (.cond (.t 57) (.exit 3) (.skip))) (.seq (.region Qp1 9 []) (.seq (.seq (.region Qp2 9 []) (.cond (.t 65) (.seq (.region Qp3 9 []) (.region Qp4 9 [])) (.skip))) (.region Qp5 9 []))))))) (.region Qp6 9 []))))))))) (.region Qp7 9 [])))))) (.seq (.region Qp8 9 []) (.seq (.region Qp9 9 []) (.ret))))))⟩
def Qo (fuel : Nat) (events1 : (List Int)) (marked2 : (Int → Option Bool)) (next9 : (Int → Int → Option (Int × Bool))) : Option Qa :=
  ((Qcy (fun k25 ((states17,i18,c19,c20,c21,a22,a23,c24) : (List Int) × Int × (List Int) × (List Int) × (List Qd) × (List Int) × (List Qd) × (List (Int × Int)))=>(if (i18 < (states17.length : Int)) then ((((((getO states17 i18).bind fun x27=>((marked2 x27).bind fun x30=>(if x30 then ((appO a22 [i18]).bind fun x32=>some x32) else some a22)))).bind fun (a34 : List Int)=>Qcy (fun k39 ((states35,x36,a37,c38) : (List Int) × Int × (List Qd) × (List (Int × Int)))=>(if (x36 < (events1.length : Int)) then ((((getO events1 x36).bind fun x41=>((getO states35 i18).bind fun x43=>((next9 x43 x41).bind fun (r47,r48)=>(if r48 then (((if (hasM c38 r47) then some (states35,(getM c38 r47 0),c38) else ((appO states35 [r47]).bind fun x51=>some (x51,(states35.length : Int),(setM c38 r47 (states35.length : Int)))))).bind fun ((states53,k54,c55) : (List Int) × Int × (List (Int × Int)))=>((appO a37 [(Qd.mk i18 x41 k54)]).bind fun x56=>some (states53,x56,c55))) else some (states35,a37,c38)))))).bind fun ((states58,a59,c60) : (List Int) × (List Qd) × (List (Int × Int)))=>k39 (states58,(IntKind.wrap .i64 (x36 + 1)),a59,c60)) else some (states35,a34,a37,c38))) fuel (states17,0,a23,c24))).bind fun ((states61,a62,a63,c64) : (List Int) × (List Int) × (List Qd) × (List (Int × Int)))=>k25 (states61,(IntKind.wrap .i64 (i18 + 1)),c19,c20,c21,a62,a63,c64)) else some (states17,c19,c20,c21,a22,a23,c24))) fuel ([0],0,[],[],[],[],[],(setM ([] : List (Int × Int)) 0 0))).bind fun ((states65,c66,c67,c68,a69,a70,c71) : (List Int) × (List Int) × (List Int) × (List Qd) × (List Int) × (List Qd) × (List (Int × Int)))=>some (Qa.mk events1 (states65.length : Int) a69 a70))
def Qfl (P : Program) (c : Nat) (f : Int → Option Bool) : Prop:=∀ state1 r,f state1 = some r → ∀ M nb,ACalls P c [(i_ state1)] M nb (b_ r) M nb
def Qyt : List COp:=[oo 2 .mov [.c (.d (.bool false))]]
def Qyu : List COp:=[oM 3 0,oo 4 (.bin .eql false) [.t 3,cI 0],oM 2 4]
def Qiv : CFn:=⟨1,5,[.t 2],.seq (.region Qyt 9 []) (.seq (.region Qyu 9 []) (.ret))⟩
def Q8 (state1 : Int) : Option Bool :=
  some (state1 == 0)
def Qfm (P : Program) (c : Nat) (f : (List Int) → Option (Qa × Int)) : Prop:=∀ events1 r,f events1 = some r → ∀ M nb,ACalls P c [(l_ events1)] M nb (.tup [(Qb r.1),(i_ r.2)]) M nb
def Qop : List COp:=[oo 1 (.box 1) [.t 0],oo 2 (.alloc [.nils 1,.d (.int .i64 0),.nils 1,.nils 3]) [],oo 3 .mov [cI 0]]
def Qoq : List COp:=[oL 5 1,oo 6 .len [.t 5],oo 7 (.bin .eql false) [.t 6,cI 0]]
def Qor : List COp:=[oo 8 (.build [.nils 1,.d (.int .i64 0),.nils 1,.nils 3] []) [],⟨none,.store 4,[.t 2,.t 8],true,none⟩,oo 3 .mov [cI 12]]
def Qos : List COp:=[oL 9 1,oo 10 (.call 27) [.t 9],oM 4 10]
def Qot : List COp:=[oM 11 4,oo 12 (.bin .neq false) [.t 11,cI 0]]
def Qou : List COp:=[oo 13 (.build [.nils 1,.d (.int .i64 0),.nils 1,.nils 3] []) [],oM 14 4,⟨none,.store 4,[.t 2,.t 13],true,none⟩,oM 3 14]
def Qov : List COp:=[oL 15 1,oo 16 (.call 29) [.t 15],oo 17 (.func 31) [.t 1],oo 18 (.call 28) [.t 16,.c (.clo 30 []),.t 17],⟨none,.store 4,[.t 2,.t 18],true,none⟩,oo 3 .mov [cI 0]]
def Qfn : CFn:=⟨1,19,[.cell 2 true 4,.t 3],.seq (.region Qop 9 []) (.seq (.seq (.region Qoq 9 []) (.cond (.t 7) (.seq (.region Qor 9 []) (.ret)) (.skip))) (.seq (.seq (.region Qos 9 []) (.seq (.region Qot 9 []) (.cond (.t 12) (.seq (.region Qou 9 []) (.ret)) (.skip)))) (.seq (.region Qov 9 []) (.ret))))⟩
def Qbm (Qx : (List Int) → Option Int) (Qo : (List Int) → (Int → Option Bool) → (Int → Int → Option (Int × Bool)) → Option Qa) (Q5 : (List Int) → Option ((List Int))) (Q8 : Int → Option Bool) (Qbc : Int → Int → (List Int) → Option (Int × Bool)) (events1 : (List Int)) : Option (Qa × Int) :=
  (if ((events1.length : Int) == 0) then some ((Qa.mk [] 0 [] []),12) else ((Qx events1).bind fun x4=>(if (x4 != 0) then some ((Qa.mk [] 0 [] []),x4) else ((Q5 events1).bind fun x7=>((Qo x7 Q8 (fun a11 a12=>Qbc a11 a12 events1)).bind fun x16=>some (x16,0))))))
def Qfo (P : Program) (c : Nat) (f : (List Int) → Int → Option Int) : Prop:=∀ xset1 n2 r,f xset1 n2 = some r → ∀ M nb,ACalls P c [(l_ xset1),(i_ n2)] M nb (i_ r) M nb
def Qyv : List COp:=[oo 4 .mov [cI 0]]
def Qyw : List COp:=[oM 7 0,oo 8 .len [.t 7],oo 9 .mov [cI 0]]
def Qyx : List COp:=[oo 10 (.bin .lss false) [.t 9,.t 8]]
def Qyy : List COp:=[oM 11 9,oo 12 (.idx 1) [.t 7,.t 9],oL 13 12,oM 5 11,oM 6 13]
def Qyz : List COp:=[oM 14 6,oo 15 (.bin .lss false) [.t 14,cI 0],oM 16 15,⟨some 17,.mov,[.t 6],false,some (16,false)⟩,⟨some 18,.mov,[.t 1],false,some (16,false)⟩,⟨some 19,.bin .geq false,[.t 17,.t 18],false,some (16,false)⟩,oo 20 .pick [.t 16,.c (.d (.bool true)),.t 19]]
def Qy0 : List COp:=[oo 4 .mov [cI 2]]
def Qy1 : List COp:=[oM 21 5,oo 22 (.bin .gtr false) [.t 21,cI 0],oM 23 22,⟨some 24,.mov,[.t 6],false,some (23,true)⟩,⟨some 25,.mov,[.t 0],false,some (23,true)⟩,⟨some 26,.mov,[.t 5],false,some (23,true)⟩,⟨some 27,.bin .sub false,[.t 26,cI 1],false,some (23,true)⟩,⟨some 28,.idx 1,[.t 25,.t 27],false,some (23,true)⟩,⟨some 29,.load false 1,[.t 28],false,some (23,true)⟩,⟨some 30,.bin .leq false,[.t 24,.t 29],false,some (23,true)⟩,oo 31 .pick [.t 23,.t 30,.c (.d (.bool false))]]
def Qy2 : List COp:=[oo 4 .mov [cI 5]]
def Qy3 : List COp:=[oo 32 (.bin .add false) [.t 9,cI 1],oM 9 32]
def Qy4 : List COp:=[oo 4 .mov [cI 0]]
def Qiw : CFn:=⟨2,33,[.t 4],.seq (.region Qyv 9 []) (.seq (.seq (.region Qyw 9 []) (.block 0 (.loop [] (.seq (.region Qyx 9 []) (.seq (.cond (.t 10) (.skip) (.exit 0)) (.seq (.block 1 (.seq (.region Qyy 9 []) (.seq (.seq (.region Qyz 9 []) (.cond (.t 20) (.seq (.region Qy0 9 []) (.ret)) (.skip))) (.seq (.region Qy1 9 []) (.cond (.t 31) (.seq (.region Qy2 9 []) (.ret)) (.skip)))))) (.region Qy3 9 []))))))) (.seq (.region Qy4 9 []) (.ret)))⟩
def Q2 (fuel : Nat) (xset1 : (List Int)) (n2 : Int) : Option Int :=
  Qcy (fun k4 (x3 : Int)=>(if (x3 < (xset1.length : Int)) then ((getO xset1 x3).bind fun x6=>(((if (x6 < 0) then some true else some (decide (x6 ≥ n2)))).bind fun (x9 : Bool)=>(if x9 then some 2 else (((if (x3 > 0) then ((getO xset1 (IntKind.wrap .i64 (x3 - 1))).bind fun x12=>some (decide (x6 ≤ x12))) else some false)).bind fun (x14 : Bool)=>(if x14 then some 5 else k4 (IntKind.wrap .i64 (x3 + 1))))))) else some 0)) fuel 0
def Qfy (P : Program) (c : Nat) (f : (List Int) → (List Int) → (Bool → Bool → Option Bool) → Option ((List Int))) : Prop:=∀ a1 b2 keep3 (g4 : Nat) (cp5 : List V) r,f a1 b2 keep3 = some r → ∀ M nb,(V.dems cp5 = cp5) → (V.ons (There M) cp5) → (∀ a9 a10 r,keep3 a9 a10 = some r → ∀ M2 nb2,nb ≤ nb2 → Ext M M2 → ACalls P g4 ([(b_ a9),(b_ a10)] ++ cp5) M2 nb2 (b_ r) M2 nb2) → ACalls P c [(l_ a1),(l_ b2),.clo g4 cp5] M nb (o_ r) M nb
def Q51 : List COp:=[ot 6 .mov [.c (.nils 1)]]
def Q52 : List COp:=[ot 7 .mov [.c (.nils 1)]]
def Q53 : List COp:=[oM 11 0,oo 12 .len [.t 11],oo 13 (.bin .gtr false) [.t 12,cI 0],oM 14 13,⟨some 15,.mov,[.t 1],false,some (14,false)⟩,⟨some 16,.len,[.t 15],false,some (14,false)⟩,⟨some 17,.bin .gtr false,[.t 16,cI 0],false,some (14,false)⟩,oo 18 .pick [.t 14,.c (.d (.bool true)),.t 17]]
def Q54 : List COp:=[oM 19 0,oo 20 .len [.t 19],oo 21 (.bin .gtr false) [.t 20,cI 0],oM 22 21,⟨some 23,.mov,[.t 1],false,some (22,true)⟩,⟨some 24,.len,[.t 23],false,some (22,true)⟩,⟨some 25,.bin .eql false,[.t 24,cI 0],false,some (22,true)⟩,⟨some 26,.mov,[.t 25],false,some (22,true)⟩,⟨some 27,.mov,[.t 0],false,some (26,false)⟩,⟨some 28,.idx 1,[.t 27,cI 0],false,some (26,false)⟩,⟨some 29,.load false 1,[.t 28],false,some (26,false)⟩,⟨some 30,.mov,[.t 1],false,some (26,false)⟩,⟨some 31,.idx 1,[.t 30,cI 0],false,some (26,false)⟩,⟨some 32,.load false 1,[.t 31],false,some (26,false)⟩,⟨some 33,.bin .leq false,[.t 29,.t 32],false,some (26,false)⟩,⟨some 34,.pick,[.t 26,.c (.d (.bool true)),.t 33],false,some (22,true)⟩,oo 35 .pick [.t 22,.t 34,.c (.d (.bool false))],oM 8 35]
def Q55 : List COp:=[oM 36 1,oo 37 .len [.t 36],oo 38 (.bin .gtr false) [.t 37,cI 0],oM 39 38,⟨some 40,.mov,[.t 0],false,some (39,true)⟩,⟨some 41,.len,[.t 40],false,some (39,true)⟩,⟨some 42,.bin .eql false,[.t 41,cI 0],false,some (39,true)⟩,⟨some 43,.mov,[.t 42],false,some (39,true)⟩,⟨some 44,.mov,[.t 1],false,some (43,false)⟩,⟨some 45,.idx 1,[.t 44,cI 0],false,some (43,false)⟩,⟨some 46,.load false 1,[.t 45],false,some (43,false)⟩,⟨some 47,.mov,[.t 0],false,some (43,false)⟩,⟨some 48,.idx 1,[.t 47,cI 0],false,some (43,false)⟩,⟨some 49,.load false 1,[.t 48],false,some (43,false)⟩,⟨some 50,.bin .leq false,[.t 46,.t 49],false,some (43,false)⟩,⟨some 51,.pick,[.t 43,.c (.d (.bool true)),.t 50],false,some (39,true)⟩,oo 52 .pick [.t 39,.t 51,.c (.d (.bool false))],oM 9 52]
def Q56 : List COp:=[oo 10 .mov [cI 0]]
def Q57 : List COp:=[oM 53 8]
def Q58 : List COp:=[oM 54 0,oo 55 (.idx 1) [.t 54,cI 0],oL 56 55,ot 57 .mov [.t 0],ot 58 (.slcT 1) [.t 57,cI 1],oM 10 56,ot 0 .mov [.t 58]]
def Q59 : List COp:=[oM 59 9]
def Q6a : List COp:=[oM 60 1,oo 61 (.idx 1) [.t 60,cI 0],oL 62 61,ot 63 .mov [.t 1],ot 64 (.slcT 1) [.t 63,cI 1],oM 10 62,ot 1 .mov [.t 64]]
def Q39 : List COp:=[oM 65 2,oM 66 8,oM 67 9,oo 68 .callv [.t 65,.t 66,.t 67]]
def Q4a : List COp:=[ot 69 .mov [.t 7],oM 70 10,oo 71 (.bslice 1 1 [.d (.int .i64 0)] [0]) [.t 70],ot 72 (.append 1 8) [.t 69,.t 71],ot 7 .mov [.t 72]]
def Q4b : List COp:=[ot 73 .mov [.t 7],ot 6 .mov [.t 73]]
def Qlq : CFn:=⟨3,74,[.t 6],.seq (.region Q51 9 []) (.seq (.region Q52 9 []) (.seq (.block 0 (.loop [71] (.seq (.seq (.region Q53 9 []) (.cond (.t 18) (.skip) (.exit 0))) (.block 1 (.seq (.region Q54 0 []) (.seq (.region Q55 0 []) (.seq (.region Q56 9 []) (.seq (.seq (.region Q57 9 []) (.cond (.t 53) (.region Q58 0 []) (.skip))) (.seq (.seq (.region Q59 9 []) (.cond (.t 59) (.region Q6a 0 []) (.skip))) (.seq (.region Q39 9 []) (.cond (.t 68) (.region Q4a 9 []) (.skip)))))))))))) (.seq (.region Q4b 9 []) (.ret))))⟩
def Q0 (fuel : Nat) (a1 : (List Int)) (b2 : (List Int)) (keep3 : (Bool → Bool → Option Bool)) : Option ((List Int)) :=
  ((Qcy (fun k14 ((a11,b12,out13) : (List Int) × (List Int) × (List Int))=>(((if ((a11.length : Int) > 0) then some true else some (decide ((b12.length : Int) > 0)))).bind fun (x16 : Bool)=>(if x16 then (((if ((a11.length : Int) > 0) then (if ((b12.length : Int) == 0) then some true else ((getO a11 0).bind fun x20=>((getO b12 0).bind fun x22=>some (decide (x20 ≤ x22))))) else some false)).bind fun (inA24 : Bool)=>(((if ((b12.length : Int) > 0) then (if ((a11.length : Int) == 0) then some true else ((getO b12 0).bind fun x27=>((getO a11 0).bind fun x29=>some (decide (x27 ≤ x29))))) else some false)).bind fun (inB31 : Bool)=>(((if inA24 then ((getO a11 0).bind fun x33=>((slcO a11 1 (a11.length : Int)).bind fun x35=>some (x35,x33))) else some (a11,0))).bind fun ((a37,x38) : (List Int) × Int)=>(((if inB31 then ((getO b12 0).bind fun x40=>((slcO b12 1 (b12.length : Int)).bind fun x42=>some (x42,x40))) else some (b12,x38))).bind fun ((b44,x45) : (List Int) × Int)=>((keep3 inA24 inB31).bind fun x47=>(if x47 then ((appO out13 [x45]).bind fun x49=>k14 (a37,b44,x49)) else k14 (a37,b44,out13))))))) else some out13))) fuel (a1,b2,[])).bind fun (out51 : List Int)=>some out51)
def Qf6 (P : Program) (c : Nat) (f : Bool → Bool → Option Bool) : Prop:=∀ inA1 inB2 r,f inA1 inB2 = some r → ∀ M nb,ACalls P c [(b_ inA1),(b_ inB2)] M nb (b_ r) M nb
def Qqa : List COp:=[oo 4 .mov [.c (.d (.bool false))]]
def Qqb : List COp:=[oM 5 0,oM 6 5,⟨some 7,.mov,[.t 1],false,some (6,true)⟩,oo 8 .pick [.t 6,.t 7,.c (.d (.bool false))],oM 4 8]
def Qf7 : CFn:=⟨2,9,[.t 4],.seq (.region Qqa 9 []) (.seq (.region Qqb 9 []) (.ret))⟩
def Qbu (inA1 : Bool) (inB2 : Bool) : Option Bool :=
  (if inA1 then some inB2 else some false)
def Qhq (P : Program) (c : Nat) (f : (List Int) → (List Int) → Option ((List Int))) : Prop:=∀ a1 b2 r,f a1 b2 = some r → ∀ M nb,ACalls P c [(l_ a1),(l_ b2)] M nb (o_ r) M nb
def Qvy : List COp:=[ot 4 .mov [.c (.nils 1)]]
def Qvz : List COp:=[oM 5 0,oM 6 1,oo 7 (.call 54) [.t 5,.t 6,.c (.clo 78 [])],ot 4 .mov [.t 7]]
def Qhr : CFn:=⟨2,8,[.t 4],.seq (.region Qvy 9 []) (.seq (.region Qvz 9 []) (.ret))⟩
def Qcb (Q0 : (List Int) → (List Int) → (Bool → Bool → Option Bool) → Option ((List Int))) (Qbu : Bool → Bool → Option Bool) (a1 : (List Int)) (b2 : (List Int)) : Option ((List Int)) :=
  ((Q0 a1 b2 Qbu).bind fun x8=>some x8)
def Qjw (P : Program) (c : Nat) (f : (List Int) → (List Int) → Option Int) : Prop:=∀ a1 b2 r,f a1 b2 = some r → ∀ M nb,ACalls P c [(l_ a1),(l_ b2)] M nb (i_ r) M nb
def Q11 : List COp:=[oo 4 .mov [cI 0]]
def Q12 : List COp:=[oM 8 0,oM 9 1,oo 10 (.build [.nils 1,.nils 1] [(0,1),(1,1)]) [.t 8,.t 9],oo 11 .mov [cI 0]]
def Q13 : List COp:=[oo 12 (.bin .lss false) [.t 11,cI 2]]
def Q14 : List COp:=[oo 13 (.idxval false 1 2) [.t 10,.t 11],ot 6 .mov [.t 13]]
def Q15 : List COp:=[oM 14 6,oo 15 (.call 8) [.t 14,cI 32],oM 7 15]
def Q16 : List COp:=[oM 16 7,oo 17 (.bin .neq false) [.t 16,cI 0]]
def Q17 : List COp:=[oM 18 7,oM 4 18]
def Q18 : List COp:=[oo 19 (.bin .add false) [.t 11,cI 1],oM 11 19]
def Q19 : List COp:=[oM 20 0,oM 21 1,oo 22 (.call 53) [.t 20,.t 21],oo 23 .len [.t 22],oo 24 (.bin .gtr false) [.t 23,cI 0]]
def Q2a : List COp:=[oo 4 .mov [cI 13]]
def Qy5 : List COp:=[oo 4 .mov [cI 0]]
def Qjx : CFn:=⟨2,25,[.t 4],.seq (.region Q11 9 []) (.seq (.seq (.region Q12 9 []) (.block 0 (.loop [] (.seq (.region Q13 9 []) (.seq (.cond (.t 12) (.skip) (.exit 0)) (.seq (.block 1 (.seq (.region Q14 9 []) (.seq (.region Q15 9 []) (.seq (.region Q16 9 []) (.cond (.t 17) (.seq (.region Q17 9 []) (.ret)) (.skip)))))) (.region Q18 9 []))))))) (.seq (.seq (.region Q19 9 []) (.cond (.t 24) (.seq (.region Q2a 9 []) (.ret)) (.skip))) (.seq (.region Qy5 9 []) (.ret))))⟩
def Qct (Q2 : (List Int) → Int → Option Int) (Qcb : (List Int) → (List Int) → Option ((List Int))) (fuel : Nat) (a1 : (List Int)) (b2 : (List Int)) : Option Int :=
  Qcy (fun k4 (x3 : Int)=>(if (x3 < 2) then ((getO [a1,b2] x3).bind fun x6=>((Q2 x6 32).bind fun x9=>(if (x9 != 0) then some x9 else k4 (IntKind.wrap .i64 (x3 + 1))))) else ((Qcb a1 b2).bind fun x12=>(if ((x12.length : Int) > 0) then some 13 else some 0)))) fuel 0
def Qjy (P : Program) (c : Nat) (f : Bool → Bool → Option Bool) : Prop:=∀ inA1 inB2 r,f inA1 inB2 = some r → ∀ M nb,ACalls P c [(b_ inA1),(b_ inB2)] M nb (b_ r) M nb
def Q2b : List COp:=[oo 4 .mov [.c (.d (.bool false))]]
def Q2c : List COp:=[oM 5 0,oM 6 5,⟨some 7,.mov,[.t 1],false,some (6,false)⟩,oo 8 .pick [.t 6,.c (.d (.bool true)),.t 7],oM 4 8]
def Qjz : CFn:=⟨2,9,[.t 4],.seq (.region Q2b 9 []) (.seq (.region Q2c 9 []) (.ret))⟩
def Qcu (inA1 : Bool) (inB2 : Bool) : Option Bool :=
  (if inA1 then some true else some inB2)
def Qlr (P : Program) (c : Nat) (f : (List Int) → (List Int) → Option ((List Int))) : Prop:=∀ a1 b2 r,f a1 b2 = some r → ∀ M nb,ACalls P c [(l_ a1),(l_ b2)] M nb (o_ r) M nb
def Q6b : List COp:=[ot 4 .mov [.c (.nils 1)]]
def Q6c : List COp:=[oM 5 0,oM 6 1,oo 7 (.call 54) [.t 5,.t 6,.c (.clo 55 [])],ot 4 .mov [.t 7]]
def Qls : CFn:=⟨2,8,[.t 4],.seq (.region Q6b 9 []) (.seq (.region Q6c 9 []) (.ret))⟩
def Qdi (Q0 : (List Int) → (List Int) → (Bool → Bool → Option Bool) → Option ((List Int))) (Qcu : Bool → Bool → Option Bool) (a1 : (List Int)) (b2 : (List Int)) : Option ((List Int)) :=
  ((Q0 a1 b2 Qcu).bind fun x8=>some x8)
def Qna (P : Program) (c : Nat) (f : Int → Option Bool) : Prop:=∀ x1 r,f x1 = some r → ∀ M nb,ACalls P c [(i_ x1)] M nb (b_ r) M nb
def Q7j : List COp:=[oo 2 .mov [.c (.d (.bool false))]]
def Q7k : List COp:=[oM 3 0,oM 4 0,oo 5 (.bin .neq false) [.t 3,.t 4],oM 2 5]
def Qnb : CFn:=⟨1,6,[.t 2],.seq (.region Q7j 9 []) (.seq (.region Q7k 9 []) (.ret))⟩
def Qcx (x1 : Int) : Option Bool :=
  some (x1 != x1)
def Qow (P : Program) (c : Nat) (f : Int → Int → Option Bool) : Prop:=∀ x1 y2 r,f x1 y2 = some r → ∀ M nb,ACalls P c [(i_ x1),(i_ y2)] M nb (b_ r) M nb
def Q8l : List COp:=[oo 4 .mov [.c (.d (.bool false))]]
def Q8m : List COp:=[oM 5 0,oo 6 (.call 98) [.t 5],oM 7 6,⟨some 8,.mov,[.t 1],false,some (7,true)⟩,⟨some 9,.call 98,[.t 8],false,some (7,true)⟩,⟨some 10,.un .not,[.t 9],false,some (7,true)⟩,oo 11 .pick [.t 7,.t 10,.c (.d (.bool false))],oM 12 11,⟨some 13,.mov,[.t 0],false,some (12,false)⟩,⟨some 14,.mov,[.t 1],false,some (12,false)⟩,⟨some 15,.bin .lss false,[.t 13,.t 14],false,some (12,false)⟩,oo 16 .pick [.t 12,.c (.d (.bool true)),.t 15],oM 4 16]
def Qox : CFn:=⟨2,17,[.t 4],.seq (.region Q8l 9 []) (.seq (.region Q8m 9 []) (.ret))⟩
def Qdq (Qcx : Int → Option Bool) (x1 : Int) (y2 : Int) : Option Bool :=
  ((Qcx x1).bind fun x4=>(if x4 then ((Qcx y2).bind fun x7=>(if x7 then some (decide (x1 < y2)) else some true)) else some (decide (x1 < y2))))
def Qj0 (P : Program) (c : Nat) (f : Int → Option Bool) : Prop:=∀ x1 r,f x1 = some r → ∀ M nb,ACalls P c [(i_ x1)] M nb (b_ r) M nb
def Q2d : List COp:=[oo 2 .mov [.c (.d (.bool false))]]
def Q2e : List COp:=[oM 3 0,oM 4 0,oo 5 (.bin .neq false) [.t 3,.t 4],oM 2 5]
def Qj1 : CFn:=⟨1,6,[.t 2],.seq (.region Q2d 9 []) (.seq (.region Q2e 9 []) (.ret))⟩
def Qb2 (x1 : Int) : Option Bool :=
  some (x1 != x1)
def Qdr (P : Program) (c : Nat) (f : (List Int) → Int → Option (Int × Bool)) : Prop:=∀ x1 target2 r,f x1 target2 = some r → ∀ M nb,ACalls P c [(l_ x1),(i_ target2)] M nb (.tup [(i_ r.1),(b_ r.2)]) M nb
def Qnc : List COp:=[oo 4 .mov [cI 0],oo 5 .mov [.c (.d (.bool false))]]
def Qnd : List COp:=[oM 10 0,oo 11 .len [.t 10],oM 6 11]
def Qne : List COp:=[oM 12 6,oo 7 .mov [cI 0],oM 8 12]
def Qnf : List COp:=[oM 13 7,oM 14 8,oo 15 (.bin .lss false) [.t 13,.t 14]]
def Qng : List COp:=[oM 16 7,oM 17 8,oo 18 (.bin .add false) [.t 16,.t 17],oo 19 (.conv .u64) [.t 18],oo 20 (.bin .shr false) [.t 19,.c (.d (.int .u64 1))],oo 21 (.conv .i64) [.t 20],oM 9 21]
def Qnh : List COp:=[oM 22 0,oM 23 9,oo 24 (.idx 1) [.t 22,.t 23],oL 25 24,oM 26 1,oo 27 (.call 73) [.t 25,.t 26]]
def Qni : List COp:=[oM 28 9,oo 29 (.bin .add false) [.t 28,cI 1],oM 7 29]
def Qnj : List COp:=[oM 30 9,oM 8 30]
def Qnk : List COp:=[oM 31 7,oM 32 7,oM 33 6,oo 34 (.bin .lss false) [.t 32,.t 33],oM 35 34,⟨some 36,.mov,[.t 0],false,some (35,true)⟩,⟨some 37,.mov,[.t 7],false,some (35,true)⟩,⟨some 38,.idx 1,[.t 36,.t 37],false,some (35,true)⟩,⟨some 39,.load false 1,[.t 38],false,some (35,true)⟩,⟨some 40,.mov,[.t 1],false,some (35,true)⟩,⟨some 41,.bin .eql false,[.t 39,.t 40],false,some (35,true)⟩,⟨some 42,.mov,[.t 41],false,some (35,true)⟩,⟨some 43,.mov,[.t 0],false,some (42,false)⟩,⟨some 44,.mov,[.t 7],false,some (42,false)⟩,⟨some 45,.idx 1,[.t 43,.t 44],false,some (42,false)⟩,⟨some 46,.load false 1,[.t 45],false,some (42,false)⟩,⟨some 47,.call 79,[.t 46],false,some (42,false)⟩,⟨some 48,.mov,[.t 47],false,some (42,false)⟩,⟨some 49,.mov,[.t 1],false,some (48,true)⟩,⟨some 50,.call 79,[.t 49],false,some (48,true)⟩,⟨some 51,.pick,[.t 48,.t 50,.c (.d (.bool false))],false,some (42,false)⟩,⟨some 52,.pick,[.t 42,.c (.d (.bool true)),.t 51],false,some (35,true)⟩,oo 53 .pick [.t 35,.t 52,.c (.d (.bool false))],oM 4 31,oM 5 53]
def Qe1 : CFn:=⟨2,54,[.t 4,.t 5],.seq (.region Qnc 9 []) (.seq (.region Qnd 9 []) (.seq (.region Qne 9 []) (.seq (.block 0 (.loop [] (.seq (.seq (.region Qnf 9 []) (.cond (.t 15) (.skip) (.exit 0))) (.block 1 (.seq (.region Qng 9 []) (.seq (.region Qnh 9 []) (.cond (.t 27) (.region Qni 9 []) (.region Qnj 9 [])))))))) (.seq (.region Qnk 9 []) (.ret)))))⟩
def Qp (Qdq : Int → Int → Option Bool) (Qb2 : Int → Option Bool) (fuel : Nat) (x1 : (List Int)) (target2 : Int) : Option (Int × Bool) :=
  ((Qcy (fun k5 ((i3,j4) : Int × Int)=>(if (i3 < j4) then ((getO x1 (IntKind.wrap .i64 (Int.fdiv (IntKind.wrap .u64 (IntKind.wrap .i64 (i3 + j4))) (2 ^ (min (Int.toNat 1) (IntKind.bits .u64)))))).bind fun x7=>((Qdq x7 target2).bind fun x10=>(if x10 then k5 ((IntKind.wrap .i64 ((IntKind.wrap .i64 (Int.fdiv (IntKind.wrap .u64 (IntKind.wrap .i64 (i3 + j4))) (2 ^ (min (Int.toNat 1) (IntKind.bits .u64))))) + 1)),j4) else k5 (i3,(IntKind.wrap .i64 (Int.fdiv (IntKind.wrap .u64 (IntKind.wrap .i64 (i3 + j4))) (2 ^ (min (Int.toNat 1) (IntKind.bits .u64))))))))) else some i3)) fuel (0,(x1.length : Int))).bind fun (i12 : Int)=>(if (i12 < (x1.length : Int)) then ((getO x1 i12).bind fun x14=>(if (x14 == target2) then some (i12,true) else ((getO x1 i12).bind fun x17=>((Qb2 x17).bind fun x20=>(if x20 then ((Qb2 target2).bind fun x23=>some (i12,x23)) else some (i12,false)))))) else some (i12,false)))
def Qix (P : Program) (c : Nat) (f : (List Int) → Int → Option Bool) : Prop:=∀ xset1 x2 r,f xset1 x2 = some r → ∀ M nb,ACalls P c [(l_ xset1),(i_ x2)] M nb (b_ r) M nb
def Qy6 : List COp:=[oo 4 .mov [.c (.d (.bool false))]]
def Qy7 : List COp:=[oM 8 0,oM 9 1,oo 10 (.call 56) [.t 8,.t 9],oM 7 10,oo 11 (.extract 0) [.t 7],oo 12 (.extract 1) [.t 7],oM 5 11,oM 6 12]
def Qy8 : List COp:=[oM 13 6,oM 4 13]
def Qiy : CFn:=⟨2,14,[.t 4],.seq (.region Qy6 9 []) (.seq (.region Qy7 9 []) (.seq (.region Qy8 9 []) (.ret)))⟩
def Qcl (Qp : (List Int) → Int → Option (Int × Bool)) (xset1 : (List Int)) (x2 : Int) : Option Bool :=
  ((Qp xset1 x2).bind fun (r4,r5)=>some r5)
def Qf8 (P : Program) (c : Nat) (f : Int → Int → (List Int) → Int → Option (Int × Bool)) : Prop:=∀ state1 event2 x3 x6 (k4 : Nat) (k7 : Nat) r,f state1 event2 x3 x6 = some r → ∀ M nb,(M k4 = some (.cells [(l_ x3)])) → (M k7 = some (.cells [(i_ x6)])) → ACalls P c [(i_ state1),(i_ event2),.ptr k4 0,.ptr k7 0] M nb (.tup [(i_ r.1),(b_ r.2)]) M nb
def Qqc : List COp:=[oo 6 .mov [cI 0],oo 7 .mov [.c (.d (.bool false))]]
def Qqd : List COp:=[oL 8 2,oM 9 1,oo 10 (.call 35) [.t 8,.t 9]]
def Qqe : List COp:=[oM 11 0,oo 12 (.bin .add false) [.t 11,cI 1],oM 13 0,oL 14 3,oo 15 (.bin .lss false) [.t 13,.t 14],oM 6 12,oM 7 15]
def Qqf : List COp:=[oM 16 0,oo 17 (.bin .sub false) [.t 16,cI 1],oM 18 0,oo 19 (.bin .gtr false) [.t 18,cI 0],oM 6 17,oM 7 19]
def Qf9 : CFn:=⟨4,20,[.t 6,.t 7],.seq (.region Qqc 9 []) (.seq (.seq (.region Qqd 9 []) (.cond (.t 10) (.seq (.region Qqe 0 []) (.ret)) (.skip))) (.seq (.region Qqf 9 []) (.ret)))⟩
def Qbv (Qcl : (List Int) → Int → Option Bool) (state1 : Int) (event2 : Int) (x3 : (List Int)) (x6 : Int) : Option (Int × Bool) :=
  ((Qcl x3 event2).bind fun x10=>(if x10 then some ((IntKind.wrap .i64 (state1 + 1)),decide (state1 < x6)) else some ((IntKind.wrap .i64 (state1 - 1)),decide (state1 > 0))))
def Qhs (P : Program) (c : Nat) (f : (List Int) → (List Int) → Int → Option (Qa × Int)) : Prop:=∀ put1 take2 capacity3 r,f put1 take2 capacity3 = some r → ∀ M nb,ACalls P c [(l_ put1),(l_ take2),(i_ capacity3)] M nb (.tup [(Qb r.1),(i_ r.2)]) M nb
def Qv0 : List COp:=[oo 3 (.box 1) [.t 0],oo 5 (.box 1) [.t 2],oo 6 (.alloc [.nils 1,.d (.int .i64 0),.nils 1,.nils 3]) [],oo 7 .mov [cI 0]]
def Qv1 : List COp:=[oL 9 3,oM 10 1,oo 11 (.call 32) [.t 9,.t 10],oM 8 11]
def Qv2 : List COp:=[oM 12 8,oo 13 (.bin .neq false) [.t 12,cI 0]]
def Qv3 : List COp:=[oo 14 (.build [.nils 1,.d (.int .i64 0),.nils 1,.nils 3] []) [],oM 15 8,⟨none,.store 4,[.t 6,.t 14],true,none⟩,oM 7 15]
def Qv4 : List COp:=[oL 16 5,oo 17 (.bin .lss false) [.t 16,cI 1],oM 18 17,⟨some 19,.load false 1,[.t 5],false,some (18,false)⟩,⟨some 20,.bin .gtr false,[.t 19,cI 1024],false,some (18,false)⟩,oo 21 .pick [.t 18,.c (.d (.bool true)),.t 20]]
def Qv5 : List COp:=[oo 22 (.build [.nils 1,.d (.int .i64 0),.nils 1,.nils 3] []) [],⟨none,.store 4,[.t 6,.t 22],true,none⟩,oo 7 .mov [cI 2]]
def Qv6 : List COp:=[oL 23 3,oM 24 1,oo 25 (.call 33) [.t 23,.t 24],oo 26 (.func 34) [.t 3,.t 5],oo 27 (.call 28) [.t 25,.c (.clo 30 []),.t 26],⟨none,.store 4,[.t 6,.t 27],true,none⟩,oo 7 .mov [cI 0]]
def Qht : CFn:=⟨3,28,[.cell 6 true 4,.t 7],.seq (.region Qv0 9 []) (.seq (.seq (.region Qv1 9 []) (.seq (.region Qv2 9 []) (.cond (.t 13) (.seq (.region Qv3 9 []) (.ret)) (.skip)))) (.seq (.seq (.region Qv4 9 []) (.cond (.t 21) (.seq (.region Qv5 9 []) (.ret)) (.skip))) (.seq (.region Qv6 9 []) (.ret))))⟩
def Qcc (Qo : (List Int) → (Int → Option Bool) → (Int → Int → Option (Int × Bool)) → Option Qa) (Q8 : Int → Option Bool) (Qct : (List Int) → (List Int) → Option Int) (Qdi : (List Int) → (List Int) → Option ((List Int))) (Qbv : Int → Int → (List Int) → Int → Option (Int × Bool)) (put1 : (List Int)) (take2 : (List Int)) (capacity3 : Int) : Option (Qa × Int) :=
  ((Qct put1 take2).bind fun x5=>(if (x5 != 0) then some ((Qa.mk [] 0 [] []),x5) else (((if (capacity3 < 1) then some true else some (decide (capacity3 > 1024)))).bind fun (x8 : Bool)=>(if x8 then some ((Qa.mk [] 0 [] []),2) else ((Qdi put1 take2).bind fun x11=>((Qo x11 Q8 (fun a15 a16=>Qbv a15 a16 put1 capacity3)).bind fun x20=>some (x20,0)))))))
def Qoe (P : Program) (c : Nat) (f : Int → Option Int) : Prop:=∀ x1 r,f x1 = some r → ∀ M nb,ACalls P c [.d (.int .u32 x1)] M nb (i_ r) M nb
def Q2f : List COp:=[oo 2 .mov [cI 0]]
def Q2g : List COp:=[oM 3 0,oo 4 (.bin .shr false) [.t 3,.c (.d (.int .u64 24))],oo 5 .idxs [.c (.d (.str ⟨#[0,1,1,2,1,2,2,3,1,2,2,3,2,3,3,4,1,2,2,3,2,3,3,4,2,3,3,4,3,4,4,5,1,2,2,3,2,3,3,4,2,3,3,4,3,4,4,5,2,3,3,4,3,4,4,5,3,4,4,5,4,5,5,6,1,2,2,3,2,3,3,4,2,3,3,4,3,4,4,5,2,3,3,4,3,4,4,5,3,4,4,5,4,5,5,6,2,3,3,4,3,4,4,5,3,4,4,5,4,5,5,6,3,4,4,5,4,5,5,6,4,5,5,6,5,6,6,7,1,2,2,3,2,3,3,4,2,3,3,4,3,4,4,5,2,3,3,4,3,4,4,5,3,4,4,5,4,5,5,6,2,3,3,4,3,4,4,5,3,4,4,5,4,5,5,6,3,4,4,5,4,5,5,6,4,5,5,6,5,6,6,7,2,3,3,4,3,4,4,5,3,4,4,5,4,5,5,6,3,4,4,5,4,5,5,6,4,5,5,6,5,6,6,7,3,4,4,5,4,5,5,6,4,5,5,6,5,6,6,7,4,5,5,6,5,6,6,7,5,6,6,7,6,7,7,8]⟩)),.t 4],oM 6 0,oo 7 (.bin .shr false) [.t 6,.c (.d (.int .u64 16))],oo 8 (.bin .and false) [.t 7,.c (.d (.int .u32 255))],oo 9 .idxs [.c (.d (.str ⟨#[0,1,1,2,1,2,2,3,1,2,2,3,2,3,3,4,1,2,2,3,2,3,3,4,2,3,3,4,3,4,4,5,1,2,2,3,2,3,3,4,2,3,3,4,3,4,4,5,2,3,3,4,3,4,4,5,3,4,4,5,4,5,5,6,1,2,2,3,2,3,3,4,2,3,3,4,3,4,4,5,2,3,3,4,3,4,4,5,3,4,4,5,4,5,5,6,2,3,3,4,3,4,4,5,3,4,4,5,4,5,5,6,3,4,4,5,4,5,5,6,4,5,5,6,5,6,6,7,1,2,2,3,2,3,3,4,2,3,3,4,3,4,4,5,2,3,3,4,3,4,4,5,3,4,4,5,4,5,5,6,2,3,3,4,3,4,4,5,3,4,4,5,4,5,5,6,3,4,4,5,4,5,5,6,4,5,5,6,5,6,6,7,2,3,3,4,3,4,4,5,3,4,4,5,4,5,5,6,3,4,4,5,4,5,5,6,4,5,5,6,5,6,6,7,3,4,4,5,4,5,5,6,4,5,5,6,5,6,6,7,4,5,5,6,5,6,6,7,5,6,6,7,6,7,7,8]⟩)),.t 8],oo 10 (.bin .add false) [.t 5,.t 9],oM 11 0,oo 12 (.bin .shr false) [.t 11,.c (.d (.int .u64 8))],oo 13 (.bin .and false) [.t 12,.c (.d (.int .u32 255))],oo 14 .idxs [.c (.d (.str ⟨#[0,1,1,2,1,2,2,3,1,2,2,3,2,3,3,4,1,2,2,3,2,3,3,4,2,3,3,4,3,4,4,5,1,2,2,3,2,3,3,4,2,3,3,4,3,4,4,5,2,3,3,4,3,4,4,5,3,4,4,5,4,5,5,6,1,2,2,3,2,3,3,4,2,3,3,4,3,4,4,5,2,3,3,4,3,4,4,5,3,4,4,5,4,5,5,6,2,3,3,4,3,4,4,5,3,4,4,5,4,5,5,6,3,4,4,5,4,5,5,6,4,5,5,6,5,6,6,7,1,2,2,3,2,3,3,4,2,3,3,4,3,4,4,5,2,3,3,4,3,4,4,5,3,4,4,5,4,5,5,6,2,3,3,4,3,4,4,5,3,4,4,5,4,5,5,6,3,4,4,5,4,5,5,6,4,5,5,6,5,6,6,7,2,3,3,4,3,4,4,5,3,4,4,5,4,5,5,6,3,4,4,5,4,5,5,6,4,5,5,6,5,6,6,7,3,4,4,5,4,5,5,6,4,5,5,6,5,6,6,7,4,5,5,6,5,6,6,7,5,6,6,7,6,7,7,8]⟩)),.t 13],oo 15 (.bin .add false) [.t 10,.t 14],oM 16 0,oo 17 (.bin .and false) [.t 16,.c (.d (.int .u32 255))],oo 18 .idxs [.c (.d (.str ⟨#[0,1,1,2,1,2,2,3,1,2,2,3,2,3,3,4,1,2,2,3,2,3,3,4,2,3,3,4,3,4,4,5,1,2,2,3,2,3,3,4,2,3,3,4,3,4,4,5,2,3,3,4,3,4,4,5,3,4,4,5,4,5,5,6,1,2,2,3,2,3,3,4,2,3,3,4,3,4,4,5,2,3,3,4,3,4,4,5,3,4,4,5,4,5,5,6,2,3,3,4,3,4,4,5,3,4,4,5,4,5,5,6,3,4,4,5,4,5,5,6,4,5,5,6,5,6,6,7,1,2,2,3,2,3,3,4,2,3,3,4,3,4,4,5,2,3,3,4,3,4,4,5,3,4,4,5,4,5,5,6,2,3,3,4,3,4,4,5,3,4,4,5,4,5,5,6,3,4,4,5,4,5,5,6,4,5,5,6,5,6,6,7,2,3,3,4,3,4,4,5,3,4,4,5,4,5,5,6,3,4,4,5,4,5,5,6,4,5,5,6,5,6,6,7,3,4,4,5,4,5,5,6,4,5,5,6,5,6,6,7,4,5,5,6,5,6,6,7,5,6,6,7,6,7,7,8]⟩)),.t 17],oo 19 (.bin .add false) [.t 15,.t 18],oo 20 (.conv .i64) [.t 19],oM 2 20]
def Qj2 : CFn:=⟨1,21,[.t 2],.seq (.region Q2f 9 []) (.seq (.region Q2g 0 []) (.ret))⟩
def Qj3 (x1 : Int) : Option Int :=
  none
def Qj4 (P : Program) (c : Nat) (f : Int → Option Int) : Prop:=∀ x1 r,f x1 = some r → ∀ M nb,ACalls P c [.d (.int .u64 x1)] M nb (i_ r) M nb
def Q2h : List COp:=[oo 2 .mov [cI 0]]
def Q2i : List COp:=[oM 3 0,oo 4 (.bin .shr false) [.t 3,.c (.d (.int .u64 1))],oo 5 (.bin .and false) [.t 4,.c (.d (.int .u64 6148914691236517205))],oM 6 0,oo 7 (.bin .and false) [.t 6,.c (.d (.int .u64 6148914691236517205))],oo 8 (.bin .add false) [.t 5,.t 7],oM 0 8]
def Q2j : List COp:=[oM 9 0,oo 10 (.bin .shr false) [.t 9,.c (.d (.int .u64 2))],oo 11 (.bin .and false) [.t 10,.c (.d (.int .u64 3689348814741910323))],oM 12 0,oo 13 (.bin .and false) [.t 12,.c (.d (.int .u64 3689348814741910323))],oo 14 (.bin .add false) [.t 11,.t 13],oM 0 14]
def Q2k : List COp:=[oM 15 0,oo 16 (.bin .shr false) [.t 15,.c (.d (.int .u64 4))],oM 17 0,oo 18 (.bin .add false) [.t 16,.t 17],oo 19 (.bin .and false) [.t 18,.c (.d (.int .u64 1085102592571150095))],oM 0 19]
def Q2l : List COp:=[oM 20 0,oM 21 0,oo 22 (.bin .shr false) [.t 21,.c (.d (.int .u64 8))],oo 23 (.bin .add false) [.t 20,.t 22],oM 0 23]
def Q2m : List COp:=[oM 24 0,oM 25 0,oo 26 (.bin .shr false) [.t 25,.c (.d (.int .u64 16))],oo 27 (.bin .add false) [.t 24,.t 26],oM 0 27]
def Q2n : List COp:=[oM 28 0,oM 29 0,oo 30 (.bin .shr false) [.t 29,.c (.d (.int .u64 32))],oo 31 (.bin .add false) [.t 28,.t 30],oM 0 31]
def Q2o : List COp:=[oM 32 0,oo 33 (.conv .i64) [.t 32],oo 34 (.bin .and false) [.t 33,cI 127],oM 2 34]
def Qj5 : CFn:=⟨1,35,[.t 2],.seq (.region Q2h 9 []) (.seq (.region Q2i 9 []) (.seq (.region Q2j 9 []) (.seq (.region Q2k 9 []) (.seq (.region Q2l 9 []) (.seq (.region Q2m 9 []) (.seq (.region Q2n 9 []) (.seq (.region Q2o 9 []) (.ret))))))))⟩
def Qcv (x1 : Int) : Option Int :=
  some (andI .i64 (IntKind.wrap .i64 (IntKind.wrap .u64 ((IntKind.wrap .u64 ((IntKind.wrap .u64 ((andI .u64 (IntKind.wrap .u64 ((Int.fdiv (IntKind.wrap .u64 ((andI .u64 (Int.fdiv (IntKind.wrap .u64 ((andI .u64 (Int.fdiv x1 (2 ^ (min (Int.toNat 1) (IntKind.bits .u64)))) 6148914691236517205) + (andI .u64 x1 6148914691236517205))) (2 ^ (min (Int.toNat 2) (IntKind.bits .u64)))) 3689348814741910323) + (andI .u64 (IntKind.wrap .u64 ((andI .u64 (Int.fdiv x1 (2 ^ (min (Int.toNat 1) (IntKind.bits .u64)))) 6148914691236517205) + (andI .u64 x1 6148914691236517205))) 3689348814741910323))) (2 ^ (min (Int.toNat 4) (IntKind.bits .u64)))) + (IntKind.wrap .u64 ((andI .u64 (Int.fdiv (IntKind.wrap .u64 ((andI .u64 (Int.fdiv x1 (2 ^ (min (Int.toNat 1) (IntKind.bits .u64)))) 6148914691236517205) + (andI .u64 x1 6148914691236517205))) (2 ^ (min (Int.toNat 2) (IntKind.bits .u64)))) 3689348814741910323) + (andI .u64 (IntKind.wrap .u64 ((andI .u64 (Int.fdiv x1 (2 ^ (min (Int.toNat 1) (IntKind.bits .u64)))) 6148914691236517205) + (andI .u64 x1 6148914691236517205))) 3689348814741910323))))) 1085102592571150095) + (Int.fdiv (andI .u64 (IntKind.wrap .u64 ((Int.fdiv (IntKind.wrap .u64 ((andI .u64 (Int.fdiv (IntKind.wrap .u64 ((andI .u64 (Int.fdiv x1 (2 ^ (min (Int.toNat 1) (IntKind.bits .u64)))) 6148914691236517205) + (andI .u64 x1 6148914691236517205))) (2 ^ (min (Int.toNat 2) (IntKind.bits .u64)))) 3689348814741910323) + (andI .u64 (IntKind.wrap .u64 ((andI .u64 (Int.fdiv x1 (2 ^ (min (Int.toNat 1) (IntKind.bits .u64)))) 6148914691236517205) + (andI .u64 x1 6148914691236517205))) 3689348814741910323))) (2 ^ (min (Int.toNat 4) (IntKind.bits .u64)))) + (IntKind.wrap .u64 ((andI .u64 (Int.fdiv (IntKind.wrap .u64 ((andI .u64 (Int.fdiv x1 (2 ^ (min (Int.toNat 1) (IntKind.bits .u64)))) 6148914691236517205) + (andI .u64 x1 6148914691236517205))) (2 ^ (min (Int.toNat 2) (IntKind.bits .u64)))) 3689348814741910323) + (andI .u64 (IntKind.wrap .u64 ((andI .u64 (Int.fdiv x1 (2 ^ (min (Int.toNat 1) (IntKind.bits .u64)))) 6148914691236517205) + (andI .u64 x1 6148914691236517205))) 3689348814741910323))))) 1085102592571150095) (2 ^ (min (Int.toNat 8) (IntKind.bits .u64)))))) + (Int.fdiv (IntKind.wrap .u64 ((andI .u64 (IntKind.wrap .u64 ((Int.fdiv (IntKind.wrap .u64 ((andI .u64 (Int.fdiv (IntKind.wrap .u64 ((andI .u64 (Int.fdiv x1 (2 ^ (min (Int.toNat 1) (IntKind.bits .u64)))) 6148914691236517205) + (andI .u64 x1 6148914691236517205))) (2 ^ (min (Int.toNat 2) (IntKind.bits .u64)))) 3689348814741910323) + (andI .u64 (IntKind.wrap .u64 ((andI .u64 (Int.fdiv x1 (2 ^ (min (Int.toNat 1) (IntKind.bits .u64)))) 6148914691236517205) + (andI .u64 x1 6148914691236517205))) 3689348814741910323))) (2 ^ (min (Int.toNat 4) (IntKind.bits .u64)))) + (IntKind.wrap .u64 ((andI .u64 (Int.fdiv (IntKind.wrap .u64 ((andI .u64 (Int.fdiv x1 (2 ^ (min (Int.toNat 1) (IntKind.bits .u64)))) 6148914691236517205) + (andI .u64 x1 6148914691236517205))) (2 ^ (min (Int.toNat 2) (IntKind.bits .u64)))) 3689348814741910323) + (andI .u64 (IntKind.wrap .u64 ((andI .u64 (Int.fdiv x1 (2 ^ (min (Int.toNat 1) (IntKind.bits .u64)))) 6148914691236517205) + (andI .u64 x1 6148914691236517205))) 3689348814741910323))))) 1085102592571150095) + (Int.fdiv (andI .u64 (IntKind.wrap .u64 ((Int.fdiv (IntKind.wrap .u64 ((andI .u64 (Int.fdiv (IntKind.wrap .u64 ((andI .u64 (Int.fdiv x1 (2 ^ (min (Int.toNat 1) (IntKind.bits .u64)))) 6148914691236517205) + (andI .u64 x1 6148914691236517205))) (2 ^ (min (Int.toNat 2) (IntKind.bits .u64)))) 3689348814741910323) + (andI .u64 (IntKind.wrap .u64 ((andI .u64 (Int.fdiv x1 (2 ^ (min (Int.toNat 1) (IntKind.bits .u64)))) 6148914691236517205) + (andI .u64 x1 6148914691236517205))) 3689348814741910323))) (2 ^ (min (Int.toNat 4) (IntKind.bits .u64)))) + (IntKind.wrap .u64 ((andI .u64 (Int.fdiv (IntKind.wrap .u64 ((andI .u64 (Int.fdiv x1 (2 ^ (min (Int.toNat 1) (IntKind.bits .u64)))) 6148914691236517205) + (andI .u64 x1 6148914691236517205))) (2 ^ (min (Int.toNat 2) (IntKind.bits .u64)))) 3689348814741910323) + (andI .u64 (IntKind.wrap .u64 ((andI .u64 (Int.fdiv x1 (2 ^ (min (Int.toNat 1) (IntKind.bits .u64)))) 6148914691236517205) + (andI .u64 x1 6148914691236517205))) 3689348814741910323))))) 1085102592571150095) (2 ^ (min (Int.toNat 8) (IntKind.bits .u64)))))) (2 ^ (min (Int.toNat 16) (IntKind.bits .u64)))))) + (Int.fdiv (IntKind.wrap .u64 ((IntKind.wrap .u64 ((andI .u64 (IntKind.wrap .u64 ((Int.fdiv (IntKind.wrap .u64 ((andI .u64 (Int.fdiv (IntKind.wrap .u64 ((andI .u64 (Int.fdiv x1 (2 ^ (min (Int.toNat 1) (IntKind.bits .u64)))) 6148914691236517205) + (andI .u64 x1 6148914691236517205))) (2 ^ (min (Int.toNat 2) (IntKind.bits .u64)))) 3689348814741910323) + (andI .u64 (IntKind.wrap .u64 ((andI .u64 (Int.fdiv x1 (2 ^ (min (Int.toNat 1) (IntKind.bits .u64)))) 6148914691236517205) + (andI .u64 x1 6148914691236517205))) 3689348814741910323))) (2 ^ (min (Int.toNat 4) (IntKind.bits .u64)))) + (IntKind.wrap .u64 ((andI .u64 (Int.fdiv (IntKind.wrap .u64 ((andI .u64 (Int.fdiv x1 (2 ^ (min (Int.toNat 1) (IntKind.bits .u64)))) 6148914691236517205) + (andI .u64 x1 6148914691236517205))) (2 ^ (min (Int.toNat 2) (IntKind.bits .u64)))) 3689348814741910323) + (andI .u64 (IntKind.wrap .u64 ((andI .u64 (Int.fdiv x1 (2 ^ (min (Int.toNat 1) (IntKind.bits .u64)))) 6148914691236517205) + (andI .u64 x1 6148914691236517205))) 3689348814741910323))))) 1085102592571150095) + (Int.fdiv (andI .u64 (IntKind.wrap .u64 ((Int.fdiv (IntKind.wrap .u64 ((andI .u64 (Int.fdiv (IntKind.wrap .u64 ((andI .u64 (Int.fdiv x1 (2 ^ (min (Int.toNat 1) (IntKind.bits .u64)))) 6148914691236517205) + (andI .u64 x1 6148914691236517205))) (2 ^ (min (Int.toNat 2) (IntKind.bits .u64)))) 3689348814741910323) + (andI .u64 (IntKind.wrap .u64 ((andI .u64 (Int.fdiv x1 (2 ^ (min (Int.toNat 1) (IntKind.bits .u64)))) 6148914691236517205) + (andI .u64 x1 6148914691236517205))) 3689348814741910323))) (2 ^ (min (Int.toNat 4) (IntKind.bits .u64)))) + (IntKind.wrap .u64 ((andI .u64 (Int.fdiv (IntKind.wrap .u64 ((andI .u64 (Int.fdiv x1 (2 ^ (min (Int.toNat 1) (IntKind.bits .u64)))) 6148914691236517205) + (andI .u64 x1 6148914691236517205))) (2 ^ (min (Int.toNat 2) (IntKind.bits .u64)))) 3689348814741910323) + (andI .u64 (IntKind.wrap .u64 ((andI .u64 (Int.fdiv x1 (2 ^ (min (Int.toNat 1) (IntKind.bits .u64)))) 6148914691236517205) + (andI .u64 x1 6148914691236517205))) 3689348814741910323))))) 1085102592571150095) (2 ^ (min (Int.toNat 8) (IntKind.bits .u64)))))) + (Int.fdiv (IntKind.wrap .u64 ((andI .u64 (IntKind.wrap .u64 ((Int.fdiv (IntKind.wrap .u64 ((andI .u64 (Int.fdiv (IntKind.wrap .u64 ((andI .u64 (Int.fdiv x1 (2 ^ (min (Int.toNat 1) (IntKind.bits .u64)))) 6148914691236517205) + (andI .u64 x1 6148914691236517205))) (2 ^ (min (Int.toNat 2) (IntKind.bits .u64)))) 3689348814741910323) + (andI .u64 (IntKind.wrap .u64 ((andI .u64 (Int.fdiv x1 (2 ^ (min (Int.toNat 1) (IntKind.bits .u64)))) 6148914691236517205) + (andI .u64 x1 6148914691236517205))) 3689348814741910323))) (2 ^ (min (Int.toNat 4) (IntKind.bits .u64)))) + (IntKind.wrap .u64 ((andI .u64 (Int.fdiv (IntKind.wrap .u64 ((andI .u64 (Int.fdiv x1 (2 ^ (min (Int.toNat 1) (IntKind.bits .u64)))) 6148914691236517205) + (andI .u64 x1 6148914691236517205))) (2 ^ (min (Int.toNat 2) (IntKind.bits .u64)))) 3689348814741910323) + (andI .u64 (IntKind.wrap .u64 ((andI .u64 (Int.fdiv x1 (2 ^ (min (Int.toNat 1) (IntKind.bits .u64)))) 6148914691236517205) + (andI .u64 x1 6148914691236517205))) 3689348814741910323))))) 1085102592571150095) + (Int.fdiv (andI .u64 (IntKind.wrap .u64 ((Int.fdiv (IntKind.wrap .u64 ((andI .u64 (Int.fdiv (IntKind.wrap .u64 ((andI .u64 (Int.fdiv x1 (2 ^ (min (Int.toNat 1) (IntKind.bits .u64)))) 6148914691236517205) + (andI .u64 x1 6148914691236517205))) (2 ^ (min (Int.toNat 2) (IntKind.bits .u64)))) 3689348814741910323) + (andI .u64 (IntKind.wrap .u64 ((andI .u64 (Int.fdiv x1 (2 ^ (min (Int.toNat 1) (IntKind.bits .u64)))) 6148914691236517205) + (andI .u64 x1 6148914691236517205))) 3689348814741910323))) (2 ^ (min (Int.toNat 4) (IntKind.bits .u64)))) + (IntKind.wrap .u64 ((andI .u64 (Int.fdiv (IntKind.wrap .u64 ((andI .u64 (Int.fdiv x1 (2 ^ (min (Int.toNat 1) (IntKind.bits .u64)))) 6148914691236517205) + (andI .u64 x1 6148914691236517205))) (2 ^ (min (Int.toNat 2) (IntKind.bits .u64)))) 3689348814741910323) + (andI .u64 (IntKind.wrap .u64 ((andI .u64 (Int.fdiv x1 (2 ^ (min (Int.toNat 1) (IntKind.bits .u64)))) 6148914691236517205) + (andI .u64 x1 6148914691236517205))) 3689348814741910323))))) 1085102592571150095) (2 ^ (min (Int.toNat 8) (IntKind.bits .u64)))))) (2 ^ (min (Int.toNat 16) (IntKind.bits .u64)))))) (2 ^ (min (Int.toNat 32) (IntKind.bits .u64))))))) 127)
def Qlt (P : Program) (c : Nat) (f : Int → Option Int) : Prop:=∀ x1 r,f x1 = some r → ∀ M nb,ACalls P c [.d (.int .u64 x1)] M nb (i_ r) M nb
def Q6d : List COp:=[oo 2 .mov [cI 0]]
def Q6e : List COp:=[oM 3 0,oo 4 (.conv .u32) [.t 3],oo 5 (.call 57) [.t 4],oM 2 5]
def Q6f : List COp:=[oM 6 0,oo 7 (.call 58) [.t 6],oM 2 7]
def Qlu : CFn:=⟨1,8,[.t 2],.seq (.region Q6d 9 []) (.seq (.cond (.c (.d (.bool false))) (.seq (.region Q6e 9 []) (.ret)) (.skip)) (.seq (.region Q6f 9 []) (.ret)))⟩
def Qdj (Qcv : Int → Option Int) (x1 : Int) : Option Int :=
  ((Qcv x1).bind fun x3=>some x3)
def Qga (P : Program) (c : Nat) (f : Int → Int → (List Int) → Int → Option (Int × Bool)) : Prop:=∀ state1 event2 x3 x6 (k4 : Nat) (k7 : Nat) r,f state1 event2 x3 x6 = some r → ∀ M nb,(M k4 = some (.cells [(l_ x3)])) → (M k7 = some (.cells [(i_ x6)])) → ACalls P c [(i_ state1),(i_ event2),.ptr k4 0,.ptr k7 0] M nb (.tup [(i_ r.1),(b_ r.2)]) M nb
def Qqg : List COp:=[oo 6 .mov [cI 0],oo 7 .mov [.c (.d (.bool false))]]
def Qqh : List COp:=[oL 10 2,oM 11 1,oo 12 (.call 26) [.t 10,.t 11],oM 8 12]
def Qqi : List COp:=[oM 13 8,oo 14 (.bin .quo false) [.t 13,cI 2],oo 15 (.bin .shl false) [cI 1,.t 14],oM 9 15]
def Qqj : List COp:=[oM 16 8,oo 17 (.bin .rem false) [.t 16,cI 2],oo 18 (.bin .eql false) [.t 17,cI 0]]
def Qqk : List COp:=[oM 19 0,oM 20 9,oo 21 (.bin .or false) [.t 19,.t 20],oM 22 0,oM 23 9,oo 24 (.bin .and false) [.t 22,.t 23],oo 25 (.bin .eql false) [.t 24,cI 0],oM 26 25,⟨some 27,.mov,[.t 0],false,some (26,true)⟩,⟨some 28,.conv .u64,[.t 27],false,some (26,true)⟩,⟨some 29,.call 38,[.t 28],false,some (26,true)⟩,⟨some 30,.load false 1,[.t 3],false,some (26,true)⟩,⟨some 31,.bin .lss false,[.t 29,.t 30],false,some (26,true)⟩,oo 32 .pick [.t 26,.t 31,.c (.d (.bool false))],oM 6 21,oM 7 32]
def Qql : List COp:=[oM 33 0,oM 34 9,oo 35 (.bin .andNot false) [.t 33,.t 34],oM 36 0,oM 37 9,oo 38 (.bin .and false) [.t 36,.t 37],oo 39 (.bin .neq false) [.t 38,cI 0],oM 6 35,oM 7 39]
def Qgb : CFn:=⟨4,40,[.t 6,.t 7],.seq (.region Qqg 9 []) (.seq (.region Qqh 9 []) (.seq (.region Qqi 9 []) (.seq (.seq (.region Qqj 9 []) (.cond (.t 18) (.seq (.region Qqk 1 []) (.ret)) (.skip))) (.seq (.region Qql 9 []) (.ret)))))⟩
def Qbw (Q7 : (List Int) → Int → Option Int) (Qdj : Int → Option Int) (state1 : Int) (event2 : Int) (x3 : (List Int)) (x6 : Int) : Option (Int × Bool) :=
  ((Q7 x3 event2).bind fun x10=>((shlO .i64 1 (IntKind.wrap .i64 (Int.tdiv x10 2))).bind fun s11=>(if ((Int.tmod x10 2) == 0) then (if ((andI .i64 state1 s11) == 0) then ((Qdj (IntKind.wrap .u64 state1)).bind fun x16=>some ((orI .i64 state1 s11),decide (x16 < x6))) else some ((orI .i64 state1 s11),false)) else some ((Qbip .i64 state1 s11),((andI .i64 state1 s11) != 0)))))
def Qkt (P : Program) (c : Nat) (f : Int → Option Bool) : Prop:=∀ x1 r,f x1 = some r → ∀ M nb,ACalls P c [(i_ x1)] M nb (b_ r) M nb
def Q4c : List COp:=[oo 2 .mov [.c (.d (.bool false))]]
def Q4d : List COp:=[oo 2 .mov [.c (.d (.bool true))]]
def Qku : CFn:=⟨1,3,[.t 2],.seq (.region Q4c 9 []) (.seq (.region Q4d 9 []) (.ret))⟩
def Qc7 (x1 : Int) : Option Bool :=
  some true
def Qhu (P : Program) (c : Nat) (f : (List Qu) → Int → Option (Qa × Int)) : Prop:=∀ phases1 most2 r,f phases1 most2 = some r → ∀ M nb,ACalls P c [.d (.lst 2 (List.map Qbe phases1)),(i_ most2)] M nb (.tup [(Qb r.1),(i_ r.2)]) M nb
def Qv7 : List COp:=[oo 3 (.box 1) [.t 1],oo 4 (.alloc [.nils 1,.d (.int .i64 0),.nils 1,.nils 3]) [],oo 5 .mov [cI 0]]
def Qv8 : List COp:=[oM 10 0,oo 11 .len [.t 10],oo 12 (.bin .gtr false) [.t 11,cI 10]]
def Qv9 : List COp:=[oo 13 (.build [.nils 1,.d (.int .i64 0),.nils 1,.nils 3] []) [],⟨none,.store 4,[.t 4,.t 13],true,none⟩,oo 5 .mov [cI 3]]
def Qwa : List COp:=[oo 6 (.alloc [.nils 1]) []]
def Qwb : List COp:=[oM 14 0,oo 15 .len [.t 14],oo 16 .mov [cI 0]]
def Qwc : List COp:=[oo 17 (.bin .lss false) [.t 16,.t 15]]
def Qwd : List COp:=[oo 18 (.idx 2) [.t 14,.t 16],oo 19 (.load true 2) [.t 18],oo 8 (.alloc [.d (.int .i64 0),.d (.int .i64 0)]) [],⟨none,.store 2,[.t 8,.t 19],false,none⟩]
def Qwe : List COp:=[oo 20 .loadT [.t 6],oF 21 0 8,oL 22 21,oF 23 1 8,oL 24 23,oo 25 (.bslice 1 2 [.d (.int .i64 0)] [0,1]) [.t 22,.t 24],ot 26 (.append 1 8) [.t 20,.t 25],⟨none,.store 1,[.t 6,.t 26],true,none⟩]
def Qwf : List COp:=[oo 27 (.bin .add false) [.t 16,cI 1],oM 16 27]
def Qwg : List COp:=[oL 28 6,oo 29 (.call 27) [.t 28],oM 9 29]
def Qsx : List COp:=[oM 30 9,oo 31 (.bin .neq false) [.t 30,cI 0]]
def Qsy : List COp:=[oo 32 (.build [.nils 1,.d (.int .i64 0),.nils 1,.nils 3] []) [],oM 33 9,⟨none,.store 4,[.t 4,.t 32],true,none⟩,oM 5 33]
def Qsz : List COp:=[oL 34 3,oo 35 (.bin .lss false) [.t 34,cI 0],oM 36 35,⟨some 37,.load false 1,[.t 3],false,some (36,false)⟩,⟨some 38,.mov,[.t 0],false,some (36,false)⟩,⟨some 39,.len,[.t 38],false,some (36,false)⟩,⟨some 40,.bin .gtr false,[.t 37,.t 39],false,some (36,false)⟩,oo 41 .pick [.t 36,.c (.d (.bool true)),.t 40]]
def Qs0 : List COp:=[oo 42 (.build [.nils 1,.d (.int .i64 0),.nils 1,.nils 3] []) [],⟨none,.store 4,[.t 4,.t 42],true,none⟩,oo 5 .mov [cI 2]]
def Qs1 : List COp:=[oL 43 6,oo 44 (.call 29) [.t 43],oo 45 (.func 37) [.t 6,.t 3],oo 46 (.call 28) [.t 44,.c (.clo 36 []),.t 45],⟨none,.store 4,[.t 4,.t 46],true,none⟩,oo 5 .mov [cI 0]]
def Qhv : CFn:=⟨2,47,[.cell 4 true 4,.t 5],.seq (.region Qv7 9 []) (.seq (.seq (.region Qv8 9 []) (.cond (.t 12) (.seq (.region Qv9 9 []) (.ret)) (.skip))) (.seq (.region Qwa 9 []) (.seq (.seq (.region Qwb 9 []) (.block 0 (.loop [8,25] (.seq (.region Qwc 9 []) (.seq (.cond (.t 17) (.skip) (.exit 0)) (.seq (.block 1 (.seq (.region Qwd 9 []) (.region Qwe 9 []))) (.region Qwf 9 []))))))) (.seq (.seq (.region Qwg 9 []) (.seq (.region Qsx 9 []) (.cond (.t 31) (.seq (.region Qsy 9 []) (.ret)) (.skip)))) (.seq (.seq (.region Qsz 9 []) (.cond (.t 41) (.seq (.region Qs0 9 []) (.ret)) (.skip))) (.seq (.region Qs1 9 []) (.ret)))))))⟩
def Qcd (Qx : (List Int) → Option Int) (Qo : (List Int) → (Int → Option Bool) → (Int → Int → Option (Int × Bool)) → Option Qa) (Q5 : (List Int) → Option ((List Int))) (Qc7 : Int → Option Bool) (Qbw : Int → Int → (List Int) → Int → Option (Int × Bool)) (fuel : Nat) (phases1 : (List Qu)) (most2 : Int) : Option (Qa × Int) :=
  (if ((phases1.length : Int) > 10) then some ((Qa.mk [] 0 [] []),3) else ((Qcy (fun k9 ((x4,c5,c6,c7,events8) : Int × (List Int) × (List Int) × (List Qd) × (List Int))=>(if (x4 < (phases1.length : Int)) then ((getO phases1 x4).bind fun x11=>((appO events8 [x11.Enter,x11.Leave]).bind fun x13=>k9 ((IntKind.wrap .i64 (x4 + 1)),c5,c6,c7,x13))) else some (c5,c6,c7,events8))) fuel (0,[],[],[],[])).bind fun ((c15,c16,c17,events18) : (List Int) × (List Int) × (List Qd) × (List Int))=>((Qx events18).bind fun x20=>(if (x20 != 0) then some ((Qa.mk [] 0 [] []),x20) else (((if (most2 < 0) then some true else some (decide (most2 > (phases1.length : Int))))).bind fun (x23 : Bool)=>(if x23 then some ((Qa.mk [] 0 [] []),2) else ((Q5 events18).bind fun x26=>((Qo x26 Qc7 (fun a30 a31=>Qbw a30 a31 events18 most2)).bind fun x35=>some (x35,0)))))))))
def Qhw (P : Program) (c : Nat) (f : (List Int) → Int → Option Int) : Prop:=∀ l1 n2 r,f l1 n2 = some r → ∀ M nb,ACalls P c [(l_ l1),(i_ n2)] M nb (i_ r) M nb
def Qwh : List COp:=[oo 4 .mov [cI 0]]
def Qwi : List COp:=[oM 7 0,oo 8 .len [.t 7],oo 9 .mov [cI 0]]
def Qwj : List COp:=[oo 10 (.bin .lss false) [.t 9,.t 8]]
def Qwk : List COp:=[oM 11 9,oo 12 (.idx 1) [.t 7,.t 9],oL 13 12,oM 5 11,oM 6 13]
def Qwl : List COp:=[oM 15 6,oo 16 (.bin .lss false) [.t 15,cI 0],oM 17 16,⟨some 18,.mov,[.t 6],false,some (17,false)⟩,⟨some 19,.mov,[.t 1],false,some (17,false)⟩,⟨some 20,.bin .geq false,[.t 18,.t 19],false,some (17,false)⟩,oo 21 .pick [.t 17,.c (.d (.bool true)),.t 20],oM 14 21]
def Qwm : List COp:=[oo 4 .mov [cI 2]]
def Qwn : List COp:=[oM 23 5,oo 24 (.bin .gtr false) [.t 23,cI 0],oM 25 24,⟨some 26,.mov,[.t 6],false,some (25,true)⟩,⟨some 27,.mov,[.t 0],false,some (25,true)⟩,⟨some 28,.mov,[.t 5],false,some (25,true)⟩,⟨some 29,.bin .sub false,[.t 28,cI 1],false,some (25,true)⟩,⟨some 30,.idx 1,[.t 27,.t 29],false,some (25,true)⟩,⟨some 31,.load false 1,[.t 30],false,some (25,true)⟩,⟨some 32,.bin .leq false,[.t 26,.t 31],false,some (25,true)⟩,oo 33 .pick [.t 25,.t 32,.c (.d (.bool false))],oM 22 33]
def Qwo : List COp:=[oo 4 .mov [cI 5]]
def Qwp : List COp:=[oo 34 (.bin .add false) [.t 9,cI 1],oM 9 34]
def Qwq : List COp:=[oo 4 .mov [cI 0]]
def Qhx : CFn:=⟨2,35,[.t 4],.seq (.region Qwh 9 []) (.seq (.seq (.region Qwi 9 []) (.block 0 (.loop [] (.seq (.region Qwj 9 []) (.seq (.cond (.t 10) (.skip) (.exit 0)) (.seq (.block 1 (.seq (.region Qwk 9 []) (.block 2 (.seq (.region Qwl 9 []) (.cond (.t 14) (.seq (.region Qwm 9 []) (.ret)) (.seq (.region Qwn 9 []) (.cond (.t 22) (.seq (.region Qwo 9 []) (.ret)) (.skip)))))))) (.region Qwp 9 []))))))) (.seq (.region Qwq 9 []) (.ret)))⟩
def Qbh (fuel : Nat) (l1 : (List Int)) (n2 : Int) : Option Int :=
  Qcy (fun k4 (x3 : Int)=>(if (x3 < (l1.length : Int)) then ((getO l1 x3).bind fun x6=>(((if (x6 < 0) then some true else some (decide (x6 ≥ n2)))).bind fun (x9 : Bool)=>(if x9 then some 2 else (((if (x3 > 0) then ((getO l1 (IntKind.wrap .i64 (x3 - 1))).bind fun x12=>some (decide (x6 ≤ x12))) else some false)).bind fun (x14 : Bool)=>(if x14 then some 5 else k4 (IntKind.wrap .i64 (x3 + 1))))))) else some 0)) fuel 0
def Qgc (P : Program) (c : Nat) (f : Qa → Option Int) : Prop:=∀ a1 r,f a1 = some r → ∀ M nb,ACalls P c [(Qb a1)] M nb (i_ r) M nb
def Qqm : List COp:=[oo 1 (.box 4) [.t 0],oo 2 .mov [cI 0]]
def Qqn : List COp:=[oF 6 3 1,oL 7 6,oo 8 .len [.t 7],oo 9 .mov [cI 0]]
def Qqo : List COp:=[oo 10 (.bin .lss false) [.t 9,.t 8]]
def Qqp : List COp:=[oM 11 9,oo 12 (.idx 3) [.t 7,.t 9],oo 13 (.load true 3) [.t 12],oo 4 (.alloc [.d (.int .i64 0),.d (.int .i64 0),.d (.int .i64 0)]) [],oM 3 11,⟨none,.store 3,[.t 4,.t 13],false,none⟩]
def Qqq : List COp:=[oF 15 0 4,oL 16 15,oo 17 (.bin .lss false) [.t 16,cI 0],oM 18 17,⟨some 19,.fld 0,[.t 4],false,some (18,false)⟩,⟨some 20,.load false 1,[.t 19],false,some (18,false)⟩,⟨some 21,.fld 1,[.t 1],false,some (18,false)⟩,⟨some 22,.load false 1,[.t 21],false,some (18,false)⟩,⟨some 23,.bin .geq false,[.t 20,.t 22],false,some (18,false)⟩,oo 24 .pick [.t 18,.c (.d (.bool true)),.t 23],oM 25 24,⟨some 26,.fld 2,[.t 4],false,some (25,false)⟩,⟨some 27,.load false 1,[.t 26],false,some (25,false)⟩,⟨some 28,.bin .lss false,[.t 27,cI 0],false,some (25,false)⟩,oo 29 .pick [.t 25,.c (.d (.bool true)),.t 28],oM 30 29,⟨some 31,.fld 2,[.t 4],false,some (30,false)⟩,⟨some 32,.load false 1,[.t 31],false,some (30,false)⟩,⟨some 33,.fld 1,[.t 1],false,some (30,false)⟩,⟨some 34,.load false 1,[.t 33],false,some (30,false)⟩,⟨some 35,.bin .geq false,[.t 32,.t 34],false,some (30,false)⟩,oo 36 .pick [.t 30,.c (.d (.bool true)),.t 35],oM 14 36]
def Qqr : List COp:=[oo 2 .mov [cI 2]]
def Qqs : List COp:=[oF 38 0 1,oL 39 38,oF 40 1 4,oL 41 40,oo 42 (.call 12) [.t 39,.t 41],oo 43 (.un .not) [.t 42],oM 37 43]
def Qqt : List COp:=[oo 2 .mov [cI 9]]
def Qqu : List COp:=[oM 44 3,oo 45 (.bin .eql false) [.t 44,cI 0]]
def Qqv : List COp:=[oF 46 3 1,oL 47 46,oM 48 3,oo 49 (.bin .sub false) [.t 48,cI 1],oo 50 (.idx 3) [.t 47,.t 49],oo 51 (.load true 3) [.t 50],oo 5 (.alloc [.d (.int .i64 0),.d (.int .i64 0),.d (.int .i64 0)]) [],⟨none,.store 3,[.t 5,.t 51],false,none⟩]
def Qoy : List COp:=[oF 52 0 4,oL 53 52,oF 54 0 5,oL 55 54,oo 56 (.bin .lss false) [.t 53,.t 55],oM 57 56,⟨some 58,.fld 0,[.t 4],false,some (57,false)⟩,⟨some 59,.load false 1,[.t 58],false,some (57,false)⟩,⟨some 60,.fld 0,[.t 5],false,some (57,false)⟩,⟨some 61,.load false 1,[.t 60],false,some (57,false)⟩,⟨some 62,.bin .eql false,[.t 59,.t 61],false,some (57,false)⟩,⟨some 63,.mov,[.t 62],false,some (57,false)⟩,⟨some 64,.fld 1,[.t 4],false,some (63,true)⟩,⟨some 65,.load false 1,[.t 64],false,some (63,true)⟩,⟨some 66,.fld 1,[.t 5],false,some (63,true)⟩,⟨some 67,.load false 1,[.t 66],false,some (63,true)⟩,⟨some 68,.bin .leq false,[.t 65,.t 67],false,some (63,true)⟩,⟨some 69,.pick,[.t 63,.t 68,.c (.d (.bool false))],false,some (57,false)⟩,oo 70 .pick [.t 57,.c (.d (.bool true)),.t 69]]
def Qoz : List COp:=[oo 2 .mov [cI 5]]
def Qo0 : List COp:=[oo 71 (.bin .add false) [.t 9,cI 1],oM 9 71]
def Qo1 : List COp:=[oo 2 .mov [cI 0]]
def Qgd : CFn:=⟨1,72,[.t 2],.seq (.region Qqm 9 []) (.seq (.seq (.region Qqn 9 []) (.block 0 (.loop [4,5] (.seq (.region Qqo 9 []) (.seq (.cond (.t 10) (.skip) (.exit 0)) (.seq (.block 1 (.seq (.region Qqp 9 []) (.seq (.block 2 (.seq (.region Qqq 9 []) (.cond (.t 14) (.seq (.region Qqr 9 []) (.ret)) (.seq (.region Qqs 9 []) (.cond (.t 37) (.seq (.region Qqt 9 []) (.ret)) (.skip)))))) (.seq (.seq (.region Qqu 9 []) (.cond (.t 45) (.exit 1) (.skip))) (.seq (.region Qqv 9 []) (.seq (.region Qoy 9 []) (.cond (.t 70) (.seq (.region Qoz 9 []) (.ret)) (.skip)))))))) (.region Qo0 9 []))))))) (.seq (.region Qo1 9 []) (.ret)))⟩
def Qbf (Ql : (List Int) → Int → Option Bool) (fuel : Nat) (a1 : Qa) : Option Int :=
  Qcy (fun k3 (x2 : Int)=>(if (x2 < (a1.Edges.length : Int)) then letJ (fun ((c22,c23,c24) : Int × Int × Int)=>k3 (IntKind.wrap .i64 (x2 + 1))) fun J25=>((getO a1.Edges x2).bind fun x5=>(((if (x5.From < 0) then some true else (if (x5.From ≥ a1.States) then some true else (if (x5.To < 0) then some true else some (decide (x5.To ≥ a1.States)))))).bind fun (x10 : Bool)=>(if x10 then some 2 else ((Ql a1.Alphabet x5.Event).bind fun x13=>(if x13 then (if (x2 == 0) then J25 (x5.From,x5.Event,x5.To) else ((getO a1.Edges (IntKind.wrap .i64 (x2 - 1))).bind fun x16=>(((if (x5.From < x16.From) then some true else (if (x5.From == x16.From) then some (decide (x5.Event ≤ x16.Event)) else some false))).bind fun (x20 : Bool)=>(if x20 then some 5 else J25 (x5.From,x5.Event,x5.To))))) else some 9))))) else some 0)) fuel 0
def Qff (P : Program) (c : Nat) (f : Qa → Option Int) : Prop:=∀ a1 r,f a1 = some r → ∀ M nb,ACalls P c [(Qb a1)] M nb (i_ r) M nb
def Q4e : List COp:=[oo 1 (.box 4) [.t 0],oo 2 .mov [cI 0]]
def Q4f : List COp:=[oF 5 0 1,oL 6 5,oo 7 (.call 83) [.t 6,cI 32],oM 3 7]
def Q4g : List COp:=[oM 8 3,oo 9 (.bin .neq false) [.t 8,cI 0]]
def Q4h : List COp:=[oM 10 3,oM 2 10]
def Q4i : List COp:=[oF 12 1 1,oL 13 12,oo 14 (.bin .lss false) [.t 13,cI 0],oM 11 14]
def Q4j : List COp:=[oo 2 .mov [cI 2]]
def Q4k : List COp:=[oF 16 1 1,oL 17 16,oo 18 (.bin .gtr false) [.t 17,cI 4096],oM 15 18]
def Q4l : List COp:=[oo 2 .mov [cI 3]]
def Q4m : List COp:=[oF 19 2 1,oL 20 19,oF 21 1 1,oL 22 21,oo 23 (.call 83) [.t 20,.t 22],oM 4 23]
def Q4n : List COp:=[oM 24 4,oo 25 (.bin .neq false) [.t 24,cI 0]]
def Q2p : List COp:=[oM 26 4,oM 2 26]
def Q2q : List COp:=[oo 27 (.load true 4) [.t 1],oo 28 (.call 84) [.t 27],oM 2 28]
def Qkv : CFn:=⟨1,29,[.t 2],.seq (.region Q4e 9 []) (.seq (.seq (.region Q4f 9 []) (.seq (.region Q4g 9 []) (.cond (.t 9) (.seq (.region Q4h 9 []) (.ret)) (.skip)))) (.seq (.block 0 (.seq (.region Q4i 9 []) (.cond (.t 11) (.seq (.region Q4j 9 []) (.ret)) (.seq (.region Q4k 9 []) (.cond (.t 15) (.seq (.region Q4l 9 []) (.ret)) (.skip)))))) (.seq (.seq (.region Q4m 9 []) (.seq (.region Q4n 9 []) (.cond (.t 25) (.seq (.region Q2p 9 []) (.ret)) (.skip)))) (.seq (.region Q2q 9 []) (.ret)))))⟩
def Qv (Qbh : (List Int) → Int → Option Int) (Qbf : Qa → Option Int) (a1 : Qa) : Option Int :=
  ((Qbh a1.Alphabet 32).bind fun x3=>(if (x3 != 0) then some x3 else (if (a1.States < 0) then some 2 else (if (a1.States > 4096) then some 3 else ((Qbh a1.Marked a1.States).bind fun x8=>(if (x8 != 0) then some x8 else ((Qbf a1).bind fun x11=>some x11)))))))
def Qge (P : Program) (c : Nat) (f : Qa → Int → Option Int) : Prop:=∀ a1 state2 r,f a1 state2 = some r → ∀ M nb,ACalls P c [(Qb a1),(i_ state2)] M nb (i_ r) M nb
def Qqw : List COp:=[oo 2 (.box 4) [.t 0],oo 4 .mov [cI 0]]
def Qqx : List COp:=[oo 6 (.load true 4) [.t 2],oo 7 (.call 62) [.t 6],oM 5 7]
def Qqy : List COp:=[oM 8 5,oo 9 (.bin .neq false) [.t 8,cI 0]]
def Qqz : List COp:=[oM 10 5,oM 4 10]
def Qq0 : List COp:=[oM 11 1,oo 12 (.bin .lss false) [.t 11,cI 0],oM 13 12,⟨some 14,.mov,[.t 1],false,some (13,false)⟩,⟨some 15,.fld 1,[.t 2],false,some (13,false)⟩,⟨some 16,.load false 1,[.t 15],false,some (13,false)⟩,⟨some 17,.bin .geq false,[.t 14,.t 16],false,some (13,false)⟩,oo 18 .pick [.t 13,.c (.d (.bool true)),.t 17]]
def Qq1 : List COp:=[oo 4 .mov [cI 2]]
def Qq2 : List COp:=[oo 4 .mov [cI 0]]
def Qgf : CFn:=⟨2,19,[.t 4],.seq (.region Qqw 9 []) (.seq (.seq (.region Qqx 9 []) (.seq (.region Qqy 9 []) (.cond (.t 9) (.seq (.region Qqz 9 []) (.ret)) (.skip)))) (.seq (.seq (.region Qq0 9 []) (.cond (.t 18) (.seq (.region Qq1 9 []) (.ret)) (.skip))) (.seq (.region Qq2 9 []) (.ret))))⟩
def Qbx (Qv : Qa → Option Int) (a1 : Qa) (state2 : Int) : Option Int :=
  ((Qv a1).bind fun x4=>(if (x4 != 0) then some x4 else (((if (state2 < 0) then some true else some (decide (state2 ≥ a1.States)))).bind fun (x7 : Bool)=>(if x7 then some 2 else some 0))))
def Qdy (P : Program) (c : Nat) (f : (List Qd) → Int → (Qd → Int → Option Int) → Option (Int × Bool)) : Prop:=∀ x1 target2 cmp3 (g4 : Nat) (cp5 : List V) r,f x1 target2 cmp3 = some r → ∀ M nb,(V.dems cp5 = cp5) → (V.ons (There M) cp5) → (∀ a9 a10 r,cmp3 a9 a10 = some r → ∀ M2 nb2,nb ≤ nb2 → Ext M M2 → ACalls P g4 ([(Qbl a9),(i_ a10)] ++ cp5) M2 nb2 (i_ r) M2 nb2) → ACalls P c [.d (.lst 3 (List.map Qc x1)),(i_ target2),.clo g4 cp5] M nb (.tup [(i_ r.1),(b_ r.2)]) M nb
def Qkw : List COp:=[oo 6 .mov [cI 0],oo 7 .mov [.c (.d (.bool false))]]
def Qkx : List COp:=[oM 12 0,oo 13 .len [.t 12],oM 8 13]
def Qky : List COp:=[oM 14 8,oo 9 .mov [cI 0],oM 10 14]
def Qkz : List COp:=[oM 15 9,oM 16 10,oo 17 (.bin .lss false) [.t 15,.t 16]]
def Qk0 : List COp:=[oM 18 9,oM 19 10,oo 20 (.bin .add false) [.t 18,.t 19],oo 21 (.conv .u64) [.t 20],oo 22 (.bin .shr false) [.t 21,.c (.d (.int .u64 1))],oo 23 (.conv .i64) [.t 22],oM 11 23]
def Qk1 : List COp:=[oM 24 2,oM 25 0,oM 26 11,oo 27 (.idx 3) [.t 25,.t 26],oo 28 (.load true 3) [.t 27],oM 29 1,oo 30 .callv [.t 24,.t 28,.t 29],oo 31 (.bin .lss false) [.t 30,cI 0]]
def Qk2 : List COp:=[oM 32 11,oo 33 (.bin .add false) [.t 32,cI 1],oM 9 33]
def Qk3 : List COp:=[oM 34 11,oM 10 34]
def Qk4 : List COp:=[oM 35 9,oM 36 9,oM 37 8,oo 38 (.bin .lss false) [.t 36,.t 37],oM 39 38,⟨some 40,.mov,[.t 2],false,some (39,true)⟩,⟨some 41,.mov,[.t 0],false,some (39,true)⟩,⟨some 42,.mov,[.t 9],false,some (39,true)⟩,⟨some 43,.idx 3,[.t 41,.t 42],false,some (39,true)⟩,⟨some 44,.load true 3,[.t 43],false,some (39,true)⟩,⟨some 45,.mov,[.t 1],false,some (39,true)⟩,⟨some 46,.callv,[.t 40,.t 44,.t 45],false,some (39,true)⟩,⟨some 47,.bin .eql false,[.t 46,cI 0],false,some (39,true)⟩,oo 48 .pick [.t 39,.t 47,.c (.d (.bool false))],oM 6 35,oM 7 48]
def Qdz : CFn:=⟨3,49,[.t 6,.t 7],.seq (.region Qkw 9 []) (.seq (.region Qkx 9 []) (.seq (.region Qky 9 []) (.seq (.block 0 (.loop [] (.seq (.seq (.region Qkz 9 []) (.cond (.t 17) (.skip) (.exit 0))) (.block 1 (.seq (.region Qk0 9 []) (.seq (.region Qk1 9 []) (.cond (.t 31) (.region Qk2 9 []) (.region Qk3 9 [])))))))) (.seq (.region Qk4 9 []) (.ret)))))⟩
def Qt (fuel : Nat) (x1 : (List Qd)) (target2 : Int) (cmp3 : (Qd → Int → Option Int)) : Option (Int × Bool) :=
  ((Qcy (fun k13 ((i11,j12) : Int × Int)=>(if (i11 < j12) then ((getO x1 (IntKind.wrap .i64 (Int.fdiv (IntKind.wrap .u64 (IntKind.wrap .i64 (i11 + j12))) (2 ^ (min (Int.toNat 1) (IntKind.bits .u64)))))).bind fun x15=>((cmp3 x15 target2).bind fun x18=>(if (x18 < 0) then k13 ((IntKind.wrap .i64 ((IntKind.wrap .i64 (Int.fdiv (IntKind.wrap .u64 (IntKind.wrap .i64 (i11 + j12))) (2 ^ (min (Int.toNat 1) (IntKind.bits .u64))))) + 1)),j12) else k13 (i11,(IntKind.wrap .i64 (Int.fdiv (IntKind.wrap .u64 (IntKind.wrap .i64 (i11 + j12))) (2 ^ (min (Int.toNat 1) (IntKind.bits .u64))))))))) else some i11)) fuel (0,(x1.length : Int))).bind fun (i20 : Int)=>(if (i20 < (x1.length : Int)) then ((getO x1 i20).bind fun x22=>((cmp3 x22 target2).bind fun x25=>some (i20,(x25 == 0)))) else some (i20,false)))
def Qk5 (P : Program) (c : Nat) (f : Qd → Int → Option Int) : Prop:=∀ x1 s2 r,f x1 s2 = some r → ∀ M nb,ACalls P c [(Qbl x1),(i_ s2)] M nb (i_ r) M nb
def Q4o : List COp:=[oo 2 (.box 3) [.t 0],oo 4 .mov [cI 0]]
def Q4p : List COp:=[oF 5 0 2,oL 6 5,oM 7 1,oo 8 (.bin .sub false) [.t 6,.t 7],oM 4 8]
def Qk6 : CFn:=⟨2,9,[.t 4],.seq (.region Q4o 9 []) (.seq (.region Q4p 9 []) (.ret))⟩
def Qcq (x1 : Qd) (s2 : Int) : Option Int :=
  some (IntKind.wrap .i64 (x1.From - s2))
def Qk7 (P : Program) (c : Nat) (f : Qd → Int → Option Int) : Prop:=∀ x1 s2 r,f x1 s2 = some r → ∀ M nb,ACalls P c [(Qbl x1),(i_ s2)] M nb (i_ r) M nb
def Q4q : List COp:=[oo 2 (.box 3) [.t 0],oo 4 .mov [cI 0]]
def Q4r : List COp:=[oF 5 0 2,oL 6 5,oM 7 1,oo 8 (.bin .sub false) [.t 6,.t 7],oM 4 8]
def Qk8 : CFn:=⟨2,9,[.t 4],.seq (.region Q4q 9 []) (.seq (.region Q4r 9 []) (.ret))⟩
def Qcr (x1 : Qd) (s2 : Int) : Option Int :=
  some (IntKind.wrap .i64 (x1.From - s2))
def Qj6 (P : Program) (c : Nat) (f : Qa → Int → Option ((List Qd))) : Prop:=∀ a1 state2 r,f a1 state2 = some r → ∀ M nb,ACalls P c [(Qb a1),(i_ state2)] M nb (.d (.lst 3 (List.map Qc r))) M nb
def Q7l : List COp:=[oo 2 (.box 4) [.t 0],ot 4 .mov [.c (.nils 3)]]
def Q7m : List COp:=[oF 10 3 2,oL 11 10,oM 12 1,oo 13 (.call 80) [.t 11,.t 12,.c (.clo 81 [])],oM 9 13,oo 14 (.extract 0) [.t 9],oo 15 (.extract 1) [.t 9],oM 5 14,oM 6 15]
def Q7n : List COp:=[oF 17 3 2,oL 18 17,oM 19 1,oo 20 (.bin .add false) [.t 19,cI 1],oo 21 (.call 80) [.t 18,.t 20,.c (.clo 82 [])],oM 16 21,oo 22 (.extract 0) [.t 16],oo 23 (.extract 1) [.t 16],oM 7 22,oM 8 23]
def Q7o : List COp:=[oF 24 3 2,oL 25 24,oM 26 5,oM 27 7,oo 28 (.slice 3 true true) [.t 25,.t 26,.t 27],ot 4 .mov [.t 28]]
def Qnl : CFn:=⟨2,29,[.t 4],.seq (.region Q7l 9 []) (.seq (.region Q7m 9 []) (.seq (.region Q7n 9 []) (.seq (.region Q7o 9 []) (.ret))))⟩
def Qbn (Qt : (List Qd) → Int → (Qd → Int → Option Int) → Option (Int × Bool)) (Qcq : Qd → Int → Option Int) (Qcr : Qd → Int → Option Int) (a1 : Qa) (state2 : Int) : Option ((List Qd)) :=
  ((Qt a1.Edges state2 Qcq).bind fun (r8,r9)=>((Qt a1.Edges (IntKind.wrap .i64 (state2 + 1)) Qcr).bind fun (r15,r16)=>((slcO a1.Edges r8 r15).bind fun x17=>some x17)))
def Qiz (P : Program) (c : Nat) (f : Qa → Int → Option ((List Int) × Int)) : Prop:=∀ a1 state2 r,f a1 state2 = some r → ∀ M nb,ACalls P c [(Qb a1),(i_ state2)] M nb (.tup [(o_ r.1),(i_ r.2)]) M nb
def Qy9 : List COp:=[oo 2 (.box 4) [.t 0],ot 4 .mov [.c (.nils 1)],oo 5 .mov [cI 0]]
def Qza : List COp:=[oo 10 (.load true 4) [.t 2],oM 11 1,oo 12 (.call 59) [.t 10,.t 11],oM 6 12]
def Qzb : List COp:=[oM 13 6,oo 14 (.bin .neq false) [.t 13,cI 0]]
def Qzc : List COp:=[oM 15 6,ot 4 .mov [.c (.nils 1)],oM 5 15]
def Qzd : List COp:=[ot 7 .mov [.c (.nils 1)]]
def Qze : List COp:=[oo 16 (.load true 4) [.t 2],oM 17 1,oo 18 (.call 60) [.t 16,.t 17],oo 19 .len [.t 18],oo 20 .mov [cI 0]]
def Qzf : List COp:=[oo 21 (.bin .lss false) [.t 20,.t 19]]
def Qzg : List COp:=[oo 22 (.idx 3) [.t 18,.t 20],oo 23 (.load true 3) [.t 22],oo 9 (.alloc [.d (.int .i64 0),.d (.int .i64 0),.d (.int .i64 0)]) [],⟨none,.store 3,[.t 9,.t 23],false,none⟩]
def Qzh : List COp:=[ot 24 .mov [.t 7],oF 25 1 9,oL 26 25,oo 27 (.bslice 1 1 [.d (.int .i64 0)] [0]) [.t 26],ot 28 (.append 1 8) [.t 24,.t 27],ot 7 .mov [.t 28]]
def Qzi : List COp:=[oo 29 (.bin .add false) [.t 20,cI 1],oM 20 29]
def Qwr : List COp:=[ot 30 .mov [.t 7],ot 4 .mov [.t 30],oo 5 .mov [cI 0]]
def Qi0 : CFn:=⟨2,31,[.t 4,.t 5],.seq (.region Qy9 9 []) (.seq (.seq (.region Qza 9 []) (.seq (.region Qzb 9 []) (.cond (.t 14) (.seq (.region Qzc 9 []) (.ret)) (.skip)))) (.seq (.region Qzd 9 []) (.seq (.seq (.region Qze 9 []) (.block 0 (.loop [9,27] (.seq (.region Qzf 9 []) (.seq (.cond (.t 21) (.skip) (.exit 0)) (.seq (.block 1 (.seq (.region Qzg 9 []) (.region Qzh 9 []))) (.region Qzi 9 []))))))) (.seq (.region Qwr 9 []) (.ret)))))⟩
def Qcm (Qbx : Qa → Int → Option Int) (Qbn : Qa → Int → Option ((List Qd))) (fuel : Nat) (a1 : Qa) (state2 : Int) : Option ((List Int) × Int) :=
  ((Qbx a1 state2).bind fun x4=>(if (x4 != 0) then some ([],x4) else ((((Qbn a1 state2).bind fun x7=>Qcy (fun k10 ((l8,x9) : (List Int) × Int)=>(if (x9 < (x7.length : Int)) then ((getO x7 x9).bind fun x12=>((appO l8 [x12.Event]).bind fun x14=>k10 (x14,(IntKind.wrap .i64 (x9 + 1))))) else some l8)) fuel ([],0))).bind fun (l16 : List Int)=>some (l16,0))))
def Qj7 (P : Program) (c : Nat) (f : Bool → Bool → Option Bool) : Prop:=∀ inA1 inB2 r,f inA1 inB2 = some r → ∀ M nb,ACalls P c [(b_ inA1),(b_ inB2)] M nb (b_ r) M nb
def Q2r : List COp:=[oo 4 .mov [.c (.d (.bool false))]]
def Q2s : List COp:=[oM 5 0,oM 6 5,⟨some 7,.mov,[.t 1],false,some (6,true)⟩,⟨some 8,.un .not,[.t 7],false,some (6,true)⟩,oo 9 .pick [.t 6,.t 8,.c (.d (.bool false))],oM 4 9]
def Qj8 : CFn:=⟨2,10,[.t 4],.seq (.region Q2r 9 []) (.seq (.region Q2s 9 []) (.ret))⟩
def Qcw (inA1 : Bool) (inB2 : Bool) : Option Bool :=
  (if inA1 then some (!inB2) else some false)
def Qlv (P : Program) (c : Nat) (f : (List Int) → (List Int) → Option ((List Int))) : Prop:=∀ a1 b2 r,f a1 b2 = some r → ∀ M nb,ACalls P c [(l_ a1),(l_ b2)] M nb (o_ r) M nb
def Q6g : List COp:=[ot 4 .mov [.c (.nils 1)]]
def Q6h : List COp:=[oM 5 0,oM 6 1,oo 7 (.call 54) [.t 5,.t 6,.c (.clo 61 [])],ot 4 .mov [.t 7]]
def Qlw : CFn:=⟨2,8,[.t 4],.seq (.region Q6g 9 []) (.seq (.region Q6h 9 []) (.ret))⟩
def Qdk (Q0 : (List Int) → (List Int) → (Bool → Bool → Option Bool) → Option ((List Int))) (Qcw : Bool → Bool → Option Bool) (a1 : (List Int)) (b2 : (List Int)) : Option ((List Int)) :=
  ((Q0 a1 b2 Qcw).bind fun x8=>some x8)
def Qgx (P : Program) (c : Nat) (f : Qa → Int → Option ((List Int) × Int)) : Prop:=∀ a1 state2 r,f a1 state2 = some r → ∀ M nb,ACalls P c [(Qb a1),(i_ state2)] M nb (.tup [(o_ r.1),(i_ r.2)]) M nb
def Qs2 : List COp:=[oo 2 (.box 4) [.t 0],ot 4 .mov [.c (.nils 1)],oo 5 .mov [cI 0]]
def Qs3 : List COp:=[oo 9 (.load true 4) [.t 2],oM 10 1,oo 11 (.call 39) [.t 9,.t 10],oM 8 11,ot 12 (.extract 0) [.t 8],oo 13 (.extract 1) [.t 8],ot 6 .mov [.t 12],oM 7 13]
def Qs4 : List COp:=[oM 14 7,oo 15 (.bin .neq false) [.t 14,cI 0]]
def Qs5 : List COp:=[oM 16 7,ot 4 .mov [.c (.nils 1)],oM 5 16]
def Qs6 : List COp:=[oF 17 0 2,oL 18 17,oM 19 6,oo 20 (.call 40) [.t 18,.t 19],ot 4 .mov [.t 20],oo 5 .mov [cI 0]]
def Qgy : CFn:=⟨2,21,[.t 4,.t 5],.seq (.region Qs2 9 []) (.seq (.region Qs3 9 []) (.seq (.seq (.region Qs4 9 []) (.cond (.t 15) (.seq (.region Qs5 9 []) (.ret)) (.skip))) (.seq (.region Qs6 9 []) (.ret))))⟩
def Qb3 (Qcm : Qa → Int → Option ((List Int) × Int)) (Qdk : (List Int) → (List Int) → Option ((List Int))) (a1 : Qa) (state2 : Int) : Option ((List Int) × Int) :=
  ((Qcm a1 state2).bind fun (r4,r5)=>(if (r5 != 0) then some ([],r5) else ((Qdk a1.Alphabet r4).bind fun x8=>some (x8,0))))
def Qgo (P : Program) (c : Nat) (f : (List Int) → (List Int) → Option Bool) : Prop:=∀ s1 s2 r,f s1 s2 = some r → ∀ M nb,ACalls P c [(l_ s1),(l_ s2)] M nb (b_ r) M nb
def Q2t : List COp:=[oo 4 .mov [.c (.d (.bool false))]]
def Q2u : List COp:=[oM 6 0,oo 7 .len [.t 6],oM 8 1,oo 9 .len [.t 8],oo 10 (.bin .neq false) [.t 7,.t 9]]
def Q2v : List COp:=[oo 4 .mov [.c (.d (.bool false))]]
def Q2w : List COp:=[oM 11 0,oo 12 .len [.t 11],oo 13 .mov [cI 0]]
def Q2x : List COp:=[oo 14 (.bin .lss false) [.t 13,.t 12]]
def Q2y : List COp:=[oM 15 13,oM 5 15]
def Q2z : List COp:=[oM 16 0,oM 17 5,oo 18 (.idx 1) [.t 16,.t 17],oL 19 18,oM 20 1,oM 21 5,oo 22 (.idx 1) [.t 20,.t 21],oL 23 22,oo 24 (.bin .neq false) [.t 19,.t 23]]
def Q20 : List COp:=[oo 4 .mov [.c (.d (.bool false))]]
def Q21 : List COp:=[oo 25 (.bin .add false) [.t 13,cI 1],oM 13 25]
def Q22 : List COp:=[oo 4 .mov [.c (.d (.bool true))]]
def Qj9 : CFn:=⟨2,26,[.t 4],.seq (.region Q2t 9 []) (.seq (.seq (.region Q2u 9 []) (.cond (.t 10) (.seq (.region Q2v 9 []) (.ret)) (.skip))) (.seq (.seq (.region Q2w 9 []) (.block 0 (.loop [] (.seq (.region Q2x 9 []) (.seq (.cond (.t 14) (.skip) (.exit 0)) (.seq (.block 1 (.seq (.region Q2y 9 []) (.seq (.region Q2z 0 []) (.cond (.t 24) (.seq (.region Q20 9 []) (.ret)) (.skip))))) (.region Q21 9 []))))))) (.seq (.region Q22 9 []) (.ret))))⟩
def Qy (fuel : Nat) (s1 : (List Int)) (s2 : (List Int)) : Option Bool :=
  (if ((s1.length : Int) != (s2.length : Int)) then some false else Qcy (fun k5 (x4 : Int)=>(if (x4 < (s1.length : Int)) then ((getO s1 x4).bind fun x7=>((getO s2 x4).bind fun x9=>(if (x7 != x9) then some false else k5 (IntKind.wrap .i64 (x4 + 1))))) else some true)) fuel 0)
def Qfp (P : Program) (c : Nat) (f : (List Qd) → (List Qd) → Option Bool) : Prop:=∀ s1 s2 r,f s1 s2 = some r → ∀ M nb,ACalls P c [.d (.lst 3 (List.map Qc s1)),.d (.lst 3 (List.map Qc s2))] M nb (b_ r) M nb
def Qzj : List COp:=[oo 4 .mov [.c (.d (.bool false))]]
def Qzk : List COp:=[oM 6 0,oo 7 .len [.t 6],oM 8 1,oo 9 .len [.t 8],oo 10 (.bin .neq false) [.t 7,.t 9]]
def Qzl : List COp:=[oo 4 .mov [.c (.d (.bool false))]]
def Qzm : List COp:=[oM 11 0,oo 12 .len [.t 11],oo 13 .mov [cI 0]]
def Qzn : List COp:=[oo 14 (.bin .lss false) [.t 13,.t 12]]
def Qzo : List COp:=[oM 15 13,oM 5 15]
def Qzp : List COp:=[oM 16 0,oM 17 5,oo 18 (.idx 3) [.t 16,.t 17],oo 19 (.load true 3) [.t 18],oM 20 1,oM 21 5,oo 22 (.idx 3) [.t 20,.t 21],oo 23 (.load true 3) [.t 22],oo 24 (.eqa true [0,0,0]) [.t 19,.t 23]]
def Qzq : List COp:=[oo 4 .mov [.c (.d (.bool false))]]
def Qzr : List COp:=[oo 25 (.bin .add false) [.t 13,cI 1],oM 13 25]
def Qzs : List COp:=[oo 4 .mov [.c (.d (.bool true))]]
def Qi1 : CFn:=⟨2,26,[.t 4],.seq (.region Qzj 9 []) (.seq (.seq (.region Qzk 9 []) (.cond (.t 10) (.seq (.region Qzl 9 []) (.ret)) (.skip))) (.seq (.seq (.region Qzm 9 []) (.block 0 (.loop [] (.seq (.region Qzn 9 []) (.seq (.cond (.t 14) (.skip) (.exit 0)) (.seq (.block 1 (.seq (.region Qzo 9 []) (.seq (.region Qzp 0 []) (.cond (.t 24) (.seq (.region Qzq 9 []) (.ret)) (.skip))))) (.region Qzr 9 []))))))) (.seq (.region Qzs 9 []) (.ret))))⟩
def Q3 (fuel : Nat) (s1 : (List Qd)) (s2 : (List Qd)) : Option Bool :=
  (if ((s1.length : Int) != (s2.length : Int)) then some false else Qcy (fun k5 (x4 : Int)=>(if (x4 < (s1.length : Int)) then ((getO s1 x4).bind fun x7=>((getO s2 x4).bind fun x9=>(if ((x7.From == x9.From) && ((x7.Event == x9.Event) && ((x7.To == x9.To) && true))) then k5 (IntKind.wrap .i64 (x4 + 1)) else some false))) else some true)) fuel 0)
def Qgz (P : Program) (c : Nat) (f : Option Bool) : Prop:=∀ r,f = some r → ∀ M nb,ACalls P c [] M nb (b_ r) M nb
def Qs7 : List COp:=[oo 0 .mov [.c (.d (.bool false))]]
def Qs8 : List COp:=[oo 10 (.bslice 1 2 [.d (.int .i64 0)] [0,1]) [cI 3,cI 1],oo 11 (.call 15) [.t 10],oM 9 11,oo 12 (.extract 0) [.t 9],oo 13 (.extract 1) [.t 9],oo 1 (.alloc [.nils 1,.d (.int .i64 0),.nils 1,.nils 3]) [],⟨none,.store 4,[.t 1,.t 12],true,none⟩,oM 2 13]
def Qs9 : List COp:=[oo 15 (.bslice 1 1 [.d (.int .i64 0)] [0]) [cI 0],oo 16 (.bslice 1 1 [.d (.int .i64 0)] [0]) [cI 1],oo 17 (.call 16) [.t 15,.t 16,cI 2],oM 14 17,oo 18 (.extract 0) [.t 14],oo 19 (.extract 1) [.t 14],oo 3 (.alloc [.nils 1,.d (.int .i64 0),.nils 1,.nils 3]) [],⟨none,.store 4,[.t 3,.t 18],true,none⟩,oM 4 19]
def Qta : List COp:=[oo 21 (.build [.d (.int .i64 0),.d (.int .i64 0)] [(0,1),(1,1)]) [cI 0,cI 1],oo 22 (.build [.d (.int .i64 0),.d (.int .i64 0)] [(0,1),(1,1)]) [cI 2,cI 3],oo 23 (.bslice 2 2 [.d (.int .i64 0),.d (.int .i64 0)] [0,1]) [.t 21,.t 22],oo 24 (.call 17) [.t 23,cI 1],oM 20 24,oo 25 (.extract 0) [.t 20],oo 26 (.extract 1) [.t 20],oo 5 (.alloc [.nils 1,.d (.int .i64 0),.nils 1,.nils 3]) [],⟨none,.store 4,[.t 5,.t 25],true,none⟩,oM 6 26]
def Qtb : List COp:=[oo 28 (.load true 4) [.t 5],oo 29 (.call 18) [.t 28,cI 1],oM 27 29,ot 30 (.extract 0) [.t 27],oo 31 (.extract 1) [.t 27],ot 7 .mov [.t 30],oM 8 31]
def Qtc : List COp:=[oM 32 2,oo 33 (.bin .eql false) [.t 32,cI 0],oM 34 33,⟨some 35,.mov,[.t 4],false,some (34,true)⟩,⟨some 36,.bin .eql false,[.t 35,cI 0],false,some (34,true)⟩,oo 37 .pick [.t 34,.t 36,.c (.d (.bool false))],oM 38 37,⟨some 39,.mov,[.t 6],false,some (38,true)⟩,⟨some 40,.bin .eql false,[.t 39,cI 0],false,some (38,true)⟩,oo 41 .pick [.t 38,.t 40,.c (.d (.bool false))],oM 42 41,⟨some 43,.mov,[.t 8],false,some (42,true)⟩,⟨some 44,.bin .eql false,[.t 43,cI 0],false,some (42,true)⟩,oo 45 .pick [.t 42,.t 44,.c (.d (.bool false))],oM 46 45,⟨some 47,.fld 0,[.t 1],false,some (46,true)⟩,⟨some 48,.load false 1,[.t 47],false,some (46,true)⟩,⟨some 49,.bslice 1 2 [.d (.int .i64 0)] [0,1],[cI 1,cI 3],false,some (46,true)⟩,⟨some 50,.call 19,[.t 48,.t 49],false,some (46,true)⟩,oo 51 .pick [.t 46,.t 50,.c (.d (.bool false))],oM 52 51,⟨some 53,.fld 3,[.t 1],false,some (52,true)⟩,⟨some 54,.load false 1,[.t 53],false,some (52,true)⟩,⟨some 55,.build [.d (.int .i64 0),.d (.int .i64 0),.d (.int .i64 0)] [(0,1),(1,1),(2,1)],[cI 0,cI 3,cI 1],false,some (52,true)⟩,⟨some 56,.build [.d (.int .i64 0),.d (.int .i64 0),.d (.int .i64 0)] [(0,1),(1,1),(2,1)],[cI 1,cI 1,cI 0],false,some (52,true)⟩,⟨some 57,.bslice 3 2 [.d (.int .i64 0),.d (.int .i64 0),.d (.int .i64 0)] [0,1],[.t 55,.t 56],false,some (52,true)⟩,⟨some 58,.call 20,[.t 54,.t 57],false,some (52,true)⟩,oo 59 .pick [.t 52,.t 58,.c (.d (.bool false))],oM 60 59,⟨some 61,.fld 1,[.t 3],false,some (60,true)⟩,⟨some 62,.load false 1,[.t 61],false,some (60,true)⟩,⟨some 63,.bin .eql false,[.t 62,cI 3],false,some (60,true)⟩,oo 64 .pick [.t 60,.t 63,.c (.d (.bool false))],oM 65 64,⟨some 66,.fld 1,[.t 5],false,some (65,true)⟩,⟨some 67,.load false 1,[.t 66],false,some (65,true)⟩,⟨some 68,.bin .eql false,[.t 67,cI 3],false,some (65,true)⟩,oo 69 .pick [.t 65,.t 68,.c (.d (.bool false))],oM 70 69,⟨some 71,.mov,[.t 7],false,some (70,true)⟩,⟨some 72,.bslice 1 3 [.d (.int .i64 0)] [0,1,2],[cI 0,cI 2,cI 3],false,some (70,true)⟩,⟨some 73,.call 19,[.t 71,.t 72],false,some (70,true)⟩,oo 74 .pick [.t 70,.t 73,.c (.d (.bool false))],oM 0 74]
def Qg0 : CFn:=⟨0,75,[.t 0],.seq (.region Qs7 9 []) (.seq (.region Qs8 9 []) (.seq (.region Qs9 9 []) (.seq (.region Qta 9 []) (.seq (.region Qtb 9 []) (.seq (.region Qtc 9 []) (.ret))))))⟩
def Qbo (Qbm : (List Int) → Option (Qa × Int)) (Qcc : (List Int) → (List Int) → Int → Option (Qa × Int)) (Qcd : (List Qu) → Int → Option (Qa × Int)) (Qb3 : Qa → Int → Option ((List Int) × Int)) (Qy : (List Int) → (List Int) → Option Bool) (Q3 : (List Qd) → (List Qd) → Option Bool) : Option Bool :=
  ((Qbm [3,1]).bind fun (r2,r3)=>((Qcc [0] [1] 2).bind fun (r5,r6)=>((Qcd [(Qu.mk 0 1),(Qu.mk 2 3)] 1).bind fun (r8,r9)=>((Qb3 r8 1).bind fun (r11,r12)=>(((if (r3 == 0) then (if (r6 == 0) then (if (r9 == 0) then (if (r12 == 0) then ((Qy r2.Alphabet [1,3]).bind fun x18=>(if x18 then ((Q3 r2.Edges [(Qd.mk 0 3 1),(Qd.mk 1 1 0)]).bind fun x21=>(if x21 then (if (r5.States == 3) then (if (r8.States == 3) then ((Qy r11 [0,2,3]).bind fun x26=>some x26) else some false) else some false) else some false)) else some false)) else some false) else some false) else some false) else some false)).bind fun (x27 : Bool)=>some x27)))))
def Qem (P : Program) (c : Nat) (f : Int → Option ((List Int))) : Prop:=∀ s1 r,f s1 = some r → ∀ M nb,ACalls P c [.d (.int .u8 s1)] M nb (o_ r) M nb
def Qmc : List COp:=[ot 2 .mov [.c (.nils 1)]]
def Qmd : List COp:=[ot 3 .mov [.c (.nils 1)]]
def Qme : List COp:=[oo 4 .mov [cI 0]]
def Qmf : List COp:=[oM 5 4,oo 6 (.bin .lss false) [.t 5,cI 5]]
def Qmg : List COp:=[oM 9 0,oM 10 4,oo 11 (.bin .shr false) [.t 9,.t 10],oo 12 (.bin .and false) [.t 11,.c (.d (.int .u8 1))],oo 13 (.bin .eql false) [.t 12,.c (.d (.int .u8 1))]]
def Qmh : List COp:=[ot 14 .mov [.t 3],oM 15 4,oo 16 (.bslice 1 1 [.d (.int .i64 0)] [0]) [.t 15],ot 17 (.append 1 8) [.t 14,.t 16],ot 3 .mov [.t 17]]
def Qmi : List COp:=[oM 7 4,oo 8 (.bin .add false) [.t 7,cI 1],oM 4 8]
def Qmj : List COp:=[ot 18 .mov [.t 3],ot 2 .mov [.t 18]]
def Qen : CFn:=⟨1,19,[.t 2],.seq (.region Qmc 9 []) (.seq (.region Qmd 9 []) (.seq (.seq (.region Qme 9 []) (.block 0 (.loop [16] (.seq (.seq (.region Qmf 9 []) (.cond (.t 6) (.skip) (.exit 0))) (.seq (.block 1 (.seq (.region Qmg 9 []) (.cond (.t 13) (.region Qmh 9 []) (.skip)))) (.region Qmi 9 [])))))) (.seq (.region Qmj 9 []) (.ret))))⟩
def Qba (fuel : Nat) (s1 : Int) : Option ((List Int)) :=
  ((Qcy (fun k4 ((out2,i3) : (List Int) × Int)=>(if (i3 < 5) then ((((shrO .u8 s1 i3).bind fun s6=>(if ((andI .u8 s6 1) == 1) then ((appO out2 [i3]).bind fun x9=>some x9) else some out2))).bind fun (out11 : List Int)=>k4 (out11,(IntKind.wrap .i64 (i3 + 1)))) else some out2)) fuel ([],0)).bind fun (out12 : List Int)=>some out12)
def Qep (P : Program) (c : Nat) (f : (List Int) → Option Qa) : Prop:=∀ alphabet1 r,f alphabet1 = some r → ∀ M nb,ACalls P c [(l_ alphabet1)] M nb (.agg [(l_ r.Alphabet),(i_ r.States),.nils 1,.nils 3]) M nb
def Qtd : List COp:=[oo 2 (.alloc [.nils 1,.d (.int .i64 0),.nils 1,.nils 3]) []]
def Qte : List COp:=[oo 3 (.bslice 1 0 [.d (.int .i64 0)] []) [],oM 4 0,ot 5 (.append 1 8) [.t 3,.t 4],ot 6 (.build [.nils 1,.d (.int .i64 0),.nils 1,.nils 3] [(0,1)]) [.t 5],⟨none,.store 4,[.t 2,.t 6],true,none⟩]
def Qg1 : CFn:=⟨1,7,[.cell 2 true 4],.seq (.region Qtd 9 []) (.seq (.region Qte 9 []) (.ret))⟩
def Qs (alphabet1 : (List Int)) : Option Qa :=
  ((appO [] alphabet1).bind fun x2=>some (Qa.mk x2 0 [] []))
def Qe8 (P : Program) (c : Nat) (f : Qa → Int → Int → Option Int) : Prop:=∀ a1 state2 event3 r,f a1 state2 event3 = some r → ∀ M nb,ACalls P c [(Qb a1),(i_ state2),(i_ event3)] M nb (i_ r) M nb
def Qws : List COp:=[oo 3 (.box 4) [.t 0],oo 6 .mov [cI 0]]
def Qwt : List COp:=[oo 7 .mov [cI 0]]
def Qwu : List COp:=[oM 8 7,oF 9 3 3,oL 10 9,oo 11 .len [.t 10],oo 12 (.bin .lss false) [.t 8,.t 11]]
def Qwv : List COp:=[oF 15 3 3,oL 16 15,oM 17 7,oo 18 (.idx 3) [.t 16,.t 17],oF 19 0 18,oL 20 19,oM 21 1,oo 22 (.bin .eql false) [.t 20,.t 21],oM 23 22,⟨some 24,.fld 3,[.t 3],false,some (23,true)⟩,⟨some 25,.load false 1,[.t 24],false,some (23,true)⟩,⟨some 26,.mov,[.t 7],false,some (23,true)⟩,⟨some 27,.idx 3,[.t 25,.t 26],false,some (23,true)⟩,⟨some 28,.fld 1,[.t 27],false,some (23,true)⟩,⟨some 29,.load false 1,[.t 28],false,some (23,true)⟩,⟨some 30,.mov,[.t 2],false,some (23,true)⟩,⟨some 31,.bin .eql false,[.t 29,.t 30],false,some (23,true)⟩,oo 32 .pick [.t 23,.t 31,.c (.d (.bool false))]]
def Qww : List COp:=[oF 33 3 3,oL 34 33,oM 35 7,oo 36 (.idx 3) [.t 34,.t 35],oF 37 2 36,oL 38 37,oM 6 38]
def Qwx : List COp:=[oM 13 7,oo 14 (.bin .add false) [.t 13,cI 1],oM 7 14]
def Qwy : List COp:=[oo 6 .mov [cI (-1)]]
def Qhy : CFn:=⟨3,39,[.t 6],.seq (.region Qws 9 []) (.seq (.seq (.region Qwt 9 []) (.block 0 (.loop [] (.seq (.seq (.region Qwu 9 []) (.cond (.t 12) (.skip) (.exit 0))) (.seq (.block 1 (.seq (.region Qwv 9 []) (.cond (.t 32) (.seq (.region Qww 9 []) (.ret)) (.skip)))) (.region Qwx 9 [])))))) (.seq (.region Qwy 9 []) (.ret)))⟩
def Qz (fuel : Nat) (a1 : Qa) (state2 : Int) (event3 : Int) : Option Int :=
  Qcy (fun k5 (i4 : Int)=>(if (i4 < (a1.Edges.length : Int)) then ((((getO a1.Edges i4).bind fun x7=>(if (x7.From == state2) then ((getO a1.Edges i4).bind fun x10=>some (x10.Event == event3)) else some false))).bind fun (x12 : Bool)=>(if x12 then ((getO a1.Edges i4).bind fun x14=>some x14.To) else k5 (IntKind.wrap .i64 (i4 + 1)))) else some (-1))) fuel 0
def Qfq (P : Program) (c : Nat) (f : (List Int) → Int → Option Bool) : Prop:=∀ l1 n2 r,f l1 n2 = some r → ∀ M nb,ACalls P c [(l_ l1),(i_ n2)] M nb (b_ r) M nb
def Qzt : List COp:=[oo 4 .mov [.c (.d (.bool false))]]
def Qzu : List COp:=[oo 5 .mov [cI 0]]
def Qzv : List COp:=[oM 6 5,oM 7 0,oo 8 .len [.t 7],oo 9 (.bin .lss false) [.t 6,.t 8]]
def Qzw : List COp:=[oM 12 0,oM 13 5,oo 14 (.idx 1) [.t 12,.t 13],oL 15 14,oM 16 1,oo 17 (.bin .eql false) [.t 15,.t 16]]
def Qzx : List COp:=[oo 4 .mov [.c (.d (.bool true))]]
def Qzy : List COp:=[oM 10 5,oo 11 (.bin .add false) [.t 10,cI 1],oM 5 11]
def Qzz : List COp:=[oo 4 .mov [.c (.d (.bool false))]]
def Qi2 : CFn:=⟨2,18,[.t 4],.seq (.region Qzt 9 []) (.seq (.seq (.region Qzu 9 []) (.block 0 (.loop [] (.seq (.seq (.region Qzv 9 []) (.cond (.t 9) (.skip) (.exit 0))) (.seq (.block 1 (.seq (.region Qzw 9 []) (.cond (.t 17) (.seq (.region Qzx 9 []) (.ret)) (.skip)))) (.region Qzy 9 [])))))) (.seq (.region Qzz 9 []) (.ret)))⟩
def Q4 (fuel : Nat) (l1 : (List Int)) (n2 : Int) : Option Bool :=
  Qcy (fun k4 (i3 : Int)=>(if (i3 < (l1.length : Int)) then ((getO l1 i3).bind fun x6=>(if (x6 == n2) then some true else k4 (IntKind.wrap .i64 (i3 + 1)))) else some false)) fuel 0
def Qg2 (P : Program) (c : Nat) (f : Qa → Option ((List Int))) : Prop:=∀ a1 r,f a1 = some r → ∀ M nb,ACalls P c [(Qb a1)] M nb (o_ r) M nb
def Qtf : List COp:=[oo 1 (.box 4) [.t 0],ot 2 .mov [.c (.nils 1)]]
def Qtg : List COp:=[ot 3 .mov [.c (.nils 1)]]
def Qth : List COp:=[oF 7 1 1,oL 8 7,oo 9 (.bin .gtr false) [.t 8,cI 0]]
def Qti : List COp:=[ot 10 .mov [.t 3],oo 11 (.bslice 1 1 [.d (.int .i64 0)] [0]) [cI 0],ot 12 (.append 1 8) [.t 10,.t 11],ot 3 .mov [.t 12]]
def Qtj : List COp:=[oo 4 .mov [cI 0]]
def Qtk : List COp:=[oM 13 4,oM 14 3,oo 15 .len [.t 14],oo 16 (.bin .lss false) [.t 13,.t 15]]
def Qtl : List COp:=[oo 5 .mov [cI 0]]
def Qtm : List COp:=[oM 19 5,oF 20 0 1,oL 21 20,oo 22 .len [.t 21],oo 23 (.bin .lss false) [.t 19,.t 22]]
def Qtn : List COp:=[oo 26 (.load true 4) [.t 1],oM 27 3,oM 28 4,oo 29 (.idx 1) [.t 27,.t 28],oL 30 29,oF 31 0 1,oL 32 31,oM 33 5,oo 34 (.idx 1) [.t 32,.t 33],oL 35 34,oo 36 (.call 43) [.t 26,.t 30,.t 35],oM 6 36]
def Qto : List COp:=[oM 37 6,oo 38 (.bin .geq false) [.t 37,cI 0],oM 39 38,⟨some 40,.mov,[.t 3],false,some (39,true)⟩,⟨some 41,.mov,[.t 6],false,some (39,true)⟩,⟨some 42,.call 42,[.t 40,.t 41],false,some (39,true)⟩,⟨some 43,.un .not,[.t 42],false,some (39,true)⟩,oo 44 .pick [.t 39,.t 43,.c (.d (.bool false))]]
def Qq3 : List COp:=[ot 45 .mov [.t 3],oM 46 6,oo 47 (.bslice 1 1 [.d (.int .i64 0)] [0]) [.t 46],ot 48 (.append 1 8) [.t 45,.t 47],ot 3 .mov [.t 48]]
def Qq4 : List COp:=[oM 24 5,oo 25 (.bin .add false) [.t 24,cI 1],oM 5 25]
def Qq5 : List COp:=[oM 17 4,oo 18 (.bin .add false) [.t 17,cI 1],oM 4 18]
def Qq6 : List COp:=[ot 49 .mov [.t 3],ot 2 .mov [.t 49]]
def Qg3 : CFn:=⟨1,50,[.t 2],.seq (.region Qtf 9 []) (.seq (.region Qtg 9 []) (.seq (.seq (.region Qth 9 []) (.cond (.t 9) (.region Qti 9 []) (.skip))) (.seq (.seq (.region Qtj 9 []) (.block 0 (.loop [47] (.seq (.seq (.region Qtk 9 []) (.cond (.t 16) (.skip) (.exit 0))) (.seq (.block 1 (.seq (.region Qtl 9 []) (.block 2 (.loop [47] (.seq (.seq (.region Qtm 9 []) (.cond (.t 23) (.skip) (.exit 2))) (.seq (.block 3 (.seq (.region Qtn 0 []) (.seq (.region Qto 9 []) (.cond (.t 44) (.region Qq3 9 []) (.skip))))) (.region Qq4 9 []))))))) (.region Qq5 9 [])))))) (.seq (.region Qq6 9 []) (.ret)))))⟩
def Qbp (Q4 : (List Int) → Int → Option Bool) (Qz : Qa → Int → Int → Option Int) (fuel : Nat) (a1 : Qa) : Option ((List Int)) :=
  (((if (a1.States > 0) then ((appO [] [0]).bind fun x3=>some x3) else some [])).bind fun (out5 : List Int)=>((Qcy (fun k8 ((out6,i7) : (List Int) × Int)=>(if (i7 < (out6.length : Int)) then ((Qcy (fun k12 ((out10,k11) : (List Int) × Int)=>(if (k11 < (a1.Alphabet.length : Int)) then ((((getO out10 i7).bind fun x14=>((getO a1.Alphabet k11).bind fun x16=>((Qz a1 x14 x16).bind fun x19=>(((if (x19 ≥ 0) then ((Q4 out10 x19).bind fun x22=>some (!x22)) else some false)).bind fun (x23 : Bool)=>(if x23 then ((appO out10 [x19]).bind fun x25=>some x25) else some out10)))))).bind fun (out27 : List Int)=>k12 (out27,(IntKind.wrap .i64 (k11 + 1)))) else some out10)) fuel (out6,0)).bind fun (out28 : List Int)=>k8 (out28,(IntKind.wrap .i64 (i7 + 1)))) else some out6)) fuel (out5,0)).bind fun (out29 : List Int)=>some out29))
def Qg4 (P : Program) (c : Nat) (f : (List Int) → Int → Option Int) : Prop:=∀ l1 n2 r,f l1 n2 = some r → ∀ M nb,ACalls P c [(l_ l1),(i_ n2)] M nb (i_ r) M nb
def Qtp : List COp:=[oo 4 .mov [cI 0]]
def Qtq : List COp:=[oo 5 .mov [cI 0]]
def Qtr : List COp:=[oM 6 5,oM 7 0,oo 8 .len [.t 7],oo 9 (.bin .lss false) [.t 6,.t 8]]
def Qts : List COp:=[oM 12 0,oM 13 5,oo 14 (.idx 1) [.t 12,.t 13],oL 15 14,oM 16 1,oo 17 (.bin .eql false) [.t 15,.t 16]]
def Qtt : List COp:=[oM 18 5,oM 4 18]
def Qtu : List COp:=[oM 10 5,oo 11 (.bin .add false) [.t 10,cI 1],oM 5 11]
def Qtv : List COp:=[oo 4 .mov [cI (-1)]]
def Qg5 : CFn:=⟨2,19,[.t 4],.seq (.region Qtp 9 []) (.seq (.seq (.region Qtq 9 []) (.block 0 (.loop [] (.seq (.seq (.region Qtr 9 []) (.cond (.t 9) (.skip) (.exit 0))) (.seq (.block 1 (.seq (.region Qts 9 []) (.cond (.t 17) (.seq (.region Qtt 9 []) (.ret)) (.skip)))) (.region Qtu 9 [])))))) (.seq (.region Qtv 9 []) (.ret)))⟩
def Qbq (fuel : Nat) (l1 : (List Int)) (n2 : Int) : Option Int :=
  Qcy (fun k4 (i3 : Int)=>(if (i3 < (l1.length : Int)) then ((getO l1 i3).bind fun x6=>(if (x6 == n2) then some i3 else k4 (IntKind.wrap .i64 (i3 + 1)))) else some (-1))) fuel 0
def Qe2 (P : Program) (c : Nat) (f : Qa → Option Qa) : Prop:=∀ a1 r,f a1 = some r → ∀ M nb,ACalls P c [(Qb a1)] M nb (Qb r) M nb
def Qnm : List COp:=[oo 1 (.box 4) [.t 0],oo 2 (.alloc [.nils 1,.d (.int .i64 0),.nils 1,.nils 3]) []]
def Qnn : List COp:=[oo 8 (.load true 4) [.t 1],oo 9 (.call 41) [.t 8],ot 3 .mov [.t 9]]
def Qno : List COp:=[oF 10 0 1,oL 11 10,oo 12 (.call 21) [.t 11],oo 4 (.alloc [.nils 1,.d (.int .i64 0),.nils 1,.nils 3]) [],⟨none,.store 4,[.t 4,.t 12],true,none⟩]
def Qnp : List COp:=[oM 13 3,oo 14 .len [.t 13],oF 15 1 4,⟨none,.store 1,[.t 15,.t 14],false,none⟩]
def Qnq : List COp:=[oo 5 .mov [cI 0]]
def Qnr : List COp:=[oM 16 5,oM 17 3,oo 18 .len [.t 17],oo 19 (.bin .lss false) [.t 16,.t 18]]
def Qns : List COp:=[oF 22 2 1,oL 23 22,oM 24 3,oM 25 5,oo 26 (.idx 1) [.t 24,.t 25],oL 27 26,oo 28 (.call 42) [.t 23,.t 27]]
def Qnt : List COp:=[oF 29 2 4,oo 30 .loadT [.t 29],oM 31 5,oo 32 (.bslice 1 1 [.d (.int .i64 0)] [0]) [.t 31],ot 33 (.append 1 8) [.t 30,.t 32],oF 34 2 4,⟨none,.store 1,[.t 34,.t 33],true,none⟩]
def Qnu : List COp:=[oo 6 .mov [cI 0]]
def Qnv : List COp:=[oM 35 6,oF 36 0 1,oL 37 36,oo 38 .len [.t 37],oo 39 (.bin .lss false) [.t 35,.t 38]]
def Qmk : List COp:=[oo 42 (.load true 4) [.t 1],oM 43 3,oM 44 5,oo 45 (.idx 1) [.t 43,.t 44],oL 46 45,oF 47 0 1,oL 48 47,oM 49 6,oo 50 (.idx 1) [.t 48,.t 49],oL 51 50,oo 52 (.call 43) [.t 42,.t 46,.t 51],oM 7 52]
def Qml : List COp:=[oM 53 7,oo 54 (.bin .geq false) [.t 53,cI 0]]
def Qmm : List COp:=[oF 55 3 4,oo 56 .loadT [.t 55],oM 57 5,oF 58 0 1,oL 59 58,oM 60 6,oo 61 (.idx 1) [.t 59,.t 60],oL 62 61,oM 63 3,oM 64 7,oo 65 (.call 44) [.t 63,.t 64],oo 66 (.build [.d (.int .i64 0),.d (.int .i64 0),.d (.int .i64 0)] [(0,1),(1,1),(2,1)]) [.t 57,.t 62,.t 65],oo 67 (.bslice 3 1 [.d (.int .i64 0),.d (.int .i64 0),.d (.int .i64 0)] [0]) [.t 66],ot 68 (.append 3 24) [.t 56,.t 67],oF 69 3 4,⟨none,.store 1,[.t 69,.t 68],true,none⟩]
def Qmn : List COp:=[oM 40 6,oo 41 (.bin .add false) [.t 40,cI 1],oM 6 41]
def Qmo : List COp:=[oM 20 5,oo 21 (.bin .add false) [.t 20,cI 1],oM 5 21]
def Qmp : List COp:=[oo 70 (.load true 4) [.t 4],⟨none,.store 4,[.t 2,.t 70],true,none⟩]
def Qe3 : CFn:=⟨1,71,[.cell 2 true 4],.seq (.region Qnm 9 []) (.seq (.region Qnn 9 []) (.seq (.region Qno 9 []) (.seq (.region Qnp 9 []) (.seq (.seq (.region Qnq 9 []) (.block 0 (.loop [32,67] (.seq (.seq (.region Qnr 9 []) (.cond (.t 19) (.skip) (.exit 0))) (.seq (.block 1 (.seq (.seq (.region Qns 0 []) (.cond (.t 28) (.region Qnt 9 []) (.skip))) (.seq (.region Qnu 9 []) (.block 2 (.loop [67] (.seq (.seq (.region Qnv 9 []) (.cond (.t 39) (.skip) (.exit 2))) (.seq (.block 3 (.seq (.region Qmk 0 []) (.seq (.region Qml 9 []) (.cond (.t 54) (.region Qmm 2 []) (.skip))))) (.region Qmn 9 [])))))))) (.region Qmo 9 [])))))) (.seq (.region Qmp 9 []) (.ret))))))⟩
def Q9 (Qs : (List Int) → Option Qa) (Qbp : Qa → Option ((List Int))) (Q4 : (List Int) → Int → Option Bool) (Qz : Qa → Int → Int → Option Int) (Qbq : (List Int) → Int → Option Int) (fuel : Nat) (a1 : Qa) : Option Qa :=
  ((Qbp a1).bind fun x3=>((Qs a1.Alphabet).bind fun x5=>((Qcy (fun k12 ((i6,c7,c8,c9,out10,out11) : Int × (List Int) × (List Int) × (List Qd) × (List Int) × (List Qd))=>(if (i6 < (x3.length : Int)) then ((((((getO x3 i6).bind fun x14=>((Q4 a1.Marked x14).bind fun x17=>(if x17 then ((appO out10 [i6]).bind fun x19=>some x19) else some out10)))).bind fun (out21 : List Int)=>Qcy (fun k24 ((k22,out23) : Int × (List Qd))=>(if (k22 < (a1.Alphabet.length : Int)) then ((((getO x3 i6).bind fun x26=>((getO a1.Alphabet k22).bind fun x28=>((Qz a1 x26 x28).bind fun x31=>(if (x31 ≥ 0) then ((getO a1.Alphabet k22).bind fun x33=>((Qbq x3 x31).bind fun x36=>((appO out23 [(Qd.mk i6 x33 x36)]).bind fun x37=>some x37))) else some out23))))).bind fun (out39 : List Qd)=>k24 ((IntKind.wrap .i64 (k22 + 1)),out39)) else some (out21,out23))) fuel (0,out11))).bind fun ((out40,out41) : (List Int) × (List Qd))=>k12 ((IntKind.wrap .i64 (i6 + 1)),c7,c8,c9,out40,out41)) else some (c7,c8,c9,out10,out11))) fuel (0,[],[],[],[],[])).bind fun ((c42,c43,c44,out45,out46) : (List Int) × (List Int) × (List Qd) × (List Int) × (List Qd))=>some (Qa.mk x5.Alphabet (x3.length : Int) out45 out46))))
def Qhz (P : Program) (c : Nat) (f : (List Int) → Qw → Option Qa) : Prop:=∀ alphabet1 g2 r,f alphabet1 g2 = some r → ∀ M nb,ACalls P c [(l_ alphabet1),.agg [.d (.int .u8 g2.States),.d (.int .u8 g2.Marks),.d (.int .u8 g2.To.1.1),.d (.int .u8 g2.To.1.2.1),.d (.int .u8 g2.To.1.2.2.1),.d (.int .u8 g2.To.1.2.2.2.1),.d (.int .u8 g2.To.1.2.2.2.2),.d (.int .u8 g2.To.2.1.1),.d (.int .u8 g2.To.2.1.2.1),.d (.int .u8 g2.To.2.1.2.2.1),.d (.int .u8 g2.To.2.1.2.2.2.1),.d (.int .u8 g2.To.2.1.2.2.2.2),.d (.int .u8 g2.To.2.2.1.1),.d (.int .u8 g2.To.2.2.1.2.1),.d (.int .u8 g2.To.2.2.1.2.2.1),.d (.int .u8 g2.To.2.2.1.2.2.2.1),.d (.int .u8 g2.To.2.2.1.2.2.2.2),.d (.int .u8 g2.To.2.2.2.1.1),.d (.int .u8 g2.To.2.2.2.1.2.1),.d (.int .u8 g2.To.2.2.2.1.2.2.1),.d (.int .u8 g2.To.2.2.2.1.2.2.2.1),.d (.int .u8 g2.To.2.2.2.1.2.2.2.2),.d (.int .u8 g2.To.2.2.2.2.1),.d (.int .u8 g2.To.2.2.2.2.2.1),.d (.int .u8 g2.To.2.2.2.2.2.2.1),.d (.int .u8 g2.To.2.2.2.2.2.2.2.1),.d (.int .u8 g2.To.2.2.2.2.2.2.2.2)]] M nb (Qb r) M nb
def Qwz : List COp:=[oo 3 (.box 27) [.t 1],oo 4 (.alloc [.nils 1,.d (.int .i64 0),.nils 1,.nils 3]) []]
def Qw0 : List COp:=[oF 9 0 3,oL 10 9,oo 11 (.bin .geq false) [.t 10,.c (.d (.int .u8 250))]]
def Qw1 : List COp:=[oM 12 0,oo 13 (.call 21) [.t 12],⟨none,.store 4,[.t 4,.t 13],true,none⟩]
def Qw2 : List COp:=[oM 14 0,oo 15 (.call 21) [.t 14],oo 5 (.alloc [.nils 1,.d (.int .i64 0),.nils 1,.nils 3]) [],⟨none,.store 4,[.t 5,.t 15],true,none⟩]
def Qw3 : List COp:=[oF 16 0 3,oL 17 16,oo 18 (.bin .rem false) [.t 17,.c (.d (.int .u8 5))],oo 19 (.conv .i64) [.t 18],oo 20 (.bin .add false) [cI 1,.t 19],oF 21 1 5,⟨none,.store 1,[.t 21,.t 20],false,none⟩]
def Qw4 : List COp:=[oo 6 .mov [cI 0]]
def Qw5 : List COp:=[oM 22 6,oF 23 1 5,oL 24 23,oo 25 (.bin .lss false) [.t 22,.t 24]]
def Qw6 : List COp:=[oF 28 1 3,oL 29 28,oM 30 6,oo 31 (.bin .shr false) [.t 29,.t 30],oo 32 (.bin .and false) [.t 31,.c (.d (.int .u8 1))],oo 33 (.bin .eql false) [.t 32,.c (.d (.int .u8 1))]]
def Qw7 : List COp:=[oF 34 2 5,oo 35 .loadT [.t 34],oM 36 6,oo 37 (.bslice 1 1 [.d (.int .i64 0)] [0]) [.t 36],ot 38 (.append 1 8) [.t 35,.t 37],oF 39 2 5,⟨none,.store 1,[.t 39,.t 38],true,none⟩]
def Qw8 : List COp:=[oo 7 .mov [cI 0]]
def Qtw : List COp:=[oM 40 7,oM 41 0,oo 42 .len [.t 41],oo 43 (.bin .lss false) [.t 40,.t 42],oM 44 43,⟨some 45,.mov,[.t 7],false,some (44,true)⟩,⟨some 46,.bin .lss false,[.t 45,cI 5],false,some (44,true)⟩,oo 47 .pick [.t 44,.t 46,.c (.d (.bool false))]]
def Qtx : List COp:=[oM 50 6,oM 51 7,oF 52 2 3,oo 53 (.idxarr 5 5) [.t 52,.t 50],oo 54 (.idxarr 1 5) [.t 53,.t 51],oL 55 54,oo 56 (.conv .i64) [.t 55],oF 57 1 5,oL 58 57,oo 59 (.bin .add false) [.t 58,cI 2],oo 60 (.bin .rem false) [.t 56,.t 59],oM 8 60]
def Qty : List COp:=[oM 61 8,oF 62 1 5,oL 63 62,oo 64 (.bin .lss false) [.t 61,.t 63]]
def Qtz : List COp:=[oF 65 3 5,oo 66 .loadT [.t 65],oM 67 6,oM 68 0,oM 69 7,oo 70 (.idx 1) [.t 68,.t 69],oL 71 70,oM 72 8,oo 73 (.build [.d (.int .i64 0),.d (.int .i64 0),.d (.int .i64 0)] [(0,1),(1,1),(2,1)]) [.t 67,.t 71,.t 72],oo 74 (.bslice 3 1 [.d (.int .i64 0),.d (.int .i64 0),.d (.int .i64 0)] [0]) [.t 73],ot 75 (.append 3 24) [.t 66,.t 74],oF 76 3 5,⟨none,.store 1,[.t 76,.t 75],true,none⟩]
def Qt0 : List COp:=[oM 48 7,oo 49 (.bin .add false) [.t 48,cI 1],oM 7 49]
def Qt1 : List COp:=[oM 26 6,oo 27 (.bin .add false) [.t 26,cI 1],oM 6 27]
def Qt2 : List COp:=[oo 77 (.load true 4) [.t 5],oo 78 (.call 22) [.t 77],⟨none,.store 4,[.t 4,.t 78],true,none⟩]
def Qh0 : CFn:=⟨2,79,[.cell 4 true 4],.seq (.region Qwz 9 []) (.seq (.seq (.region Qw0 9 []) (.cond (.t 11) (.seq (.region Qw1 9 []) (.ret)) (.skip))) (.seq (.region Qw2 9 []) (.seq (.region Qw3 9 []) (.seq (.seq (.region Qw4 9 []) (.block 0 (.loop [37,74] (.seq (.seq (.region Qw5 9 []) (.cond (.t 25) (.skip) (.exit 0))) (.seq (.block 1 (.seq (.seq (.region Qw6 9 []) (.cond (.t 33) (.region Qw7 9 []) (.skip))) (.seq (.region Qw8 9 []) (.block 2 (.loop [74] (.seq (.seq (.region Qtw 9 []) (.cond (.t 47) (.skip) (.exit 2))) (.seq (.block 3 (.seq (.region Qtx 0 []) (.seq (.region Qty 9 []) (.cond (.t 64) (.region Qtz 0 []) (.skip))))) (.region Qt0 9 [])))))))) (.region Qt1 9 [])))))) (.seq (.region Qt2 9 []) (.ret))))))⟩
def Qby (Qs : (List Int) → Option Qa) (Q9 : Qa → Option Qa) (fuel : Nat) (alphabet1 : (List Int)) (g2 : Qw) : Option Qa :=
  (if (g2.States ≥ 250) then ((Qs alphabet1).bind fun x5=>some (Qa.mk x5.Alphabet x5.States [] [])) else ((Qs alphabet1).bind fun x7=>((Qcy (fun k15 ((i8,c9,c10,c11,a12,a13,a14) : Int × (List Int) × (List Int) × (List Qd) × Int × (List Int) × (List Qd))=>(if (i8 < a12) then ((((((shrO .u8 g2.Marks i8).bind fun s17=>(if ((andI .u8 s17 1) == 1) then ((appO a13 [i8]).bind fun x20=>some x20) else some a13))).bind fun (a22 : List Int)=>Qcy (fun k25 ((k23,a24) : Int × (List Qd))=>(((if (k23 < (alphabet1.length : Int)) then some (decide (k23 < 5)) else some false)).bind fun (x27 : Bool)=>(if x27 then ((((inO 5 i8).bind fun _=>((inO 5 k23).bind fun _=>((rowO [g2.To.1.1,g2.To.1.2.1,g2.To.1.2.2.1,g2.To.1.2.2.2.1,g2.To.1.2.2.2.2,g2.To.2.1.1,g2.To.2.1.2.1,g2.To.2.1.2.2.1,g2.To.2.1.2.2.2.1,g2.To.2.1.2.2.2.2,g2.To.2.2.1.1,g2.To.2.2.1.2.1,g2.To.2.2.1.2.2.1,g2.To.2.2.1.2.2.2.1,g2.To.2.2.1.2.2.2.2,g2.To.2.2.2.1.1,g2.To.2.2.2.1.2.1,g2.To.2.2.2.1.2.2.1,g2.To.2.2.2.1.2.2.2.1,g2.To.2.2.2.1.2.2.2.2,g2.To.2.2.2.2.1,g2.To.2.2.2.2.2.1,g2.To.2.2.2.2.2.2.1,g2.To.2.2.2.2.2.2.2.1,g2.To.2.2.2.2.2.2.2.2] (Int.toNat i8 * 5 + Int.toNat k23 * 1)).bind fun x31=>((remO .i64 (IntKind.wrap .i64 x31) (IntKind.wrap .i64 (a12 + 2))).bind fun s33=>(if (s33 < a12) then ((getO alphabet1 k23).bind fun x36=>((appO a24 [(Qd.mk i8 x36 s33)]).bind fun x38=>some x38)) else some a24)))))).bind fun (a40 : List Qd)=>k25 ((IntKind.wrap .i64 (k23 + 1)),a40)) else some (a22,a24)))) fuel (0,a14))).bind fun ((a41,a42) : (List Int) × (List Qd))=>k15 ((IntKind.wrap .i64 (i8 + 1)),c9,c10,c11,a12,a41,a42)) else some (c9,c10,c11,a12,a13,a14))) fuel (0,[],[],[],(IntKind.wrap .i64 (1 + (IntKind.wrap .i64 (Int.tmod g2.States 5)))),[],[])).bind fun ((c43,c44,c45,a46,a47,a48) : (List Int) × (List Int) × (List Qd) × Int × (List Int) × (List Qd))=>((Q9 (Qa.mk x7.Alphabet a46 a47 a48)).bind fun x50=>some x50))))
def Qg6 (P : Program) (c : Nat) (f : (List Int) → Int → Option Int) : Prop:=∀ l1 n2 r,f l1 n2 = some r → ∀ M nb,ACalls P c [(l_ l1),(i_ n2)] M nb (i_ r) M nb
def Qt3 : List COp:=[oo 4 .mov [cI 0]]
def Qt4 : List COp:=[oM 7 0,oo 8 .len [.t 7],oo 9 .mov [cI 0]]
def Qt5 : List COp:=[oo 10 (.bin .lss false) [.t 9,.t 8]]
def Qt6 : List COp:=[oM 11 9,oo 12 (.idx 1) [.t 7,.t 9],oL 13 12,oM 5 11,oM 6 13]
def Qt7 : List COp:=[oM 15 6,oo 16 (.bin .lss false) [.t 15,cI 0],oM 17 16,⟨some 18,.mov,[.t 6],false,some (17,false)⟩,⟨some 19,.mov,[.t 1],false,some (17,false)⟩,⟨some 20,.bin .geq false,[.t 18,.t 19],false,some (17,false)⟩,oo 21 .pick [.t 17,.c (.d (.bool true)),.t 20],oM 14 21]
def Qt8 : List COp:=[oo 4 .mov [cI 2]]
def Qt9 : List COp:=[oM 23 5,oo 24 (.bin .gtr false) [.t 23,cI 0],oM 25 24,⟨some 26,.mov,[.t 6],false,some (25,true)⟩,⟨some 27,.mov,[.t 0],false,some (25,true)⟩,⟨some 28,.mov,[.t 5],false,some (25,true)⟩,⟨some 29,.bin .sub false,[.t 28,cI 1],false,some (25,true)⟩,⟨some 30,.idx 1,[.t 27,.t 29],false,some (25,true)⟩,⟨some 31,.load false 1,[.t 30],false,some (25,true)⟩,⟨some 32,.bin .leq false,[.t 26,.t 31],false,some (25,true)⟩,oo 33 .pick [.t 25,.t 32,.c (.d (.bool false))],oM 22 33]
def Qua : List COp:=[oo 4 .mov [cI 5]]
def Qub : List COp:=[oo 34 (.bin .add false) [.t 9,cI 1],oM 9 34]
def Quc : List COp:=[oo 4 .mov [cI 0]]
def Qg7 : CFn:=⟨2,35,[.t 4],.seq (.region Qt3 9 []) (.seq (.seq (.region Qt4 9 []) (.block 0 (.loop [] (.seq (.region Qt5 9 []) (.seq (.cond (.t 10) (.skip) (.exit 0)) (.seq (.block 1 (.seq (.region Qt6 9 []) (.block 2 (.seq (.region Qt7 9 []) (.cond (.t 14) (.seq (.region Qt8 9 []) (.ret)) (.seq (.region Qt9 9 []) (.cond (.t 22) (.seq (.region Qua 9 []) (.ret)) (.skip)))))))) (.region Qub 9 []))))))) (.seq (.region Quc 9 []) (.ret)))⟩
def Qb4 (fuel : Nat) (l1 : (List Int)) (n2 : Int) : Option Int :=
  Qcy (fun k4 (x3 : Int)=>(if (x3 < (l1.length : Int)) then ((getO l1 x3).bind fun x6=>(((if (x6 < 0) then some true else some (decide (x6 ≥ n2)))).bind fun (x9 : Bool)=>(if x9 then some 2 else (((if (x3 > 0) then ((getO l1 (IntKind.wrap .i64 (x3 - 1))).bind fun x12=>some (decide (x6 ≤ x12))) else some false)).bind fun (x14 : Bool)=>(if x14 then some 5 else k4 (IntKind.wrap .i64 (x3 + 1))))))) else some 0)) fuel 0
def Qka (P : Program) (c : Nat) (f : Qa → (List Int) → Option Int) : Prop:=∀ a1 events2 r,f a1 events2 = some r → ∀ M nb,ACalls P c [(Qb a1),(l_ events2)] M nb (i_ r) M nb
def Q23 : List COp:=[oo 2 (.box 4) [.t 0],oo 4 .mov [cI 0]]
def Q24 : List COp:=[oo 6 (.load true 4) [.t 2],oo 7 (.call 62) [.t 6],oM 5 7]
def Q25 : List COp:=[oM 8 5,oo 9 (.bin .neq false) [.t 8,cI 0]]
def Q26 : List COp:=[oM 10 5,oM 4 10]
def Q27 : List COp:=[oM 11 1,oo 12 (.call 63) [.t 11,cI 32],oM 4 12]
def Qkb : CFn:=⟨2,13,[.t 4],.seq (.region Q23 9 []) (.seq (.seq (.region Q24 9 []) (.seq (.region Q25 9 []) (.cond (.t 9) (.seq (.region Q26 9 []) (.ret)) (.skip)))) (.seq (.region Q27 9 []) (.ret)))⟩
def Qci (Qv : Qa → Option Int) (Qb4 : (List Int) → Int → Option Int) (a1 : Qa) (events2 : (List Int)) : Option Int :=
  ((Qv a1).bind fun x4=>(if (x4 != 0) then some x4 else ((Qb4 events2 32).bind fun x7=>some x7)))
def Qi3 (P : Program) (c : Nat) (f : (List Qd) → Option ((List Qd))) : Prop:=∀ s1 r,f s1 = some r → ∀ M nb,ACalls P c [.d (.lst 3 (List.map Qc s1))] M nb (.own 3 (List.map Qc r)) M nb
def Qz0 : List COp:=[ot 2 .mov [.c (.nils 3)]]
def Qz1 : List COp:=[oM 3 0,oo 4 (.isnil false) [.t 3]]
def Qz2 : List COp:=[ot 2 .mov [.c (.nils 3)]]
def Qz3 : List COp:=[oo 5 (.bslice 3 0 [.d (.int .i64 0),.d (.int .i64 0),.d (.int .i64 0)] []) [],oM 6 0,ot 7 (.append 3 24) [.t 5,.t 6],ot 2 .mov [.t 7]]
def Qi4 : CFn:=⟨1,8,[.t 2],.seq (.region Qz0 9 []) (.seq (.seq (.region Qz1 9 []) (.cond (.t 4) (.seq (.region Qz2 9 []) (.ret)) (.skip))) (.seq (.region Qz3 9 []) (.ret)))⟩
def Qb7 (s1 : (List Qd)) : Option ((List Qd)) :=
  (nilO s1 fun b2=>(if b2 then some [] else ((appO [] s1).bind fun x4=>some x4)))
def K_slices_Grow_int (P : Program) (c : Nat) (f : Int → Option ((List Int))) : Prop:=∀ n1 r,f n1 = some r → ∀ M nb,ACalls P c [.nils 1,(i_ n1)] M nb (o_ r) M nb
def Qi5 (P : Program) (c : Nat) (f : (List (List Int)) → Option ((List Int))) : Prop:=∀ slices1 r,f slices1 = some r → ∀ M nb,ACalls P c [.d (.lst 1 (List.map (eL 1 (eI .i64)) slices1))] M nb (o_ r) M nb
def Qz4 : List COp:=[ot 2 .mov [.c (.nils 1)]]
def Qz5 : List COp:=[oo 3 .mov [cI 0]]
def Qz6 : List COp:=[oM 9 0,oo 10 .len [.t 9],oo 11 .mov [cI 0]]
def Qz7 : List COp:=[oo 12 (.bin .lss false) [.t 11,.t 10]]
def Qz8 : List COp:=[oo 13 (.idx 1) [.t 9,.t 11],oL 14 13,ot 5 .mov [.t 14]]
def Qz9 : List COp:=[oM 15 3,oM 16 5,oo 17 .len [.t 16],oo 18 (.bin .add false) [.t 15,.t 17],oM 3 18]
def Q0a : List COp:=[oM 19 3,oo 20 (.bin .lss false) [.t 19,cI 0]]
def Q0b : List COp:=[oo 22 (.bin .add false) [.t 11,cI 1],oM 11 22]
def Q0c : List COp:=[oM 23 3,oo 24 (.call 64) [.c (.nils 1),.t 23],ot 6 .mov [.t 24]]
def Q0d : List COp:=[oM 25 0,oo 26 .len [.t 25],oo 27 .mov [cI 0]]
def Qw9 : List COp:=[oo 28 (.bin .lss false) [.t 27,.t 26]]
def Qxa : List COp:=[oo 29 (.idx 1) [.t 25,.t 27],oL 30 29,ot 8 .mov [.t 30]]
def Qxb : List COp:=[ot 31 .mov [.t 6],oM 32 8,ot 33 (.append 1 8) [.t 31,.t 32],ot 6 .mov [.t 33]]
def Qxc : List COp:=[oo 34 (.bin .add false) [.t 27,cI 1],oM 27 34]
def Qxd : List COp:=[ot 35 .mov [.t 6],ot 2 .mov [.t 35]]
def Qi6 : CFn:=⟨1,36,[.t 2],.seq (.region Qz4 9 []) (.seq (.region Qz5 9 []) (.seq (.seq (.region Qz6 9 []) (.block 0 (.loop [] (.seq (.region Qz7 9 []) (.seq (.cond (.t 12) (.skip) (.exit 0)) (.seq (.block 1 (.seq (.region Qz8 9 []) (.seq (.region Qz9 9 []) (.seq (.region Q0a 9 []) (.cond (.t 20) (.dead) (.skip)))))) (.region Q0b 9 []))))))) (.seq (.region Q0c 9 []) (.seq (.seq (.region Q0d 9 []) (.block 2 (.loop [] (.seq (.region Qw9 9 []) (.seq (.cond (.t 28) (.skip) (.exit 2)) (.seq (.block 3 (.seq (.region Qxa 9 []) (.region Qxb 9 []))) (.region Qxc 9 []))))))) (.seq (.region Qxd 9 []) (.ret))))))⟩
def Qb8 (f_slices_Grow_int : Int → Option ((List Int))) (fuel : Nat) (slices1 : (List (List Int))) : Option ((List Int)) :=
  ((Qcy (fun k4 ((size2,x3) : Int × Int)=>(if (x3 < (slices1.length : Int)) then ((getO slices1 x3).bind fun x6=>(if ((IntKind.wrap .i64 (size2 + (x6.length : Int))) < 0) then none else k4 ((IntKind.wrap .i64 (size2 + (x6.length : Int))),(IntKind.wrap .i64 (x3 + 1))))) else some size2)) fuel (0,0)).bind fun (size9 : Int)=>((f_slices_Grow_int size9).bind fun x11=>((Qcy (fun k14 ((newslice12,x13) : (List Int) × Int)=>(if (x13 < (slices1.length : Int)) then ((getO slices1 x13).bind fun x16=>((appO newslice12 x16).bind fun x18=>k14 (x18,(IntKind.wrap .i64 (x13 + 1))))) else some newslice12)) fuel (x11,0)).bind fun (newslice20 : List Int)=>some newslice20)))
def Qkk (P : Program) (c : Nat) (f : Qd → Qd → Option Int) : Prop:=∀ x1 y2 r,f x1 y2 = some r → ∀ M nb,ACalls P c [(Qbl x1),(Qbl y2)] M nb (i_ r) M nb
def Qq7 : List COp:=[oo 2 (.box 3) [.t 0],oo 3 (.box 3) [.t 1],oo 4 .mov [cI 0]]
def Qq8 : List COp:=[oF 5 0 2,oL 6 5,oF 7 0 3,oL 8 7,oo 9 (.bin .neq false) [.t 6,.t 8]]
def Qq9 : List COp:=[oF 10 0 2,oL 11 10,oF 12 0 3,oL 13 12,oo 14 (.bin .sub false) [.t 11,.t 13],oM 4 14]
def Qra : List COp:=[oF 15 1 2,oL 16 15,oF 17 1 3,oL 18 17,oo 19 (.bin .sub false) [.t 16,.t 18],oM 4 19]
def Qgg : CFn:=⟨2,20,[.t 4],.seq (.region Qq7 9 []) (.seq (.seq (.region Qq8 9 []) (.cond (.t 9) (.seq (.region Qq9 9 []) (.ret)) (.skip))) (.seq (.region Qra 9 []) (.ret)))⟩
def Qgh (x1 : Qd) (y2 : Qd) : Option Int :=
  (if (x1.From != y2.From) then some (IntKind.wrap .i64 (x1.From - y2.From)) else some (IntKind.wrap .i64 (x1.Event - y2.Event)))
def Qg8 (P : Program) (c : Nat) (f : Qa → Option Qa) : Prop:=∀ a1 r,f a1 = some r → ∀ M nb,ACalls P c [(Qb a1)] M nb (Qb r) M nb
def Qud : List COp:=[oo 1 (.box 4) [.t 0],oo 2 (.alloc [.nils 1,.d (.int .i64 0),.nils 1,.nils 3]) []]
def Que : List COp:=[oF 12 0 1,oL 13 12,oo 14 (.call 11) [.t 13],ot 15 (.build [.nils 1,.d (.int .i64 0),.nils 1,.nils 3] [(0,1)]) [.t 14],oo 3 (.alloc [.nils 1,.d (.int .i64 0),.nils 1,.nils 3]) [],⟨none,.store 4,[.t 3,.t 15],true,none⟩]
def Quf : List COp:=[oF 16 1 1,oL 17 16,oo 18 (.bin .eql false) [.t 17,cI 0]]
def Qug : List COp:=[oo 19 (.load true 4) [.t 3],⟨none,.store 4,[.t 2,.t 19],true,none⟩]
def Quh : List COp:=[oF 20 1 1,oL 21 20,oo 22 (.makes 1 8 [.d (.int .i64 0)]) [.t 21,.t 21],ot 4 .mov [.t 22]]
def Qui : List COp:=[oM 23 4,oo 24 .len [.t 23],oo 25 .mov [cI 0]]
def Quj : List COp:=[oo 26 (.bin .lss false) [.t 25,.t 24]]
def Quk : List COp:=[oM 27 25,oM 5 27]
def Qul : List COp:=[oM 28 4,oM 29 5,oo 30 (.idx 1) [.t 28,.t 29],⟨none,.store 1,[.t 30,cI (-1)],false,none⟩]
def Qum : List COp:=[oo 31 (.bin .add false) [.t 25,cI 1],oM 25 31]
def Qrb : List COp:=[oM 32 4,oo 33 (.idx 1) [.t 32,cI 0],⟨none,.store 1,[.t 33,cI 0],false,none⟩]
def Qrc : List COp:=[oo 34 (.bslice 1 1 [.d (.int .i64 0)] [0]) [cI 0],ot 6 .mov [.t 34]]
def Qrd : List COp:=[oo 7 .mov [cI 0]]
def Qre : List COp:=[oM 35 7,oM 36 6,oo 37 .len [.t 36],oo 38 (.bin .lss false) [.t 35,.t 37]]
def Qrf : List COp:=[oF 42 2 1,oL 43 42,oM 44 6,oM 45 7,oo 46 (.idx 1) [.t 44,.t 45],oL 47 46,oo 48 (.call 56) [.t 43,.t 47],oM 41 48,oo 49 (.extract 0) [.t 41],oo 50 (.extract 1) [.t 41],oM 8 49,oM 9 50]
def Qrg : List COp:=[oM 51 9]
def Qrh : List COp:=[oF 52 2 3,oo 53 .loadT [.t 52],oM 54 7,oo 55 (.bslice 1 1 [.d (.int .i64 0)] [0]) [.t 54],ot 56 (.append 1 8) [.t 53,.t 55],oF 57 2 3,⟨none,.store 1,[.t 57,.t 56],true,none⟩]
def Qri : List COp:=[oo 58 (.load true 4) [.t 1],oM 59 6,oM 60 7,oo 61 (.idx 1) [.t 59,.t 60],oL 62 61,oo 63 (.call 60) [.t 58,.t 62],oo 64 .len [.t 63],oo 65 .mov [cI 0]]
def Qrj : List COp:=[oo 66 (.bin .lss false) [.t 65,.t 64]]
def Qrk : List COp:=[oo 67 (.idx 3) [.t 63,.t 65],oo 68 (.load true 3) [.t 67],oo 11 (.alloc [.d (.int .i64 0),.d (.int .i64 0),.d (.int .i64 0)]) [],⟨none,.store 3,[.t 11,.t 68],false,none⟩]
def Qrl : List COp:=[oM 69 4,oF 70 2 11,oL 71 70,oo 72 (.idx 1) [.t 69,.t 71],oL 73 72,oo 74 (.bin .lss false) [.t 73,cI 0]]
def Qrm : List COp:=[oM 75 4,oF 76 2 11,oL 77 76,oM 78 6,oo 79 .len [.t 78],oo 80 (.idx 1) [.t 75,.t 77],⟨none,.store 1,[.t 80,.t 79],false,none⟩]
def Qrn : List COp:=[ot 81 .mov [.t 6],oF 82 2 11,oL 83 82,oo 84 (.bslice 1 1 [.d (.int .i64 0)] [0]) [.t 83],ot 85 (.append 1 8) [.t 81,.t 84],ot 6 .mov [.t 85]]
def Qro : List COp:=[oF 86 3 3,oo 87 .loadT [.t 86],oM 88 7,oF 89 1 11,oL 90 89,oM 91 4,oF 92 2 11,oL 93 92,oo 94 (.idx 1) [.t 91,.t 93],oL 95 94,oo 96 (.build [.d (.int .i64 0),.d (.int .i64 0),.d (.int .i64 0)] [(0,1),(1,1),(2,1)]) [.t 88,.t 90,.t 95],oo 97 (.bslice 3 1 [.d (.int .i64 0),.d (.int .i64 0),.d (.int .i64 0)] [0]) [.t 96],ot 98 (.append 3 24) [.t 87,.t 97],oF 99 3 3,⟨none,.store 1,[.t 99,.t 98],true,none⟩]
def Qrp : List COp:=[oo 100 (.bin .add false) [.t 65,cI 1],oM 65 100]
def Qrq : List COp:=[oM 39 7,oo 40 (.bin .add false) [.t 39,cI 1],oM 7 40]
def Qrr : List COp:=[oM 101 6,oo 102 .len [.t 101],oF 103 1 3,⟨none,.store 1,[.t 103,.t 102],false,none⟩]
def Qrs : List COp:=[oo 104 (.load true 4) [.t 3],⟨none,.store 4,[.t 2,.t 104],true,none⟩]
def Qg9 : CFn:=⟨1,105,[.cell 2 true 4],.seq (.region Qud 9 []) (.seq (.region Que 9 []) (.seq (.seq (.region Quf 9 []) (.cond (.t 18) (.seq (.region Qug 9 []) (.ret)) (.skip))) (.seq (.region Quh 9 []) (.seq (.seq (.region Qui 9 []) (.block 0 (.loop [] (.seq (.region Quj 9 []) (.seq (.cond (.t 26) (.skip) (.exit 0)) (.seq (.block 1 (.seq (.region Quk 9 []) (.region Qul 9 []))) (.region Qum 9 []))))))) (.seq (.region Qrb 9 []) (.seq (.region Qrc 9 []) (.seq (.seq (.region Qrd 9 []) (.block 2 (.loop [55,11,84,97] (.seq (.seq (.region Qre 9 []) (.cond (.t 38) (.skip) (.exit 2))) (.seq (.block 3 (.seq (.seq (.region Qrf 0 []) (.seq (.region Qrg 9 []) (.cond (.t 51) (.region Qrh 9 []) (.skip)))) (.seq (.region Qri 0 []) (.block 4 (.loop [11,84,97] (.seq (.region Qrj 9 []) (.seq (.cond (.t 66) (.skip) (.exit 4)) (.seq (.block 5 (.seq (.region Qrk 9 []) (.seq (.seq (.region Qrl 9 []) (.cond (.t 74) (.seq (.region Qrm 9 []) (.region Qrn 9 [])) (.skip))) (.region Qro 0 [])))) (.region Qrp 9 []))))))))) (.region Qrq 9 [])))))) (.seq (.region Qrr 9 []) (.seq (.region Qrs 9 []) (.ret))))))))))⟩
def Qbr (Qn : (List Int) → Option ((List Int))) (Qp : (List Int) → Int → Option (Int × Bool)) (Qbn : Qa → Int → Option ((List Qd))) (fuel : Nat) (a1 : Qa) : Option Qa :=
  ((Qn a1.Alphabet).bind fun x3=>(if (a1.States == 0) then some (Qa.mk x3 0 [] []) else ((mkO a1.States 0).bind fun x5=>((Qcy (fun k9 ((x7,c8) : Int × (List Int))=>(if (x7 < ((Int.toNat a1.States) : Int)) then ((inO (Int.toNat a1.States) x7).bind fun u11=>((setO c8 x7 (-1)).bind fun x13=>k9 ((IntKind.wrap .i64 (x7 + 1)),x13))) else some c8)) fuel (0,x5)).bind fun (c15 : List Int)=>((inO (Int.toNat a1.States) 0).bind fun u16=>((setO c15 0 0).bind fun x18=>((Qcy (fun k28 ((order20,i21,c22,c23,c24,r25,r26,c27) : (List Int) × Int × (List Int) × (List Int) × (List Qd) × (List Int) × (List Qd) × (List Int))=>(if (i21 < (order20.length : Int)) then ((((((getO order20 i21).bind fun x30=>((Qp a1.Marked x30).bind fun (r33,r34)=>(if r34 then ((appO r25 [i21]).bind fun x36=>some x36) else some r25)))).bind fun (r38 : List Int)=>((getO order20 i21).bind fun x39=>((Qbn a1 x39).bind fun x42=>Qcy (fun k47 ((order43,x44,r45,c46) : (List Int) × Int × (List Qd) × (List Int))=>(if (x44 < (x42.length : Int)) then ((getO x42 x44).bind fun x49=>((((inO (Int.toNat a1.States) x49.To).bind fun u51=>((getO c46 x49.To).bind fun x53=>(if (x53 < 0) then ((inO (Int.toNat a1.States) x49.To).bind fun u56=>((setO c46 x49.To (order43.length : Int)).bind fun x58=>((appO order43 [x49.To]).bind fun x60=>some (x60,x58)))) else some (order43,c46))))).bind fun ((order62,c63) : (List Int) × (List Int))=>((inO (Int.toNat a1.States) x49.To).bind fun u64=>((getO c63 x49.To).bind fun x66=>((appO r45 [(Qd.mk i21 x49.Event x66)]).bind fun x68=>k47 (order62,(IntKind.wrap .i64 (x44 + 1)),x68,c63)))))) else some (order43,r38,r45,c46))) fuel (order20,0,r26,c27))))).bind fun ((order70,r71,r72,c73) : (List Int) × (List Int) × (List Qd) × (List Int))=>k28 (order70,(IntKind.wrap .i64 (i21 + 1)),c22,c23,c24,r71,r72,c73)) else some (order20,c22,c23,c24,r25,r26,c27))) fuel ([0],0,[],[],[],[],[],x18)).bind fun ((order74,c75,c76,c77,r78,r79,c80) : (List Int) × (List Int) × (List Int) × (List Qd) × (List Int) × (List Qd) × (List Int))=>some (Qa.mk x3 (order74.length : Int) r78 r79))))))))
def Qha (P : Program) (c : Nat) (f : Qa → Option (Qa × Int)) : Prop:=∀ a1 r,f a1 = some r → ∀ M nb,ACalls P c [(Qb a1)] M nb (.tup [(Qb r.1),(i_ r.2)]) M nb
def Qun : List COp:=[oo 1 (.box 4) [.t 0],oo 2 (.alloc [.nils 1,.d (.int .i64 0),.nils 1,.nils 3]) [],oo 3 .mov [cI 0]]
def Quo : List COp:=[oo 5 (.load true 4) [.t 1],oo 6 (.call 62) [.t 5],oM 4 6]
def Qup : List COp:=[oM 7 4,oo 8 (.bin .neq false) [.t 7,cI 0]]
def Quq : List COp:=[oo 9 (.build [.nils 1,.d (.int .i64 0),.nils 1,.nils 3] []) [],oM 10 4,⟨none,.store 4,[.t 2,.t 9],true,none⟩,oM 3 10]
def Qur : List COp:=[oo 11 (.load true 4) [.t 1],oo 12 (.call 66) [.t 11],⟨none,.store 4,[.t 2,.t 12],true,none⟩,oo 3 .mov [cI 0]]
def Qhb : CFn:=⟨1,13,[.cell 2 true 4,.t 3],.seq (.region Qun 9 []) (.seq (.seq (.region Quo 9 []) (.seq (.region Qup 9 []) (.cond (.t 8) (.seq (.region Quq 9 []) (.ret)) (.skip)))) (.seq (.region Qur 9 []) (.ret)))⟩
def Qbs (Qv : Qa → Option Int) (Qbr : Qa → Option Qa) (a1 : Qa) : Option (Qa × Int) :=
  ((Qv a1).bind fun x3=>(if (x3 != 0) then some ((Qa.mk [] 0 [] []),x3) else ((Qbr a1).bind fun x6=>some (x6,0))))
def Qh1 (P : Program) (c : Nat) (f : Qa → (List Int) → Option (Qa × Int)) : Prop:=∀ a1 alphabet2 r,f a1 alphabet2 = some r → ∀ M nb,ACalls P c [(Qb a1),(l_ alphabet2)] M nb (.tup [(Qb r.1),(i_ r.2)]) M nb
def Qxe : List COp:=[oo 2 (.box 4) [.t 0],oo 4 (.alloc [.nils 1,.d (.int .i64 0),.nils 1,.nils 3]) [],oo 5 .mov [cI 0]]
def Qxf : List COp:=[oo 11 (.load true 4) [.t 2],oM 12 1,oo 13 (.call 45) [.t 11,.t 12],oM 6 13]
def Qxg : List COp:=[oM 14 6,oo 15 (.bin .neq false) [.t 14,cI 0]]
def Qxh : List COp:=[oo 16 (.build [.nils 1,.d (.int .i64 0),.nils 1,.nils 3] []) [],oM 17 6,⟨none,.store 4,[.t 4,.t 16],true,none⟩,oM 5 17]
def Qxi : List COp:=[oF 18 1 2,oL 19 18,oF 20 2 2,oL 21 20,oF 22 3 2,oL 23 22,oo 24 (.call 46) [.t 23],ot 25 (.build [.nils 1,.d (.int .i64 0),.nils 1,.nils 3] [(1,1),(2,1),(3,1)]) [.t 19,.t 21,.t 24],oo 7 (.alloc [.nils 1,.d (.int .i64 0),.nils 1,.nils 3]) [],⟨none,.store 4,[.t 7,.t 25],true,none⟩]
def Qxj : List COp:=[oF 26 0 2,oL 27 26,oM 28 1,oo 29 (.bslice 1 2 [.nils 1] [0,1]) [.t 27,.t 28],oo 30 (.call 47) [.t 29],oF 31 0 7,⟨none,.store 1,[.t 31,.t 30],true,none⟩]
def Qxk : List COp:=[oF 32 0 7,oL 33 32,oo 34 (.call 24) [.t 33]]
def Qxl : List COp:=[oF 35 0 7,oL 36 35,oo 37 (.call 25) [.t 36],oF 38 0 7,⟨none,.store 1,[.t 38,.t 37],true,none⟩]
def Qxm : List COp:=[oF 39 1 2,oL 40 39,oo 41 .mov [cI 0]]
def Qxn : List COp:=[oo 42 (.bin .lss false) [.t 41,.t 40]]
def Qus : List COp:=[oM 43 41,oM 8 43]
def Qut : List COp:=[oF 44 0 7,oL 45 44,oo 46 .len [.t 45],oo 47 .mov [cI 0]]
def Quu : List COp:=[oo 48 (.bin .lss false) [.t 47,.t 46]]
def Quv : List COp:=[oo 49 (.idx 1) [.t 45,.t 47],oL 50 49,oM 10 50]
def Quw : List COp:=[oF 51 0 2,oL 52 51,oM 53 10,oo 54 (.call 12) [.t 52,.t 53],oo 55 (.un .not) [.t 54]]
def Qux : List COp:=[oF 56 3 7,oo 57 .loadT [.t 56],oM 58 8,oM 59 10,oM 60 8,oo 61 (.build [.d (.int .i64 0),.d (.int .i64 0),.d (.int .i64 0)] [(0,1),(1,1),(2,1)]) [.t 58,.t 59,.t 60],oo 62 (.bslice 3 1 [.d (.int .i64 0),.d (.int .i64 0),.d (.int .i64 0)] [0]) [.t 61],ot 63 (.append 3 24) [.t 57,.t 62],oF 64 3 7,⟨none,.store 1,[.t 64,.t 63],true,none⟩]
def Quy : List COp:=[oo 65 (.bin .add false) [.t 47,cI 1],oM 47 65]
def Quz : List COp:=[oo 66 (.bin .add false) [.t 41,cI 1],oM 41 66]
def Qu0 : List COp:=[oF 67 3 7,oL 68 67,oo 69 (.call 48) [.t 68,.c (.clo 49 [])]]
def Qu1 : List COp:=[oo 70 (.load true 4) [.t 7],oo 71 (.call 50) [.t 70],oo 72 (.extract 0) [.t 71],oo 73 (.extract 1) [.t 71],⟨none,.store 4,[.t 4,.t 72],true,none⟩,oM 5 73]
def Qh2 : CFn:=⟨2,74,[.cell 4 true 4,.t 5],.seq (.region Qxe 9 []) (.seq (.seq (.region Qxf 9 []) (.seq (.region Qxg 9 []) (.cond (.t 15) (.seq (.region Qxh 9 []) (.ret)) (.skip)))) (.seq (.region Qxi 1 []) (.seq (.region Qxj 9 []) (.seq (.region Qxk 9 []) (.seq (.region Qxl 9 []) (.seq (.seq (.region Qxm 9 []) (.block 0 (.loop [62] (.seq (.region Qxn 9 []) (.seq (.cond (.t 42) (.skip) (.exit 0)) (.seq (.block 1 (.seq (.region Qus 9 []) (.seq (.region Qut 9 []) (.block 2 (.loop [62] (.seq (.region Quu 9 []) (.seq (.cond (.t 48) (.skip) (.exit 2)) (.seq (.block 3 (.seq (.region Quv 9 []) (.seq (.region Quw 9 []) (.cond (.t 55) (.region Qux 9 []) (.skip))))) (.region Quy 9 []))))))))) (.region Quz 9 []))))))) (.seq (.region Qu0 9 []) (.seq (.region Qu1 9 []) (.ret)))))))))⟩
def Qbi (Ql : (List Int) → Int → Option Bool) (f_slices_Sort_int : List Int → Option (List Int)) (f_slices_Compact_int : List Int → Option (List Int)) (Qci : Qa → (List Int) → Option Int) (Qb7 : (List Qd) → Option ((List Qd))) (Qb8 : (List (List Int)) → Option ((List Int))) (f_slices_SortFunc_Edge : List Qd → Option (List Qd)) (Qbs : Qa → Option (Qa × Int)) (fuel : Nat) (a1 : Qa) (alphabet2 : (List Int)) : Option (Qa × Int) :=
  ((Qci a1 alphabet2).bind fun x4=>(if (x4 != 0) then some ((Qa.mk [] 0 [] []),x4) else ((Qb7 a1.Edges).bind fun x7=>((Qb8 [a1.Alphabet,alphabet2]).bind fun x9=>((f_slices_Sort_int x9).bind fun row10=>((f_slices_Compact_int row10).bind fun row16=>((Qcy (fun k26 ((x24,r25) : Int × (List Qd))=>(if (x24 < a1.States) then ((Qcy (fun k30 ((x28,r29) : Int × (List Qd))=>(if (x28 < (row16.length : Int)) then ((((getO row16 x28).bind fun x32=>((Ql a1.Alphabet x32).bind fun x35=>(if x35 then some r29 else ((appO r29 [(Qd.mk x24 x32 x24)]).bind fun x37=>some x37))))).bind fun (r39 : List Qd)=>k30 ((IntKind.wrap .i64 (x28 + 1)),r39)) else some r29)) fuel (0,r25)).bind fun (r40 : List Qd)=>k26 ((IntKind.wrap .i64 (x24 + 1)),r40)) else some r25)) fuel (0,x7)).bind fun (r41 : List Qd)=>((f_slices_SortFunc_Edge r41).bind fun row42=>((Qbs (Qa.mk row16 a1.States a1.Marked row42)).bind fun (r52,r53)=>some (r52,r53))))))))))
def Qi7 (P : Program) (c : Nat) (f : Qa → (List Int) → Option (Qa × Int)) : Prop:=∀ a1 events2 r,f a1 events2 = some r → ∀ M nb,ACalls P c [(Qb a1),(l_ events2)] M nb (.tup [(Qb r.1),(i_ r.2)]) M nb
def Q0e : List COp:=[oo 2 (.box 4) [.t 0],oo 4 (.alloc [.nils 1,.d (.int .i64 0),.nils 1,.nils 3]) [],oo 5 .mov [cI 0]]
def Q0f : List COp:=[oo 6 (.load true 4) [.t 2],oM 7 1,oo 8 (.call 23) [.t 6,.t 7],oo 9 (.extract 0) [.t 8],oo 10 (.extract 1) [.t 8],⟨none,.store 4,[.t 4,.t 9],true,none⟩,oM 5 10]
def Qi8 : CFn:=⟨2,11,[.cell 4 true 4,.t 5],.seq (.region Q0e 9 []) (.seq (.region Q0f 9 []) (.ret))⟩
def Qb9 (Qbi : Qa → (List Int) → Option (Qa × Int)) (a1 : Qa) (events2 : (List Int)) : Option (Qa × Int) :=
  ((Qbi a1 events2).bind fun (r4,r5)=>some (r4,r5))
def Qk9 (P : Program) (c : Nat) (f : Qa → Qa → Option Bool) : Prop:=∀ a1 b2 r,f a1 b2 = some r → ∀ M nb,ACalls P c [(Qb a1),(Qb b2)] M nb (b_ r) M nb
def Q4s : List COp:=[oo 2 (.box 4) [.t 0],oo 3 (.box 4) [.t 1],oo 4 .mov [.c (.d (.bool false))]]
def Q4t : List COp:=[oF 5 1 2,oL 6 5,oF 7 1 3,oL 8 7,oo 9 (.bin .eql false) [.t 6,.t 8],oM 10 9,⟨some 11,.fld 0,[.t 2],false,some (10,true)⟩,⟨some 12,.load false 1,[.t 11],false,some (10,true)⟩,⟨some 13,.fld 0,[.t 3],false,some (10,true)⟩,⟨some 14,.load false 1,[.t 13],false,some (10,true)⟩,⟨some 15,.call 19,[.t 12,.t 14],false,some (10,true)⟩,oo 16 .pick [.t 10,.t 15,.c (.d (.bool false))],oM 17 16,⟨some 18,.fld 2,[.t 2],false,some (17,true)⟩,⟨some 19,.load false 1,[.t 18],false,some (17,true)⟩,⟨some 20,.fld 2,[.t 3],false,some (17,true)⟩,⟨some 21,.load false 1,[.t 20],false,some (17,true)⟩,⟨some 22,.call 19,[.t 19,.t 21],false,some (17,true)⟩,oo 23 .pick [.t 17,.t 22,.c (.d (.bool false))],oM 24 23,⟨some 25,.fld 3,[.t 2],false,some (24,true)⟩,⟨some 26,.load false 1,[.t 25],false,some (24,true)⟩,⟨some 27,.fld 3,[.t 3],false,some (24,true)⟩,⟨some 28,.load false 1,[.t 27],false,some (24,true)⟩,⟨some 29,.call 20,[.t 26,.t 28],false,some (24,true)⟩,oo 30 .pick [.t 24,.t 29,.c (.d (.bool false))],oM 4 30]
def Qla : CFn:=⟨2,31,[.t 4],.seq (.region Q4s 9 []) (.seq (.region Q4t 9 []) (.ret))⟩
def Qca (Qy : (List Int) → (List Int) → Option Bool) (Q3 : (List Qd) → (List Qd) → Option Bool) (a1 : Qa) (b2 : Qa) : Option Bool :=
  (if (a1.States == b2.States) then ((Qy a1.Alphabet b2.Alphabet).bind fun x5=>(if x5 then ((Qy a1.Marked b2.Marked).bind fun x8=>(if x8 then ((Q3 a1.Edges b2.Edges).bind fun x11=>some x11) else some false)) else some false)) else some false)
def Qgi (P : Program) (c : Nat) (f : (List Int) → Option ((List Int))) : Prop:=∀ l1 r,f l1 = some r → ∀ M nb,ACalls P c [(l_ l1)] M nb (l_ r) M nb
def Qrt : List COp:=[ot 2 .mov [.c (.nils 1)]]
def Qru : List COp:=[oM 4 0,oo 5 (.call 11) [.t 4],ot 3 .mov [.t 5]]
def Qrv : List COp:=[oM 6 3,oo 7 (.call 24) [.t 6]]
def Qrw : List COp:=[oM 8 3,oo 9 (.call 25) [.t 8],ot 2 .mov [.t 9]]
def Qgj : CFn:=⟨1,10,[.t 2],.seq (.region Qrt 9 []) (.seq (.region Qru 9 []) (.seq (.region Qrv 9 []) (.seq (.region Qrw 9 []) (.ret))))⟩
def Qbg (Qn : (List Int) → Option ((List Int))) (f_slices_Sort_int : List Int → Option (List Int)) (f_slices_Compact_int : List Int → Option (List Int)) (l1 : (List Int)) : Option ((List Int)) :=
  ((Qn l1).bind fun x3=>((f_slices_Sort_int x3).bind fun out4=>((f_slices_Compact_int out4).bind fun out10=>some out10)))
def Qc3 (P : Program) (c : Nat) (f : Qd → Int → Int → Option Bool) : Prop:=∀ y1 x2 x5 (k3 : Nat) (k6 : Nat) r,f y1 x2 x5 = some r → ∀ M nb,(M k3 = some (.cells [(i_ x2)])) → (M k6 = some (.cells [(i_ x5)])) → ACalls P c [(Qbl y1),.ptr k3 0,.ptr k6 0] M nb (b_ r) M nb
def Qh3 : List COp:=[oo 3 (.box 3) [.t 0],oo 4 .mov [.c (.d (.bool false))]]
def Qh4 : List COp:=[oF 5 0 3,oL 6 5,oL 7 1,oo 8 (.bin .eql false) [.t 6,.t 7],oM 9 8,⟨some 10,.fld 1,[.t 3],false,some (9,true)⟩,⟨some 11,.load false 1,[.t 10],false,some (9,true)⟩,⟨some 12,.load false 1,[.t 2],false,some (9,true)⟩,⟨some 13,.bin .eql false,[.t 11,.t 12],false,some (9,true)⟩,oo 14 .pick [.t 9,.t 13,.c (.d (.bool false))],oM 4 14]
def Qc4 : CFn:=⟨3,15,[.t 4],.seq (.region Qh3 9 []) (.seq (.region Qh4 9 []) (.ret))⟩
def Qq (y1 : Qd) (x2 : Int) (x5 : Int) : Option Bool :=
  (if (y1.From == x2) then some (y1.Event == x5) else some false)
def Qfr (P : Program) (c : Nat) (f : (List Qd) → (Qd → Option Bool) → Option Int) : Prop:=∀ s1 f2 (g3 : Nat) (cp4 : List V) r,f s1 f2 = some r → ∀ M nb,(V.dems cp4 = cp4) → (V.ons (There M) cp4) → (∀ a8 r,f2 a8 = some r → ∀ M2 nb2,nb ≤ nb2 → Ext M M2 → ACalls P g3 ([(Qbl a8)] ++ cp4) M2 nb2 (b_ r) M2 nb2) → ACalls P c [.d (.lst 3 (List.map Qc s1)),.clo g3 cp4] M nb (i_ r) M nb
def Qo2 : List COp:=[oo 4 .mov [cI 0]]
def Qo3 : List COp:=[oM 6 0,oo 7 .len [.t 6],oo 8 .mov [cI 0]]
def Qo4 : List COp:=[oo 9 (.bin .lss false) [.t 8,.t 7]]
def Qo5 : List COp:=[oM 10 8,oM 5 10]
def Qo6 : List COp:=[oM 11 1,oM 12 0,oM 13 5,oo 14 (.idx 3) [.t 12,.t 13],oo 15 (.load true 3) [.t 14],oo 16 .callv [.t 11,.t 15]]
def Qo7 : List COp:=[oM 17 5,oM 4 17]
def Qo8 : List COp:=[oo 18 (.bin .add false) [.t 8,cI 1],oM 8 18]
def Qo9 : List COp:=[oo 4 .mov [cI (-1)]]
def Qfs : CFn:=⟨2,19,[.t 4],.seq (.region Qo2 9 []) (.seq (.seq (.region Qo3 9 []) (.block 0 (.loop [] (.seq (.region Qo4 9 []) (.seq (.cond (.t 9) (.skip) (.exit 0)) (.seq (.block 1 (.seq (.region Qo5 9 []) (.seq (.region Qo6 9 []) (.cond (.t 16) (.seq (.region Qo7 9 []) (.ret)) (.skip))))) (.region Qo8 9 []))))))) (.seq (.region Qo9 9 []) (.ret)))⟩
def Qbb (fuel : Nat) (s1 : (List Qd)) (f2 : (Qd → Option Bool)) : Option Int :=
  Qcy (fun k10 (x9 : Int)=>(if (x9 < (s1.length : Int)) then ((getO s1 x9).bind fun x12=>((f2 x12).bind fun x15=>(if x15 then some x9 else k10 (IntKind.wrap .i64 (x9 + 1))))) else some (-1))) fuel 0
def Qeq (P : Program) (c : Nat) (f : Int → Qw → (List Int) → Option Bool) : Prop:=∀ s1 g2 events3 r,f s1 g2 events3 = some r → ∀ M nb,ACalls P c [.d (.int .u8 s1),.agg [.d (.int .u8 g2.States),.d (.int .u8 g2.Marks),.d (.int .u8 g2.To.1.1),.d (.int .u8 g2.To.1.2.1),.d (.int .u8 g2.To.1.2.2.1),.d (.int .u8 g2.To.1.2.2.2.1),.d (.int .u8 g2.To.1.2.2.2.2),.d (.int .u8 g2.To.2.1.1),.d (.int .u8 g2.To.2.1.2.1),.d (.int .u8 g2.To.2.1.2.2.1),.d (.int .u8 g2.To.2.1.2.2.2.1),.d (.int .u8 g2.To.2.1.2.2.2.2),.d (.int .u8 g2.To.2.2.1.1),.d (.int .u8 g2.To.2.2.1.2.1),.d (.int .u8 g2.To.2.2.1.2.2.1),.d (.int .u8 g2.To.2.2.1.2.2.2.1),.d (.int .u8 g2.To.2.2.1.2.2.2.2),.d (.int .u8 g2.To.2.2.2.1.1),.d (.int .u8 g2.To.2.2.2.1.2.1),.d (.int .u8 g2.To.2.2.2.1.2.2.1),.d (.int .u8 g2.To.2.2.2.1.2.2.2.1),.d (.int .u8 g2.To.2.2.2.1.2.2.2.2),.d (.int .u8 g2.To.2.2.2.2.1),.d (.int .u8 g2.To.2.2.2.2.2.1),.d (.int .u8 g2.To.2.2.2.2.2.2.1),.d (.int .u8 g2.To.2.2.2.2.2.2.2.1),.d (.int .u8 g2.To.2.2.2.2.2.2.2.2)],(l_ events3)] M nb (b_ r) M nb
def Qi9 : List COp:=[oo 4 (.box 27) [.t 1],oo 6 .mov [.c (.d (.bool false))]]
def Qja : List COp:=[oo 16 (.call 4) [],oo 17 (.un .not) [.t 16],oM 18 17,⟨some 19,.mov,[.t 2],false,some (18,false)⟩,⟨some 20,.len,[.t 19],false,some (18,false)⟩,⟨some 21,.bin .gtr false,[.t 20,cI 8],false,some (18,false)⟩,oo 22 .pick [.t 18,.c (.d (.bool true)),.t 21]]
def Qjb : List COp:=[oo 23 (.call 4) [],oM 6 23]
def Qjc : List COp:=[oM 24 0,oo 25 (.call 6) [.t 24],oo 26 (.load true 27) [.t 4],oo 27 (.call 5) [.t 25,.t 26],oo 7 (.alloc [.nils 1,.d (.int .i64 0),.nils 1,.nils 3]) [],⟨none,.store 4,[.t 7,.t 27],true,none⟩]
def Qjd : List COp:=[oo 29 (.load true 4) [.t 7],oM 30 2,oo 31 (.call 7) [.t 29,.t 30],oM 28 31,oo 32 (.extract 0) [.t 28],oo 33 (.extract 1) [.t 28],oo 8 (.alloc [.nils 1,.d (.int .i64 0),.nils 1,.nils 3]) [],⟨none,.store 4,[.t 8,.t 32],true,none⟩,oM 9 33]
def Qje : List COp:=[oM 34 2,oo 35 (.call 8) [.t 34,cI 32],oM 10 35]
def Qjf : List COp:=[oM 36 10,oo 37 (.bin .neq false) [.t 36,cI 0]]
def Qjg : List COp:=[oM 38 9,oM 39 10,oo 40 (.bin .eql false) [.t 38,.t 39],oM 41 40,⟨some 42,.load true 4,[.t 8],false,some (41,true)⟩,⟨some 43,.build [.nils 1,.d (.int .i64 0),.nils 1,.nils 3] [],[],false,some (41,true)⟩,⟨some 44,.call 9,[.t 42,.t 43],false,some (41,true)⟩,oo 45 .pick [.t 41,.t 44,.c (.d (.bool false))],oM 6 45]
def Qjh : List COp:=[oF 46 0 7,oL 47 46,oo 48 (.call 11) [.t 47],oM 49 2,ot 50 (.append 1 8) [.t 48,.t 49],oo 51 (.call 10) [.t 50],oF 52 1 7,oL 53 52,oF 54 2 7,oL 55 54,ot 56 (.build [.nils 1,.d (.int .i64 0),.nils 1,.nils 3] [(0,1),(1,1),(2,1)]) [.t 51,.t 53,.t 55],oo 11 (.alloc [.nils 1,.d (.int .i64 0),.nils 1,.nils 3]) [],⟨none,.store 4,[.t 11,.t 56],true,none⟩]
def Qji : List COp:=[oF 57 1 7,oL 58 57,oo 59 .mov [cI 0]]
def Qh9 : List COp:=[oo 60 (.bin .lss false) [.t 59,.t 58]]
def Qia : List COp:=[oM 61 59,oo 12 (.alloc [.d (.int .i64 0)]) [],⟨none,.store 1,[.t 12,.t 61],false,none⟩]
def Qib : List COp:=[oF 62 0 11,oL 63 62,oo 64 .len [.t 63],oo 65 .mov [cI 0]]
def Qic : List COp:=[oo 66 (.bin .lss false) [.t 65,.t 64]]
def Qid : List COp:=[oo 67 (.idx 1) [.t 63,.t 65],oL 68 67,oo 14 (.alloc [.d (.int .i64 0)]) [],⟨none,.store 1,[.t 14,.t 68],false,none⟩]
def Qie : List COp:=[oF 69 0 7,oL 70 69,oL 71 14,oo 72 (.call 12) [.t 70,.t 71],oo 73 (.un .not) [.t 72]]
def Qif : List COp:=[oF 74 3 11,oo 75 .loadT [.t 74],oL 76 12,oL 77 14,oL 78 12,oo 79 (.build [.d (.int .i64 0),.d (.int .i64 0),.d (.int .i64 0)] [(0,1),(1,1),(2,1)]) [.t 76,.t 77,.t 78],oo 80 (.bslice 3 1 [.d (.int .i64 0),.d (.int .i64 0),.d (.int .i64 0)] [0]) [.t 79],ot 81 (.append 3 24) [.t 75,.t 80],oF 82 3 11,⟨none,.store 1,[.t 82,.t 81],true,none⟩]
def Qig : List COp:=[oF 83 3 7,oL 84 83,oo 85 (.func 14) [.t 12,.t 14],oo 86 (.call 13) [.t 84,.t 85],oM 15 86]
def Qih : List COp:=[oM 87 15,oo 88 (.bin .geq false) [.t 87,cI 0]]
def Qii : List COp:=[oF 89 3 11,oo 90 .loadT [.t 89],oF 91 3 7,oL 92 91,oM 93 15,oo 94 (.idx 3) [.t 92,.t 93],oo 95 (.load true 3) [.t 94],oo 96 (.bslice 3 1 [.d (.int .i64 0),.d (.int .i64 0),.d (.int .i64 0)] [0]) [.t 95],ot 97 (.append 3 24) [.t 90,.t 96],oF 98 3 11,⟨none,.store 1,[.t 98,.t 97],true,none⟩]
def Qij : List COp:=[oo 99 (.bin .add false) [.t 65,cI 1],oM 65 99]
def Qik : List COp:=[oo 100 (.bin .add false) [.t 59,cI 1],oM 59 100]
def Qil : List COp:=[oM 101 9,oo 102 (.bin .eql false) [.t 101,cI 0],oM 103 102,⟨some 104,.load true 4,[.t 8],false,some (103,true)⟩,⟨some 105,.load true 4,[.t 11],false,some (103,true)⟩,⟨some 106,.call 9,[.t 104,.t 105],false,some (103,true)⟩,oo 107 .pick [.t 103,.t 106,.c (.d (.bool false))],oM 6 107]
def Qdc : CFn:=⟨3,108,[.t 6],.seq (.region Qi9 9 []) (.seq (.seq (.region Qja 9 []) (.cond (.t 22) (.seq (.region Qjb 9 []) (.ret)) (.skip))) (.seq (.region Qjc 1 []) (.seq (.region Qjd 9 []) (.seq (.region Qje 9 []) (.seq (.seq (.region Qjf 9 []) (.cond (.t 37) (.seq (.region Qjg 9 []) (.ret)) (.skip))) (.seq (.region Qjh 1 []) (.seq (.seq (.region Qji 9 []) (.block 0 (.loop [12,14,80,96] (.seq (.region Qh9 9 []) (.seq (.cond (.t 60) (.skip) (.exit 0)) (.seq (.block 1 (.seq (.region Qia 9 []) (.seq (.region Qib 9 []) (.block 2 (.loop [14,80,96] (.seq (.region Qic 9 []) (.seq (.cond (.t 66) (.skip) (.exit 2)) (.seq (.block 3 (.seq (.region Qid 9 []) (.seq (.seq (.region Qie 9 []) (.cond (.t 73) (.seq (.region Qif 9 []) (.exit 3)) (.skip))) (.seq (.region Qig 9 []) (.seq (.region Qih 9 []) (.cond (.t 88) (.region Qii 0 []) (.skip))))))) (.region Qij 9 []))))))))) (.region Qik 9 []))))))) (.seq (.region Qil 9 []) (.ret)))))))))⟩
def Qcj (Qbo : Option Bool) (Qby : (List Int) → Qw → Option Qa) (Qba : Int → Option ((List Int))) (Qb9 : Qa → (List Int) → Option (Qa × Int)) (Q2 : (List Int) → Int → Option Int) (Qca : Qa → Qa → Option Bool) (Qbg : (List Int) → Option ((List Int))) (Qn : (List Int) → Option ((List Int))) (Ql : (List Int) → Int → Option Bool) (Qbb : (List Qd) → (Qd → Option Bool) → Option Int) (Qq : Qd → Int → Int → Option Bool) (fuel : Nat) (s1 : Int) (g2 : Qw) (events3 : (List Int)) : Option Bool :=
  (((Qbo.bind fun x5=>(if x5 then some (decide ((events3.length : Int) > 8)) else some true))).bind fun (x7 : Bool)=>(if x7 then (Qbo.bind fun x10=>some x10) else ((Qba s1).bind fun x12=>((Qby x12 (Qw.mk g2.States g2.Marks ((g2.To.1.1,g2.To.1.2.1,g2.To.1.2.2.1,g2.To.1.2.2.2.1,g2.To.1.2.2.2.2),(g2.To.2.1.1,g2.To.2.1.2.1,g2.To.2.1.2.2.1,g2.To.2.1.2.2.2.1,g2.To.2.1.2.2.2.2),(g2.To.2.2.1.1,g2.To.2.2.1.2.1,g2.To.2.2.1.2.2.1,g2.To.2.2.1.2.2.2.1,g2.To.2.2.1.2.2.2.2),(g2.To.2.2.2.1.1,g2.To.2.2.2.1.2.1,g2.To.2.2.2.1.2.2.1,g2.To.2.2.2.1.2.2.2.1,g2.To.2.2.2.1.2.2.2.2),(g2.To.2.2.2.2.1,g2.To.2.2.2.2.2.1,g2.To.2.2.2.2.2.2.1,g2.To.2.2.2.2.2.2.2.1,g2.To.2.2.2.2.2.2.2.2)))).bind fun x14=>((Qb9 x14 events3).bind fun (r16,r17)=>((Q2 events3 32).bind fun x19=>(if (x19 != 0) then (if (r17 == x19) then ((Qca r16 (Qa.mk [] 0 [] [])).bind fun x23=>some x23) else some false) else ((Qn x14.Alphabet).bind fun x25=>((appO x25 events3).bind fun x26=>((Qbg x26).bind fun x29=>((Qcy (fun k32 ((x30,w31) : Int × (List Qd))=>(if (x30 < x14.States) then ((Qcy (fun k36 ((x34,w35) : Int × (List Qd))=>(if (x34 < (x29.length : Int)) then ((((getO x29 x34).bind fun x38=>((Ql x14.Alphabet x38).bind fun x41=>(if x41 then ((Qbb x14.Edges (fun a45=>Qq a45 x30 x38)).bind fun x49=>(if (x49 ≥ 0) then ((getO x14.Edges x49).bind fun x51=>((appO w35 [x51]).bind fun x53=>some (x53,x38))) else some (w35,x38))) else ((appO w35 [(Qd.mk x30 x38 x30)]).bind fun x43=>some (x43,x38)))))).bind fun ((w55,c56) : (List Qd) × Int)=>k36 ((IntKind.wrap .i64 (x34 + 1)),w55)) else some w35)) fuel (0,w31)).bind fun (w57 : List Qd)=>k32 ((IntKind.wrap .i64 (x30 + 1)),w57)) else some w31)) fuel (0,[])).bind fun (w58 : List Qd)=>(if (r17 == 0) then ((Qca r16 (Qa.mk x29 x14.States x14.Marked w58)).bind fun x61=>some x61) else some false))))))))))))
end Go.Abs
