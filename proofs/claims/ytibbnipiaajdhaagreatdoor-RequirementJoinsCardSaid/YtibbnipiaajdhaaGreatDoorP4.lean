/-
  Part 4 of the proof: see the last text.
-/
import Derived.Test.YtibbnipiaajdhaaGreatDoorP3
set_option linter.unusedVariables false
set_option linter.unusedSimpArgs false
set_option linter.unusedSectionVars false
namespace Go.Abs
open Go
set_option maxRecDepth 10000
set_option maxHeartbeats 4000000
def Qgr (P:Program) (c:Nat) (f:(List Int)→Int→Option Int):Prop:=∀ s1 v2 r,f s1 v2=some r→∀ M nb,ACalls P c [(l_ s1),(i_ v2)] M nb (i_ r) M nb
def Qz8:List COp:=[oo 4 .mov [cI 0]]
def Qz9:List COp:=[oM 6 0,oo 7 .len [.t 6],oo 8 .mov [cI 0]]
def Q0a:List COp:=[oo 9 (.bin .lss false) [.t 8,.t 7]]
def Q0b:List COp:=[oM 10 8,oM 5 10]
def Q0c:List COp:=[oM 11 1,oM 12 0,oM 13 5,oo 14 (.idx 1) [.t 12,.t 13],oL 15 14,oo 16 (.bin .eql false) [.t 11,.t 15]]
def Q0d:List COp:=[oM 17 5,oM 4 17]
def Q0e:List COp:=[oo 18 (.bin .add false) [.t 8,cI 1],oM 8 18]
def Q0f:List COp:=[oo 4 .mov [cI (-1)]]
def Qi4:CFn:=⟨2,19,[.t 4],.seq (.region Qz8 9 []) (.seq (.seq (.region Qz9 9 []) (.block 0 (.loop [] (.seq (.region Q0a 9 []) (.seq (.cond (.t 9) (.skip) (.exit 0)) (.seq (.block 1 (.seq (.region Q0b 9 []) (.seq (.region Q0c 9 []) (.cond (.t 16) (.seq (.region Q0d 9 []) (.ret)) (.skip))))) (.region Q0e 9 []))))))) (.seq (.region Q0f 9 []) (.ret)))⟩
def Q7 (fuel:Nat) (s1:(List Int)) (v2:Int):Option Int :=
  Qda (fun k4 (x3:Int)=>(if (x3 < (s1.length:Int)) then ((getO s1 x3).bind fun x6=>(if (v2 == x6) then some x3 else k4 (IntKind.wrap .i64 (x3+1)))) else some (-1))) fuel 0
def Qev (P:Program) (c:Nat) (f:(List Int)→Int→Option Bool):Prop:=∀ s1 v2 r,f s1 v2=some r→∀ M nb,ACalls P c [(l_ s1),(i_ v2)] M nb (b_ r) M nb
def Qsx:List COp:=[oo 4 .mov [.c (.d (.bool false))]]
def Qsy:List COp:=[oM 5 0,oM 6 1,oo 7 (.call 32) [.t 5,.t 6],oo 8 (.bin .geq false) [.t 7,cI 0],oM 4 8]
def Qgx:CFn:=⟨2,9,[.t 4],.seq (.region Qsx 9 []) (.seq (.region Qsy 9 []) (.ret))⟩
def Qu (Q7:(List Int)→Int→Option Int) (s1:(List Int)) (v2:Int):Option Bool :=
  ((Q7 s1 v2).bind fun x4=>some (decide (x4≥0)))
def Qej (P:Program) (c:Nat) (f:(List Int)→Option Int):Prop:=∀ l1 r,f l1=some r→∀ M nb,ACalls P c [(l_ l1)] M nb (i_ r) M nb
def Qpn:List COp:=[oo 2 .mov [cI 0]]
def Qpo:List COp:=[oM 5 0,oo 6 .len [.t 5],oo 7 .mov [cI 0]]
def Qpp:List COp:=[oo 8 (.bin .lss false) [.t 7,.t 6]]
def Qpq:List COp:=[oM 9 7,oo 10 (.idx 1) [.t 5,.t 7],oL 11 10,oM 3 9,oM 4 11]
def Qpr:List COp:=[oM 12 4,oo 13 (.bin .lss false) [.t 12,cI 0],oM 14 13,⟨some 15,.mov,[.t 4],false,some (14,false)⟩,⟨some 16,.bin .geq false,[.t 15,cI 32],false,some (14,false)⟩,oo 17 .pick [.t 14,.c (.d (.bool true)),.t 16]]
def Qps:List COp:=[oo 2 .mov [cI 2]]
def Qpt:List COp:=[oM 18 0,oM 19 3,oo 20 (.slice 1 false true) [.t 18,.t 19],oM 21 4,oo 22 (.call 48) [.t 20,.t 21]]
def Qpu:List COp:=[oo 2 .mov [cI 8]]
def Qpv:List COp:=[oo 23 (.bin .add false) [.t 7,cI 1],oM 7 23]
def Qpw:List COp:=[oo 2 .mov [cI 0]]
def Qf6:CFn:=⟨1,24,[.t 2],.seq (.region Qpn 9 []) (.seq (.seq (.region Qpo 9 []) (.block 0 (.loop [] (.seq (.region Qpp 9 []) (.seq (.cond (.t 8) (.skip) (.exit 0)) (.seq (.block 1 (.seq (.region Qpq 9 []) (.seq (.seq (.region Qpr 9 []) (.cond (.t 17) (.seq (.region Qps 9 []) (.ret)) (.skip))) (.seq (.region Qpt 9 []) (.cond (.t 22) (.seq (.region Qpu 9 []) (.ret)) (.skip)))))) (.region Qpv 9 []))))))) (.seq (.region Qpw 9 []) (.ret)))⟩
def Qv (Qu:(List Int)→Int→Option Bool) (fuel:Nat) (l1:(List Int)):Option Int :=
  Qda (fun k3 (x2:Int)=>(if (x2 < (l1.length:Int)) then ((getO l1 x2).bind fun x5=>(((if (x5 < 0) then some true else some (decide (x5≥32)))).bind fun (x8:Bool)=>(if x8 then some 2 else ((slcO l1 0 x2).bind fun x10=>((Qu x10 x5).bind fun x13=>(if x13 then some 8 else k3 (IntKind.wrap .i64 (x2+1)))))))) else some 0)) fuel 0
def Qgs (P:Program) (c:Nat) (f:(List Int)→Option ((List Int))):Prop:=∀ s1 r,f s1=some r→∀ M nb,ACalls P c [(l_ s1)] M nb (o_ r) M nb
def Q0g:List COp:=[ot 2 .mov [.c (.nils 1)]]
def Q0h:List COp:=[oM 3 0,oo 4 (.isnil false) [.t 3]]
def Q0i:List COp:=[ot 2 .mov [.c (.nils 1)]]
def Q0j:List COp:=[oo 5 (.bslice 1 0 [.d (.int .i64 0)] []) [],oM 6 0,ot 7 (.append 1 8) [.t 5,.t 6],ot 2 .mov [.t 7]]
def Qi5:CFn:=⟨1,8,[.t 2],.seq (.region Q0g 9 []) (.seq (.seq (.region Q0h 9 []) (.cond (.t 4) (.seq (.region Q0i 9 []) (.ret)) (.skip))) (.seq (.region Q0j 9 []) (.ret)))⟩
def Q8 (s1:(List Int)):Option ((List Int)) :=
  (nilO s1 fun b2=>(if b2 then some [] else ((appO [] s1).bind fun x4=>some x4)))
def Qff (P:Program) (c:Nat) (f:(List Int)→Option ((List Int))):Prop:=∀ l1 r,f l1=some r→∀ M nb,ACalls P c [(l_ l1)] M nb (l_ r) M nb
def Qvf:List COp:=[ot 2 .mov [.c (.nils 1)]]
def Qvg:List COp:=[oM 4 0,oo 5 (.call 49) [.t 4],ot 3 .mov [.t 5]]
def Qvh:List COp:=[oM 6 3,oo 7 (.call 50) [.t 6]]
def Qvi:List COp:=[ot 8 .mov [.t 3],ot 2 .mov [.t 8]]
def Qhe:CFn:=⟨1,9,[.t 2],.seq (.region Qvf 9 []) (.seq (.region Qvg 9 []) (.seq (.region Qvh 9 []) (.seq (.region Qvi 9 []) (.ret))))⟩
def Q6 (Q8:(List Int)→Option ((List Int))) (f_slices_Sort_int:List Int→Option (List Int)) (l1:(List Int)):Option ((List Int)) :=
  ((Q8 l1).bind fun x3=>((f_slices_Sort_int x3).bind fun out4=>some out4))
def Qe3 (P:Program) (c:Nat) (f:Int→Int→(List Int)→Option (Int×Bool)):Prop:=∀ state1 event2 x3 (k4:Nat) r,f state1 event2 x3=some r→∀ M nb,(M k4=some (.cells [(l_ x3)]))→ACalls P c [(i_ state1),(i_ event2),.ptr k4 0] M nb (.tup [(i_ r.1),(b_ r.2)]) M nb
def Qmm:List COp:=[oo 5 .mov [cI 0],oo 6 .mov [.c (.d (.bool false))]]
def Qmn:List COp:=[oM 7 0,oo 8 (.bin .add false) [.t 7,cI 1],oL 9 2,oo 10 .len [.t 9],oo 11 (.bin .rem false) [.t 8,.t 10],oL 12 2,oM 13 0,oo 14 (.idx 1) [.t 12,.t 13],oL 15 14,oM 16 1,oo 17 (.bin .eql false) [.t 15,.t 16],oM 5 11,oM 6 17]
def Qe4:CFn:=⟨3,18,[.t 5,.t 6],.seq (.region Qmm 9 []) (.seq (.region Qmn 0 []) (.ret))⟩
def Qbj (state1:Int) (event2:Int) (x3:(List Int)):Option (Int×Bool) :=
  ((remO .i64 (IntKind.wrap .i64 (state1+1)) (x3.length:Int)).bind fun s6=>((getO x3 state1).bind fun x8=>some (s6,(x8 == event2))))
def Qdt (P:Program) (c:Nat) (f:(List Int)→(Int→Option Bool)→(Int→Int→Option (Int×Bool))→Option Qa):Prop:=∀ events1 marked2 next9 (g3:Nat) (cp4:List V) (g10:Nat) (cp11:List V) r,f events1 marked2 next9=some r→∀ M nb,(V.dems cp4=cp4)→(V.ons (There M) cp4)→(∀ a8 r,marked2 a8=some r→∀ M2 nb2,nb≤nb2→Ext M M2→ACalls P g3 ([(i_ a8)] ++ cp4) M2 nb2 (b_ r) M2 nb2)→(V.dems cp11=cp11)→(V.ons (There M) cp11)→(∀ a15 a16 r,next9 a15 a16=some r→∀ M2 nb2,nb≤nb2→Ext M M2→ACalls P g10 ([(i_ a15),(i_ a16)] ++ cp11) M2 nb2 (.tup [(i_ r.1),(b_ r.2)]) M2 nb2)→ACalls P c [(l_ events1),.clo g3 cp4,.clo g10 cp11] M nb (Qb r) M nb
def Qsz:List COp:=[oo 6 (.alloc [.nils 1,.d (.int .i64 0),.nils 1,.nils 3]) []]
def Qs0:List COp:=[oM 17 0,ot 18 (.build [.nils 1,.d (.int .i64 0),.nils 1,.nils 3] [(0,1)]) [.t 17],oo 7 (.alloc [.nils 1,.d (.int .i64 0),.nils 1,.nils 3]) [],⟨none,.store 4,[.t 7,.t 18],true,none⟩]
def Qs1:List COp:=[oo 19 (.bslice 1 1 [.d (.int .i64 0)] [0]) [cI 0],oo 20 .mkmap [],⟨none,.mapset (.int .i64),[.t 20,cI 0,cI 0],false,none⟩,oM 21 20,ot 8 .mov [.t 19],oM 9 21]
def Qs2:List COp:=[oo 10 .mov [cI 0]]
def Qs3:List COp:=[oM 22 10,oM 23 8,oo 24 .len [.t 23],oo 25 (.bin .lss false) [.t 22,.t 24]]
def Qs4:List COp:=[oM 28 1,oM 29 8,oM 30 10,oo 31 (.idx 1) [.t 29,.t 30],oL 32 31,oo 33 .callv [.t 28,.t 32]]
def Qs5:List COp:=[oF 34 2 7,oo 35 .loadT [.t 34],oM 36 10,oo 37 (.bslice 1 1 [.d (.int .i64 0)] [0]) [.t 36],ot 38 (.append 1 8) [.t 35,.t 37],oF 39 2 7,⟨none,.store 1,[.t 39,.t 38],true,none⟩]
def Qs6:List COp:=[oM 40 0,oo 41 .len [.t 40],oo 42 .mov [cI 0]]
def Qs7:List COp:=[oo 43 (.bin .lss false) [.t 42,.t 41]]
def Qs8:List COp:=[oo 44 (.idx 1) [.t 40,.t 42],oL 45 44,oM 12 45]
def Qpx:List COp:=[oM 47 2,oM 48 8,oM 49 10,oo 50 (.idx 1) [.t 48,.t 49],oL 51 50,oM 52 12,oo 53 .callv [.t 47,.t 51,.t 52],oM 46 53,oo 54 (.extract 0) [.t 46],oo 55 (.extract 1) [.t 46],oM 13 54,oM 14 55]
def Qpy:List COp:=[oM 56 14,oo 57 (.un .not) [.t 56]]
def Qpz:List COp:=[oM 59 9,oM 60 13,oo 61 (.lookup (.int .i64) true (.d (.int .i64 0))) [.t 59,.t 60],oM 58 61,oo 62 (.extract 0) [.t 58],oo 63 (.extract 1) [.t 58],oM 15 62,oM 16 63]
def Qp0:List COp:=[oM 64 16,oo 65 (.un .not) [.t 64]]
def Qp1:List COp:=[oM 66 8,oo 67 .len [.t 66],oM 15 67]
def Qp2:List COp:=[oM 68 9,oM 69 13,oM 70 15,ot 71 .mov [.t 8],oM 72 13,oo 73 (.bslice 1 1 [.d (.int .i64 0)] [0]) [.t 72],ot 74 (.append 1 8) [.t 71,.t 73],⟨none,.mapset (.int .i64),[.t 68,.t 69,.t 70],false,none⟩,ot 8 .mov [.t 74]]
def Qp3:List COp:=[oF 75 3 7,oo 76 .loadT [.t 75],oM 77 10,oM 78 12,oM 79 15,oo 80 (.build [.d (.int .i64 0),.d (.int .i64 0),.d (.int .i64 0)] [(0,1),(1,1),(2,1)]) [.t 77,.t 78,.t 79],oo 81 (.bslice 3 1 [.d (.int .i64 0),.d (.int .i64 0),.d (.int .i64 0)] [0]) [.t 80],ot 82 (.append 3 24) [.t 76,.t 81],oF 83 3 7,⟨none,.store 1,[.t 83,.t 82],true,none⟩]
def Qp4:List COp:=[oo 84 (.bin .add false) [.t 42,cI 1],oM 42 84]
def Qp5:List COp:=[oM 26 10,oo 27 (.bin .add false) [.t 26,cI 1],oM 10 27]
def Qp6:List COp:=[oM 85 8,oo 86 .len [.t 85],oF 87 1 7,⟨none,.store 1,[.t 87,.t 86],false,none⟩]
def Qp7:List COp:=[oo 88 (.load true 4) [.t 7],⟨none,.store 4,[.t 6,.t 88],true,none⟩]
def Qgy:CFn:=⟨3,89,[.cell 6 true 4],.seq (.region Qsz 9 []) (.seq (.region Qs0 9 []) (.seq (.region Qs1 9 []) (.seq (.seq (.region Qs2 9 []) (.block 0 (.loop [37,73,81] (.seq (.seq (.region Qs3 9 []) (.cond (.t 25) (.skip) (.exit 0))) (.seq (.block 1 (.seq (.seq (.region Qs4 9 []) (.cond (.t 33) (.region Qs5 9 []) (.skip))) (.seq (.region Qs6 9 []) (.block 2 (.loop [73,81] (.seq (.region Qs7 9 []) (.seq (.cond (.t 43) (.skip) (.exit 2)) (.seq (.block 3 (.seq (.region Qs8 9 []) (.seq (.region Qpx 9 []) (.seq (.seq (.region Qpy 9 []) (.cond (.t 57) (.exit 3) (.skip))) (.seq (.region Qpz 9 []) (.seq (.seq (.region Qp0 9 []) (.cond (.t 65) (.seq (.region Qp1 9 []) (.region Qp2 9 [])) (.skip))) (.region Qp3 9 []))))))) (.region Qp4 9 []))))))))) (.region Qp5 9 [])))))) (.seq (.region Qp6 9 []) (.seq (.region Qp7 9 []) (.ret))))))⟩
def Qo (fuel:Nat) (events1:(List Int)) (marked2:(Int→Option Bool)) (next9:(Int→Int→Option (Int×Bool))):Option Qa :=
  ((Qda (fun k25 ((states17,i18,c19,c20,c21,a22,a23,c24):(List Int)×Int×(List Int)×(List Int)×(List Qd)×(List Int)×(List Qd)×(List (Int×Int)))=>(if (i18 < (states17.length:Int)) then ((((((getO states17 i18).bind fun x27=>((marked2 x27).bind fun x30=>(if x30 then ((appO a22 [i18]).bind fun x32=>some x32) else some a22)))).bind fun (a34:List Int)=>Qda (fun k39 ((states35,x36,a37,c38):(List Int)×Int×(List Qd)×(List (Int×Int)))=>(if (x36 < (events1.length:Int)) then ((((getO events1 x36).bind fun x41=>((getO states35 i18).bind fun x43=>((next9 x43 x41).bind fun (r47,r48)=>(if r48 then (((if (hasM c38 r47) then some (states35,(getM c38 r47 0),c38) else ((appO states35 [r47]).bind fun x51=>some (x51,(states35.length:Int),(setM c38 r47 (states35.length:Int)))))).bind fun ((states53,k54,c55):(List Int)×Int×(List (Int×Int)))=>((appO a37 [(Qd.mk i18 x41 k54)]).bind fun x56=>some (states53,x56,c55))) else some (states35,a37,c38)))))).bind fun ((states58,a59,c60):(List Int)×(List Qd)×(List (Int×Int)))=>k39 (states58,(IntKind.wrap .i64 (x36+1)),a59,c60)) else some (states35,a34,a37,c38))) fuel (states17,0,a23,c24))).bind fun ((states61,a62,a63,c64):(List Int)×(List Int)×(List Qd)×(List (Int×Int)))=>k25 (states61,(IntKind.wrap .i64 (i18+1)),c19,c20,c21,a62,a63,c64)) else some (states17,c19,c20,c21,a22,a23,c24))) fuel ([0],0,[],[],[],[],[],(setM ([]:List (Int×Int)) 0 0))).bind fun ((states65,c66,c67,c68,a69,a70,c71):(List Int)×(List Int)×(List Int)×(List Qd)×(List Int)×(List Qd)×(List (Int×Int)))=>some (Qa.mk events1 (states65.length:Int) a69 a70))
def Qfs (P:Program) (c:Nat) (f:Int→Option Bool):Prop:=∀ state1 r,f state1=some r→∀ M nb,ACalls P c [(i_ state1)] M nb (b_ r) M nb
def Qxu:List COp:=[oo 2 .mov [.c (.d (.bool false))]]
def Qxv:List COp:=[oM 3 0,oo 4 (.bin .eql false) [.t 3,cI 0],oM 2 4]
def Qh4:CFn:=⟨1,5,[.t 2],.seq (.region Qxu 9 []) (.seq (.region Qxv 9 []) (.ret))⟩
def Q9 (state1:Int):Option Bool :=
  some (state1 == 0)
def Qft (P:Program) (c:Nat) (f:(List Int)→Option (Qa×Int)):Prop:=∀ events1 r,f events1=some r→∀ M nb,ACalls P c [(l_ events1)] M nb (.tup [(Qb r.1),(i_ r.2)]) M nb
def Qop:List COp:=[oo 1 (.box 1) [.t 0],oo 2 (.alloc [.nils 1,.d (.int .i64 0),.nils 1,.nils 3]) [],oo 3 .mov [cI 0]]
def Qoq:List COp:=[oL 5 1,oo 6 .len [.t 5],oo 7 (.bin .eql false) [.t 6,cI 0]]
def Qor:List COp:=[oo 8 (.build [.nils 1,.d (.int .i64 0),.nils 1,.nils 3] []) [],⟨none,.store 4,[.t 2,.t 8],true,none⟩,oo 3 .mov [cI 12]]
def Qos:List COp:=[oL 9 1,oo 10 (.call 21) [.t 9],oM 4 10]
def Qot:List COp:=[oM 11 4,oo 12 (.bin .neq false) [.t 11,cI 0]]
def Qou:List COp:=[oo 13 (.build [.nils 1,.d (.int .i64 0),.nils 1,.nils 3] []) [],oM 14 4,⟨none,.store 4,[.t 2,.t 13],true,none⟩,oM 3 14]
def Qov:List COp:=[oL 15 1,oo 16 (.call 23) [.t 15],oo 17 (.func 25) [.t 1],oo 18 (.call 22) [.t 16,.c (.clo 24 []),.t 17],⟨none,.store 4,[.t 2,.t 18],true,none⟩,oo 3 .mov [cI 0]]
def Qfu:CFn:=⟨1,19,[.cell 2 true 4,.t 3],.seq (.region Qop 9 []) (.seq (.seq (.region Qoq 9 []) (.cond (.t 7) (.seq (.region Qor 9 []) (.ret)) (.skip))) (.seq (.seq (.region Qos 9 []) (.seq (.region Qot 9 []) (.cond (.t 12) (.seq (.region Qou 9 []) (.ret)) (.skip)))) (.seq (.region Qov 9 []) (.ret))))⟩
def Qbq (Qv:(List Int)→Option Int) (Qo:(List Int)→(Int→Option Bool)→(Int→Int→Option (Int×Bool))→Option Qa) (Q6:(List Int)→Option ((List Int))) (Q9:Int→Option Bool) (Qbj:Int→Int→(List Int)→Option (Int×Bool)) (events1:(List Int)):Option (Qa×Int) :=
  (if ((events1.length:Int) == 0) then some ((Qa.mk [] 0 [] []),12) else ((Qv events1).bind fun x4=>(if (x4 != 0) then some ((Qa.mk [] 0 [] []),x4) else ((Q6 events1).bind fun x7=>((Qo x7 Q9 (fun a11 a12=>Qbj a11 a12 events1)).bind fun x16=>some (x16,0))))))
def Qh5 (P:Program) (c:Nat) (f:(List Int)→Int→Option Int):Prop:=∀ xset1 n2 r,f xset1 n2=some r→∀ M nb,ACalls P c [(l_ xset1),(i_ n2)] M nb (i_ r) M nb
def Qxw:List COp:=[oo 4 .mov [cI 0]]
def Qxx:List COp:=[oM 7 0,oo 8 .len [.t 7],oo 9 .mov [cI 0]]
def Qxy:List COp:=[oo 10 (.bin .lss false) [.t 9,.t 8]]
def Qxz:List COp:=[oM 11 9,oo 12 (.idx 1) [.t 7,.t 9],oL 13 12,oM 5 11,oM 6 13]
def Qx0:List COp:=[oM 14 6,oo 15 (.bin .lss false) [.t 14,cI 0],oM 16 15,⟨some 17,.mov,[.t 6],false,some (16,false)⟩,⟨some 18,.mov,[.t 1],false,some (16,false)⟩,⟨some 19,.bin .geq false,[.t 17,.t 18],false,some (16,false)⟩,oo 20 .pick [.t 16,.c (.d (.bool true)),.t 19]]
def Qx1:List COp:=[oo 4 .mov [cI 2]]
def Qx2:List COp:=[oM 21 5,oo 22 (.bin .gtr false) [.t 21,cI 0],oM 23 22,⟨some 24,.mov,[.t 6],false,some (23,true)⟩,⟨some 25,.mov,[.t 0],false,some (23,true)⟩,⟨some 26,.mov,[.t 5],false,some (23,true)⟩,⟨some 27,.bin .sub false,[.t 26,cI 1],false,some (23,true)⟩,⟨some 28,.idx 1,[.t 25,.t 27],false,some (23,true)⟩,⟨some 29,.load false 1,[.t 28],false,some (23,true)⟩,⟨some 30,.bin .leq false,[.t 24,.t 29],false,some (23,true)⟩,oo 31 .pick [.t 23,.t 30,.c (.d (.bool false))]]
def Qx3:List COp:=[oo 4 .mov [cI 5]]
def Qx4:List COp:=[oo 32 (.bin .add false) [.t 9,cI 1],oM 9 32]
def Qx5:List COp:=[oo 4 .mov [cI 0]]
def Qh6:CFn:=⟨2,33,[.t 4],.seq (.region Qxw 9 []) (.seq (.seq (.region Qxx 9 []) (.block 0 (.loop [] (.seq (.region Qxy 9 []) (.seq (.cond (.t 10) (.skip) (.exit 0)) (.seq (.block 1 (.seq (.region Qxz 9 []) (.seq (.seq (.region Qx0 9 []) (.cond (.t 20) (.seq (.region Qx1 9 []) (.ret)) (.skip))) (.seq (.region Qx2 9 []) (.cond (.t 31) (.seq (.region Qx3 9 []) (.ret)) (.skip)))))) (.region Qx4 9 []))))))) (.seq (.region Qx5 9 []) (.ret)))⟩
def Qcl (fuel:Nat) (xset1:(List Int)) (n2:Int):Option Int :=
  Qda (fun k4 (x3:Int)=>(if (x3 < (xset1.length:Int)) then ((getO xset1 x3).bind fun x6=>(((if (x6 < 0) then some true else some (decide (x6≥n2)))).bind fun (x9:Bool)=>(if x9 then some 2 else (((if (x3 > 0) then ((getO xset1 (IntKind.wrap .i64 (x3 - 1))).bind fun x12=>some (decide (x6≤x12))) else some false)).bind fun (x14:Bool)=>(if x14 then some 5 else k4 (IntKind.wrap .i64 (x3+1))))))) else some 0)) fuel 0
def Qfy (P:Program) (c:Nat) (f:(List Int)→(List Int)→(Bool→Bool→Option Bool)→Option ((List Int))):Prop:=∀ a1 b2 keep3 (g4:Nat) (cp5:List V) r,f a1 b2 keep3=some r→∀ M nb,(V.dems cp5=cp5)→(V.ons (There M) cp5)→(∀ a9 a10 r,keep3 a9 a10=some r→∀ M2 nb2,nb≤nb2→Ext M M2→ACalls P g4 ([(b_ a9),(b_ a10)] ++ cp5) M2 nb2 (b_ r) M2 nb2)→ACalls P c [(l_ a1),(l_ b2),.clo g4 cp5] M nb (o_ r) M nb
def Q34:List COp:=[ot 6 .mov [.c (.nils 1)]]
def Q35:List COp:=[ot 7 .mov [.c (.nils 1)]]
def Q36:List COp:=[oM 11 0,oo 12 .len [.t 11],oo 13 (.bin .gtr false) [.t 12,cI 0],oM 14 13,⟨some 15,.mov,[.t 1],false,some (14,false)⟩,⟨some 16,.len,[.t 15],false,some (14,false)⟩,⟨some 17,.bin .gtr false,[.t 16,cI 0],false,some (14,false)⟩,oo 18 .pick [.t 14,.c (.d (.bool true)),.t 17]]
def Q37:List COp:=[oM 19 0,oo 20 .len [.t 19],oo 21 (.bin .gtr false) [.t 20,cI 0],oM 22 21,⟨some 23,.mov,[.t 1],false,some (22,true)⟩,⟨some 24,.len,[.t 23],false,some (22,true)⟩,⟨some 25,.bin .eql false,[.t 24,cI 0],false,some (22,true)⟩,⟨some 26,.mov,[.t 25],false,some (22,true)⟩,⟨some 27,.mov,[.t 0],false,some (26,false)⟩,⟨some 28,.idx 1,[.t 27,cI 0],false,some (26,false)⟩,⟨some 29,.load false 1,[.t 28],false,some (26,false)⟩,⟨some 30,.mov,[.t 1],false,some (26,false)⟩,⟨some 31,.idx 1,[.t 30,cI 0],false,some (26,false)⟩,⟨some 32,.load false 1,[.t 31],false,some (26,false)⟩,⟨some 33,.bin .leq false,[.t 29,.t 32],false,some (26,false)⟩,⟨some 34,.pick,[.t 26,.c (.d (.bool true)),.t 33],false,some (22,true)⟩,oo 35 .pick [.t 22,.t 34,.c (.d (.bool false))],oM 8 35]
def Q38:List COp:=[oM 36 1,oo 37 .len [.t 36],oo 38 (.bin .gtr false) [.t 37,cI 0],oM 39 38,⟨some 40,.mov,[.t 0],false,some (39,true)⟩,⟨some 41,.len,[.t 40],false,some (39,true)⟩,⟨some 42,.bin .eql false,[.t 41,cI 0],false,some (39,true)⟩,⟨some 43,.mov,[.t 42],false,some (39,true)⟩,⟨some 44,.mov,[.t 1],false,some (43,false)⟩,⟨some 45,.idx 1,[.t 44,cI 0],false,some (43,false)⟩,⟨some 46,.load false 1,[.t 45],false,some (43,false)⟩,⟨some 47,.mov,[.t 0],false,some (43,false)⟩,⟨some 48,.idx 1,[.t 47,cI 0],false,some (43,false)⟩,⟨some 49,.load false 1,[.t 48],false,some (43,false)⟩,⟨some 50,.bin .leq false,[.t 46,.t 49],false,some (43,false)⟩,⟨some 51,.pick,[.t 43,.c (.d (.bool true)),.t 50],false,some (39,true)⟩,oo 52 .pick [.t 39,.t 51,.c (.d (.bool false))],oM 9 52]
def Q39:List COp:=[oo 10 .mov [cI 0]]
def Q4a:List COp:=[oM 53 8]
def Q4b:List COp:=[oM 54 0,oo 55 (.idx 1) [.t 54,cI 0],oL 56 55,ot 57 .mov [.t 0],ot 58 (.slcT 1) [.t 57,cI 1],oM 10 56,ot 0 .mov [.t 58]]
def Q4c:List COp:=[oM 59 9]
def Q4d:List COp:=[oM 60 1,oo 61 (.idx 1) [.t 60,cI 0],oL 62 61,ot 63 .mov [.t 1],ot 64 (.slcT 1) [.t 63,cI 1],oM 10 62,ot 1 .mov [.t 64]]
def Q2h:List COp:=[oM 65 2,oM 66 8,oM 67 9,oo 68 .callv [.t 65,.t 66,.t 67]]
def Q2i:List COp:=[ot 69 .mov [.t 7],oM 70 10,oo 71 (.bslice 1 1 [.d (.int .i64 0)] [0]) [.t 70],ot 72 (.append 1 8) [.t 69,.t 71],ot 7 .mov [.t 72]]
def Q2j:List COp:=[ot 73 .mov [.t 7],ot 6 .mov [.t 73]]
def Qk5:CFn:=⟨3,74,[.t 6],.seq (.region Q34 9 []) (.seq (.region Q35 9 []) (.seq (.block 0 (.loop [71] (.seq (.seq (.region Q36 9 []) (.cond (.t 18) (.skip) (.exit 0))) (.block 1 (.seq (.region Q37 0 []) (.seq (.region Q38 0 []) (.seq (.region Q39 9 []) (.seq (.seq (.region Q4a 9 []) (.cond (.t 53) (.region Q4b 0 []) (.skip))) (.seq (.seq (.region Q4c 9 []) (.cond (.t 59) (.region Q4d 0 []) (.skip))) (.seq (.region Q2h 9 []) (.cond (.t 68) (.region Q2i 9 []) (.skip)))))))))))) (.seq (.region Q2j 9 []) (.ret))))⟩
def Qw (fuel:Nat) (a1:(List Int)) (b2:(List Int)) (keep3:(Bool→Bool→Option Bool)):Option ((List Int)) :=
  ((Qda (fun k14 ((a11,b12,out13):(List Int)×(List Int)×(List Int))=>(((if ((a11.length:Int) > 0) then some true else some (decide ((b12.length:Int) > 0)))).bind fun (x16:Bool)=>(if x16 then (((if ((a11.length:Int) > 0) then (if ((b12.length:Int) == 0) then some true else ((getO a11 0).bind fun x20=>((getO b12 0).bind fun x22=>some (decide (x20≤x22))))) else some false)).bind fun (inA24:Bool)=>(((if ((b12.length:Int) > 0) then (if ((a11.length:Int) == 0) then some true else ((getO b12 0).bind fun x27=>((getO a11 0).bind fun x29=>some (decide (x27≤x29))))) else some false)).bind fun (inB31:Bool)=>(((if inA24 then ((getO a11 0).bind fun x33=>((slcO a11 1 (a11.length:Int)).bind fun x35=>some (x35,x33))) else some (a11,0))).bind fun ((a37,x38):(List Int)×Int)=>(((if inB31 then ((getO b12 0).bind fun x40=>((slcO b12 1 (b12.length:Int)).bind fun x42=>some (x42,x40))) else some (b12,x38))).bind fun ((b44,x45):(List Int)×Int)=>((keep3 inA24 inB31).bind fun x47=>(if x47 then ((appO out13 [x45]).bind fun x49=>k14 (a37,b44,x49)) else k14 (a37,b44,out13))))))) else some out13))) fuel (a1,b2,[])).bind fun (out51:List Int)=>some out51)
def Qf7 (P:Program) (c:Nat) (f:Bool→Bool→Option Bool):Prop:=∀ inA1 inB2 r,f inA1 inB2=some r→∀ M nb,ACalls P c [(b_ inA1),(b_ inB2)] M nb (b_ r) M nb
def Qp8:List COp:=[oo 4 .mov [.c (.d (.bool false))]]
def Qp9:List COp:=[oM 5 0,oM 6 5,⟨some 7,.mov,[.t 1],false,some (6,true)⟩,oo 8 .pick [.t 6,.t 7,.c (.d (.bool false))],oM 4 8]
def Qf8:CFn:=⟨2,9,[.t 4],.seq (.region Qp8 9 []) (.seq (.region Qp9 9 []) (.ret))⟩
def Qbx (inA1:Bool) (inB2:Bool):Option Bool :=
  (if inA1 then some inB2 else some false)
def Qhf (P:Program) (c:Nat) (f:(List Int)→(List Int)→Option ((List Int))):Prop:=∀ a1 b2 r,f a1 b2=some r→∀ M nb,ACalls P c [(l_ a1),(l_ b2)] M nb (o_ r) M nb
def Qvj:List COp:=[ot 4 .mov [.c (.nils 1)]]
def Qvk:List COp:=[oM 5 0,oM 6 1,oo 7 (.call 53) [.t 5,.t 6,.c (.clo 68 [])],ot 4 .mov [.t 7]]
def Qhg:CFn:=⟨2,8,[.t 4],.seq (.region Qvj 9 []) (.seq (.region Qvk 9 []) (.ret))⟩
def Qcg (Qw:(List Int)→(List Int)→(Bool→Bool→Option Bool)→Option ((List Int))) (Qbx:Bool→Bool→Option Bool) (a1:(List Int)) (b2:(List Int)):Option ((List Int)) :=
  ((Qw a1 b2 Qbx).bind fun x8=>some x8)
def Qi6 (P:Program) (c:Nat) (f:(List Int)→(List Int)→Option Int):Prop:=∀ a1 b2 r,f a1 b2=some r→∀ M nb,ACalls P c [(l_ a1),(l_ b2)] M nb (i_ r) M nb
def Q0k:List COp:=[oo 4 .mov [cI 0]]
def Q0l:List COp:=[oM 8 0,oM 9 1,oo 10 (.build [.nils 1,.nils 1] [(0,1),(1,1)]) [.t 8,.t 9],oo 11 .mov [cI 0]]
def Q0m:List COp:=[oo 12 (.bin .lss false) [.t 11,cI 2]]
def Q0n:List COp:=[oo 13 (.idxval false 1 2) [.t 10,.t 11],ot 6 .mov [.t 13]]
def Q0o:List COp:=[oM 14 6,oo 15 (.call 51) [.t 14,cI 32],oM 7 15]
def Q0p:List COp:=[oM 16 7,oo 17 (.bin .neq false) [.t 16,cI 0]]
def Q0q:List COp:=[oM 18 7,oM 4 18]
def Q0r:List COp:=[oo 19 (.bin .add false) [.t 11,cI 1],oM 11 19]
def Q0s:List COp:=[oM 20 0,oM 21 1,oo 22 (.call 52) [.t 20,.t 21],oo 23 .len [.t 22],oo 24 (.bin .gtr false) [.t 23,cI 0]]
def Q0t:List COp:=[oo 4 .mov [cI 13]]
def Qx6:List COp:=[oo 4 .mov [cI 0]]
def Qi7:CFn:=⟨2,25,[.t 4],.seq (.region Q0k 9 []) (.seq (.seq (.region Q0l 9 []) (.block 0 (.loop [] (.seq (.region Q0m 9 []) (.seq (.cond (.t 12) (.skip) (.exit 0)) (.seq (.block 1 (.seq (.region Q0n 9 []) (.seq (.region Q0o 9 []) (.seq (.region Q0p 9 []) (.cond (.t 17) (.seq (.region Q0q 9 []) (.ret)) (.skip)))))) (.region Q0r 9 []))))))) (.seq (.seq (.region Q0s 9 []) (.cond (.t 24) (.seq (.region Q0t 9 []) (.ret)) (.skip))) (.seq (.region Qx6 9 []) (.ret))))⟩
def Qct (Qcl:(List Int)→Int→Option Int) (Qcg:(List Int)→(List Int)→Option ((List Int))) (fuel:Nat) (a1:(List Int)) (b2:(List Int)):Option Int :=
  Qda (fun k4 (x3:Int)=>(if (x3 < 2) then ((getO [a1,b2] x3).bind fun x6=>((Qcl x6 32).bind fun x9=>(if (x9 != 0) then some x9 else k4 (IntKind.wrap .i64 (x3+1))))) else ((Qcg a1 b2).bind fun x12=>(if ((x12.length:Int) > 0) then some 13 else some 0)))) fuel 0
def Qi8 (P:Program) (c:Nat) (f:Bool→Bool→Option Bool):Prop:=∀ inA1 inB2 r,f inA1 inB2=some r→∀ M nb,ACalls P c [(b_ inA1),(b_ inB2)] M nb (b_ r) M nb
def Q0u:List COp:=[oo 4 .mov [.c (.d (.bool false))]]
def Q0v:List COp:=[oM 5 0,oM 6 5,⟨some 7,.mov,[.t 1],false,some (6,false)⟩,oo 8 .pick [.t 6,.c (.d (.bool true)),.t 7],oM 4 8]
def Qi9:CFn:=⟨2,9,[.t 4],.seq (.region Q0u 9 []) (.seq (.region Q0v 9 []) (.ret))⟩
def Qcu (inA1:Bool) (inB2:Bool):Option Bool :=
  (if inA1 then some true else some inB2)
def Qhy (P:Program) (c:Nat) (f:(List Int)→(List Int)→Option ((List Int))):Prop:=∀ a1 b2 r,f a1 b2=some r→∀ M nb,ACalls P c [(l_ a1),(l_ b2)] M nb (o_ r) M nb
def Q4e:List COp:=[ot 4 .mov [.c (.nils 1)]]
def Q4f:List COp:=[oM 5 0,oM 6 1,oo 7 (.call 53) [.t 5,.t 6,.c (.clo 54 [])],ot 4 .mov [.t 7]]
def Qk6:CFn:=⟨2,8,[.t 4],.seq (.region Q4e 9 []) (.seq (.region Q4f 9 []) (.ret))⟩
def Qbm (Qw:(List Int)→(List Int)→(Bool→Bool→Option Bool)→Option ((List Int))) (Qcu:Bool→Bool→Option Bool) (a1:(List Int)) (b2:(List Int)):Option ((List Int)) :=
  ((Qw a1 b2 Qcu).bind fun x8=>some x8)
def Qmo (P:Program) (c:Nat) (f:Int→Option Bool):Prop:=∀ x1 r,f x1=some r→∀ M nb,ACalls P c [(i_ x1)] M nb (b_ r) M nb
def Q5v:List COp:=[oo 2 .mov [.c (.d (.bool false))]]
def Q5w:List COp:=[oM 3 0,oM 4 0,oo 5 (.bin .neq false) [.t 3,.t 4],oM 2 5]
def Qmp:CFn:=⟨1,6,[.t 2],.seq (.region Q5v 9 []) (.seq (.region Q5w 9 []) (.ret))⟩
def Qcz (x1:Int):Option Bool :=
  some (x1 != x1)
def Qow (P:Program) (c:Nat) (f:Int→Int→Option Bool):Prop:=∀ x1 y2 r,f x1 y2=some r→∀ M nb,ACalls P c [(i_ x1),(i_ y2)] M nb (b_ r) M nb
def Q63:List COp:=[oo 4 .mov [.c (.d (.bool false))]]
def Q64:List COp:=[oM 5 0,oo 6 (.call 86) [.t 5],oM 7 6,⟨some 8,.mov,[.t 1],false,some (7,true)⟩,⟨some 9,.call 86,[.t 8],false,some (7,true)⟩,⟨some 10,.un .not,[.t 9],false,some (7,true)⟩,oo 11 .pick [.t 7,.t 10,.c (.d (.bool false))],oM 12 11,⟨some 13,.mov,[.t 0],false,some (12,false)⟩,⟨some 14,.mov,[.t 1],false,some (12,false)⟩,⟨some 15,.bin .lss false,[.t 13,.t 14],false,some (12,false)⟩,oo 16 .pick [.t 12,.c (.d (.bool true)),.t 15],oM 4 16]
def Qox:CFn:=⟨2,17,[.t 4],.seq (.region Q63 9 []) (.seq (.region Q64 9 []) (.ret))⟩
def Qdn (Qcz:Int→Option Bool) (x1:Int) (y2:Int):Option Bool :=
  ((Qcz x1).bind fun x4=>(if x4 then ((Qcz y2).bind fun x7=>(if x7 then some (decide (x1 < y2)) else some true)) else some (decide (x1 < y2))))
def Qja (P:Program) (c:Nat) (f:Int→Option Bool):Prop:=∀ x1 r,f x1=some r→∀ M nb,ACalls P c [(i_ x1)] M nb (b_ r) M nb
def Q0w:List COp:=[oo 2 .mov [.c (.d (.bool false))]]
def Q0x:List COp:=[oM 3 0,oM 4 0,oo 5 (.bin .neq false) [.t 3,.t 4],oM 2 5]
def Qjb:CFn:=⟨1,6,[.t 2],.seq (.region Q0w 9 []) (.seq (.region Q0x 9 []) (.ret))⟩
def Qb5 (x1:Int):Option Bool :=
  some (x1 != x1)
def Qe5 (P:Program) (c:Nat) (f:(List Int)→Int→Option (Int×Bool)):Prop:=∀ x1 target2 r,f x1 target2=some r→∀ M nb,ACalls P c [(l_ x1),(i_ target2)] M nb (.tup [(i_ r.1),(b_ r.2)]) M nb
def Qmq:List COp:=[oo 4 .mov [cI 0],oo 5 .mov [.c (.d (.bool false))]]
def Qmr:List COp:=[oM 10 0,oo 11 .len [.t 10],oM 6 11]
def Qms:List COp:=[oM 12 6,oo 7 .mov [cI 0],oM 8 12]
def Qmt:List COp:=[oM 13 7,oM 14 8,oo 15 (.bin .lss false) [.t 13,.t 14]]
def Qmu:List COp:=[oM 16 7,oM 17 8,oo 18 (.bin .add false) [.t 16,.t 17],oo 19 (.conv .u64) [.t 18],oo 20 (.bin .shr false) [.t 19,.c (.d (.int .u64 1))],oo 21 (.conv .i64) [.t 20],oM 9 21]
def Qmv:List COp:=[oM 22 0,oM 23 9,oo 24 (.idx 1) [.t 22,.t 23],oL 25 24,oM 26 1,oo 27 (.call 69) [.t 25,.t 26]]
def Qmw:List COp:=[oM 28 9,oo 29 (.bin .add false) [.t 28,cI 1],oM 7 29]
def Qmx:List COp:=[oM 30 9,oM 8 30]
def Qmy:List COp:=[oM 31 7,oM 32 7,oM 33 6,oo 34 (.bin .lss false) [.t 32,.t 33],oM 35 34,⟨some 36,.mov,[.t 0],false,some (35,true)⟩,⟨some 37,.mov,[.t 7],false,some (35,true)⟩,⟨some 38,.idx 1,[.t 36,.t 37],false,some (35,true)⟩,⟨some 39,.load false 1,[.t 38],false,some (35,true)⟩,⟨some 40,.mov,[.t 1],false,some (35,true)⟩,⟨some 41,.bin .eql false,[.t 39,.t 40],false,some (35,true)⟩,⟨some 42,.mov,[.t 41],false,some (35,true)⟩,⟨some 43,.mov,[.t 0],false,some (42,false)⟩,⟨some 44,.mov,[.t 7],false,some (42,false)⟩,⟨some 45,.idx 1,[.t 43,.t 44],false,some (42,false)⟩,⟨some 46,.load false 1,[.t 45],false,some (42,false)⟩,⟨some 47,.call 70,[.t 46],false,some (42,false)⟩,⟨some 48,.mov,[.t 47],false,some (42,false)⟩,⟨some 49,.mov,[.t 1],false,some (48,true)⟩,⟨some 50,.call 70,[.t 49],false,some (48,true)⟩,⟨some 51,.pick,[.t 48,.t 50,.c (.d (.bool false))],false,some (42,false)⟩,⟨some 52,.pick,[.t 42,.c (.d (.bool true)),.t 51],false,some (35,true)⟩,oo 53 .pick [.t 35,.t 52,.c (.d (.bool false))],oM 4 31,oM 5 53]
def Qe6:CFn:=⟨2,54,[.t 4,.t 5],.seq (.region Qmq 9 []) (.seq (.region Qmr 9 []) (.seq (.region Qms 9 []) (.seq (.block 0 (.loop [] (.seq (.seq (.region Qmt 9 []) (.cond (.t 15) (.skip) (.exit 0))) (.block 1 (.seq (.region Qmu 9 []) (.seq (.region Qmv 9 []) (.cond (.t 27) (.region Qmw 9 []) (.region Qmx 9 [])))))))) (.seq (.region Qmy 9 []) (.ret)))))⟩
def Qba (Qdn:Int→Int→Option Bool) (Qb5:Int→Option Bool) (fuel:Nat) (x1:(List Int)) (target2:Int):Option (Int×Bool) :=
  ((Qda (fun k5 ((i3,j4):Int×Int)=>(if (i3 < j4) then ((getO x1 (IntKind.wrap .i64 (Int.fdiv (IntKind.wrap .u64 (IntKind.wrap .i64 (i3+j4))) (2 ^ (min (Int.toNat 1) (IntKind.bits .u64)))))).bind fun x7=>((Qdn x7 target2).bind fun x10=>(if x10 then k5 ((IntKind.wrap .i64 ((IntKind.wrap .i64 (Int.fdiv (IntKind.wrap .u64 (IntKind.wrap .i64 (i3+j4))) (2 ^ (min (Int.toNat 1) (IntKind.bits .u64)))))+1)),j4) else k5 (i3,(IntKind.wrap .i64 (Int.fdiv (IntKind.wrap .u64 (IntKind.wrap .i64 (i3+j4))) (2 ^ (min (Int.toNat 1) (IntKind.bits .u64))))))))) else some i3)) fuel (0,(x1.length:Int))).bind fun (i12:Int)=>(if (i12 < (x1.length:Int)) then ((getO x1 i12).bind fun x14=>(if (x14 == target2) then some (i12,true) else ((getO x1 i12).bind fun x17=>((Qb5 x17).bind fun x20=>(if x20 then ((Qb5 target2).bind fun x23=>some (i12,x23)) else some (i12,false)))))) else some (i12,false)))
def Qef (P:Program) (c:Nat) (f:(List Int)→Int→Option Bool):Prop:=∀ xset1 x2 r,f xset1 x2=some r→∀ M nb,ACalls P c [(l_ xset1),(i_ x2)] M nb (b_ r) M nb
def Qx7:List COp:=[oo 4 .mov [.c (.d (.bool false))]]
def Qx8:List COp:=[oM 8 0,oM 9 1,oo 10 (.call 55) [.t 8,.t 9],oM 7 10,oo 11 (.extract 0) [.t 7],oo 12 (.extract 1) [.t 7],oM 5 11,oM 6 12]
def Qx9:List COp:=[oM 13 6,oM 4 13]
def Qh7:CFn:=⟨2,14,[.t 4],.seq (.region Qx7 9 []) (.seq (.region Qx8 9 []) (.seq (.region Qx9 9 []) (.ret)))⟩
def Qp (Qba:(List Int)→Int→Option (Int×Bool)) (xset1:(List Int)) (x2:Int):Option Bool :=
  ((Qba xset1 x2).bind fun (r4,r5)=>some r5)
def Qf9 (P:Program) (c:Nat) (f:Int→Int→(List Int)→Int→Option (Int×Bool)):Prop:=∀ state1 event2 x3 x6 (k4:Nat) (k7:Nat) r,f state1 event2 x3 x6=some r→∀ M nb,(M k4=some (.cells [(l_ x3)]))→(M k7=some (.cells [(i_ x6)]))→ACalls P c [(i_ state1),(i_ event2),.ptr k4 0,.ptr k7 0] M nb (.tup [(i_ r.1),(b_ r.2)]) M nb
def Qqa:List COp:=[oo 6 .mov [cI 0],oo 7 .mov [.c (.d (.bool false))]]
def Qqb:List COp:=[oL 8 2,oM 9 1,oo 10 (.call 29) [.t 8,.t 9]]
def Qqc:List COp:=[oM 11 0,oo 12 (.bin .add false) [.t 11,cI 1],oM 13 0,oL 14 3,oo 15 (.bin .lss false) [.t 13,.t 14],oM 6 12,oM 7 15]
def Qqd:List COp:=[oM 16 0,oo 17 (.bin .sub false) [.t 16,cI 1],oM 18 0,oo 19 (.bin .gtr false) [.t 18,cI 0],oM 6 17,oM 7 19]
def Qga:CFn:=⟨4,20,[.t 6,.t 7],.seq (.region Qqa 9 []) (.seq (.seq (.region Qqb 9 []) (.cond (.t 10) (.seq (.region Qqc 0 []) (.ret)) (.skip))) (.seq (.region Qqd 9 []) (.ret)))⟩
def Qby (Qp:(List Int)→Int→Option Bool) (state1:Int) (event2:Int) (x3:(List Int)) (x6:Int):Option (Int×Bool) :=
  ((Qp x3 event2).bind fun x10=>(if x10 then some ((IntKind.wrap .i64 (state1+1)),decide (state1 < x6)) else some ((IntKind.wrap .i64 (state1 - 1)),decide (state1 > 0))))
def Qhh (P:Program) (c:Nat) (f:(List Int)→(List Int)→Int→Option (Qa×Int)):Prop:=∀ put1 take2 capacity3 r,f put1 take2 capacity3=some r→∀ M nb,ACalls P c [(l_ put1),(l_ take2),(i_ capacity3)] M nb (.tup [(Qb r.1),(i_ r.2)]) M nb
def Qvl:List COp:=[oo 3 (.box 1) [.t 0],oo 5 (.box 1) [.t 2],oo 6 (.alloc [.nils 1,.d (.int .i64 0),.nils 1,.nils 3]) [],oo 7 .mov [cI 0]]
def Qvm:List COp:=[oL 9 3,oM 10 1,oo 11 (.call 26) [.t 9,.t 10],oM 8 11]
def Qvn:List COp:=[oM 12 8,oo 13 (.bin .neq false) [.t 12,cI 0]]
def Qvo:List COp:=[oo 14 (.build [.nils 1,.d (.int .i64 0),.nils 1,.nils 3] []) [],oM 15 8,⟨none,.store 4,[.t 6,.t 14],true,none⟩,oM 7 15]
def Qvp:List COp:=[oL 16 5,oo 17 (.bin .lss false) [.t 16,cI 1],oM 18 17,⟨some 19,.load false 1,[.t 5],false,some (18,false)⟩,⟨some 20,.bin .gtr false,[.t 19,cI 1024],false,some (18,false)⟩,oo 21 .pick [.t 18,.c (.d (.bool true)),.t 20]]
def Qvq:List COp:=[oo 22 (.build [.nils 1,.d (.int .i64 0),.nils 1,.nils 3] []) [],⟨none,.store 4,[.t 6,.t 22],true,none⟩,oo 7 .mov [cI 2]]
def Qvr:List COp:=[oL 23 3,oM 24 1,oo 25 (.call 27) [.t 23,.t 24],oo 26 (.func 28) [.t 3,.t 5],oo 27 (.call 22) [.t 25,.c (.clo 24 []),.t 26],⟨none,.store 4,[.t 6,.t 27],true,none⟩,oo 7 .mov [cI 0]]
def Qhi:CFn:=⟨3,28,[.cell 6 true 4,.t 7],.seq (.region Qvl 9 []) (.seq (.seq (.region Qvm 9 []) (.seq (.region Qvn 9 []) (.cond (.t 13) (.seq (.region Qvo 9 []) (.ret)) (.skip)))) (.seq (.seq (.region Qvp 9 []) (.cond (.t 21) (.seq (.region Qvq 9 []) (.ret)) (.skip))) (.seq (.region Qvr 9 []) (.ret))))⟩
def Qch (Qo:(List Int)→(Int→Option Bool)→(Int→Int→Option (Int×Bool))→Option Qa) (Q9:Int→Option Bool) (Qct:(List Int)→(List Int)→Option Int) (Qbm:(List Int)→(List Int)→Option ((List Int))) (Qby:Int→Int→(List Int)→Int→Option (Int×Bool)) (put1:(List Int)) (take2:(List Int)) (capacity3:Int):Option (Qa×Int) :=
  ((Qct put1 take2).bind fun x5=>(if (x5 != 0) then some ((Qa.mk [] 0 [] []),x5) else (((if (capacity3 < 1) then some true else some (decide (capacity3 > 1024)))).bind fun (x8:Bool)=>(if x8 then some ((Qa.mk [] 0 [] []),2) else ((Qbm put1 take2).bind fun x11=>((Qo x11 Q9 (fun a15 a16=>Qby a15 a16 put1 capacity3)).bind fun x20=>some (x20,0)))))))
def Qoe (P:Program) (c:Nat) (f:Int→Option Int):Prop:=∀ x1 r,f x1=some r→∀ M nb,ACalls P c [.d (.int .u32 x1)] M nb (i_ r) M nb
def Q0y:List COp:=[oo 2 .mov [cI 0]]
def Q0z:List COp:=[oM 3 0,oo 4 (.bin .shr false) [.t 3,.c (.d (.int .u64 24))],oo 5 .idxs [.c (.d (.str ⟨#[0,1,1,2,1,2,2,3,1,2,2,3,2,3,3,4,1,2,2,3,2,3,3,4,2,3,3,4,3,4,4,5,1,2,2,3,2,3,3,4,2,3,3,4,3,4,4,5,2,3,3,4,3,4,4,5,3,4,4,5,4,5,5,6,1,2,2,3,2,3,3,4,2,3,3,4,3,4,4,5,2,3,3,4,3,4,4,5,3,4,4,5,4,5,5,6,2,3,3,4,3,4,4,5,3,4,4,5,4,5,5,6,3,4,4,5,4,5,5,6,4,5,5,6,5,6,6,7,1,2,2,3,2,3,3,4,2,3,3,4,3,4,4,5,2,3,3,4,3,4,4,5,3,4,4,5,4,5,5,6,2,3,3,4,3,4,4,5,3,4,4,5,4,5,5,6,3,4,4,5,4,5,5,6,4,5,5,6,5,6,6,7,2,3,3,4,3,4,4,5,3,4,4,5,4,5,5,6,3,4,4,5,4,5,5,6,4,5,5,6,5,6,6,7,3,4,4,5,4,5,5,6,4,5,5,6,5,6,6,7,4,5,5,6,5,6,6,7,5,6,6,7,6,7,7,8]⟩)),.t 4],oM 6 0,oo 7 (.bin .shr false) [.t 6,.c (.d (.int .u64 16))],oo 8 (.bin .and false) [.t 7,.c (.d (.int .u32 255))],oo 9 .idxs [.c (.d (.str ⟨#[0,1,1,2,1,2,2,3,1,2,2,3,2,3,3,4,1,2,2,3,2,3,3,4,2,3,3,4,3,4,4,5,1,2,2,3,2,3,3,4,2,3,3,4,3,4,4,5,2,3,3,4,3,4,4,5,3,4,4,5,4,5,5,6,1,2,2,3,2,3,3,4,2,3,3,4,3,4,4,5,2,3,3,4,3,4,4,5,3,4,4,5,4,5,5,6,2,3,3,4,3,4,4,5,3,4,4,5,4,5,5,6,3,4,4,5,4,5,5,6,4,5,5,6,5,6,6,7,1,2,2,3,2,3,3,4,2,3,3,4,3,4,4,5,2,3,3,4,3,4,4,5,3,4,4,5,4,5,5,6,2,3,3,4,3,4,4,5,3,4,4,5,4,5,5,6,3,4,4,5,4,5,5,6,4,5,5,6,5,6,6,7,2,3,3,4,3,4,4,5,3,4,4,5,4,5,5,6,3,4,4,5,4,5,5,6,4,5,5,6,5,6,6,7,3,4,4,5,4,5,5,6,4,5,5,6,5,6,6,7,4,5,5,6,5,6,6,7,5,6,6,7,6,7,7,8]⟩)),.t 8],oo 10 (.bin .add false) [.t 5,.t 9],oM 11 0,oo 12 (.bin .shr false) [.t 11,.c (.d (.int .u64 8))],oo 13 (.bin .and false) [.t 12,.c (.d (.int .u32 255))],oo 14 .idxs [.c (.d (.str ⟨#[0,1,1,2,1,2,2,3,1,2,2,3,2,3,3,4,1,2,2,3,2,3,3,4,2,3,3,4,3,4,4,5,1,2,2,3,2,3,3,4,2,3,3,4,3,4,4,5,2,3,3,4,3,4,4,5,3,4,4,5,4,5,5,6,1,2,2,3,2,3,3,4,2,3,3,4,3,4,4,5,2,3,3,4,3,4,4,5,3,4,4,5,4,5,5,6,2,3,3,4,3,4,4,5,3,4,4,5,4,5,5,6,3,4,4,5,4,5,5,6,4,5,5,6,5,6,6,7,1,2,2,3,2,3,3,4,2,3,3,4,3,4,4,5,2,3,3,4,3,4,4,5,3,4,4,5,4,5,5,6,2,3,3,4,3,4,4,5,3,4,4,5,4,5,5,6,3,4,4,5,4,5,5,6,4,5,5,6,5,6,6,7,2,3,3,4,3,4,4,5,3,4,4,5,4,5,5,6,3,4,4,5,4,5,5,6,4,5,5,6,5,6,6,7,3,4,4,5,4,5,5,6,4,5,5,6,5,6,6,7,4,5,5,6,5,6,6,7,5,6,6,7,6,7,7,8]⟩)),.t 13],oo 15 (.bin .add false) [.t 10,.t 14],oM 16 0,oo 17 (.bin .and false) [.t 16,.c (.d (.int .u32 255))],oo 18 .idxs [.c (.d (.str ⟨#[0,1,1,2,1,2,2,3,1,2,2,3,2,3,3,4,1,2,2,3,2,3,3,4,2,3,3,4,3,4,4,5,1,2,2,3,2,3,3,4,2,3,3,4,3,4,4,5,2,3,3,4,3,4,4,5,3,4,4,5,4,5,5,6,1,2,2,3,2,3,3,4,2,3,3,4,3,4,4,5,2,3,3,4,3,4,4,5,3,4,4,5,4,5,5,6,2,3,3,4,3,4,4,5,3,4,4,5,4,5,5,6,3,4,4,5,4,5,5,6,4,5,5,6,5,6,6,7,1,2,2,3,2,3,3,4,2,3,3,4,3,4,4,5,2,3,3,4,3,4,4,5,3,4,4,5,4,5,5,6,2,3,3,4,3,4,4,5,3,4,4,5,4,5,5,6,3,4,4,5,4,5,5,6,4,5,5,6,5,6,6,7,2,3,3,4,3,4,4,5,3,4,4,5,4,5,5,6,3,4,4,5,4,5,5,6,4,5,5,6,5,6,6,7,3,4,4,5,4,5,5,6,4,5,5,6,5,6,6,7,4,5,5,6,5,6,6,7,5,6,6,7,6,7,7,8]⟩)),.t 17],oo 19 (.bin .add false) [.t 15,.t 18],oo 20 (.conv .i64) [.t 19],oM 2 20]
def Qjc:CFn:=⟨1,21,[.t 2],.seq (.region Q0y 9 []) (.seq (.region Q0z 0 []) (.ret))⟩
def Qjd (x1:Int):Option Int :=
  none
def Qje (P:Program) (c:Nat) (f:Int→Option Int):Prop:=∀ x1 r,f x1=some r→∀ M nb,ACalls P c [.d (.int .u64 x1)] M nb (i_ r) M nb
def Q00:List COp:=[oo 2 .mov [cI 0]]
def Q01:List COp:=[oM 3 0,oo 4 (.bin .shr false) [.t 3,.c (.d (.int .u64 1))],oo 5 (.bin .and false) [.t 4,.c (.d (.int .u64 6148914691236517205))],oM 6 0,oo 7 (.bin .and false) [.t 6,.c (.d (.int .u64 6148914691236517205))],oo 8 (.bin .add false) [.t 5,.t 7],oM 0 8]
def Q02:List COp:=[oM 9 0,oo 10 (.bin .shr false) [.t 9,.c (.d (.int .u64 2))],oo 11 (.bin .and false) [.t 10,.c (.d (.int .u64 3689348814741910323))],oM 12 0,oo 13 (.bin .and false) [.t 12,.c (.d (.int .u64 3689348814741910323))],oo 14 (.bin .add false) [.t 11,.t 13],oM 0 14]
def Q03:List COp:=[oM 15 0,oo 16 (.bin .shr false) [.t 15,.c (.d (.int .u64 4))],oM 17 0,oo 18 (.bin .add false) [.t 16,.t 17],oo 19 (.bin .and false) [.t 18,.c (.d (.int .u64 1085102592571150095))],oM 0 19]
def Q04:List COp:=[oM 20 0,oM 21 0,oo 22 (.bin .shr false) [.t 21,.c (.d (.int .u64 8))],oo 23 (.bin .add false) [.t 20,.t 22],oM 0 23]
def Q05:List COp:=[oM 24 0,oM 25 0,oo 26 (.bin .shr false) [.t 25,.c (.d (.int .u64 16))],oo 27 (.bin .add false) [.t 24,.t 26],oM 0 27]
def Q06:List COp:=[oM 28 0,oM 29 0,oo 30 (.bin .shr false) [.t 29,.c (.d (.int .u64 32))],oo 31 (.bin .add false) [.t 28,.t 30],oM 0 31]
def Q07:List COp:=[oM 32 0,oo 33 (.conv .i64) [.t 32],oo 34 (.bin .and false) [.t 33,cI 127],oM 2 34]
def Qjf:CFn:=⟨1,35,[.t 2],.seq (.region Q00 9 []) (.seq (.region Q01 9 []) (.seq (.region Q02 9 []) (.seq (.region Q03 9 []) (.seq (.region Q04 9 []) (.seq (.region Q05 9 []) (.seq (.region Q06 9 []) (.seq (.region Q07 9 []) (.ret))))))))⟩
def Qcv (x1:Int):Option Int :=
  some (andI .i64 (IntKind.wrap .i64 (IntKind.wrap .u64 ((IntKind.wrap .u64 ((IntKind.wrap .u64 ((andI .u64 (IntKind.wrap .u64 ((Int.fdiv (IntKind.wrap .u64 ((andI .u64 (Int.fdiv (IntKind.wrap .u64 ((andI .u64 (Int.fdiv x1 (2 ^ (min (Int.toNat 1) (IntKind.bits .u64)))) 6148914691236517205)+(andI .u64 x1 6148914691236517205))) (2 ^ (min (Int.toNat 2) (IntKind.bits .u64)))) 3689348814741910323)+(andI .u64 (IntKind.wrap .u64 ((andI .u64 (Int.fdiv x1 (2 ^ (min (Int.toNat 1) (IntKind.bits .u64)))) 6148914691236517205)+(andI .u64 x1 6148914691236517205))) 3689348814741910323))) (2 ^ (min (Int.toNat 4) (IntKind.bits .u64))))+(IntKind.wrap .u64 ((andI .u64 (Int.fdiv (IntKind.wrap .u64 ((andI .u64 (Int.fdiv x1 (2 ^ (min (Int.toNat 1) (IntKind.bits .u64)))) 6148914691236517205)+(andI .u64 x1 6148914691236517205))) (2 ^ (min (Int.toNat 2) (IntKind.bits .u64)))) 3689348814741910323)+(andI .u64 (IntKind.wrap .u64 ((andI .u64 (Int.fdiv x1 (2 ^ (min (Int.toNat 1) (IntKind.bits .u64)))) 6148914691236517205)+(andI .u64 x1 6148914691236517205))) 3689348814741910323))))) 1085102592571150095)+(Int.fdiv (andI .u64 (IntKind.wrap .u64 ((Int.fdiv (IntKind.wrap .u64 ((andI .u64 (Int.fdiv (IntKind.wrap .u64 ((andI .u64 (Int.fdiv x1 (2 ^ (min (Int.toNat 1) (IntKind.bits .u64)))) 6148914691236517205)+(andI .u64 x1 6148914691236517205))) (2 ^ (min (Int.toNat 2) (IntKind.bits .u64)))) 3689348814741910323)+(andI .u64 (IntKind.wrap .u64 ((andI .u64 (Int.fdiv x1 (2 ^ (min (Int.toNat 1) (IntKind.bits .u64)))) 6148914691236517205)+(andI .u64 x1 6148914691236517205))) 3689348814741910323))) (2 ^ (min (Int.toNat 4) (IntKind.bits .u64))))+(IntKind.wrap .u64 ((andI .u64 (Int.fdiv (IntKind.wrap .u64 ((andI .u64 (Int.fdiv x1 (2 ^ (min (Int.toNat 1) (IntKind.bits .u64)))) 6148914691236517205)+(andI .u64 x1 6148914691236517205))) (2 ^ (min (Int.toNat 2) (IntKind.bits .u64)))) 3689348814741910323)+(andI .u64 (IntKind.wrap .u64 ((andI .u64 (Int.fdiv x1 (2 ^ (min (Int.toNat 1) (IntKind.bits .u64)))) 6148914691236517205)+(andI .u64 x1 6148914691236517205))) 3689348814741910323))))) 1085102592571150095) (2 ^ (min (Int.toNat 8) (IntKind.bits .u64))))))+(Int.fdiv (IntKind.wrap .u64 ((andI .u64 (IntKind.wrap .u64 ((Int.fdiv (IntKind.wrap .u64 ((andI .u64 (Int.fdiv (IntKind.wrap .u64 ((andI .u64 (Int.fdiv x1 (2 ^ (min (Int.toNat 1) (IntKind.bits .u64)))) 6148914691236517205)+(andI .u64 x1 6148914691236517205))) (2 ^ (min (Int.toNat 2) (IntKind.bits .u64)))) 3689348814741910323)+(andI .u64 (IntKind.wrap .u64 ((andI .u64 (Int.fdiv x1 (2 ^ (min (Int.toNat 1) (IntKind.bits .u64)))) 6148914691236517205)+(andI .u64 x1 6148914691236517205))) 3689348814741910323))) (2 ^ (min (Int.toNat 4) (IntKind.bits .u64))))+(IntKind.wrap .u64 ((andI .u64 (Int.fdiv (IntKind.wrap .u64 ((andI .u64 (Int.fdiv x1 (2 ^ (min (Int.toNat 1) (IntKind.bits .u64)))) 6148914691236517205)+(andI .u64 x1 6148914691236517205))) (2 ^ (min (Int.toNat 2) (IntKind.bits .u64)))) 3689348814741910323)+(andI .u64 (IntKind.wrap .u64 ((andI .u64 (Int.fdiv x1 (2 ^ (min (Int.toNat 1) (IntKind.bits .u64)))) 6148914691236517205)+(andI .u64 x1 6148914691236517205))) 3689348814741910323))))) 1085102592571150095)+(Int.fdiv (andI .u64 (IntKind.wrap .u64 ((Int.fdiv (IntKind.wrap .u64 ((andI .u64 (Int.fdiv (IntKind.wrap .u64 ((andI .u64 (Int.fdiv x1 (2 ^ (min (Int.toNat 1) (IntKind.bits .u64)))) 6148914691236517205)+(andI .u64 x1 6148914691236517205))) (2 ^ (min (Int.toNat 2) (IntKind.bits .u64)))) 3689348814741910323)+(andI .u64 (IntKind.wrap .u64 ((andI .u64 (Int.fdiv x1 (2 ^ (min (Int.toNat 1) (IntKind.bits .u64)))) 6148914691236517205)+(andI .u64 x1 6148914691236517205))) 3689348814741910323))) (2 ^ (min (Int.toNat 4) (IntKind.bits .u64))))+(IntKind.wrap .u64 ((andI .u64 (Int.fdiv (IntKind.wrap .u64 ((andI .u64 (Int.fdiv x1 (2 ^ (min (Int.toNat 1) (IntKind.bits .u64)))) 6148914691236517205)+(andI .u64 x1 6148914691236517205))) (2 ^ (min (Int.toNat 2) (IntKind.bits .u64)))) 3689348814741910323)+(andI .u64 (IntKind.wrap .u64 ((andI .u64 (Int.fdiv x1 (2 ^ (min (Int.toNat 1) (IntKind.bits .u64)))) 6148914691236517205)+(andI .u64 x1 6148914691236517205))) 3689348814741910323))))) 1085102592571150095) (2 ^ (min (Int.toNat 8) (IntKind.bits .u64)))))) (2 ^ (min (Int.toNat 16) (IntKind.bits .u64))))))+(Int.fdiv (IntKind.wrap .u64 ((IntKind.wrap .u64 ((andI .u64 (IntKind.wrap .u64 ((Int.fdiv (IntKind.wrap .u64 ((andI .u64 (Int.fdiv (IntKind.wrap .u64 ((andI .u64 (Int.fdiv x1 (2 ^ (min (Int.toNat 1) (IntKind.bits .u64)))) 6148914691236517205)+(andI .u64 x1 6148914691236517205))) (2 ^ (min (Int.toNat 2) (IntKind.bits .u64)))) 3689348814741910323)+(andI .u64 (IntKind.wrap .u64 ((andI .u64 (Int.fdiv x1 (2 ^ (min (Int.toNat 1) (IntKind.bits .u64)))) 6148914691236517205)+(andI .u64 x1 6148914691236517205))) 3689348814741910323))) (2 ^ (min (Int.toNat 4) (IntKind.bits .u64))))+(IntKind.wrap .u64 ((andI .u64 (Int.fdiv (IntKind.wrap .u64 ((andI .u64 (Int.fdiv x1 (2 ^ (min (Int.toNat 1) (IntKind.bits .u64)))) 6148914691236517205)+(andI .u64 x1 6148914691236517205))) (2 ^ (min (Int.toNat 2) (IntKind.bits .u64)))) 3689348814741910323)+(andI .u64 (IntKind.wrap .u64 ((andI .u64 (Int.fdiv x1 (2 ^ (min (Int.toNat 1) (IntKind.bits .u64)))) 6148914691236517205)+(andI .u64 x1 6148914691236517205))) 3689348814741910323))))) 1085102592571150095)+(Int.fdiv (andI .u64 (IntKind.wrap .u64 ((Int.fdiv (IntKind.wrap .u64 ((andI .u64 (Int.fdiv (IntKind.wrap .u64 ((andI .u64 (Int.fdiv x1 (2 ^ (min (Int.toNat 1) (IntKind.bits .u64)))) 6148914691236517205)+(andI .u64 x1 6148914691236517205))) (2 ^ (min (Int.toNat 2) (IntKind.bits .u64)))) 3689348814741910323)+(andI .u64 (IntKind.wrap .u64 ((andI .u64 (Int.fdiv x1 (2 ^ (min (Int.toNat 1) (IntKind.bits .u64)))) 6148914691236517205)+(andI .u64 x1 6148914691236517205))) 3689348814741910323))) (2 ^ (min (Int.toNat 4) (IntKind.bits .u64))))+(IntKind.wrap .u64 ((andI .u64 (Int.fdiv (IntKind.wrap .u64 ((andI .u64 (Int.fdiv x1 (2 ^ (min (Int.toNat 1) (IntKind.bits .u64)))) 6148914691236517205)+(andI .u64 x1 6148914691236517205))) (2 ^ (min (Int.toNat 2) (IntKind.bits .u64)))) 3689348814741910323)+(andI .u64 (IntKind.wrap .u64 ((andI .u64 (Int.fdiv x1 (2 ^ (min (Int.toNat 1) (IntKind.bits .u64)))) 6148914691236517205)+(andI .u64 x1 6148914691236517205))) 3689348814741910323))))) 1085102592571150095) (2 ^ (min (Int.toNat 8) (IntKind.bits .u64))))))+(Int.fdiv (IntKind.wrap .u64 ((andI .u64 (IntKind.wrap .u64 ((Int.fdiv (IntKind.wrap .u64 ((andI .u64 (Int.fdiv (IntKind.wrap .u64 ((andI .u64 (Int.fdiv x1 (2 ^ (min (Int.toNat 1) (IntKind.bits .u64)))) 6148914691236517205)+(andI .u64 x1 6148914691236517205))) (2 ^ (min (Int.toNat 2) (IntKind.bits .u64)))) 3689348814741910323)+(andI .u64 (IntKind.wrap .u64 ((andI .u64 (Int.fdiv x1 (2 ^ (min (Int.toNat 1) (IntKind.bits .u64)))) 6148914691236517205)+(andI .u64 x1 6148914691236517205))) 3689348814741910323))) (2 ^ (min (Int.toNat 4) (IntKind.bits .u64))))+(IntKind.wrap .u64 ((andI .u64 (Int.fdiv (IntKind.wrap .u64 ((andI .u64 (Int.fdiv x1 (2 ^ (min (Int.toNat 1) (IntKind.bits .u64)))) 6148914691236517205)+(andI .u64 x1 6148914691236517205))) (2 ^ (min (Int.toNat 2) (IntKind.bits .u64)))) 3689348814741910323)+(andI .u64 (IntKind.wrap .u64 ((andI .u64 (Int.fdiv x1 (2 ^ (min (Int.toNat 1) (IntKind.bits .u64)))) 6148914691236517205)+(andI .u64 x1 6148914691236517205))) 3689348814741910323))))) 1085102592571150095)+(Int.fdiv (andI .u64 (IntKind.wrap .u64 ((Int.fdiv (IntKind.wrap .u64 ((andI .u64 (Int.fdiv (IntKind.wrap .u64 ((andI .u64 (Int.fdiv x1 (2 ^ (min (Int.toNat 1) (IntKind.bits .u64)))) 6148914691236517205)+(andI .u64 x1 6148914691236517205))) (2 ^ (min (Int.toNat 2) (IntKind.bits .u64)))) 3689348814741910323)+(andI .u64 (IntKind.wrap .u64 ((andI .u64 (Int.fdiv x1 (2 ^ (min (Int.toNat 1) (IntKind.bits .u64)))) 6148914691236517205)+(andI .u64 x1 6148914691236517205))) 3689348814741910323))) (2 ^ (min (Int.toNat 4) (IntKind.bits .u64))))+(IntKind.wrap .u64 ((andI .u64 (Int.fdiv (IntKind.wrap .u64 ((andI .u64 (Int.fdiv x1 (2 ^ (min (Int.toNat 1) (IntKind.bits .u64)))) 6148914691236517205)+(andI .u64 x1 6148914691236517205))) (2 ^ (min (Int.toNat 2) (IntKind.bits .u64)))) 3689348814741910323)+(andI .u64 (IntKind.wrap .u64 ((andI .u64 (Int.fdiv x1 (2 ^ (min (Int.toNat 1) (IntKind.bits .u64)))) 6148914691236517205)+(andI .u64 x1 6148914691236517205))) 3689348814741910323))))) 1085102592571150095) (2 ^ (min (Int.toNat 8) (IntKind.bits .u64)))))) (2 ^ (min (Int.toNat 16) (IntKind.bits .u64)))))) (2 ^ (min (Int.toNat 32) (IntKind.bits .u64))))))) 127)
def Qk7 (P:Program) (c:Nat) (f:Int→Option Int):Prop:=∀ x1 r,f x1=some r→∀ M nb,ACalls P c [.d (.int .u64 x1)] M nb (i_ r) M nb
def Q4g:List COp:=[oo 2 .mov [cI 0]]
def Q4h:List COp:=[oM 3 0,oo 4 (.conv .u32) [.t 3],oo 5 (.call 56) [.t 4],oM 2 5]
def Q4i:List COp:=[oM 6 0,oo 7 (.call 57) [.t 6],oM 2 7]
def Qk8:CFn:=⟨1,8,[.t 2],.seq (.region Q4g 9 []) (.seq (.cond (.c (.d (.bool false))) (.seq (.region Q4h 9 []) (.ret)) (.skip)) (.seq (.region Q4i 9 []) (.ret)))⟩
def Qdf (Qcv:Int→Option Int) (x1:Int):Option Int :=
  ((Qcv x1).bind fun x3=>some x3)
def Qgb (P:Program) (c:Nat) (f:Int→Int→(List Int)→Int→Option (Int×Bool)):Prop:=∀ state1 event2 x3 x6 (k4:Nat) (k7:Nat) r,f state1 event2 x3 x6=some r→∀ M nb,(M k4=some (.cells [(l_ x3)]))→(M k7=some (.cells [(i_ x6)]))→ACalls P c [(i_ state1),(i_ event2),.ptr k4 0,.ptr k7 0] M nb (.tup [(i_ r.1),(b_ r.2)]) M nb
def Qqe:List COp:=[oo 6 .mov [cI 0],oo 7 .mov [.c (.d (.bool false))]]
def Qqf:List COp:=[oL 10 2,oM 11 1,oo 12 (.call 32) [.t 10,.t 11],oM 8 12]
def Qqg:List COp:=[oM 13 8,oo 14 (.bin .quo false) [.t 13,cI 2],oo 15 (.bin .shl false) [cI 1,.t 14],oM 9 15]
def Qqh:List COp:=[oM 16 8,oo 17 (.bin .rem false) [.t 16,cI 2],oo 18 (.bin .eql false) [.t 17,cI 0]]
def Qqi:List COp:=[oM 19 0,oM 20 9,oo 21 (.bin .or false) [.t 19,.t 20],oM 22 0,oM 23 9,oo 24 (.bin .and false) [.t 22,.t 23],oo 25 (.bin .eql false) [.t 24,cI 0],oM 26 25,⟨some 27,.mov,[.t 0],false,some (26,true)⟩,⟨some 28,.conv .u64,[.t 27],false,some (26,true)⟩,⟨some 29,.call 33,[.t 28],false,some (26,true)⟩,⟨some 30,.load false 1,[.t 3],false,some (26,true)⟩,⟨some 31,.bin .lss false,[.t 29,.t 30],false,some (26,true)⟩,oo 32 .pick [.t 26,.t 31,.c (.d (.bool false))],oM 6 21,oM 7 32]
def Qqj:List COp:=[oM 33 0,oM 34 9,oo 35 (.bin .andNot false) [.t 33,.t 34],oM 36 0,oM 37 9,oo 38 (.bin .and false) [.t 36,.t 37],oo 39 (.bin .neq false) [.t 38,cI 0],oM 6 35,oM 7 39]
def Qgc:CFn:=⟨4,40,[.t 6,.t 7],.seq (.region Qqe 9 []) (.seq (.region Qqf 9 []) (.seq (.region Qqg 9 []) (.seq (.seq (.region Qqh 9 []) (.cond (.t 18) (.seq (.region Qqi 1 []) (.ret)) (.skip))) (.seq (.region Qqj 9 []) (.ret)))))⟩
def Qbz (Q7:(List Int)→Int→Option Int) (Qdf:Int→Option Int) (state1:Int) (event2:Int) (x3:(List Int)) (x6:Int):Option (Int×Bool) :=
  ((Q7 x3 event2).bind fun x10=>((shlO .i64 1 (IntKind.wrap .i64 (Int.tdiv x10 2))).bind fun s11=>(if ((Int.tmod x10 2) == 0) then (if ((andI .i64 state1 s11) == 0) then ((Qdf (IntKind.wrap .u64 state1)).bind fun x16=>some ((orI .i64 state1 s11),decide (x16 < x6))) else some ((orI .i64 state1 s11),false)) else some ((Qbhc .i64 state1 s11),((andI .i64 state1 s11) != 0)))))
def Qj4 (P:Program) (c:Nat) (f:Int→Option Bool):Prop:=∀ x1 r,f x1=some r→∀ M nb,ACalls P c [(i_ x1)] M nb (b_ r) M nb
def Q2k:List COp:=[oo 2 .mov [.c (.d (.bool false))]]
def Q2l:List COp:=[oo 2 .mov [.c (.d (.bool true))]]
def Qj5:CFn:=⟨1,3,[.t 2],.seq (.region Q2k 9 []) (.seq (.region Q2l 9 []) (.ret))⟩
def Qc4 (x1:Int):Option Bool :=
  some true
def Qhj (P:Program) (c:Nat) (f:(List Qq)→Int→Option (Qa×Int)):Prop:=∀ phases1 most2 r,f phases1 most2=some r→∀ M nb,ACalls P c [(Qee phases1),(i_ most2)] M nb (.tup [(Qb r.1),(i_ r.2)]) M nb
def Qvs:List COp:=[oo 3 (.box 1) [.t 1],oo 4 (.alloc [.nils 1,.d (.int .i64 0),.nils 1,.nils 3]) [],oo 5 .mov [cI 0]]
def Qvt:List COp:=[oM 10 0,oo 11 .len [.t 10],oo 12 (.bin .gtr false) [.t 11,cI 10]]
def Qvu:List COp:=[oo 13 (.build [.nils 1,.d (.int .i64 0),.nils 1,.nils 3] []) [],⟨none,.store 4,[.t 4,.t 13],true,none⟩,oo 5 .mov [cI 3]]
def Qvv:List COp:=[oo 6 (.alloc [.nils 1]) []]
def Qvw:List COp:=[oM 14 0,oo 15 .len [.t 14],oo 16 .mov [cI 0]]
def Qvx:List COp:=[oo 17 (.bin .lss false) [.t 16,.t 15]]
def Qvy:List COp:=[oo 18 (.idx 2) [.t 14,.t 16],oo 19 (.load true 2) [.t 18],oo 8 (.alloc [.d (.int .i64 0),.d (.int .i64 0)]) [],⟨none,.store 2,[.t 8,.t 19],false,none⟩]
def Qvz:List COp:=[oo 20 .loadT [.t 6],oF 21 0 8,oL 22 21,oF 23 1 8,oL 24 23,oo 25 (.bslice 1 2 [.d (.int .i64 0)] [0,1]) [.t 22,.t 24],ot 26 (.append 1 8) [.t 20,.t 25],⟨none,.store 1,[.t 6,.t 26],true,none⟩]
def Qv0:List COp:=[oo 27 (.bin .add false) [.t 16,cI 1],oM 16 27]
def Qv1:List COp:=[oL 28 6,oo 29 (.call 21) [.t 28],oM 9 29]
def Qs9:List COp:=[oM 30 9,oo 31 (.bin .neq false) [.t 30,cI 0]]
def Qta:List COp:=[oo 32 (.build [.nils 1,.d (.int .i64 0),.nils 1,.nils 3] []) [],oM 33 9,⟨none,.store 4,[.t 4,.t 32],true,none⟩,oM 5 33]
def Qtb:List COp:=[oL 34 3,oo 35 (.bin .lss false) [.t 34,cI 0],oM 36 35,⟨some 37,.load false 1,[.t 3],false,some (36,false)⟩,⟨some 38,.mov,[.t 0],false,some (36,false)⟩,⟨some 39,.len,[.t 38],false,some (36,false)⟩,⟨some 40,.bin .gtr false,[.t 37,.t 39],false,some (36,false)⟩,oo 41 .pick [.t 36,.c (.d (.bool true)),.t 40]]
def Qtc:List COp:=[oo 42 (.build [.nils 1,.d (.int .i64 0),.nils 1,.nils 3] []) [],⟨none,.store 4,[.t 4,.t 42],true,none⟩,oo 5 .mov [cI 2]]
def Qtd:List COp:=[oL 43 6,oo 44 (.call 23) [.t 43],oo 45 (.func 31) [.t 6,.t 3],oo 46 (.call 22) [.t 44,.c (.clo 30 []),.t 45],⟨none,.store 4,[.t 4,.t 46],true,none⟩,oo 5 .mov [cI 0]]
def Qhk:CFn:=⟨2,47,[.cell 4 true 4,.t 5],.seq (.region Qvs 9 []) (.seq (.seq (.region Qvt 9 []) (.cond (.t 12) (.seq (.region Qvu 9 []) (.ret)) (.skip))) (.seq (.region Qvv 9 []) (.seq (.seq (.region Qvw 9 []) (.block 0 (.loop [8,25] (.seq (.region Qvx 9 []) (.seq (.cond (.t 17) (.skip) (.exit 0)) (.seq (.block 1 (.seq (.region Qvy 9 []) (.region Qvz 9 []))) (.region Qv0 9 []))))))) (.seq (.seq (.region Qv1 9 []) (.seq (.region Qs9 9 []) (.cond (.t 31) (.seq (.region Qta 9 []) (.ret)) (.skip)))) (.seq (.seq (.region Qtb 9 []) (.cond (.t 41) (.seq (.region Qtc 9 []) (.ret)) (.skip))) (.seq (.region Qtd 9 []) (.ret)))))))⟩
def Qci (Qv:(List Int)→Option Int) (Qo:(List Int)→(Int→Option Bool)→(Int→Int→Option (Int×Bool))→Option Qa) (Q6:(List Int)→Option ((List Int))) (Qc4:Int→Option Bool) (Qbz:Int→Int→(List Int)→Int→Option (Int×Bool)) (fuel:Nat) (phases1:(List Qq)) (most2:Int):Option (Qa×Int) :=
  (if ((phases1.length:Int) > 10) then some ((Qa.mk [] 0 [] []),3) else ((Qda (fun k9 ((x4,c5,c6,c7,events8):Int×(List Int)×(List Int)×(List Qd)×(List Int))=>(if (x4 < (phases1.length:Int)) then ((getO phases1 x4).bind fun x11=>((appO events8 [x11.Enter,x11.Leave]).bind fun x13=>k9 ((IntKind.wrap .i64 (x4+1)),c5,c6,c7,x13))) else some (c5,c6,c7,events8))) fuel (0,[],[],[],[])).bind fun ((c15,c16,c17,events18):(List Int)×(List Int)×(List Qd)×(List Int))=>((Qv events18).bind fun x20=>(if (x20 != 0) then some ((Qa.mk [] 0 [] []),x20) else (((if (most2 < 0) then some true else some (decide (most2 > (phases1.length:Int))))).bind fun (x23:Bool)=>(if x23 then some ((Qa.mk [] 0 [] []),2) else ((Q6 events18).bind fun x26=>((Qo x26 Qc4 (fun a30 a31=>Qbz a30 a31 events18 most2)).bind fun x35=>some (x35,0)))))))))
def Qhl (P:Program) (c:Nat) (f:(List Int)→Int→Option Int):Prop:=∀ l1 n2 r,f l1 n2=some r→∀ M nb,ACalls P c [(l_ l1),(i_ n2)] M nb (i_ r) M nb
def Qv2:List COp:=[oo 4 .mov [cI 0]]
def Qv3:List COp:=[oM 7 0,oo 8 .len [.t 7],oo 9 .mov [cI 0]]
def Qv4:List COp:=[oo 10 (.bin .lss false) [.t 9,.t 8]]
def Qv5:List COp:=[oM 11 9,oo 12 (.idx 1) [.t 7,.t 9],oL 13 12,oM 5 11,oM 6 13]
def Qv6:List COp:=[oM 15 6,oo 16 (.bin .lss false) [.t 15,cI 0],oM 17 16,⟨some 18,.mov,[.t 6],false,some (17,false)⟩,⟨some 19,.mov,[.t 1],false,some (17,false)⟩,⟨some 20,.bin .geq false,[.t 18,.t 19],false,some (17,false)⟩,oo 21 .pick [.t 17,.c (.d (.bool true)),.t 20],oM 14 21]
def Qv7:List COp:=[oo 4 .mov [cI 2]]
def Qv8:List COp:=[oM 23 5,oo 24 (.bin .gtr false) [.t 23,cI 0],oM 25 24,⟨some 26,.mov,[.t 6],false,some (25,true)⟩,⟨some 27,.mov,[.t 0],false,some (25,true)⟩,⟨some 28,.mov,[.t 5],false,some (25,true)⟩,⟨some 29,.bin .sub false,[.t 28,cI 1],false,some (25,true)⟩,⟨some 30,.idx 1,[.t 27,.t 29],false,some (25,true)⟩,⟨some 31,.load false 1,[.t 30],false,some (25,true)⟩,⟨some 32,.bin .leq false,[.t 26,.t 31],false,some (25,true)⟩,oo 33 .pick [.t 25,.t 32,.c (.d (.bool false))],oM 22 33]
def Qv9:List COp:=[oo 4 .mov [cI 5]]
def Qwa:List COp:=[oo 34 (.bin .add false) [.t 9,cI 1],oM 9 34]
def Qwb:List COp:=[oo 4 .mov [cI 0]]
def Qhm:CFn:=⟨2,35,[.t 4],.seq (.region Qv2 9 []) (.seq (.seq (.region Qv3 9 []) (.block 0 (.loop [] (.seq (.region Qv4 9 []) (.seq (.cond (.t 10) (.skip) (.exit 0)) (.seq (.block 1 (.seq (.region Qv5 9 []) (.block 2 (.seq (.region Qv6 9 []) (.cond (.t 14) (.seq (.region Qv7 9 []) (.ret)) (.seq (.region Qv8 9 []) (.cond (.t 22) (.seq (.region Qv9 9 []) (.ret)) (.skip)))))))) (.region Qwa 9 []))))))) (.seq (.region Qwb 9 []) (.ret)))⟩
def Qbp (fuel:Nat) (l1:(List Int)) (n2:Int):Option Int :=
  Qda (fun k4 (x3:Int)=>(if (x3 < (l1.length:Int)) then ((getO l1 x3).bind fun x6=>(((if (x6 < 0) then some true else some (decide (x6≥n2)))).bind fun (x9:Bool)=>(if x9 then some 2 else (((if (x3 > 0) then ((getO l1 (IntKind.wrap .i64 (x3 - 1))).bind fun x12=>some (decide (x6≤x12))) else some false)).bind fun (x14:Bool)=>(if x14 then some 5 else k4 (IntKind.wrap .i64 (x3+1))))))) else some 0)) fuel 0
def Qgd (P:Program) (c:Nat) (f:Qa→Option Int):Prop:=∀ a1 r,f a1=some r→∀ M nb,ACalls P c [(Qb a1)] M nb (i_ r) M nb
def Qqk:List COp:=[oo 1 (.box 4) [.t 0],oo 2 .mov [cI 0]]
def Qql:List COp:=[oF 6 3 1,oL 7 6,oo 8 .len [.t 7],oo 9 .mov [cI 0]]
def Qqm:List COp:=[oo 10 (.bin .lss false) [.t 9,.t 8]]
def Qqn:List COp:=[oM 11 9,oo 12 (.idx 3) [.t 7,.t 9],oo 13 (.load true 3) [.t 12],oo 4 (.alloc [.d (.int .i64 0),.d (.int .i64 0),.d (.int .i64 0)]) [],oM 3 11,⟨none,.store 3,[.t 4,.t 13],false,none⟩]
def Qqo:List COp:=[oF 15 0 4,oL 16 15,oo 17 (.bin .lss false) [.t 16,cI 0],oM 18 17,⟨some 19,.fld 0,[.t 4],false,some (18,false)⟩,⟨some 20,.load false 1,[.t 19],false,some (18,false)⟩,⟨some 21,.fld 1,[.t 1],false,some (18,false)⟩,⟨some 22,.load false 1,[.t 21],false,some (18,false)⟩,⟨some 23,.bin .geq false,[.t 20,.t 22],false,some (18,false)⟩,oo 24 .pick [.t 18,.c (.d (.bool true)),.t 23],oM 25 24,⟨some 26,.fld 2,[.t 4],false,some (25,false)⟩,⟨some 27,.load false 1,[.t 26],false,some (25,false)⟩,⟨some 28,.bin .lss false,[.t 27,cI 0],false,some (25,false)⟩,oo 29 .pick [.t 25,.c (.d (.bool true)),.t 28],oM 30 29,⟨some 31,.fld 2,[.t 4],false,some (30,false)⟩,⟨some 32,.load false 1,[.t 31],false,some (30,false)⟩,⟨some 33,.fld 1,[.t 1],false,some (30,false)⟩,⟨some 34,.load false 1,[.t 33],false,some (30,false)⟩,⟨some 35,.bin .geq false,[.t 32,.t 34],false,some (30,false)⟩,oo 36 .pick [.t 30,.c (.d (.bool true)),.t 35],oM 14 36]
def Qqp:List COp:=[oo 2 .mov [cI 2]]
def Qqq:List COp:=[oF 38 0 1,oL 39 38,oF 40 1 4,oL 41 40,oo 42 (.call 48) [.t 39,.t 41],oo 43 (.un .not) [.t 42],oM 37 43]
def Qqr:List COp:=[oo 2 .mov [cI 9]]
def Qqs:List COp:=[oM 44 3,oo 45 (.bin .eql false) [.t 44,cI 0]]
def Qqt:List COp:=[oF 46 3 1,oL 47 46,oM 48 3,oo 49 (.bin .sub false) [.t 48,cI 1],oo 50 (.idx 3) [.t 47,.t 49],oo 51 (.load true 3) [.t 50],oo 5 (.alloc [.d (.int .i64 0),.d (.int .i64 0),.d (.int .i64 0)]) [],⟨none,.store 3,[.t 5,.t 51],false,none⟩]
def Qoy:List COp:=[oF 52 0 4,oL 53 52,oF 54 0 5,oL 55 54,oo 56 (.bin .lss false) [.t 53,.t 55],oM 57 56,⟨some 58,.fld 0,[.t 4],false,some (57,false)⟩,⟨some 59,.load false 1,[.t 58],false,some (57,false)⟩,⟨some 60,.fld 0,[.t 5],false,some (57,false)⟩,⟨some 61,.load false 1,[.t 60],false,some (57,false)⟩,⟨some 62,.bin .eql false,[.t 59,.t 61],false,some (57,false)⟩,⟨some 63,.mov,[.t 62],false,some (57,false)⟩,⟨some 64,.fld 1,[.t 4],false,some (63,true)⟩,⟨some 65,.load false 1,[.t 64],false,some (63,true)⟩,⟨some 66,.fld 1,[.t 5],false,some (63,true)⟩,⟨some 67,.load false 1,[.t 66],false,some (63,true)⟩,⟨some 68,.bin .leq false,[.t 65,.t 67],false,some (63,true)⟩,⟨some 69,.pick,[.t 63,.t 68,.c (.d (.bool false))],false,some (57,false)⟩,oo 70 .pick [.t 57,.c (.d (.bool true)),.t 69]]
def Qoz:List COp:=[oo 2 .mov [cI 5]]
def Qo0:List COp:=[oo 71 (.bin .add false) [.t 9,cI 1],oM 9 71]
def Qo1:List COp:=[oo 2 .mov [cI 0]]
def Qge:CFn:=⟨1,72,[.t 2],.seq (.region Qqk 9 []) (.seq (.seq (.region Qql 9 []) (.block 0 (.loop [4,5] (.seq (.region Qqm 9 []) (.seq (.cond (.t 10) (.skip) (.exit 0)) (.seq (.block 1 (.seq (.region Qqn 9 []) (.seq (.block 2 (.seq (.region Qqo 9 []) (.cond (.t 14) (.seq (.region Qqp 9 []) (.ret)) (.seq (.region Qqq 9 []) (.cond (.t 37) (.seq (.region Qqr 9 []) (.ret)) (.skip)))))) (.seq (.seq (.region Qqs 9 []) (.cond (.t 45) (.exit 1) (.skip))) (.seq (.region Qqt 9 []) (.seq (.region Qoy 9 []) (.cond (.t 70) (.seq (.region Qoz 9 []) (.ret)) (.skip)))))))) (.region Qo0 9 []))))))) (.seq (.region Qo1 9 []) (.ret)))⟩
def Qbn (Qu:(List Int)→Int→Option Bool) (fuel:Nat) (a1:Qa):Option Int :=
  Qda (fun k3 (x2:Int)=>(if (x2 < (a1.zC.length:Int)) then letJ (fun ((c22,c23,c24):Int×Int×Int)=>k3 (IntKind.wrap .i64 (x2+1))) fun J25=>((getO a1.zC x2).bind fun x5=>(((if (x5.From < 0) then some true else (if (x5.From≥a1.zD) then some true else (if (x5.To < 0) then some true else some (decide (x5.To≥a1.zD)))))).bind fun (x10:Bool)=>(if x10 then some 2 else ((Qu a1.zA x5.Event).bind fun x13=>(if x13 then (if (x2 == 0) then J25 (x5.From,x5.Event,x5.To) else ((getO a1.zC (IntKind.wrap .i64 (x2 - 1))).bind fun x16=>(((if (x5.From < x16.From) then some true else (if (x5.From == x16.From) then some (decide (x5.Event≤x16.Event)) else some false))).bind fun (x20:Bool)=>(if x20 then some 5 else J25 (x5.From,x5.Event,x5.To))))) else some 9))))) else some 0)) fuel 0
def Qfn (P:Program) (c:Nat) (f:Qa→Option Int):Prop:=∀ a1 r,f a1=some r→∀ M nb,ACalls P c [(Qb a1)] M nb (i_ r) M nb
def Q2m:List COp:=[oo 1 (.box 4) [.t 0],oo 2 .mov [cI 0]]
def Q2n:List COp:=[oF 5 0 1,oL 6 5,oo 7 (.call 40) [.t 6,cI 32],oM 3 7]
def Q2o:List COp:=[oM 8 3,oo 9 (.bin .neq false) [.t 8,cI 0]]
def Q2p:List COp:=[oM 10 3,oM 2 10]
def Q2q:List COp:=[oF 12 1 1,oL 13 12,oo 14 (.bin .lss false) [.t 13,cI 0],oM 11 14]
def Q2r:List COp:=[oo 2 .mov [cI 2]]
def Q2s:List COp:=[oF 16 1 1,oL 17 16,oo 18 (.bin .gtr false) [.t 17,cI 4096],oM 15 18]
def Q2t:List COp:=[oo 2 .mov [cI 3]]
def Q2u:List COp:=[oF 19 2 1,oL 20 19,oF 21 1 1,oL 22 21,oo 23 (.call 40) [.t 20,.t 22],oM 4 23]
def Q2v:List COp:=[oM 24 4,oo 25 (.bin .neq false) [.t 24,cI 0]]
def Q08:List COp:=[oM 26 4,oM 2 26]
def Q09:List COp:=[oo 27 (.load true 4) [.t 1],oo 28 (.call 41) [.t 27],oM 2 28]
def Qj6:CFn:=⟨1,29,[.t 2],.seq (.region Q2m 9 []) (.seq (.seq (.region Q2n 9 []) (.seq (.region Q2o 9 []) (.cond (.t 9) (.seq (.region Q2p 9 []) (.ret)) (.skip)))) (.seq (.block 0 (.seq (.region Q2q 9 []) (.cond (.t 11) (.seq (.region Q2r 9 []) (.ret)) (.seq (.region Q2s 9 []) (.cond (.t 15) (.seq (.region Q2t 9 []) (.ret)) (.skip)))))) (.seq (.seq (.region Q2u 9 []) (.seq (.region Q2v 9 []) (.cond (.t 25) (.seq (.region Q08 9 []) (.ret)) (.skip)))) (.seq (.region Q09 9 []) (.ret)))))⟩
def Qt (Qbp:(List Int)→Int→Option Int) (Qbn:Qa→Option Int) (a1:Qa):Option Int :=
  ((Qbp a1.zA 32).bind fun x3=>(if (x3 != 0) then some x3 else (if (a1.zD < 0) then some 2 else (if (a1.zD > 4096) then some 3 else ((Qbp a1.zB a1.zD).bind fun x8=>(if (x8 != 0) then some x8 else ((Qbn a1).bind fun x11=>some x11)))))))
def Qgf (P:Program) (c:Nat) (f:Qa→Int→Option Int):Prop:=∀ a1 state2 r,f a1 state2=some r→∀ M nb,ACalls P c [(Qb a1),(i_ state2)] M nb (i_ r) M nb
def Qqu:List COp:=[oo 2 (.box 4) [.t 0],oo 4 .mov [cI 0]]
def Qqv:List COp:=[oo 6 (.load true 4) [.t 2],oo 7 (.call 19) [.t 6],oM 5 7]
def Qqw:List COp:=[oM 8 5,oo 9 (.bin .neq false) [.t 8,cI 0]]
def Qqx:List COp:=[oM 10 5,oM 4 10]
def Qqy:List COp:=[oM 11 1,oo 12 (.bin .lss false) [.t 11,cI 0],oM 13 12,⟨some 14,.mov,[.t 1],false,some (13,false)⟩,⟨some 15,.fld 1,[.t 2],false,some (13,false)⟩,⟨some 16,.load false 1,[.t 15],false,some (13,false)⟩,⟨some 17,.bin .geq false,[.t 14,.t 16],false,some (13,false)⟩,oo 18 .pick [.t 13,.c (.d (.bool true)),.t 17]]
def Qqz:List COp:=[oo 4 .mov [cI 2]]
def Qq0:List COp:=[oo 4 .mov [cI 0]]
def Qgg:CFn:=⟨2,19,[.t 4],.seq (.region Qqu 9 []) (.seq (.seq (.region Qqv 9 []) (.seq (.region Qqw 9 []) (.cond (.t 9) (.seq (.region Qqx 9 []) (.ret)) (.skip)))) (.seq (.seq (.region Qqy 9 []) (.cond (.t 18) (.seq (.region Qqz 9 []) (.ret)) (.skip))) (.seq (.region Qq0 9 []) (.ret))))⟩
def Qb0 (Qt:Qa→Option Int) (a1:Qa) (state2:Int):Option Int :=
  ((Qt a1).bind fun x4=>(if (x4 != 0) then some x4 else (((if (state2 < 0) then some true else some (decide (state2≥a1.zD)))).bind fun (x7:Bool)=>(if x7 then some 2 else some 0))))
def Qd1 (P:Program) (c:Nat) (f:(List Qd)→Int→(Qd→Int→Option Int)→Option (Int×Bool)):Prop:=∀ x1 target2 cmp3 (g4:Nat) (cp5:List V) r,f x1 target2 cmp3=some r→∀ M nb,(V.dems cp5=cp5)→(V.ons (There M) cp5)→(∀ a9 a10 r,cmp3 a9 a10=some r→∀ M2 nb2,nb≤nb2→Ext M M2→ACalls P g4 ([(Qd8 a9),(i_ a10)] ++ cp5) M2 nb2 (i_ r) M2 nb2)→ACalls P c [(Ql x1),(i_ target2),.clo g4 cp5] M nb (.tup [(i_ r.1),(b_ r.2)]) M nb
def Qj7:List COp:=[oo 6 .mov [cI 0],oo 7 .mov [.c (.d (.bool false))]]
def Qj8:List COp:=[oM 12 0,oo 13 .len [.t 12],oM 8 13]
def Qj9:List COp:=[oM 14 8,oo 9 .mov [cI 0],oM 10 14]
def Qka:List COp:=[oM 15 9,oM 16 10,oo 17 (.bin .lss false) [.t 15,.t 16]]
def Qkb:List COp:=[oM 18 9,oM 19 10,oo 20 (.bin .add false) [.t 18,.t 19],oo 21 (.conv .u64) [.t 20],oo 22 (.bin .shr false) [.t 21,.c (.d (.int .u64 1))],oo 23 (.conv .i64) [.t 22],oM 11 23]
def Qkc:List COp:=[oM 24 2,oM 25 0,oM 26 11,oo 27 (.idx 3) [.t 25,.t 26],oo 28 (.load true 3) [.t 27],oM 29 1,oo 30 .callv [.t 24,.t 28,.t 29],oo 31 (.bin .lss false) [.t 30,cI 0]]
def Qkd:List COp:=[oM 32 11,oo 33 (.bin .add false) [.t 32,cI 1],oM 9 33]
def Qke:List COp:=[oM 34 11,oM 10 34]
def Qkf:List COp:=[oM 35 9,oM 36 9,oM 37 8,oo 38 (.bin .lss false) [.t 36,.t 37],oM 39 38,⟨some 40,.mov,[.t 2],false,some (39,true)⟩,⟨some 41,.mov,[.t 0],false,some (39,true)⟩,⟨some 42,.mov,[.t 9],false,some (39,true)⟩,⟨some 43,.idx 3,[.t 41,.t 42],false,some (39,true)⟩,⟨some 44,.load true 3,[.t 43],false,some (39,true)⟩,⟨some 45,.mov,[.t 1],false,some (39,true)⟩,⟨some 46,.callv,[.t 40,.t 44,.t 45],false,some (39,true)⟩,⟨some 47,.bin .eql false,[.t 46,cI 0],false,some (39,true)⟩,oo 48 .pick [.t 39,.t 47,.c (.d (.bool false))],oM 6 35,oM 7 48]
def Qd2:CFn:=⟨3,49,[.t 6,.t 7],.seq (.region Qj7 9 []) (.seq (.region Qj8 9 []) (.seq (.region Qj9 9 []) (.seq (.block 0 (.loop [] (.seq (.seq (.region Qka 9 []) (.cond (.t 17) (.skip) (.exit 0))) (.block 1 (.seq (.region Qkb 9 []) (.seq (.region Qkc 9 []) (.cond (.t 31) (.region Qkd 9 []) (.region Qke 9 [])))))))) (.seq (.region Qkf 9 []) (.ret)))))⟩
def Qx (fuel:Nat) (x1:(List Qd)) (target2:Int) (cmp3:(Qd→Int→Option Int)):Option (Int×Bool) :=
  ((Qda (fun k13 ((i11,j12):Int×Int)=>(if (i11 < j12) then ((getO x1 (IntKind.wrap .i64 (Int.fdiv (IntKind.wrap .u64 (IntKind.wrap .i64 (i11+j12))) (2 ^ (min (Int.toNat 1) (IntKind.bits .u64)))))).bind fun x15=>((cmp3 x15 target2).bind fun x18=>(if (x18 < 0) then k13 ((IntKind.wrap .i64 ((IntKind.wrap .i64 (Int.fdiv (IntKind.wrap .u64 (IntKind.wrap .i64 (i11+j12))) (2 ^ (min (Int.toNat 1) (IntKind.bits .u64)))))+1)),j12) else k13 (i11,(IntKind.wrap .i64 (Int.fdiv (IntKind.wrap .u64 (IntKind.wrap .i64 (i11+j12))) (2 ^ (min (Int.toNat 1) (IntKind.bits .u64))))))))) else some i11)) fuel (0,(x1.length:Int))).bind fun (i20:Int)=>(if (i20 < (x1.length:Int)) then ((getO x1 i20).bind fun x22=>((cmp3 x22 target2).bind fun x25=>some (i20,(x25 == 0)))) else some (i20,false)))
def Qkg (P:Program) (c:Nat) (f:Qd→Int→Option Int):Prop:=∀ x1 s2 r,f x1 s2=some r→∀ M nb,ACalls P c [(Qd8 x1),(i_ s2)] M nb (i_ r) M nb
def Q2w:List COp:=[oo 2 (.box 3) [.t 0],oo 4 .mov [cI 0]]
def Q2x:List COp:=[oF 5 0 2,oL 6 5,oM 7 1,oo 8 (.bin .sub false) [.t 6,.t 7],oM 4 8]
def Qkh:CFn:=⟨2,9,[.t 4],.seq (.region Q2w 9 []) (.seq (.region Q2x 9 []) (.ret))⟩
def Qc5 (x1:Qd) (s2:Int):Option Int :=
  some (IntKind.wrap .i64 (x1.From - s2))
def Qki (P:Program) (c:Nat) (f:Qd→Int→Option Int):Prop:=∀ x1 s2 r,f x1 s2=some r→∀ M nb,ACalls P c [(Qd8 x1),(i_ s2)] M nb (i_ r) M nb
def Q2y:List COp:=[oo 2 (.box 3) [.t 0],oo 4 .mov [cI 0]]
def Q2z:List COp:=[oF 5 0 2,oL 6 5,oM 7 1,oo 8 (.bin .sub false) [.t 6,.t 7],oM 4 8]
def Qkj:CFn:=⟨2,9,[.t 4],.seq (.region Q2y 9 []) (.seq (.region Q2z 9 []) (.ret))⟩
def Qc6 (x1:Qd) (s2:Int):Option Int :=
  some (IntKind.wrap .i64 (x1.From - s2))
def Qmz (P:Program) (c:Nat) (f:Qa→Int→Option ((List Qd))):Prop:=∀ a1 state2 r,f a1 state2=some r→∀ M nb,ACalls P c [(Qb a1),(i_ state2)] M nb (Ql r) M nb
def Q5x:List COp:=[oo 2 (.box 4) [.t 0],ot 4 .mov [.c (.nils 3)]]
def Q5y:List COp:=[oF 10 3 2,oL 11 10,oM 12 1,oo 13 (.call 71) [.t 11,.t 12,.c (.clo 72 [])],oM 9 13,oo 14 (.extract 0) [.t 9],oo 15 (.extract 1) [.t 9],oM 5 14,oM 6 15]
def Q5z:List COp:=[oF 17 3 2,oL 18 17,oM 19 1,oo 20 (.bin .add false) [.t 19,cI 1],oo 21 (.call 71) [.t 18,.t 20,.c (.clo 73 [])],oM 16 21,oo 22 (.extract 0) [.t 16],oo 23 (.extract 1) [.t 16],oM 7 22,oM 8 23]
def Q50:List COp:=[oF 24 3 2,oL 25 24,oM 26 5,oM 27 7,oo 28 (.slice 3 true true) [.t 25,.t 26,.t 27],ot 4 .mov [.t 28]]
def Qm0:CFn:=⟨2,29,[.t 4],.seq (.region Q5x 9 []) (.seq (.region Q5y 9 []) (.seq (.region Q5z 9 []) (.seq (.region Q50 9 []) (.ret))))⟩
def Qdu (Qx:(List Qd)→Int→(Qd→Int→Option Int)→Option (Int×Bool)) (Qc5:Qd→Int→Option Int) (Qc6:Qd→Int→Option Int) (a1:Qa) (state2:Int):Option ((List Qd)) :=
  ((Qx a1.zC state2 Qc5).bind fun (r8,r9)=>((Qx a1.zC (IntKind.wrap .i64 (state2+1)) Qc6).bind fun (r15,r16)=>((slcO a1.zC r8 r15).bind fun x17=>some x17)))
def Qh8 (P:Program) (c:Nat) (f:Qa→Int→Option ((List Int)×Int)):Prop:=∀ a1 state2 r,f a1 state2=some r→∀ M nb,ACalls P c [(Qb a1),(i_ state2)] M nb (.tup [(o_ r.1),(i_ r.2)]) M nb
def Qya:List COp:=[oo 2 (.box 4) [.t 0],ot 4 .mov [.c (.nils 1)],oo 5 .mov [cI 0]]
def Qyb:List COp:=[oo 10 (.load true 4) [.t 2],oM 11 1,oo 12 (.call 58) [.t 10,.t 11],oM 6 12]
def Qyc:List COp:=[oM 13 6,oo 14 (.bin .neq false) [.t 13,cI 0]]
def Qyd:List COp:=[oM 15 6,ot 4 .mov [.c (.nils 1)],oM 5 15]
def Qye:List COp:=[ot 7 .mov [.c (.nils 1)]]
def Qyf:List COp:=[oo 16 (.load true 4) [.t 2],oM 17 1,oo 18 (.call 59) [.t 16,.t 17],oo 19 .len [.t 18],oo 20 .mov [cI 0]]
def Qyg:List COp:=[oo 21 (.bin .lss false) [.t 20,.t 19]]
def Qyh:List COp:=[oo 22 (.idx 3) [.t 18,.t 20],oo 23 (.load true 3) [.t 22],oo 9 (.alloc [.d (.int .i64 0),.d (.int .i64 0),.d (.int .i64 0)]) [],⟨none,.store 3,[.t 9,.t 23],false,none⟩]
def Qyi:List COp:=[ot 24 .mov [.t 7],oF 25 1 9,oL 26 25,oo 27 (.bslice 1 1 [.d (.int .i64 0)] [0]) [.t 26],ot 28 (.append 1 8) [.t 24,.t 27],ot 7 .mov [.t 28]]
def Qyj:List COp:=[oo 29 (.bin .add false) [.t 20,cI 1],oM 20 29]
def Qwc:List COp:=[ot 30 .mov [.t 7],ot 4 .mov [.t 30],oo 5 .mov [cI 0]]
def Qh9:CFn:=⟨2,31,[.t 4,.t 5],.seq (.region Qya 9 []) (.seq (.seq (.region Qyb 9 []) (.seq (.region Qyc 9 []) (.cond (.t 14) (.seq (.region Qyd 9 []) (.ret)) (.skip)))) (.seq (.region Qye 9 []) (.seq (.seq (.region Qyf 9 []) (.block 0 (.loop [9,27] (.seq (.region Qyg 9 []) (.seq (.cond (.t 21) (.skip) (.exit 0)) (.seq (.block 1 (.seq (.region Qyh 9 []) (.region Qyi 9 []))) (.region Qyj 9 []))))))) (.seq (.region Qwc 9 []) (.ret)))))⟩
def Qcm (Qb0:Qa→Int→Option Int) (Qdu:Qa→Int→Option ((List Qd))) (fuel:Nat) (a1:Qa) (state2:Int):Option ((List Int)×Int) :=
  ((Qb0 a1 state2).bind fun x4=>(if (x4 != 0) then some ([],x4) else ((((Qdu a1 state2).bind fun x7=>Qda (fun k10 ((l8,x9):(List Int)×Int)=>(if (x9 < (x7.length:Int)) then ((getO x7 x9).bind fun x12=>((appO l8 [x12.Event]).bind fun x14=>k10 (x14,(IntKind.wrap .i64 (x9+1))))) else some l8)) fuel ([],0))).bind fun (l16:List Int)=>some (l16,0))))
def Qjg (P:Program) (c:Nat) (f:Bool→Bool→Option Bool):Prop:=∀ inA1 inB2 r,f inA1 inB2=some r→∀ M nb,ACalls P c [(b_ inA1),(b_ inB2)] M nb (b_ r) M nb
def Q1a:List COp:=[oo 4 .mov [.c (.d (.bool false))]]
def Q1b:List COp:=[oM 5 0,oM 6 5,⟨some 7,.mov,[.t 1],false,some (6,true)⟩,⟨some 8,.un .not,[.t 7],false,some (6,true)⟩,oo 9 .pick [.t 6,.t 8,.c (.d (.bool false))],oM 4 9]
def Qjh:CFn:=⟨2,10,[.t 4],.seq (.region Q1a 9 []) (.seq (.region Q1b 9 []) (.ret))⟩
def Qcw (inA1:Bool) (inB2:Bool):Option Bool :=
  (if inA1 then some (!inB2) else some false)
def Qk9 (P:Program) (c:Nat) (f:(List Int)→(List Int)→Option ((List Int))):Prop:=∀ a1 b2 r,f a1 b2=some r→∀ M nb,ACalls P c [(l_ a1),(l_ b2)] M nb (o_ r) M nb
def Q4j:List COp:=[ot 4 .mov [.c (.nils 1)]]
def Q4k:List COp:=[oM 5 0,oM 6 1,oo 7 (.call 53) [.t 5,.t 6,.c (.clo 60 [])],ot 4 .mov [.t 7]]
def Qla:CFn:=⟨2,8,[.t 4],.seq (.region Q4j 9 []) (.seq (.region Q4k 9 []) (.ret))⟩
def Qdg (Qw:(List Int)→(List Int)→(Bool→Bool→Option Bool)→Option ((List Int))) (Qcw:Bool→Bool→Option Bool) (a1:(List Int)) (b2:(List Int)):Option ((List Int)) :=
  ((Qw a1 b2 Qcw).bind fun x8=>some x8)
def Qgz (P:Program) (c:Nat) (f:Qa→Int→Option ((List Int)×Int)):Prop:=∀ a1 state2 r,f a1 state2=some r→∀ M nb,ACalls P c [(Qb a1),(i_ state2)] M nb (.tup [(o_ r.1),(i_ r.2)]) M nb
def Qte:List COp:=[oo 2 (.box 4) [.t 0],ot 4 .mov [.c (.nils 1)],oo 5 .mov [cI 0]]
def Qtf:List COp:=[oo 9 (.load true 4) [.t 2],oM 10 1,oo 11 (.call 34) [.t 9,.t 10],oM 8 11,ot 12 (.extract 0) [.t 8],oo 13 (.extract 1) [.t 8],ot 6 .mov [.t 12],oM 7 13]
def Qtg:List COp:=[oM 14 7,oo 15 (.bin .neq false) [.t 14,cI 0]]
def Qth:List COp:=[oM 16 7,ot 4 .mov [.c (.nils 1)],oM 5 16]
def Qti:List COp:=[oF 17 0 2,oL 18 17,oM 19 6,oo 20 (.call 35) [.t 18,.t 19],ot 4 .mov [.t 20],oo 5 .mov [cI 0]]
def Qg0:CFn:=⟨2,21,[.t 4,.t 5],.seq (.region Qte 9 []) (.seq (.region Qtf 9 []) (.seq (.seq (.region Qtg 9 []) (.cond (.t 15) (.seq (.region Qth 9 []) (.ret)) (.skip))) (.seq (.region Qti 9 []) (.ret))))⟩
def Qb8 (Qcm:Qa→Int→Option ((List Int)×Int)) (Qdg:(List Int)→(List Int)→Option ((List Int))) (a1:Qa) (state2:Int):Option ((List Int)×Int) :=
  ((Qcm a1 state2).bind fun (r4,r5)=>(if (r5 != 0) then some ([],r5) else ((Qdg a1.zA r4).bind fun x8=>some (x8,0))))
def Qgt (P:Program) (c:Nat) (f:(List Int)→(List Int)→Option Bool):Prop:=∀ s1 s2 r,f s1 s2=some r→∀ M nb,ACalls P c [(l_ s1),(l_ s2)] M nb (b_ r) M nb
def Q1c:List COp:=[oo 4 .mov [.c (.d (.bool false))]]
def Q1d:List COp:=[oM 6 0,oo 7 .len [.t 6],oM 8 1,oo 9 .len [.t 8],oo 10 (.bin .neq false) [.t 7,.t 9]]
def Q1e:List COp:=[oo 4 .mov [.c (.d (.bool false))]]
def Q1f:List COp:=[oM 11 0,oo 12 .len [.t 11],oo 13 .mov [cI 0]]
def Q1g:List COp:=[oo 14 (.bin .lss false) [.t 13,.t 12]]
def Q1h:List COp:=[oM 15 13,oM 5 15]
def Q1i:List COp:=[oM 16 0,oM 17 5,oo 18 (.idx 1) [.t 16,.t 17],oL 19 18,oM 20 1,oM 21 5,oo 22 (.idx 1) [.t 20,.t 21],oL 23 22,oo 24 (.bin .neq false) [.t 19,.t 23]]
def Q1j:List COp:=[oo 4 .mov [.c (.d (.bool false))]]
def Q1k:List COp:=[oo 25 (.bin .add false) [.t 13,cI 1],oM 13 25]
def Q1l:List COp:=[oo 4 .mov [.c (.d (.bool true))]]
def Qji:CFn:=⟨2,26,[.t 4],.seq (.region Q1c 9 []) (.seq (.seq (.region Q1d 9 []) (.cond (.t 10) (.seq (.region Q1e 9 []) (.ret)) (.skip))) (.seq (.seq (.region Q1f 9 []) (.block 0 (.loop [] (.seq (.region Q1g 9 []) (.seq (.cond (.t 14) (.skip) (.exit 0)) (.seq (.block 1 (.seq (.region Q1h 9 []) (.seq (.region Q1i 0 []) (.cond (.t 24) (.seq (.region Q1j 9 []) (.ret)) (.skip))))) (.region Q1k 9 []))))))) (.seq (.region Q1l 9 []) (.ret))))⟩
def Qy (fuel:Nat) (s1:(List Int)) (s2:(List Int)):Option Bool :=
  (if ((s1.length:Int) != (s2.length:Int)) then some false else Qda (fun k5 (x4:Int)=>(if (x4 < (s1.length:Int)) then ((getO s1 x4).bind fun x7=>((getO s2 x4).bind fun x9=>(if (x7 != x9) then some false else k5 (IntKind.wrap .i64 (x4+1))))) else some true)) fuel 0)
def Qfv (P:Program) (c:Nat) (f:(List Qd)→(List Qd)→Option Bool):Prop:=∀ s1 s2 r,f s1 s2=some r→∀ M nb,ACalls P c [(Ql s1),(Ql s2)] M nb (b_ r) M nb
def Qyk:List COp:=[oo 4 .mov [.c (.d (.bool false))]]
def Qyl:List COp:=[oM 6 0,oo 7 .len [.t 6],oM 8 1,oo 9 .len [.t 8],oo 10 (.bin .neq false) [.t 7,.t 9]]
def Qym:List COp:=[oo 4 .mov [.c (.d (.bool false))]]
def Qyn:List COp:=[oM 11 0,oo 12 .len [.t 11],oo 13 .mov [cI 0]]
def Qyo:List COp:=[oo 14 (.bin .lss false) [.t 13,.t 12]]
def Qyp:List COp:=[oM 15 13,oM 5 15]
def Qyq:List COp:=[oM 16 0,oM 17 5,oo 18 (.idx 3) [.t 16,.t 17],oo 19 (.load true 3) [.t 18],oM 20 1,oM 21 5,oo 22 (.idx 3) [.t 20,.t 21],oo 23 (.load true 3) [.t 22],oo 24 (.eqa true [0,0,0]) [.t 19,.t 23]]
def Qyr:List COp:=[oo 4 .mov [.c (.d (.bool false))]]
def Qys:List COp:=[oo 25 (.bin .add false) [.t 13,cI 1],oM 13 25]
def Qyt:List COp:=[oo 4 .mov [.c (.d (.bool true))]]
def Qia:CFn:=⟨2,26,[.t 4],.seq (.region Qyk 9 []) (.seq (.seq (.region Qyl 9 []) (.cond (.t 10) (.seq (.region Qym 9 []) (.ret)) (.skip))) (.seq (.seq (.region Qyn 9 []) (.block 0 (.loop [] (.seq (.region Qyo 9 []) (.seq (.cond (.t 14) (.skip) (.exit 0)) (.seq (.block 1 (.seq (.region Qyp 9 []) (.seq (.region Qyq 0 []) (.cond (.t 24) (.seq (.region Qyr 9 []) (.ret)) (.skip))))) (.region Qys 9 []))))))) (.seq (.region Qyt 9 []) (.ret))))⟩
def Q4 (fuel:Nat) (s1:(List Qd)) (s2:(List Qd)):Option Bool :=
  (if ((s1.length:Int) != (s2.length:Int)) then some false else Qda (fun k5 (x4:Int)=>(if (x4 < (s1.length:Int)) then ((getO s1 x4).bind fun x7=>((getO s2 x4).bind fun x9=>(if ((x7.From == x9.From) && ((x7.Event == x9.Event) && ((x7.To == x9.To) && true))) then k5 (IntKind.wrap .i64 (x4+1)) else some false))) else some true)) fuel 0)
def Qg1 (P:Program) (c:Nat) (f:Option Bool):Prop:=∀ r,f=some r→∀ M nb,ACalls P c [] M nb (b_ r) M nb
def Qtj:List COp:=[oo 0 .mov [.c (.d (.bool false))]]
def Qtk:List COp:=[oo 10 (.bslice 1 2 [.d (.int .i64 0)] [0,1]) [cI 3,cI 1],oo 11 (.call 11) [.t 10],oM 9 11,oo 12 (.extract 0) [.t 9],oo 13 (.extract 1) [.t 9],oo 1 (.alloc [.nils 1,.d (.int .i64 0),.nils 1,.nils 3]) [],⟨none,.store 4,[.t 1,.t 12],true,none⟩,oM 2 13]
def Qtl:List COp:=[oo 15 (.bslice 1 1 [.d (.int .i64 0)] [0]) [cI 0],oo 16 (.bslice 1 1 [.d (.int .i64 0)] [0]) [cI 1],oo 17 (.call 12) [.t 15,.t 16,cI 2],oM 14 17,oo 18 (.extract 0) [.t 14],oo 19 (.extract 1) [.t 14],oo 3 (.alloc [.nils 1,.d (.int .i64 0),.nils 1,.nils 3]) [],⟨none,.store 4,[.t 3,.t 18],true,none⟩,oM 4 19]
def Qtm:List COp:=[oo 21 (.build [.d (.int .i64 0),.d (.int .i64 0)] [(0,1),(1,1)]) [cI 0,cI 1],oo 22 (.build [.d (.int .i64 0),.d (.int .i64 0)] [(0,1),(1,1)]) [cI 2,cI 3],oo 23 (.bslice 2 2 [.d (.int .i64 0),.d (.int .i64 0)] [0,1]) [.t 21,.t 22],oo 24 (.call 13) [.t 23,cI 1],oM 20 24,oo 25 (.extract 0) [.t 20],oo 26 (.extract 1) [.t 20],oo 5 (.alloc [.nils 1,.d (.int .i64 0),.nils 1,.nils 3]) [],⟨none,.store 4,[.t 5,.t 25],true,none⟩,oM 6 26]
def Qtn:List COp:=[oo 28 (.load true 4) [.t 5],oo 29 (.call 14) [.t 28,cI 1],oM 27 29,ot 30 (.extract 0) [.t 27],oo 31 (.extract 1) [.t 27],ot 7 .mov [.t 30],oM 8 31]
def Qto:List COp:=[oM 32 2,oo 33 (.bin .eql false) [.t 32,cI 0],oM 34 33,⟨some 35,.mov,[.t 4],false,some (34,true)⟩,⟨some 36,.bin .eql false,[.t 35,cI 0],false,some (34,true)⟩,oo 37 .pick [.t 34,.t 36,.c (.d (.bool false))],oM 38 37,⟨some 39,.mov,[.t 6],false,some (38,true)⟩,⟨some 40,.bin .eql false,[.t 39,cI 0],false,some (38,true)⟩,oo 41 .pick [.t 38,.t 40,.c (.d (.bool false))],oM 42 41,⟨some 43,.mov,[.t 8],false,some (42,true)⟩,⟨some 44,.bin .eql false,[.t 43,cI 0],false,some (42,true)⟩,oo 45 .pick [.t 42,.t 44,.c (.d (.bool false))],oM 46 45,⟨some 47,.fld 0,[.t 1],false,some (46,true)⟩,⟨some 48,.load false 1,[.t 47],false,some (46,true)⟩,⟨some 49,.bslice 1 2 [.d (.int .i64 0)] [0,1],[cI 1,cI 3],false,some (46,true)⟩,⟨some 50,.call 15,[.t 48,.t 49],false,some (46,true)⟩,oo 51 .pick [.t 46,.t 50,.c (.d (.bool false))],oM 52 51,⟨some 53,.fld 3,[.t 1],false,some (52,true)⟩,⟨some 54,.load false 1,[.t 53],false,some (52,true)⟩,⟨some 55,.build [.d (.int .i64 0),.d (.int .i64 0),.d (.int .i64 0)] [(0,1),(1,1),(2,1)],[cI 0,cI 3,cI 1],false,some (52,true)⟩,⟨some 56,.build [.d (.int .i64 0),.d (.int .i64 0),.d (.int .i64 0)] [(0,1),(1,1),(2,1)],[cI 1,cI 1,cI 0],false,some (52,true)⟩,⟨some 57,.bslice 3 2 [.d (.int .i64 0),.d (.int .i64 0),.d (.int .i64 0)] [0,1],[.t 55,.t 56],false,some (52,true)⟩,⟨some 58,.call 16,[.t 54,.t 57],false,some (52,true)⟩,oo 59 .pick [.t 52,.t 58,.c (.d (.bool false))],oM 60 59,⟨some 61,.fld 1,[.t 3],false,some (60,true)⟩,⟨some 62,.load false 1,[.t 61],false,some (60,true)⟩,⟨some 63,.bin .eql false,[.t 62,cI 3],false,some (60,true)⟩,oo 64 .pick [.t 60,.t 63,.c (.d (.bool false))],oM 65 64,⟨some 66,.fld 1,[.t 5],false,some (65,true)⟩,⟨some 67,.load false 1,[.t 66],false,some (65,true)⟩,⟨some 68,.bin .eql false,[.t 67,cI 3],false,some (65,true)⟩,oo 69 .pick [.t 65,.t 68,.c (.d (.bool false))],oM 70 69,⟨some 71,.mov,[.t 7],false,some (70,true)⟩,⟨some 72,.bslice 1 3 [.d (.int .i64 0)] [0,1,2],[cI 0,cI 2,cI 3],false,some (70,true)⟩,⟨some 73,.call 15,[.t 71,.t 72],false,some (70,true)⟩,oo 74 .pick [.t 70,.t 73,.c (.d (.bool false))],oM 0 74]
def Qg2:CFn:=⟨0,75,[.t 0],.seq (.region Qtj 9 []) (.seq (.region Qtk 9 []) (.seq (.region Qtl 9 []) (.seq (.region Qtm 9 []) (.seq (.region Qtn 9 []) (.seq (.region Qto 9 []) (.ret))))))⟩
def Qb9 (Qbq:(List Int)→Option (Qa×Int)) (Qch:(List Int)→(List Int)→Int→Option (Qa×Int)) (Qci:(List Qq)→Int→Option (Qa×Int)) (Qb8:Qa→Int→Option ((List Int)×Int)) (Qy:(List Int)→(List Int)→Option Bool) (Q4:(List Qd)→(List Qd)→Option Bool):Option Bool :=
  ((Qbq [3,1]).bind fun (r2,r3)=>((Qch [0] [1] 2).bind fun (r5,r6)=>((Qci [(Qq.mk 0 1),(Qq.mk 2 3)] 1).bind fun (r8,r9)=>((Qb8 r8 1).bind fun (r11,r12)=>(((if (r3 == 0) then (if (r6 == 0) then (if (r9 == 0) then (if (r12 == 0) then ((Qy r2.zA [1,3]).bind fun x18=>(if x18 then ((Q4 r2.zC [(Qd.mk 0 3 1),(Qd.mk 1 1 0)]).bind fun x21=>(if x21 then (if (r5.zD == 3) then (if (r8.zD == 3) then ((Qy r11 [0,2,3]).bind fun x26=>some x26) else some false) else some false) else some false)) else some false)) else some false) else some false) else some false) else some false)).bind fun (x27:Bool)=>some x27)))))
def Qep (P:Program) (c:Nat) (f:Int→Option ((List Int))):Prop:=∀ s1 r,f s1=some r→∀ M nb,ACalls P c [.d (.int .u8 s1)] M nb (o_ r) M nb
def Qlq:List COp:=[ot 2 .mov [.c (.nils 1)]]
def Qlr:List COp:=[ot 3 .mov [.c (.nils 1)]]
def Qls:List COp:=[oo 4 .mov [cI 0]]
def Qlt:List COp:=[oM 5 4,oo 6 (.bin .lss false) [.t 5,cI 5]]
def Qlu:List COp:=[oM 9 0,oM 10 4,oo 11 (.bin .shr false) [.t 9,.t 10],oo 12 (.bin .and false) [.t 11,.c (.d (.int .u8 1))],oo 13 (.bin .eql false) [.t 12,.c (.d (.int .u8 1))]]
def Qlv:List COp:=[ot 14 .mov [.t 3],oM 15 4,oo 16 (.bslice 1 1 [.d (.int .i64 0)] [0]) [.t 15],ot 17 (.append 1 8) [.t 14,.t 16],ot 3 .mov [.t 17]]
def Qlw:List COp:=[oM 7 4,oo 8 (.bin .add false) [.t 7,cI 1],oM 4 8]
def Qlx:List COp:=[ot 18 .mov [.t 3],ot 2 .mov [.t 18]]
def Qeq:CFn:=⟨1,19,[.t 2],.seq (.region Qlq 9 []) (.seq (.region Qlr 9 []) (.seq (.seq (.region Qls 9 []) (.block 0 (.loop [16] (.seq (.seq (.region Qlt 9 []) (.cond (.t 6) (.skip) (.exit 0))) (.seq (.block 1 (.seq (.region Qlu 9 []) (.cond (.t 13) (.region Qlv 9 []) (.skip)))) (.region Qlw 9 [])))))) (.seq (.region Qlx 9 []) (.ret))))⟩
def Qbh (fuel:Nat) (s1:Int):Option ((List Int)) :=
  ((Qda (fun k4 ((out2,i3):(List Int)×Int)=>(if (i3 < 5) then ((((shrO .u8 s1 i3).bind fun s6=>(if ((andI .u8 s6 1) == 1) then ((appO out2 [i3]).bind fun x9=>some x9) else some out2))).bind fun (out11:List Int)=>k4 (out11,(IntKind.wrap .i64 (i3+1)))) else some out2)) fuel ([],0)).bind fun (out12:List Int)=>some out12)
def Qew (P:Program) (c:Nat) (f:(List Int)→Option Qa):Prop:=∀ alphabet1 r,f alphabet1=some r→∀ M nb,ACalls P c [(l_ alphabet1)] M nb (.agg [(l_ r.zA),(i_ r.zD),.nils 1,.nils 3]) M nb
def Qtp:List COp:=[oo 2 (.alloc [.nils 1,.d (.int .i64 0),.nils 1,.nils 3]) []]
def Qtq:List COp:=[oo 3 (.bslice 1 0 [.d (.int .i64 0)] []) [],oM 4 0,ot 5 (.append 1 8) [.t 3,.t 4],ot 6 (.build [.nils 1,.d (.int .i64 0),.nils 1,.nils 3] [(0,1)]) [.t 5],⟨none,.store 4,[.t 2,.t 6],true,none⟩]
def Qg3:CFn:=⟨1,7,[.cell 2 true 4],.seq (.region Qtp 9 []) (.seq (.region Qtq 9 []) (.ret))⟩
def Qs (alphabet1:(List Int)):Option Qa :=
  ((appO [] alphabet1).bind fun x2=>some (Qa.mk x2 0 [] []))
def Qfg (P:Program) (c:Nat) (f:Qa→Int→Int→Option Int):Prop:=∀ a1 state2 event3 r,f a1 state2 event3=some r→∀ M nb,ACalls P c [(Qb a1),(i_ state2),(i_ event3)] M nb (i_ r) M nb
def Qwd:List COp:=[oo 3 (.box 4) [.t 0],oo 6 .mov [cI 0]]
def Qwe:List COp:=[oo 7 .mov [cI 0]]
def Qwf:List COp:=[oM 8 7,oF 9 3 3,oL 10 9,oo 11 .len [.t 10],oo 12 (.bin .lss false) [.t 8,.t 11]]
def Qwg:List COp:=[oF 15 3 3,oL 16 15,oM 17 7,oo 18 (.idx 3) [.t 16,.t 17],oF 19 0 18,oL 20 19,oM 21 1,oo 22 (.bin .eql false) [.t 20,.t 21],oM 23 22,⟨some 24,.fld 3,[.t 3],false,some (23,true)⟩,⟨some 25,.load false 1,[.t 24],false,some (23,true)⟩,⟨some 26,.mov,[.t 7],false,some (23,true)⟩,⟨some 27,.idx 3,[.t 25,.t 26],false,some (23,true)⟩,⟨some 28,.fld 1,[.t 27],false,some (23,true)⟩,⟨some 29,.load false 1,[.t 28],false,some (23,true)⟩,⟨some 30,.mov,[.t 2],false,some (23,true)⟩,⟨some 31,.bin .eql false,[.t 29,.t 30],false,some (23,true)⟩,oo 32 .pick [.t 23,.t 31,.c (.d (.bool false))]]
def Qwh:List COp:=[oF 33 3 3,oL 34 33,oM 35 7,oo 36 (.idx 3) [.t 34,.t 35],oF 37 2 36,oL 38 37,oM 6 38]
def Qwi:List COp:=[oM 13 7,oo 14 (.bin .add false) [.t 13,cI 1],oM 7 14]
def Qwj:List COp:=[oo 6 .mov [cI (-1)]]
def Qhn:CFn:=⟨3,39,[.t 6],.seq (.region Qwd 9 []) (.seq (.seq (.region Qwe 9 []) (.block 0 (.loop [] (.seq (.seq (.region Qwf 9 []) (.cond (.t 12) (.skip) (.exit 0))) (.seq (.block 1 (.seq (.region Qwg 9 []) (.cond (.t 32) (.seq (.region Qwh 9 []) (.ret)) (.skip)))) (.region Qwi 9 [])))))) (.seq (.region Qwj 9 []) (.ret)))⟩
def Qz (fuel:Nat) (a1:Qa) (state2:Int) (event3:Int):Option Int :=
  Qda (fun k5 (i4:Int)=>(if (i4 < (a1.zC.length:Int)) then ((((getO a1.zC i4).bind fun x7=>(if (x7.From == state2) then ((getO a1.zC i4).bind fun x10=>some (x10.Event == event3)) else some false))).bind fun (x12:Bool)=>(if x12 then ((getO a1.zC i4).bind fun x14=>some x14.To) else k5 (IntKind.wrap .i64 (i4+1)))) else some (-1))) fuel 0
def Qfw (P:Program) (c:Nat) (f:(List Int)→Int→Option Bool):Prop:=∀ l1 n2 r,f l1 n2=some r→∀ M nb,ACalls P c [(l_ l1),(i_ n2)] M nb (b_ r) M nb
def Qyu:List COp:=[oo 4 .mov [.c (.d (.bool false))]]
def Qyv:List COp:=[oo 5 .mov [cI 0]]
def Qyw:List COp:=[oM 6 5,oM 7 0,oo 8 .len [.t 7],oo 9 (.bin .lss false) [.t 6,.t 8]]
def Qyx:List COp:=[oM 12 0,oM 13 5,oo 14 (.idx 1) [.t 12,.t 13],oL 15 14,oM 16 1,oo 17 (.bin .eql false) [.t 15,.t 16]]
def Qyy:List COp:=[oo 4 .mov [.c (.d (.bool true))]]
def Qyz:List COp:=[oM 10 5,oo 11 (.bin .add false) [.t 10,cI 1],oM 5 11]
def Qy0:List COp:=[oo 4 .mov [.c (.d (.bool false))]]
def Qib:CFn:=⟨2,18,[.t 4],.seq (.region Qyu 9 []) (.seq (.seq (.region Qyv 9 []) (.block 0 (.loop [] (.seq (.seq (.region Qyw 9 []) (.cond (.t 9) (.skip) (.exit 0))) (.seq (.block 1 (.seq (.region Qyx 9 []) (.cond (.t 17) (.seq (.region Qyy 9 []) (.ret)) (.skip)))) (.region Qyz 9 [])))))) (.seq (.region Qy0 9 []) (.ret)))⟩
def Q5 (fuel:Nat) (l1:(List Int)) (n2:Int):Option Bool :=
  Qda (fun k4 (i3:Int)=>(if (i3 < (l1.length:Int)) then ((getO l1 i3).bind fun x6=>(if (x6 == n2) then some true else k4 (IntKind.wrap .i64 (i3+1)))) else some false)) fuel 0
def Qg4 (P:Program) (c:Nat) (f:Qa→Option ((List Int))):Prop:=∀ a1 r,f a1=some r→∀ M nb,ACalls P c [(Qb a1)] M nb (o_ r) M nb
def Qtr:List COp:=[oo 1 (.box 4) [.t 0],ot 2 .mov [.c (.nils 1)]]
def Qts:List COp:=[ot 3 .mov [.c (.nils 1)]]
def Qtt:List COp:=[oF 7 1 1,oL 8 7,oo 9 (.bin .gtr false) [.t 8,cI 0]]
def Qtu:List COp:=[ot 10 .mov [.t 3],oo 11 (.bslice 1 1 [.d (.int .i64 0)] [0]) [cI 0],ot 12 (.append 1 8) [.t 10,.t 11],ot 3 .mov [.t 12]]
def Qtv:List COp:=[oo 4 .mov [cI 0]]
def Qtw:List COp:=[oM 13 4,oM 14 3,oo 15 .len [.t 14],oo 16 (.bin .lss false) [.t 13,.t 15]]
def Qtx:List COp:=[oo 5 .mov [cI 0]]
def Qty:List COp:=[oM 19 5,oF 20 0 1,oL 21 20,oo 22 .len [.t 21],oo 23 (.bin .lss false) [.t 19,.t 22]]
def Qtz:List COp:=[oo 26 (.load true 4) [.t 1],oM 27 3,oM 28 4,oo 29 (.idx 1) [.t 27,.t 28],oL 30 29,oF 31 0 1,oL 32 31,oM 33 5,oo 34 (.idx 1) [.t 32,.t 33],oL 35 34,oo 36 (.call 38) [.t 26,.t 30,.t 35],oM 6 36]
def Qt0:List COp:=[oM 37 6,oo 38 (.bin .geq false) [.t 37,cI 0],oM 39 38,⟨some 40,.mov,[.t 3],false,some (39,true)⟩,⟨some 41,.mov,[.t 6],false,some (39,true)⟩,⟨some 42,.call 37,[.t 40,.t 41],false,some (39,true)⟩,⟨some 43,.un .not,[.t 42],false,some (39,true)⟩,oo 44 .pick [.t 39,.t 43,.c (.d (.bool false))]]
def Qq1:List COp:=[ot 45 .mov [.t 3],oM 46 6,oo 47 (.bslice 1 1 [.d (.int .i64 0)] [0]) [.t 46],ot 48 (.append 1 8) [.t 45,.t 47],ot 3 .mov [.t 48]]
def Qq2:List COp:=[oM 24 5,oo 25 (.bin .add false) [.t 24,cI 1],oM 5 25]
def Qq3:List COp:=[oM 17 4,oo 18 (.bin .add false) [.t 17,cI 1],oM 4 18]
def Qq4:List COp:=[ot 49 .mov [.t 3],ot 2 .mov [.t 49]]
def Qg5:CFn:=⟨1,50,[.t 2],.seq (.region Qtr 9 []) (.seq (.region Qts 9 []) (.seq (.seq (.region Qtt 9 []) (.cond (.t 9) (.region Qtu 9 []) (.skip))) (.seq (.seq (.region Qtv 9 []) (.block 0 (.loop [47] (.seq (.seq (.region Qtw 9 []) (.cond (.t 16) (.skip) (.exit 0))) (.seq (.block 1 (.seq (.region Qtx 9 []) (.block 2 (.loop [47] (.seq (.seq (.region Qty 9 []) (.cond (.t 23) (.skip) (.exit 2))) (.seq (.block 3 (.seq (.region Qtz 0 []) (.seq (.region Qt0 9 []) (.cond (.t 44) (.region Qq1 9 []) (.skip))))) (.region Qq2 9 []))))))) (.region Qq3 9 [])))))) (.seq (.region Qq4 9 []) (.ret)))))⟩
def Qbr (Q5:(List Int)→Int→Option Bool) (Qz:Qa→Int→Int→Option Int) (fuel:Nat) (a1:Qa):Option ((List Int)) :=
  (((if (a1.zD > 0) then ((appO [] [0]).bind fun x3=>some x3) else some [])).bind fun (out5:List Int)=>((Qda (fun k8 ((out6,i7):(List Int)×Int)=>(if (i7 < (out6.length:Int)) then ((Qda (fun k12 ((out10,k11):(List Int)×Int)=>(if (k11 < (a1.zA.length:Int)) then ((((getO out10 i7).bind fun x14=>((getO a1.zA k11).bind fun x16=>((Qz a1 x14 x16).bind fun x19=>(((if (x19≥0) then ((Q5 out10 x19).bind fun x22=>some (!x22)) else some false)).bind fun (x23:Bool)=>(if x23 then ((appO out10 [x19]).bind fun x25=>some x25) else some out10)))))).bind fun (out27:List Int)=>k12 (out27,(IntKind.wrap .i64 (k11+1)))) else some out10)) fuel (out6,0)).bind fun (out28:List Int)=>k8 (out28,(IntKind.wrap .i64 (i7+1)))) else some out6)) fuel (out5,0)).bind fun (out29:List Int)=>some out29))
def Qg6 (P:Program) (c:Nat) (f:(List Int)→Int→Option Int):Prop:=∀ l1 n2 r,f l1 n2=some r→∀ M nb,ACalls P c [(l_ l1),(i_ n2)] M nb (i_ r) M nb
def Qt1:List COp:=[oo 4 .mov [cI 0]]
def Qt2:List COp:=[oo 5 .mov [cI 0]]
def Qt3:List COp:=[oM 6 5,oM 7 0,oo 8 .len [.t 7],oo 9 (.bin .lss false) [.t 6,.t 8]]
def Qt4:List COp:=[oM 12 0,oM 13 5,oo 14 (.idx 1) [.t 12,.t 13],oL 15 14,oM 16 1,oo 17 (.bin .eql false) [.t 15,.t 16]]
def Qt5:List COp:=[oM 18 5,oM 4 18]
def Qt6:List COp:=[oM 10 5,oo 11 (.bin .add false) [.t 10,cI 1],oM 5 11]
def Qt7:List COp:=[oo 4 .mov [cI (-1)]]
def Qg7:CFn:=⟨2,19,[.t 4],.seq (.region Qt1 9 []) (.seq (.seq (.region Qt2 9 []) (.block 0 (.loop [] (.seq (.seq (.region Qt3 9 []) (.cond (.t 9) (.skip) (.exit 0))) (.seq (.block 1 (.seq (.region Qt4 9 []) (.cond (.t 17) (.seq (.region Qt5 9 []) (.ret)) (.skip)))) (.region Qt6 9 [])))))) (.seq (.region Qt7 9 []) (.ret)))⟩
def Qbs (fuel:Nat) (l1:(List Int)) (n2:Int):Option Int :=
  Qda (fun k4 (i3:Int)=>(if (i3 < (l1.length:Int)) then ((getO l1 i3).bind fun x6=>(if (x6 == n2) then some i3 else k4 (IntKind.wrap .i64 (i3+1)))) else some (-1))) fuel 0
def Qe7 (P:Program) (c:Nat) (f:Qa→Option Qa):Prop:=∀ a1 r,f a1=some r→∀ M nb,ACalls P c [(Qb a1)] M nb (Qb r) M nb
def Qm1:List COp:=[oo 1 (.box 4) [.t 0],oo 2 (.alloc [.nils 1,.d (.int .i64 0),.nils 1,.nils 3]) []]
def Qm2:List COp:=[oo 8 (.load true 4) [.t 1],oo 9 (.call 36) [.t 8],ot 3 .mov [.t 9]]
def Qm3:List COp:=[oF 10 0 1,oL 11 10,oo 12 (.call 17) [.t 11],oo 4 (.alloc [.nils 1,.d (.int .i64 0),.nils 1,.nils 3]) [],⟨none,.store 4,[.t 4,.t 12],true,none⟩]
def Qm4:List COp:=[oM 13 3,oo 14 .len [.t 13],oF 15 1 4,⟨none,.store 1,[.t 15,.t 14],false,none⟩]
def Qm5:List COp:=[oo 5 .mov [cI 0]]
def Qm6:List COp:=[oM 16 5,oM 17 3,oo 18 .len [.t 17],oo 19 (.bin .lss false) [.t 16,.t 18]]
def Qm7:List COp:=[oF 22 2 1,oL 23 22,oM 24 3,oM 25 5,oo 26 (.idx 1) [.t 24,.t 25],oL 27 26,oo 28 (.call 37) [.t 23,.t 27]]
def Qm8:List COp:=[oF 29 2 4,oo 30 .loadT [.t 29],oM 31 5,oo 32 (.bslice 1 1 [.d (.int .i64 0)] [0]) [.t 31],ot 33 (.append 1 8) [.t 30,.t 32],oF 34 2 4,⟨none,.store 1,[.t 34,.t 33],true,none⟩]
def Qm9:List COp:=[oo 6 .mov [cI 0]]
def Qna:List COp:=[oM 35 6,oF 36 0 1,oL 37 36,oo 38 .len [.t 37],oo 39 (.bin .lss false) [.t 35,.t 38]]
def Qly:List COp:=[oo 42 (.load true 4) [.t 1],oM 43 3,oM 44 5,oo 45 (.idx 1) [.t 43,.t 44],oL 46 45,oF 47 0 1,oL 48 47,oM 49 6,oo 50 (.idx 1) [.t 48,.t 49],oL 51 50,oo 52 (.call 38) [.t 42,.t 46,.t 51],oM 7 52]
def Qlz:List COp:=[oM 53 7,oo 54 (.bin .geq false) [.t 53,cI 0]]
def Ql0:List COp:=[oF 55 3 4,oo 56 .loadT [.t 55],oM 57 5,oF 58 0 1,oL 59 58,oM 60 6,oo 61 (.idx 1) [.t 59,.t 60],oL 62 61,oM 63 3,oM 64 7,oo 65 (.call 39) [.t 63,.t 64],oo 66 (.build [.d (.int .i64 0),.d (.int .i64 0),.d (.int .i64 0)] [(0,1),(1,1),(2,1)]) [.t 57,.t 62,.t 65],oo 67 (.bslice 3 1 [.d (.int .i64 0),.d (.int .i64 0),.d (.int .i64 0)] [0]) [.t 66],ot 68 (.append 3 24) [.t 56,.t 67],oF 69 3 4,⟨none,.store 1,[.t 69,.t 68],true,none⟩]
def Ql1:List COp:=[oM 40 6,oo 41 (.bin .add false) [.t 40,cI 1],oM 6 41]
def Ql2:List COp:=[oM 20 5,oo 21 (.bin .add false) [.t 20,cI 1],oM 5 21]
def Ql3:List COp:=[oo 70 (.load true 4) [.t 4],⟨none,.store 4,[.t 2,.t 70],true,none⟩]
def Qe8:CFn:=⟨1,71,[.cell 2 true 4],.seq (.region Qm1 9 []) (.seq (.region Qm2 9 []) (.seq (.region Qm3 9 []) (.seq (.region Qm4 9 []) (.seq (.seq (.region Qm5 9 []) (.block 0 (.loop [32,67] (.seq (.seq (.region Qm6 9 []) (.cond (.t 19) (.skip) (.exit 0))) (.seq (.block 1 (.seq (.seq (.region Qm7 0 []) (.cond (.t 28) (.region Qm8 9 []) (.skip))) (.seq (.region Qm9 9 []) (.block 2 (.loop [67] (.seq (.seq (.region Qna 9 []) (.cond (.t 39) (.skip) (.exit 2))) (.seq (.block 3 (.seq (.region Qly 0 []) (.seq (.region Qlz 9 []) (.cond (.t 54) (.region Ql0 2 []) (.skip))))) (.region Ql1 9 [])))))))) (.region Ql2 9 [])))))) (.seq (.region Ql3 9 []) (.ret))))))⟩
def Qbb (Qs:(List Int)→Option Qa) (Qbr:Qa→Option ((List Int))) (Q5:(List Int)→Int→Option Bool) (Qz:Qa→Int→Int→Option Int) (Qbs:(List Int)→Int→Option Int) (fuel:Nat) (a1:Qa):Option Qa :=
  ((Qbr a1).bind fun x3=>((Qs a1.zA).bind fun x5=>((Qda (fun k12 ((i6,c7,c8,c9,out10,out11):Int×(List Int)×(List Int)×(List Qd)×(List Int)×(List Qd))=>(if (i6 < (x3.length:Int)) then ((((((getO x3 i6).bind fun x14=>((Q5 a1.zB x14).bind fun x17=>(if x17 then ((appO out10 [i6]).bind fun x19=>some x19) else some out10)))).bind fun (out21:List Int)=>Qda (fun k24 ((k22,out23):Int×(List Qd))=>(if (k22 < (a1.zA.length:Int)) then ((((getO x3 i6).bind fun x26=>((getO a1.zA k22).bind fun x28=>((Qz a1 x26 x28).bind fun x31=>(if (x31≥0) then ((getO a1.zA k22).bind fun x33=>((Qbs x3 x31).bind fun x36=>((appO out23 [(Qd.mk i6 x33 x36)]).bind fun x37=>some x37))) else some out23))))).bind fun (out39:List Qd)=>k24 ((IntKind.wrap .i64 (k22+1)),out39)) else some (out21,out23))) fuel (0,out11))).bind fun ((out40,out41):(List Int)×(List Qd))=>k12 ((IntKind.wrap .i64 (i6+1)),c7,c8,c9,out40,out41)) else some (c7,c8,c9,out10,out11))) fuel (0,[],[],[],[],[])).bind fun ((c42,c43,c44,out45,out46):(List Int)×(List Int)×(List Qd)×(List Int)×(List Qd))=>some (Qa.mk x5.zA (x3.length:Int) out45 out46))))
def Qho (P:Program) (c:Nat) (f:(List Int)→Qf→Option Qa):Prop:=∀ alphabet1 g2 r,f alphabet1 g2=some r→∀ M nb,ACalls P c [(l_ alphabet1),(Qds g2)] M nb (Qb r) M nb
def Qwk:List COp:=[oo 3 (.box 27) [.t 1],oo 4 (.alloc [.nils 1,.d (.int .i64 0),.nils 1,.nils 3]) []]
def Qwl:List COp:=[oF 9 0 3,oL 10 9,oo 11 (.bin .geq false) [.t 10,.c (.d (.int .u8 250))]]
def Qwm:List COp:=[oM 12 0,oo 13 (.call 17) [.t 12],⟨none,.store 4,[.t 4,.t 13],true,none⟩]
def Qwn:List COp:=[oM 14 0,oo 15 (.call 17) [.t 14],oo 5 (.alloc [.nils 1,.d (.int .i64 0),.nils 1,.nils 3]) [],⟨none,.store 4,[.t 5,.t 15],true,none⟩]
def Qwo:List COp:=[oF 16 0 3,oL 17 16,oo 18 (.bin .rem false) [.t 17,.c (.d (.int .u8 5))],oo 19 (.conv .i64) [.t 18],oo 20 (.bin .add false) [cI 1,.t 19],oF 21 1 5,⟨none,.store 1,[.t 21,.t 20],false,none⟩]
def Qwp:List COp:=[oo 6 .mov [cI 0]]
def Qwq:List COp:=[oM 22 6,oF 23 1 5,oL 24 23,oo 25 (.bin .lss false) [.t 22,.t 24]]
def Qwr:List COp:=[oF 28 1 3,oL 29 28,oM 30 6,oo 31 (.bin .shr false) [.t 29,.t 30],oo 32 (.bin .and false) [.t 31,.c (.d (.int .u8 1))],oo 33 (.bin .eql false) [.t 32,.c (.d (.int .u8 1))]]
def Qws:List COp:=[oF 34 2 5,oo 35 .loadT [.t 34],oM 36 6,oo 37 (.bslice 1 1 [.d (.int .i64 0)] [0]) [.t 36],ot 38 (.append 1 8) [.t 35,.t 37],oF 39 2 5,⟨none,.store 1,[.t 39,.t 38],true,none⟩]
def Qwt:List COp:=[oo 7 .mov [cI 0]]
def Qt8:List COp:=[oM 40 7,oM 41 0,oo 42 .len [.t 41],oo 43 (.bin .lss false) [.t 40,.t 42],oM 44 43,⟨some 45,.mov,[.t 7],false,some (44,true)⟩,⟨some 46,.bin .lss false,[.t 45,cI 5],false,some (44,true)⟩,oo 47 .pick [.t 44,.t 46,.c (.d (.bool false))]]
def Qt9:List COp:=[oM 50 6,oM 51 7,oF 52 2 3,oo 53 (.idxarr 5 5) [.t 52,.t 50],oo 54 (.idxarr 1 5) [.t 53,.t 51],oL 55 54,oo 56 (.conv .i64) [.t 55],oF 57 1 5,oL 58 57,oo 59 (.bin .add false) [.t 58,cI 2],oo 60 (.bin .rem false) [.t 56,.t 59],oM 8 60]
def Qua:List COp:=[oM 61 8,oF 62 1 5,oL 63 62,oo 64 (.bin .lss false) [.t 61,.t 63]]
def Qub:List COp:=[oF 65 3 5,oo 66 .loadT [.t 65],oM 67 6,oM 68 0,oM 69 7,oo 70 (.idx 1) [.t 68,.t 69],oL 71 70,oM 72 8,oo 73 (.build [.d (.int .i64 0),.d (.int .i64 0),.d (.int .i64 0)] [(0,1),(1,1),(2,1)]) [.t 67,.t 71,.t 72],oo 74 (.bslice 3 1 [.d (.int .i64 0),.d (.int .i64 0),.d (.int .i64 0)] [0]) [.t 73],ot 75 (.append 3 24) [.t 66,.t 74],oF 76 3 5,⟨none,.store 1,[.t 76,.t 75],true,none⟩]
def Quc:List COp:=[oM 48 7,oo 49 (.bin .add false) [.t 48,cI 1],oM 7 49]
def Qud:List COp:=[oM 26 6,oo 27 (.bin .add false) [.t 26,cI 1],oM 6 27]
def Que:List COp:=[oo 77 (.load true 4) [.t 5],oo 78 (.call 18) [.t 77],⟨none,.store 4,[.t 4,.t 78],true,none⟩]
def Qhp:CFn:=⟨2,79,[.cell 4 true 4],.seq (.region Qwk 9 []) (.seq (.seq (.region Qwl 9 []) (.cond (.t 11) (.seq (.region Qwm 9 []) (.ret)) (.skip))) (.seq (.region Qwn 9 []) (.seq (.region Qwo 9 []) (.seq (.seq (.region Qwp 9 []) (.block 0 (.loop [37,74] (.seq (.seq (.region Qwq 9 []) (.cond (.t 25) (.skip) (.exit 0))) (.seq (.block 1 (.seq (.seq (.region Qwr 9 []) (.cond (.t 33) (.region Qws 9 []) (.skip))) (.seq (.region Qwt 9 []) (.block 2 (.loop [74] (.seq (.seq (.region Qt8 9 []) (.cond (.t 47) (.skip) (.exit 2))) (.seq (.block 3 (.seq (.region Qt9 0 []) (.seq (.region Qua 9 []) (.cond (.t 64) (.region Qub 0 []) (.skip))))) (.region Quc 9 [])))))))) (.region Qud 9 [])))))) (.seq (.region Que 9 []) (.ret))))))⟩
def Qb1 (Qs:(List Int)→Option Qa) (Qbb:Qa→Option Qa) (fuel:Nat) (alphabet1:(List Int)) (g2:Qf):Option Qa :=
  (if (g2.zD≥250) then ((Qs alphabet1).bind fun x5=>some (Qa.mk x5.zA x5.zD [] [])) else ((Qs alphabet1).bind fun x7=>((Qda (fun k15 ((i8,c9,c10,c11,a12,a13,a14):Int×(List Int)×(List Int)×(List Qd)×Int×(List Int)×(List Qd))=>(if (i8 < a12) then ((((((shrO .u8 g2.Marks i8).bind fun s17=>(if ((andI .u8 s17 1) == 1) then ((appO a13 [i8]).bind fun x20=>some x20) else some a13))).bind fun (a22:List Int)=>Qda (fun k25 ((k23,a24):Int×(List Qd))=>(((if (k23 < (alphabet1.length:Int)) then some (decide (k23 < 5)) else some false)).bind fun (x27:Bool)=>(if x27 then ((((inO 5 i8).bind fun _=>((inO 5 k23).bind fun _=>((rowO [g2.To.1.1,g2.To.1.2.1,g2.To.1.2.2.1,g2.To.1.2.2.2.1,g2.To.1.2.2.2.2,g2.To.2.1.1,g2.To.2.1.2.1,g2.To.2.1.2.2.1,g2.To.2.1.2.2.2.1,g2.To.2.1.2.2.2.2,g2.To.2.2.1.1,g2.To.2.2.1.2.1,g2.To.2.2.1.2.2.1,g2.To.2.2.1.2.2.2.1,g2.To.2.2.1.2.2.2.2,g2.To.2.2.2.1.1,g2.To.2.2.2.1.2.1,g2.To.2.2.2.1.2.2.1,g2.To.2.2.2.1.2.2.2.1,g2.To.2.2.2.1.2.2.2.2,g2.To.2.2.2.2.1,g2.To.2.2.2.2.2.1,g2.To.2.2.2.2.2.2.1,g2.To.2.2.2.2.2.2.2.1,g2.To.2.2.2.2.2.2.2.2] (Int.toNat i8 * 5+Int.toNat k23 * 1)).bind fun x31=>((remO .i64 (IntKind.wrap .i64 x31) (IntKind.wrap .i64 (a12+2))).bind fun s33=>(if (s33 < a12) then ((getO alphabet1 k23).bind fun x36=>((appO a24 [(Qd.mk i8 x36 s33)]).bind fun x38=>some x38)) else some a24)))))).bind fun (a40:List Qd)=>k25 ((IntKind.wrap .i64 (k23+1)),a40)) else some (a22,a24)))) fuel (0,a14))).bind fun ((a41,a42):(List Int)×(List Qd))=>k15 ((IntKind.wrap .i64 (i8+1)),c9,c10,c11,a12,a41,a42)) else some (c9,c10,c11,a12,a13,a14))) fuel (0,[],[],[],(IntKind.wrap .i64 (1+(IntKind.wrap .i64 (Int.tmod g2.zD 5)))),[],[])).bind fun ((c43,c44,c45,a46,a47,a48):(List Int)×(List Int)×(List Qd)×Int×(List Int)×(List Qd))=>((Qbb (Qa.mk x7.zA a46 a47 a48)).bind fun x50=>some x50))))
def Qgh (P:Program) (c:Nat) (f:Qa→Option (Bool×Int)):Prop:=∀ a1 r,f a1=some r→∀ M nb,ACalls P c [(Qb a1)] M nb (.tup [(b_ r.1),(i_ r.2)]) M nb
def Qq5:List COp:=[oo 1 (.box 4) [.t 0],oo 2 .mov [.c (.d (.bool false))],oo 3 .mov [cI 0]]
def Qq6:List COp:=[oo 5 (.load true 4) [.t 1],oo 6 (.call 19) [.t 5],oM 4 6]
def Qq7:List COp:=[oM 7 4,oo 8 (.bin .neq false) [.t 7,cI 0]]
def Qq8:List COp:=[oM 9 4,oo 2 .mov [.c (.d (.bool false))],oM 3 9]
def Qq9:List COp:=[oF 10 2 1,oL 11 10,oo 12 .len [.t 11],oF 13 1 1,oL 14 13,oo 15 (.bin .eql false) [.t 12,.t 14],oM 2 15,oo 3 .mov [cI 0]]
def Qgi:CFn:=⟨1,16,[.t 2,.t 3],.seq (.region Qq5 9 []) (.seq (.seq (.region Qq6 9 []) (.seq (.region Qq7 9 []) (.cond (.t 8) (.seq (.region Qq8 9 []) (.ret)) (.skip)))) (.seq (.region Qq9 9 []) (.ret)))⟩
def Qbg (Qt:Qa→Option Int) (a1:Qa):Option (Bool×Int) :=
  ((Qt a1).bind fun x3=>(if (x3 != 0) then some (false,x3) else some (((a1.zB.length:Int) == a1.zD),0)))
def Qnb (P:Program) (c:Nat) (f:(List Qa)→Option Int):Prop:=∀ l1 r,f l1=some r→∀ M nb,ACalls P c [(Qe l1)] M nb (i_ r) M nb
def Q51:List COp:=[oo 2 .mov [cI 0]]
def Q52:List COp:=[oM 6 0,oo 7 .len [.t 6],oo 8 (.bin .gtr false) [.t 7,cI 12]]
def Q53:List COp:=[oo 2 .mov [cI 3]]
def Q54:List COp:=[oM 9 0,oo 10 .len [.t 9],oo 11 .mov [cI 0]]
def Q55:List COp:=[oo 12 (.bin .lss false) [.t 11,.t 10]]
def Q56:List COp:=[oo 13 (.idx 4) [.t 9,.t 11],oo 14 (.load true 4) [.t 13],oo 4 (.alloc [.nils 1,.d (.int .i64 0),.nils 1,.nils 3]) [],⟨none,.store 4,[.t 4,.t 14],true,none⟩]
def Q57:List COp:=[oo 15 (.load true 4) [.t 4],oo 16 (.call 19) [.t 15],oM 5 16]
def Q58:List COp:=[oM 17 5,oo 18 (.bin .neq false) [.t 17,cI 0]]
def Q59:List COp:=[oM 19 5,oM 2 19]
def Q6a:List COp:=[oo 20 (.bin .add false) [.t 11,cI 1],oM 11 20]
def Q4l:List COp:=[oo 2 .mov [cI 0]]
def Qnc:CFn:=⟨1,21,[.t 2],.seq (.region Q51 9 []) (.seq (.seq (.region Q52 9 []) (.cond (.t 8) (.seq (.region Q53 9 []) (.ret)) (.skip))) (.seq (.seq (.region Q54 9 []) (.block 0 (.loop [4] (.seq (.region Q55 9 []) (.seq (.cond (.t 12) (.skip) (.exit 0)) (.seq (.block 1 (.seq (.region Q56 9 []) (.seq (.region Q57 9 []) (.seq (.region Q58 9 []) (.cond (.t 18) (.seq (.region Q59 9 []) (.ret)) (.skip)))))) (.region Q6a 9 []))))))) (.seq (.region Q4l 9 []) (.ret))))⟩
def Qdc (Qt:Qa→Option Int) (fuel:Nat) (l1:(List Qa)):Option Int :=
  (if ((l1.length:Int) > 12) then some 3 else Qda (fun k4 (x3:Int)=>(if (x3 < (l1.length:Int)) then ((getO l1 x3).bind fun x6=>((Qt x6).bind fun x9=>(if (x9 != 0) then some x9 else k4 (IntKind.wrap .i64 (x3+1))))) else some 0)) fuel 0)
def Qlb (P:Program) (c:Nat) (f:(List Qa)→Option ((List Int))):Prop:=∀ l1 r,f l1=some r→∀ M nb,ACalls P c [(Qe l1)] M nb (o_ r) M nb
def Q4m:List COp:=[ot 2 .mov [.c (.nils 1)]]
def Q4n:List COp:=[ot 3 .mov [.c (.nils 1)]]
def Q4o:List COp:=[oM 6 0,oo 7 .len [.t 6],oo 8 .mov [cI 0]]
def Q4p:List COp:=[oo 9 (.bin .lss false) [.t 8,.t 7]]
def Q4q:List COp:=[oo 10 (.idx 4) [.t 6,.t 8],oo 11 (.load true 4) [.t 10],oo 5 (.alloc [.nils 1,.d (.int .i64 0),.nils 1,.nils 3]) [],⟨none,.store 4,[.t 5,.t 11],true,none⟩]
def Q4r:List COp:=[oM 12 3,oF 13 0 5,oL 14 13,oo 15 (.call 27) [.t 12,.t 14],ot 3 .mov [.t 15]]
def Q4s:List COp:=[oo 16 (.bin .add false) [.t 8,cI 1],oM 8 16]
def Q4t:List COp:=[ot 17 .mov [.t 3],ot 2 .mov [.t 17]]
def Qlc:CFn:=⟨1,18,[.t 2],.seq (.region Q4m 9 []) (.seq (.region Q4n 9 []) (.seq (.seq (.region Q4o 9 []) (.block 0 (.loop [5] (.seq (.region Q4p 9 []) (.seq (.cond (.t 9) (.skip) (.exit 0)) (.seq (.block 1 (.seq (.region Q4q 9 []) (.region Q4r 9 []))) (.region Q4s 9 []))))))) (.seq (.region Q4t 9 []) (.ret))))⟩
def Qc1 (Qbm:(List Int)→(List Int)→Option ((List Int))) (fuel:Nat) (l1:(List Qa)):Option ((List Int)) :=
  ((Qda (fun k4 ((out2,x3):(List Int)×Int)=>(if (x3 < (l1.length:Int)) then ((getO l1 x3).bind fun x6=>((Qbm out2 x6.zA).bind fun x9=>k4 (x9,(IntKind.wrap .i64 (x3+1))))) else some out2)) fuel ([],0)).bind fun (out10:List Int)=>some out10)
def Qo2 (P:Program) (c:Nat) (f:(List Qa)→Option Q0):Prop:=∀ l1 r,f l1=some r→∀ M nb,ACalls P c [(Qe l1)] M nb (Q1 r) M nb
def Q65:List COp:=[oo 2 (.alloc [.nils 4,.nils 1,.nils 1]) []]
def Q66:List COp:=[oM 9 0,oM 10 0,oo 11 (.call 61) [.t 10],ot 12 (.build [.nils 4,.nils 1,.nils 1] [(0,1),(1,1)]) [.t 9,.t 11],oo 3 (.alloc [.nils 4,.nils 1,.nils 1]) [],⟨none,.store 3,[.t 3,.t 12],true,none⟩]
def Q67:List COp:=[oM 13 0,oo 14 .len [.t 13],oo 15 .mov [cI 0]]
def Q68:List COp:=[oo 16 (.bin .lss false) [.t 15,.t 14]]
def Q69:List COp:=[oo 17 (.idx 4) [.t 13,.t 15],oo 18 (.load true 4) [.t 17],oo 5 (.alloc [.nils 1,.d (.int .i64 0),.nils 1,.nils 3]) [],⟨none,.store 4,[.t 5,.t 18],true,none⟩]
def Q7a:List COp:=[oo 19 .mkmap [],oM 6 19]
def Q7b:List COp:=[oF 20 3 5,oL 21 20,oo 22 .len [.t 21],oo 23 .mov [cI 0]]
def Q7c:List COp:=[oo 24 (.bin .lss false) [.t 23,.t 22]]
def Q7d:List COp:=[oo 25 (.idx 3) [.t 21,.t 23],oo 26 (.load true 3) [.t 25],oo 8 (.alloc [.d (.int .i64 0),.d (.int .i64 0),.d (.int .i64 0)]) [],⟨none,.store 3,[.t 8,.t 26],false,none⟩]
def Q7e:List COp:=[oM 27 6,oF 28 0 8,oL 29 28,oF 30 1 8,oL 31 30,oo 32 (.build [.d (.int .i64 0),.d (.int .i64 0)] [(0,1),(1,1)]) [.t 29,.t 31],oF 33 2 8,oL 34 33,⟨none,.mapset (.st [.int .i64,.int .i64]),[.t 27,.t 32,.t 34],false,none⟩]
def Q6b:List COp:=[oo 35 (.bin .add false) [.t 23,cI 1],oM 23 35]
def Q6c:List COp:=[oF 36 2 3,oo 37 .loadT [.t 36],oM 38 6,oo 39 (.bslice 1 1 [.und] [0]) [.t 38],ot 40 (.append 1 8) [.t 37,.t 39],oF 41 2 3,⟨none,.store 1,[.t 41,.t 40],true,none⟩]
def Q6d:List COp:=[oo 42 (.bin .add false) [.t 15,cI 1],oM 15 42]
def Q6e:List COp:=[oo 43 (.load true 3) [.t 3],⟨none,.store 3,[.t 2,.t 43],true,none⟩]
def Qo3:CFn:=⟨1,44,[.cell 2 true 3],.seq (.region Q65 9 []) (.seq (.region Q66 9 []) (.seq (.seq (.region Q67 9 []) (.block 0 (.loop [5,19,8,39] (.seq (.region Q68 9 []) (.seq (.cond (.t 16) (.skip) (.exit 0)) (.seq (.block 1 (.seq (.region Q69 9 []) (.seq (.region Q7a 9 []) (.seq (.seq (.region Q7b 9 []) (.block 2 (.loop [8] (.seq (.region Q7c 9 []) (.seq (.cond (.t 24) (.skip) (.exit 2)) (.seq (.block 3 (.seq (.region Q7d 9 []) (.region Q7e 9 []))) (.region Q6b 9 []))))))) (.region Q6c 9 []))))) (.region Q6d 9 []))))))) (.seq (.region Q6e 9 []) (.ret))))⟩
def Qdo (Qc1:(List Qa)→Option ((List Int))) (fuel:Nat) (l1:(List Qa)):Option Q0 :=
  ((Qc1 l1).bind fun x3=>((Qda (fun k9 ((x4,c5,c6,c7,m8):Int×(List Qa)×(List Int)×(List (List ((Int×Int)×Int)))×(List (List ((Int×Int)×Int))))=>(if (x4 < (l1.length:Int)) then ((((getO l1 x4).bind fun x11=>((Qda (fun k15 ((x13,c14):Int×(List ((Int×Int)×Int)))=>(if (x13 < (x11.zC.length:Int)) then ((getO x11.zC x13).bind fun x17=>k15 ((IntKind.wrap .i64 (x13+1)),(setM c14 (x17.From,x17.Event) x17.To))) else some c14)) fuel (0,[])).bind fun (c19:List ((Int×Int)×Int))=>((appO m8 [c19]).bind fun x20=>some (x20,x11.zA,x11.zD,x11.zB,x11.zC,c19))))).bind fun ((m22,a23,a24,a25,a26,c27):(List (List ((Int×Int)×Int)))×(List Int)×Int×(List Int)×(List Qd)×(List ((Int×Int)×Int)))=>k9 ((IntKind.wrap .i64 (x4+1)),c5,c6,c7,m22)) else some (c5,c6,c7,m8))) fuel (0,[],[],[],[])).bind fun ((c28,c29,c30,m31):(List Qa)×(List Int)×(List (List ((Int×Int)×Int)))×(List (List ((Int×Int)×Int))))=>some (Q0.mk l1 x3 m31)))
def Qe9 (P:Program) (c:Nat) (f:Q0→Option ((List Int)×Bool)):Prop:=∀ m1 r,f m1=some r→∀ M nb,ACalls P c [(Q1 m1)] M nb (.tup [(l_ r.1),(b_ r.2)]) M nb
def Qnd:List COp:=[oo 1 (.box 3) [.t 0],ot 2 .mov [.c (.nils 1)],oo 3 .mov [.c (.d (.bool false))]]
def Qne:List COp:=[oF 6 0 1,oL 7 6,oo 8 .len [.t 7],oo 9 .mov [cI 0]]
def Qnf:List COp:=[oo 10 (.bin .lss false) [.t 9,.t 8]]
def Qng:List COp:=[oo 11 (.idx 4) [.t 7,.t 9],oo 12 (.load true 4) [.t 11],oo 5 (.alloc [.nils 1,.d (.int .i64 0),.nils 1,.nils 3]) [],⟨none,.store 4,[.t 5,.t 12],true,none⟩]
def Qnh:List COp:=[oF 13 1 5,oL 14 13,oo 15 (.bin .eql false) [.t 14,cI 0]]
def Qni:List COp:=[ot 2 .mov [.c (.nils 1)],oo 3 .mov [.c (.d (.bool false))]]
def Qnj:List COp:=[oo 16 (.bin .add false) [.t 9,cI 1],oM 9 16]
def Qnk:List COp:=[oF 17 0 1,oL 18 17,oo 19 .len [.t 18],oo 20 (.makes 1 8 [.d (.int .i64 0)]) [.t 19,.t 19],ot 2 .mov [.t 20],oo 3 .mov [.c (.d (.bool true))]]
def Qfa:CFn:=⟨1,21,[.t 2,.t 3],.seq (.region Qnd 9 []) (.seq (.seq (.region Qne 9 []) (.block 0 (.loop [5] (.seq (.region Qnf 9 []) (.seq (.cond (.t 10) (.skip) (.exit 0)) (.seq (.block 1 (.seq (.region Qng 9 []) (.seq (.region Qnh 9 []) (.cond (.t 15) (.seq (.region Qni 9 []) (.ret)) (.skip))))) (.region Qnj 9 []))))))) (.seq (.region Qnk 9 []) (.ret)))⟩
def Qbc (fuel:Nat) (m1:Q0):Option ((List Int)×Bool) :=
  Qda (fun k3 (x2:Int)=>(if (x2 < (m1.list_.length:Int)) then ((getO m1.list_ x2).bind fun x5=>(if (x5.zD == 0) then some ([],false) else k3 (IntKind.wrap .i64 (x2+1)))) else ((mkO (m1.list_.length:Int) 0).bind fun x8=>((lenO x8 (Int.toNat (m1.list_.length:Int))).bind fun _=>some (x8,true))))) fuel 0
def K_product_key (P:Program) (c:Nat) (f:(List Int)→Option ByteArray):Prop:=∀ tuple1 r,f tuple1=some r→∀ M nb,ACalls P c [(l_ tuple1)] M nb (.d (.str r)) M nb
def Qfo (P:Program) (c:Nat) (f:Q0→(List Int)→Option Bool):Prop:=∀ m1 tuple2 r,f m1 tuple2=some r→∀ M nb,ACalls P c [(Q1 m1),(l_ tuple2)] M nb (b_ r) M nb
def Qnx:List COp:=[oo 2 (.box 3) [.t 0],oo 4 .mov [.c (.d (.bool false))]]
def Qny:List COp:=[oF 7 0 2,oL 8 7,oo 9 .len [.t 8],oo 10 .mov [cI 0]]
def Qnz:List COp:=[oo 11 (.bin .lss false) [.t 10,.t 9]]
def Qn0:List COp:=[oM 12 10,oo 13 (.idx 4) [.t 8,.t 10],oo 14 (.load true 4) [.t 13],oo 6 (.alloc [.nils 1,.d (.int .i64 0),.nils 1,.nils 3]) [],oM 5 12,⟨none,.store 4,[.t 6,.t 14],true,none⟩]
def Qn1:List COp:=[oF 15 2 6,oL 16 15,oM 17 1,oM 18 5,oo 19 (.idx 1) [.t 17,.t 18],oL 20 19,oo 21 (.call 29) [.t 16,.t 20],oo 22 (.un .not) [.t 21]]
def Qn2:List COp:=[oo 4 .mov [.c (.d (.bool false))]]
def Qn3:List COp:=[oo 23 (.bin .add false) [.t 10,cI 1],oM 10 23]
def Qn4:List COp:=[oo 4 .mov [.c (.d (.bool true))]]
def Qfp:CFn:=⟨2,24,[.t 4],.seq (.region Qnx 9 []) (.seq (.seq (.region Qny 9 []) (.block 0 (.loop [6] (.seq (.region Qnz 9 []) (.seq (.cond (.t 11) (.skip) (.exit 0)) (.seq (.block 1 (.seq (.region Qn0 9 []) (.seq (.region Qn1 0 []) (.cond (.t 22) (.seq (.region Qn2 9 []) (.ret)) (.skip))))) (.region Qn3 9 []))))))) (.seq (.region Qn4 9 []) (.ret)))⟩
def Qbe (Qp:(List Int)→Int→Option Bool) (fuel:Nat) (m1:Q0) (tuple2:(List Int)):Option Bool :=
  Qda (fun k4 (x3:Int)=>(if (x3 < (m1.list_.length:Int)) then ((getO m1.list_ x3).bind fun x6=>((getO tuple2 x3).bind fun x8=>((Qp x6.zB x8).bind fun x11=>(if x11 then k4 (IntKind.wrap .i64 (x3+1)) else some false)))) else some true)) fuel 0
def Qgj (P:Program) (c:Nat) (f:Q0→(List Int)→Int→Option ((List Int)×Bool)):Prop:=∀ m1 tuple2 event3 r,f m1 tuple2 event3=some r→∀ M nb,ACalls P c [(Q1 m1),(l_ tuple2),(i_ event3)] M nb (.tup [(l_ r.1),(b_ r.2)]) M nb
def Qra:List COp:=[oo 3 (.box 3) [.t 0],ot 6 .mov [.c (.nils 1)],oo 7 .mov [.c (.d (.bool false))]]
def Qrb:List COp:=[oM 13 1,oo 14 (.call 49) [.t 13],ot 8 .mov [.t 14]]
def Qrc:List COp:=[oF 15 0 3,oL 16 15,oo 17 .len [.t 16],oo 18 .mov [cI 0]]
def Qrd:List COp:=[oo 19 (.bin .lss false) [.t 18,.t 17]]
def Qre:List COp:=[oM 20 18,oo 21 (.idx 4) [.t 16,.t 18],oo 22 (.load true 4) [.t 21],oo 10 (.alloc [.nils 1,.d (.int .i64 0),.nils 1,.nils 3]) [],oM 9 20,⟨none,.store 4,[.t 10,.t 22],true,none⟩]
def Qrf:List COp:=[oF 23 0 10,oL 24 23,oM 25 2,oo 26 (.call 29) [.t 24,.t 25],oo 27 (.un .not) [.t 26]]
def Qrg:List COp:=[oF 29 2 3,oL 30 29,oM 31 9,oo 32 (.idx 1) [.t 30,.t 31],oL 33 32,oM 34 1,oM 35 9,oo 36 (.idx 1) [.t 34,.t 35],oL 37 36,oM 38 2,oo 39 (.build [.d (.int .i64 0),.d (.int .i64 0)] [(0,1),(1,1)]) [.t 37,.t 38],oo 40 (.lookup (.st [.int .i64,.int .i64]) true (.d (.int .i64 0))) [.t 33,.t 39],oM 28 40,oo 41 (.extract 0) [.t 28],oo 42 (.extract 1) [.t 28],oM 11 41,oM 12 42]
def Qrh:List COp:=[oM 43 12,oo 44 (.un .not) [.t 43]]
def Qri:List COp:=[ot 6 .mov [.c (.nils 1)],oo 7 .mov [.c (.d (.bool false))]]
def Qrj:List COp:=[oM 45 8,oM 46 9,oM 47 11,oo 48 (.idx 1) [.t 45,.t 46],⟨none,.store 1,[.t 48,.t 47],false,none⟩]
def Qo4:List COp:=[oo 49 (.bin .add false) [.t 18,cI 1],oM 18 49]
def Qo5:List COp:=[ot 50 .mov [.t 8],ot 6 .mov [.t 50],oo 7 .mov [.c (.d (.bool true))]]
def Qgk:CFn:=⟨3,51,[.t 6,.t 7],.seq (.region Qra 9 []) (.seq (.region Qrb 9 []) (.seq (.seq (.region Qrc 9 []) (.block 0 (.loop [10] (.seq (.region Qrd 9 []) (.seq (.cond (.t 19) (.skip) (.exit 0)) (.seq (.block 1 (.seq (.region Qre 9 []) (.seq (.seq (.region Qrf 9 []) (.cond (.t 27) (.exit 1) (.skip))) (.seq (.region Qrg 0 []) (.seq (.seq (.region Qrh 9 []) (.cond (.t 44) (.seq (.region Qri 9 []) (.ret)) (.skip))) (.region Qrj 9 [])))))) (.region Qo4 9 []))))))) (.seq (.region Qo5 9 []) (.ret))))⟩
def Qbo (Qp:(List Int)→Int→Option Bool) (Q8:(List Int)→Option ((List Int))) (fuel:Nat) (m1:Q0) (tuple2:(List Int)) (event3:Int):Option ((List Int)×Bool) :=
  ((Q8 tuple2).bind fun x5=>((neO x5).bind fun _=>Qda (fun k12 ((x10,next11):Int×(List Int))=>(if (x10 < (m1.list_.length:Int)) then letJ (fun ((next28,a29,a30,a31,a32):(List Int)×(List Int)×Int×(List Int)×(List Qd))=>k12 ((IntKind.wrap .i64 (x10+1)),next28)) fun J33=>((getO m1.list_ x10).bind fun x14=>((Qp x14.zA event3).bind fun x17=>(if x17 then ((getO m1.edges_ x10).bind fun x19=>((getO tuple2 x10).bind fun x21=>(if (hasM x19 (x21,event3)) then ((inO x5.length x10).bind fun u24=>((setO next11 x10 (getM x19 (x21,event3) 0)).bind fun next26=>J33 (next26,x14.zA,x14.zD,x14.zB,x14.zC))) else some ([],false)))) else J33 (next11,x14.zA,x14.zD,x14.zB,x14.zC)))) else ((lenO next11 x5.length).bind fun _=>some (next11,true)))) fuel (0,x5)))
def Qg8 (P:Program) (c:Nat) (f:(List Qa)→Option (Qa×(List (List Int))×Int)):Prop:=∀ l1 r,f l1=some r→∀ M nb,ACalls P c [(Qe l1)] M nb (.tup [(Qb r.1),.own 1 (List.map (eL 1 (eI .i64)) r.2.1),(i_ r.2.2)]) M nb
def Quf:List COp:=[oo 2 (.alloc [.nils 1,.d (.int .i64 0),.nils 1,.nils 3]) [],ot 3 .mov [.c (.nils 1)],oo 4 .mov [cI 0]]
def Qug:List COp:=[oM 17 0,oo 18 (.call 42) [.t 17],oM 5 18]
def Quh:List COp:=[oM 19 5,oo 20 (.bin .neq false) [.t 19,cI 0]]
def Qui:List COp:=[oo 21 (.build [.nils 1,.d (.int .i64 0),.nils 1,.nils 3] []) [],oM 22 5,⟨none,.store 4,[.t 2,.t 21],true,none⟩,ot 3 .mov [.c (.nils 1)],oM 4 22]
def Quj:List COp:=[oM 23 0,oo 24 (.call 43) [.t 23],oo 6 (.alloc [.nils 4,.nils 1,.nils 1]) [],⟨none,.store 3,[.t 6,.t 24],true,none⟩]
def Quk:List COp:=[oF 25 1 6,oL 26 25,oF 27 0 2,⟨none,.store 1,[.t 27,.t 26],true,none⟩]
def Qul:List COp:=[oo 29 (.load true 3) [.t 6],oo 30 (.call 44) [.t 29],oM 28 30,ot 31 (.extract 0) [.t 28],oo 32 (.extract 1) [.t 28],ot 7 .mov [.t 31],oM 8 32]
def Qum:List COp:=[oM 33 8,oo 34 (.un .not) [.t 33]]
def Qun:List COp:=[oo 35 (.load true 4) [.t 2],⟨none,.store 4,[.t 2,.t 35],true,none⟩,ot 3 .mov [.c (.nils 1)],oo 4 .mov [cI 0]]
def Quo:List COp:=[oM 36 7,oo 37 (.bslice 1 1 [.nils 1] [0]) [.t 36],ot 3 .mov [.t 37]]
def Qrk:List COp:=[oo 38 .mkmap [],oM 39 7,oo 40 (.call 45) [.t 39],⟨none,.mapset .str,[.t 38,.t 40,cI 0],false,none⟩,oM 41 38,oM 9 41]
def Qrl:List COp:=[oo 10 .mov [cI 0]]
def Qrm:List COp:=[oM 42 10,oM 43 3,oo 44 .len [.t 43],oo 45 (.bin .lss false) [.t 42,.t 44]]
def Qrn:List COp:=[oo 48 (.load true 3) [.t 6],oM 49 3,oM 50 10,oo 51 (.idx 1) [.t 49,.t 50],oL 52 51,oo 53 (.call 46) [.t 48,.t 52]]
def Qro:List COp:=[oF 54 2 2,oo 55 .loadT [.t 54],oM 56 10,oo 57 (.bslice 1 1 [.d (.int .i64 0)] [0]) [.t 56],ot 58 (.append 1 8) [.t 55,.t 57],oF 59 2 2,⟨none,.store 1,[.t 59,.t 58],true,none⟩]
def Qrp:List COp:=[oF 60 1 6,oL 61 60,oo 62 .len [.t 61],oo 63 .mov [cI 0]]
def Qrq:List COp:=[oo 64 (.bin .lss false) [.t 63,.t 62]]
def Qrr:List COp:=[oo 65 (.idx 1) [.t 61,.t 63],oL 66 65,oM 12 66]
def Qrs:List COp:=[oo 68 (.load true 3) [.t 6],oM 69 3,oM 70 10,oo 71 (.idx 1) [.t 69,.t 70],oL 72 71,oM 73 12,oo 74 (.call 47) [.t 68,.t 72,.t 73],oM 67 74,ot 75 (.extract 0) [.t 67],oo 76 (.extract 1) [.t 67],ot 13 .mov [.t 75],oM 14 76]
def Qrt:List COp:=[oM 77 14,oo 78 (.un .not) [.t 77]]
def Qru:List COp:=[oM 80 9,oM 81 13,oo 82 (.call 45) [.t 81],oo 83 (.lookup .str true (.d (.int .i64 0))) [.t 80,.t 82],oM 79 83,oo 84 (.extract 0) [.t 79],oo 85 (.extract 1) [.t 79],oM 15 84,oM 16 85]
def Qrv:List COp:=[oM 86 16,oo 87 (.un .not) [.t 86]]
def Qrw:List COp:=[oM 88 3,oo 89 .len [.t 88],oo 90 (.bin .eql false) [.t 89,cI 4096]]
def Qrx:List COp:=[oo 91 (.build [.nils 1,.d (.int .i64 0),.nils 1,.nils 3] []) [],⟨none,.store 4,[.t 2,.t 91],true,none⟩,ot 3 .mov [.c (.nils 1)],oo 4 .mov [cI 3]]
def Qry:List COp:=[oM 92 3,oo 93 .len [.t 92],oM 15 93]
def Qrz:List COp:=[oM 94 9,oM 95 13,oo 96 (.call 45) [.t 95],oM 97 15,⟨none,.mapset .str,[.t 94,.t 96,.t 97],false,none⟩]
def Qr0:List COp:=[ot 98 .mov [.t 3],oM 99 13,oo 100 (.bslice 1 1 [.nils 1] [0]) [.t 99],ot 101 (.append 1 24) [.t 98,.t 100],ot 3 .mov [.t 101]]
def Qr1:List COp:=[oF 102 3 2,oo 103 .loadT [.t 102],oM 104 10,oM 105 12,oM 106 15,oo 107 (.build [.d (.int .i64 0),.d (.int .i64 0),.d (.int .i64 0)] [(0,1),(1,1),(2,1)]) [.t 104,.t 105,.t 106],oo 108 (.bslice 3 1 [.d (.int .i64 0),.d (.int .i64 0),.d (.int .i64 0)] [0]) [.t 107],ot 109 (.append 3 24) [.t 103,.t 108],oF 110 3 2,⟨none,.store 1,[.t 110,.t 109],true,none⟩]
def Qr2:List COp:=[oo 111 (.bin .add false) [.t 63,cI 1],oM 63 111]
def Qr3:List COp:=[oM 46 10,oo 47 (.bin .add false) [.t 46,cI 1],oM 10 47]
def Qr4:List COp:=[oM 112 3,oo 113 .len [.t 112],oF 114 1 2,⟨none,.store 1,[.t 114,.t 113],false,none⟩]
def Qr5:List COp:=[oo 115 (.load true 4) [.t 2],ot 116 .mov [.t 3],⟨none,.store 4,[.t 2,.t 115],true,none⟩,ot 3 .mov [.t 116],oo 4 .mov [cI 0]]
def Qg9:CFn:=⟨1,117,[.cell 2 true 4,.t 3,.t 4],.seq (.region Quf 9 []) (.seq (.seq (.region Qug 9 []) (.seq (.region Quh 9 []) (.cond (.t 20) (.seq (.region Qui 9 []) (.ret)) (.skip)))) (.seq (.region Quj 9 []) (.seq (.region Quk 9 []) (.seq (.region Qul 9 []) (.seq (.seq (.region Qum 9 []) (.cond (.t 34) (.seq (.region Qun 9 []) (.ret)) (.skip))) (.seq (.region Quo 9 []) (.seq (.region Qrk 9 []) (.seq (.seq (.region Qrl 9 []) (.block 0 (.loop [57,100,108] (.seq (.seq (.region Qrm 9 []) (.cond (.t 45) (.skip) (.exit 0))) (.seq (.block 1 (.seq (.seq (.region Qrn 0 []) (.cond (.t 53) (.region Qro 9 []) (.skip))) (.seq (.region Qrp 9 []) (.block 2 (.loop [100,108] (.seq (.region Qrq 9 []) (.seq (.cond (.t 64) (.skip) (.exit 2)) (.seq (.block 3 (.seq (.region Qrr 9 []) (.seq (.region Qrs 0 []) (.seq (.seq (.region Qrt 9 []) (.cond (.t 78) (.exit 3) (.skip))) (.seq (.region Qru 9 []) (.seq (.seq (.region Qrv 9 []) (.cond (.t 87) (.seq (.seq (.region Qrw 9 []) (.cond (.t 90) (.seq (.region Qrx 9 []) (.ret)) (.skip))) (.seq (.region Qry 9 []) (.seq (.region Qrz 9 []) (.region Qr0 9 [])))) (.skip))) (.region Qr1 9 []))))))) (.region Qr2 9 []))))))))) (.region Qr3 9 [])))))) (.seq (.region Qr4 9 []) (.seq (.region Qr5 9 []) (.ret)))))))))))⟩
def Qbk (Qdc:(List Qa)→Option Int) (Qdo:(List Qa)→Option Q0) (Qbc:Q0→Option ((List Int)×Bool)) (f_product_key:(List Int)→Option ByteArray) (Qbe:Q0→(List Int)→Option Bool) (Qbo:Q0→(List Int)→Int→Option ((List Int)×Bool)) (fuel:Nat) (l1:(List Qa)):Option (Qa×(List (List Int))×Int) :=
  ((Qdc l1).bind fun x3=>(if (x3 != 0) then some ((Qa.mk [] 0 [] []),[],x3) else ((Qdo l1).bind fun x6=>((Qbc x6).bind fun (r8,r9)=>(if r9 then ((f_product_key r8).bind fun x12=>Qda (fun k18 ((tuples13,i14,a15,a16,c17):(List (List Int))×Int×(List Int)×(List Qd)×(List (ByteArray×Int)))=>(if (i14 < (tuples13.length:Int)) then ((((getO tuples13 i14).bind fun x20=>((Qbe x6 x20).bind fun x23=>(if x23 then ((appO a15 [i14]).bind fun x25=>some x25) else some a15)))).bind fun (a27:List Int)=>Qda (fun k32 ((tuples28,x29,a30,c31):(List (List Int))×Int×(List Qd)×(List (ByteArray×Int)))=>(if (x29 < (x6.events_.length:Int)) then letJ (fun ((tuples56,a57,c58):(List (List Int))×(List Qd)×(List (ByteArray×Int)))=>k32 (tuples56,(IntKind.wrap .i64 (x29+1)),a57,c58)) fun J59=>((getO x6.events_ x29).bind fun x34=>((getO tuples28 i14).bind fun x36=>((Qbo x6 x36 x34).bind fun (r39,r40)=>(if r40 then ((f_product_key r39).bind fun x43=>letJ (fun ((tuples50,to51,c52):(List (List Int))×Int×(List (ByteArray×Int)))=>((appO a30 [(Qd.mk i14 x34 to51)]).bind fun x53=>J59 (tuples50,x53,c52))) fun J55=>(if (hasM c31 x43) then J55 (tuples28,(getM c31 x43 0),c31) else (if ((tuples28.length:Int) == 4096) then some ((Qa.mk [] 0 [] []),[],3) else ((f_product_key r39).bind fun x47=>((appO tuples28 [r39]).bind fun x48=>J55 (x48,(tuples28.length:Int),(setM c31 x47 (tuples28.length:Int)))))))) else J59 (tuples28,a30,c31))))) else k18 (tuples28,(IntKind.wrap .i64 (i14+1)),a27,a30,c31))) fuel (tuples13,0,a16,c17)) else some ((Qa.mk x6.events_ (tuples13.length:Int) a15 a16),tuples13,0))) fuel ([r8],0,[],[],(setM ([]:List (ByteArray×Int)) x12 0))) else some ((Qa.mk x6.events_ 0 [] []),[],0))))))
def Qhb (P:Program) (c:Nat) (f:(List Qa)→Option (Qa×Int)):Prop:=∀ l1 r,f l1=some r→∀ M nb,ACalls P c [(Qe l1)] M nb (.tup [(Qb r.1),(i_ r.2)]) M nb
def Q20:List COp:=[oo 2 (.alloc [.nils 1,.d (.int .i64 0),.nils 1,.nils 3]) [],oo 3 .mov [cI 0]]
def Q21:List COp:=[oM 8 0,oo 9 (.call 20) [.t 8],oM 7 9,oo 10 (.extract 0) [.t 7],ot 11 (.extract 1) [.t 7],oo 12 (.extract 2) [.t 7],oo 4 (.alloc [.nils 1,.d (.int .i64 0),.nils 1,.nils 3]) [],⟨none,.store 4,[.t 4,.t 10],true,none⟩,ot 5 .mov [.t 11],oM 6 12]
def Q22:List COp:=[oo 13 (.load true 4) [.t 4],oM 14 6,⟨none,.store 4,[.t 2,.t 13],true,none⟩,oM 3 14]
def Qkk:CFn:=⟨1,15,[.cell 2 true 4,.t 3],.seq (.region Q20 9 []) (.seq (.region Q21 9 []) (.seq (.region Q22 9 []) (.ret)))⟩
def Qbf (Qbk:(List Qa)→Option (Qa×(List (List Int))×Int)) (l1:(List Qa)):Option (Qa×Int) :=
  ((Qbk l1).bind fun (r3,r4,r5)=>some (r3,r5))
def Qfb (P:Program) (c:Nat) (f:(List Qa)→Option (Qa×Int)):Prop:=∀ l1 r,f l1=some r→∀ M nb,ACalls P c [(Qe l1)] M nb (.tup [(Qb r.1),(i_ r.2)]) M nb
def Qnl:List COp:=[oo 2 (.alloc [.nils 1,.d (.int .i64 0),.nils 1,.nils 3]) [],oo 3 .mov [cI 0]]
def Qnm:List COp:=[oM 4 0,oo 5 (.call 9) [.t 4],oo 6 (.extract 0) [.t 5],oo 7 (.extract 1) [.t 5],⟨none,.store 4,[.t 2,.t 6],true,none⟩,oM 3 7]
def Qfc:CFn:=⟨1,8,[.cell 2 true 4,.t 3],.seq (.region Qnl 9 []) (.seq (.region Qnm 9 []) (.ret))⟩
def Q3 (Qbf:(List Qa)→Option (Qa×Int)) (l1:(List Qa)):Option (Qa×Int) :=
  ((Qbf l1).bind fun (r3,r4)=>some (r3,r4))
def Qkl (P:Program) (c:Nat) (f:Qa→Qa→Option Bool):Prop:=∀ a1 b2 r,f a1 b2=some r→∀ M nb,ACalls P c [(Qb a1),(Qb b2)] M nb (b_ r) M nb
def Q23:List COp:=[oo 2 (.box 4) [.t 0],oo 3 (.box 4) [.t 1],oo 4 .mov [.c (.d (.bool false))]]
def Q24:List COp:=[oF 5 1 2,oL 6 5,oF 7 1 3,oL 8 7,oo 9 (.bin .eql false) [.t 6,.t 8],oM 10 9,⟨some 11,.fld 0,[.t 2],false,some (10,true)⟩,⟨some 12,.load false 1,[.t 11],false,some (10,true)⟩,⟨some 13,.fld 0,[.t 3],false,some (10,true)⟩,⟨some 14,.load false 1,[.t 13],false,some (10,true)⟩,⟨some 15,.call 15,[.t 12,.t 14],false,some (10,true)⟩,oo 16 .pick [.t 10,.t 15,.c (.d (.bool false))],oM 17 16,⟨some 18,.fld 2,[.t 2],false,some (17,true)⟩,⟨some 19,.load false 1,[.t 18],false,some (17,true)⟩,⟨some 20,.fld 2,[.t 3],false,some (17,true)⟩,⟨some 21,.load false 1,[.t 20],false,some (17,true)⟩,⟨some 22,.call 15,[.t 19,.t 21],false,some (17,true)⟩,oo 23 .pick [.t 17,.t 22,.c (.d (.bool false))],oM 24 23,⟨some 25,.fld 3,[.t 2],false,some (24,true)⟩,⟨some 26,.load false 1,[.t 25],false,some (24,true)⟩,⟨some 27,.fld 3,[.t 3],false,some (24,true)⟩,⟨some 28,.load false 1,[.t 27],false,some (24,true)⟩,⟨some 29,.call 16,[.t 26,.t 28],false,some (24,true)⟩,oo 30 .pick [.t 24,.t 29,.c (.d (.bool false))],oM 4 30]
def Qkm:CFn:=⟨2,31,[.t 4],.seq (.region Q23 9 []) (.seq (.region Q24 9 []) (.ret))⟩
def Qcq (Qy:(List Int)→(List Int)→Option Bool) (Q4:(List Qd)→(List Qd)→Option Bool) (a1:Qa) (b2:Qa):Option Bool :=
  (if (a1.zD == b2.zD) then ((Qy a1.zA b2.zA).bind fun x5=>(if x5 then ((Qy a1.zB b2.zB).bind fun x8=>(if x8 then ((Q4 a1.zC b2.zC).bind fun x11=>some x11) else some false)) else some false)) else some false)
def Qfd (P:Program) (c:Nat) (f:(Int×Int×Int)→(Qf×Qf×Qf)→Option Bool):Prop:=∀ s1 g2 r,f s1 g2=some r→∀ M nb,ACalls P c [.agg [.d (.int .u8 s1.1),.d (.int .u8 s1.2.1),.d (.int .u8 s1.2.2)],.agg [.d (.int .u8 g2.1.zD),.d (.int .u8 g2.1.Marks),.d (.int .u8 g2.1.To.1.1),.d (.int .u8 g2.1.To.1.2.1),.d (.int .u8 g2.1.To.1.2.2.1),.d (.int .u8 g2.1.To.1.2.2.2.1),.d (.int .u8 g2.1.To.1.2.2.2.2),.d (.int .u8 g2.1.To.2.1.1),.d (.int .u8 g2.1.To.2.1.2.1),.d (.int .u8 g2.1.To.2.1.2.2.1),.d (.int .u8 g2.1.To.2.1.2.2.2.1),.d (.int .u8 g2.1.To.2.1.2.2.2.2),.d (.int .u8 g2.1.To.2.2.1.1),.d (.int .u8 g2.1.To.2.2.1.2.1),.d (.int .u8 g2.1.To.2.2.1.2.2.1),.d (.int .u8 g2.1.To.2.2.1.2.2.2.1),.d (.int .u8 g2.1.To.2.2.1.2.2.2.2),.d (.int .u8 g2.1.To.2.2.2.1.1),.d (.int .u8 g2.1.To.2.2.2.1.2.1),.d (.int .u8 g2.1.To.2.2.2.1.2.2.1),.d (.int .u8 g2.1.To.2.2.2.1.2.2.2.1),.d (.int .u8 g2.1.To.2.2.2.1.2.2.2.2),.d (.int .u8 g2.1.To.2.2.2.2.1),.d (.int .u8 g2.1.To.2.2.2.2.2.1),.d (.int .u8 g2.1.To.2.2.2.2.2.2.1),.d (.int .u8 g2.1.To.2.2.2.2.2.2.2.1),.d (.int .u8 g2.1.To.2.2.2.2.2.2.2.2),.d (.int .u8 g2.2.1.zD),.d (.int .u8 g2.2.1.Marks),.d (.int .u8 g2.2.1.To.1.1),.d (.int .u8 g2.2.1.To.1.2.1),.d (.int .u8 g2.2.1.To.1.2.2.1),.d (.int .u8 g2.2.1.To.1.2.2.2.1),.d (.int .u8 g2.2.1.To.1.2.2.2.2),.d (.int .u8 g2.2.1.To.2.1.1),.d (.int .u8 g2.2.1.To.2.1.2.1),.d (.int .u8 g2.2.1.To.2.1.2.2.1),.d (.int .u8 g2.2.1.To.2.1.2.2.2.1),.d (.int .u8 g2.2.1.To.2.1.2.2.2.2),.d (.int .u8 g2.2.1.To.2.2.1.1),.d (.int .u8 g2.2.1.To.2.2.1.2.1),.d (.int .u8 g2.2.1.To.2.2.1.2.2.1),.d (.int .u8 g2.2.1.To.2.2.1.2.2.2.1),.d (.int .u8 g2.2.1.To.2.2.1.2.2.2.2),.d (.int .u8 g2.2.1.To.2.2.2.1.1),.d (.int .u8 g2.2.1.To.2.2.2.1.2.1),.d (.int .u8 g2.2.1.To.2.2.2.1.2.2.1),.d (.int .u8 g2.2.1.To.2.2.2.1.2.2.2.1),.d (.int .u8 g2.2.1.To.2.2.2.1.2.2.2.2),.d (.int .u8 g2.2.1.To.2.2.2.2.1),.d (.int .u8 g2.2.1.To.2.2.2.2.2.1),.d (.int .u8 g2.2.1.To.2.2.2.2.2.2.1),.d (.int .u8 g2.2.1.To.2.2.2.2.2.2.2.1),.d (.int .u8 g2.2.1.To.2.2.2.2.2.2.2.2),.d (.int .u8 g2.2.2.zD),.d (.int .u8 g2.2.2.Marks),.d (.int .u8 g2.2.2.To.1.1),.d (.int .u8 g2.2.2.To.1.2.1),.d (.int .u8 g2.2.2.To.1.2.2.1),.d (.int .u8 g2.2.2.To.1.2.2.2.1),.d (.int .u8 g2.2.2.To.1.2.2.2.2),.d (.int .u8 g2.2.2.To.2.1.1),.d (.int .u8 g2.2.2.To.2.1.2.1),.d (.int .u8 g2.2.2.To.2.1.2.2.1),.d (.int .u8 g2.2.2.To.2.1.2.2.2.1),.d (.int .u8 g2.2.2.To.2.1.2.2.2.2),.d (.int .u8 g2.2.2.To.2.2.1.1),.d (.int .u8 g2.2.2.To.2.2.1.2.1),.d (.int .u8 g2.2.2.To.2.2.1.2.2.1),.d (.int .u8 g2.2.2.To.2.2.1.2.2.2.1),.d (.int .u8 g2.2.2.To.2.2.1.2.2.2.2),.d (.int .u8 g2.2.2.To.2.2.2.1.1),.d (.int .u8 g2.2.2.To.2.2.2.1.2.1),.d (.int .u8 g2.2.2.To.2.2.2.1.2.2.1),.d (.int .u8 g2.2.2.To.2.2.2.1.2.2.2.1),.d (.int .u8 g2.2.2.To.2.2.2.1.2.2.2.2),.d (.int .u8 g2.2.2.To.2.2.2.2.1),.d (.int .u8 g2.2.2.To.2.2.2.2.2.1),.d (.int .u8 g2.2.2.To.2.2.2.2.2.2.1),.d (.int .u8 g2.2.2.To.2.2.2.2.2.2.2.1),.d (.int .u8 g2.2.2.To.2.2.2.2.2.2.2.2)]] M nb (b_ r) M nb
def Qir:List COp:=[oo 2 (.box 3) [.t 0],oo 3 (.box 81) [.t 1],oo 4 .mov [.c (.d (.bool false))]]
def Qis:List COp:=[oo 19 (.call 4) [],oo 20 (.un .not) [.t 19]]
def Qit:List COp:=[oo 4 .mov [.c (.d (.bool false))]]
def Qiu:List COp:=[ot 5 .mov [.c (.nils 4)]]
def Qiv:List COp:=[oo 6 .mov [.c (.d (.bool true))]]
def Qiw:List COp:=[oo 21 .mov [cI 0]]
def Qix:List COp:=[oo 22 (.bin .lss false) [.t 21,cI 3]]
def Qiy:List COp:=[oM 23 21,oM 7 23]
def Qiz:List COp:=[oM 24 7,oo 25 (.idxarr 1 3) [.t 2,.t 24],oL 26 25,oo 27 (.call 6) [.t 26],oM 28 7,oo 29 (.idxarr 27 3) [.t 3,.t 28],oo 30 (.load true 27) [.t 29],oo 31 (.call 5) [.t 27,.t 30],oo 8 (.alloc [.nils 1,.d (.int .i64 0),.nils 1,.nils 3]) [],⟨none,.store 4,[.t 8,.t 31],true,none⟩]
def Qi0:List COp:=[oo 33 (.load true 4) [.t 8],oo 34 (.call 7) [.t 33],oM 32 34,oo 35 (.extract 0) [.t 32],oo 36 (.extract 1) [.t 32],oM 9 35,oM 10 36]
def Qic:List COp:=[oM 37 10,oo 38 (.bin .neq false) [.t 37,cI 0],oM 39 38,⟨some 40,.mov,[.t 9],false,some (39,false)⟩,⟨some 41,.fld 2,[.t 8],false,some (39,false)⟩,⟨some 42,.load false 1,[.t 41],false,some (39,false)⟩,⟨some 43,.len,[.t 42],false,some (39,false)⟩,⟨some 44,.fld 1,[.t 8],false,some (39,false)⟩,⟨some 45,.load false 1,[.t 44],false,some (39,false)⟩,⟨some 46,.bin .eql false,[.t 43,.t 45],false,some (39,false)⟩,⟨some 47,.bin .neq true,[.t 40,.t 46],false,some (39,false)⟩,oo 48 .pick [.t 39,.c (.d (.bool true)),.t 47]]
def Qid:List COp:=[oo 4 .mov [.c (.d (.bool false))]]
def Qie:List COp:=[oM 49 6,oM 50 49,⟨some 51,.mov,[.t 9],false,some (50,true)⟩,oo 52 .pick [.t 50,.t 51,.c (.d (.bool false))],oM 6 52]
def Qif:List COp:=[ot 53 .mov [.t 5],oo 54 (.load true 4) [.t 8],oo 55 (.bslice 4 1 [.nils 1,.d (.int .i64 0),.nils 1,.nils 3] [0]) [.t 54],ot 56 (.append 4 80) [.t 53,.t 55],ot 5 .mov [.t 56]]
def Qig:List COp:=[oo 57 (.bin .add false) [.t 21,cI 1],oM 21 57]
def Qih:List COp:=[oM 59 5,oo 60 (.call 8) [.t 59],oM 58 60,oo 61 (.extract 0) [.t 58],oo 62 (.extract 1) [.t 58],oo 11 (.alloc [.nils 1,.d (.int .i64 0),.nils 1,.nils 3]) [],⟨none,.store 4,[.t 11,.t 61],true,none⟩,oM 12 62]
def Qii:List COp:=[oM 64 5,oo 65 (.call 9) [.t 64],oM 63 65,oo 66 (.extract 0) [.t 63],oo 67 (.extract 1) [.t 63],oo 13 (.alloc [.nils 1,.d (.int .i64 0),.nils 1,.nils 3]) [],⟨none,.store 4,[.t 13,.t 66],true,none⟩,oM 14 67]
def Qij:List COp:=[oo 69 (.call 8) [.c (.nils 4)],oM 68 69,oo 70 (.extract 0) [.t 68],oo 71 (.extract 1) [.t 68],oo 15 (.alloc [.nils 1,.d (.int .i64 0),.nils 1,.nils 3]) [],⟨none,.store 4,[.t 15,.t 70],true,none⟩,oM 16 71]
def Qik:List COp:=[oo 73 (.load true 4) [.t 11],oo 74 (.call 7) [.t 73],oM 72 74,oo 75 (.extract 0) [.t 72],oo 76 (.extract 1) [.t 72],oM 17 75,oM 18 76]
def Qil:List COp:=[oM 77 12,oo 78 (.bin .eql false) [.t 77,cI 0],oM 79 78,⟨some 80,.mov,[.t 14],false,some (79,true)⟩,⟨some 81,.bin .eql false,[.t 80,cI 0],false,some (79,true)⟩,oo 82 .pick [.t 79,.t 81,.c (.d (.bool false))],oM 83 82,⟨some 84,.load true 4,[.t 11],false,some (83,true)⟩,⟨some 85,.load true 4,[.t 13],false,some (83,true)⟩,⟨some 86,.call 10,[.t 84,.t 85],false,some (83,true)⟩,oo 87 .pick [.t 83,.t 86,.c (.d (.bool false))],oM 88 87,⟨some 89,.mov,[.t 16],false,some (88,true)⟩,⟨some 90,.bin .eql false,[.t 89,cI 0],false,some (88,true)⟩,oo 91 .pick [.t 88,.t 90,.c (.d (.bool false))],oM 92 91,⟨some 93,.fld 1,[.t 15],false,some (92,true)⟩,⟨some 94,.load false 1,[.t 93],false,some (92,true)⟩,⟨some 95,.bin .eql false,[.t 94,cI 1],false,some (92,true)⟩,oo 96 .pick [.t 92,.t 95,.c (.d (.bool false))],oM 97 96,⟨some 98,.fld 2,[.t 15],false,some (97,true)⟩,⟨some 99,.load false 1,[.t 98],false,some (97,true)⟩,⟨some 100,.len,[.t 99],false,some (97,true)⟩,⟨some 101,.bin .eql false,[.t 100,cI 1],false,some (97,true)⟩,oo 102 .pick [.t 97,.t 101,.c (.d (.bool false))],oM 103 102,⟨some 104,.mov,[.t 18],false,some (103,true)⟩,⟨some 105,.bin .eql false,[.t 104,cI 0],false,some (103,true)⟩,oo 106 .pick [.t 103,.t 105,.c (.d (.bool false))],oM 107 106,⟨some 108,.mov,[.t 6],false,some (107,true)⟩,⟨some 109,.un .not,[.t 108],false,some (107,true)⟩,⟨some 110,.mov,[.t 109],false,some (107,true)⟩,⟨some 111,.mov,[.t 17],false,some (110,false)⟩,⟨some 112,.pick,[.t 110,.c (.d (.bool true)),.t 111],false,some (107,true)⟩,oo 113 .pick [.t 107,.t 112,.c (.d (.bool false))],oM 4 113]
def Qdh:CFn:=⟨2,114,[.t 4],.seq (.region Qir 9 []) (.seq (.seq (.region Qis 9 []) (.cond (.t 20) (.seq (.region Qit 9 []) (.ret)) (.skip))) (.seq (.region Qiu 9 []) (.seq (.region Qiv 9 []) (.seq (.seq (.region Qiw 9 []) (.block 0 (.loop [8,55] (.seq (.region Qix 9 []) (.seq (.cond (.t 22) (.skip) (.exit 0)) (.seq (.block 1 (.seq (.region Qiy 9 []) (.seq (.region Qiz 2147483658 []) (.seq (.region Qi0 9 []) (.seq (.seq (.region Qic 9 []) (.cond (.t 48) (.seq (.region Qid 9 []) (.ret)) (.skip))) (.seq (.region Qie 9 []) (.region Qif 9 []))))))) (.region Qig 9 []))))))) (.seq (.region Qih 9 []) (.seq (.region Qii 9 []) (.seq (.region Qij 9 []) (.seq (.region Qik 9 []) (.seq (.region Qil 9 []) (.ret))))))))))⟩
def Qck (Qb9:Option Bool) (Qb1:(List Int)→Qf→Option Qa) (Qbh:Int→Option ((List Int))) (Qbg:Qa→Option (Bool×Int)) (Q3:(List Qa)→Option (Qa×Int)) (Qbf:(List Qa)→Option (Qa×Int)) (Qcq:Qa→Qa→Option Bool) (fuel:Nat) (s1:(Int×Int×Int)) (g2:(Qf×Qf×Qf)):Option Bool :=
  (Qb9.bind fun x4=>(if x4 then Qda (fun k9 ((l6,safe7,x8):(List Qa)×Bool×Int)=>(if (x8 < 3) then ((inO 3 x8).bind fun _=>((rowO [s1.1,s1.2.1,s1.2.2] (Int.toNat x8 * 1)).bind fun x12=>((Qbh x12).bind fun x15=>((inO 3 x8).bind fun _=>((getO [g2.1,g2.2.1,g2.2.2] x8).bind fun x17=>((Qb1 x15 x17).bind fun x20=>((Qbg x20).bind fun (r22,r23)=>(((if (r23 != 0) then some true else some (!(r22 == ((x20.zB.length:Int) == x20.zD))))).bind fun (x25:Bool)=>(if x25 then some false else (((if safe7 then some r22 else some false)).bind fun (safe28:Bool)=>((appO l6 [x20]).bind fun x29=>k9 (x29,safe28,(IntKind.wrap .i64 (x8+1)))))))))))))) else ((Q3 l6).bind fun (r32,r33)=>((Qbf l6).bind fun (r35,r36)=>((Q3 []).bind fun (r38,r39)=>((Qbg r32).bind fun (r41,r42)=>(((if (r33 == 0) then (if (r36 == 0) then ((Qcq r32 r35).bind fun x46=>(if x46 then (if (r39 == 0) then (if (r38.zD == 1) then (if ((r38.zB.length:Int) == 1) then (if (r42 == 0) then (if safe7 then some r41 else some true) else some false) else some false) else some false) else some false) else some false)) else some false) else some false)).bind fun (x53:Bool)=>some x53))))))) fuel ([],true,0) else some false))
end Go.Abs
