/-
  Part 4 of the proof: see the last text.
-/
import Derived.Test.YtdfiohnppomfgaaGreatP3
set_option linter.unusedVariables false
set_option linter.unusedSimpArgs false
set_option linter.unusedSectionVars false
namespace Go.Abs
open Go
set_option maxRecDepth 10000
set_option maxHeartbeats 4000000
def Qgl (P:Program) (c:Nat) (f:Option Qb):Prop:=∀ r,f = some r→∀ M nb,ACalls P c [] M nb (Qa r) M nb
def Qrw:List COp:=[oo 0 (.alloc [.nils 1,.d (.int .i64 0),.nils 1,.nils 3]) []]
def Qrx:List COp:=[oo 1 (.bslice 1 2 [.d (.int .i64 0)] [0,1]) [cI 0,cI 1],oo 2 (.bslice 1 1 [.d (.int .i64 0)] [0]) [cI 2],oo 3 (.build [.d (.int .i64 0),.d (.int .i64 0),.d (.int .i64 0)] [(0,1),(1,1),(2,1)]) [cI 0,cI 0,cI 1],oo 4 (.build [.d (.int .i64 0),.d (.int .i64 0),.d (.int .i64 0)] [(0,1),(1,1),(2,1)]) [cI 0,cI 1,cI 0],oo 5 (.build [.d (.int .i64 0),.d (.int .i64 0),.d (.int .i64 0)] [(0,1),(1,1),(2,1)]) [cI 1,cI 1,cI 2],oo 6 (.build [.d (.int .i64 0),.d (.int .i64 0),.d (.int .i64 0)] [(0,1),(1,1),(2,1)]) [cI 2,cI 0,cI 0],oo 7 (.bslice 3 4 [.d (.int .i64 0),.d (.int .i64 0),.d (.int .i64 0)] [0,1,2,3]) [.t 3,.t 4,.t 5,.t 6],ot 8 (.build [.nils 1,.d (.int .i64 0),.nils 1,.nils 3] [(0,1),(1,1),(2,1),(3,1)]) [.t 1,cI 3,.t 2,.t 7],⟨none,.store 4,[.t 0,.t 8],true,none⟩]
def Qgm:CFn:=⟨0,9,[.cell 0 true 4],.seq (.region Qrw 9 []) (.seq (.region Qrx 9 []) (.ret))⟩
def Qb7:Option Qb :=
  some (Qb.mk [0,1] 3 [2] [(Qe.mk 0 0 1),(Qe.mk 0 1 0),(Qe.mk 1 1 2),(Qe.mk 2 0 0)])
def Qig (P:Program) (c:Nat) (f:(List Int)→Int→Option Int):Prop:=∀ l1 n2 r,f l1 n2 = some r→∀ M nb,ACalls P c [(l_ l1),(i_ n2)] M nb (i_ r) M nb
def Qyt:List COp:=[oo 4 .mov [cI 0]]
def Qyu:List COp:=[oM 7 0,oo 8 .len [.t 7],oo 9 .mov [cI 0]]
def Qyv:List COp:=[oo 10 (.bin .lss false) [.t 9,.t 8]]
def Qyw:List COp:=[oM 11 9,oo 12 (.idx 1) [.t 7,.t 9],oL 13 12,oM 5 11,oM 6 13]
def Qyx:List COp:=[oM 15 6,oo 16 (.bin .lss false) [.t 15,cI 0],oM 17 16,⟨some 18,.mov,[.t 6],false,some (17,false)⟩,⟨some 19,.mov,[.t 1],false,some (17,false)⟩,⟨some 20,.bin .geq false,[.t 18,.t 19],false,some (17,false)⟩,oo 21 .pick [.t 17,.c (.d (.bool true)),.t 20],oM 14 21]
def Qyy:List COp:=[oo 4 .mov [cI 2]]
def Qyz:List COp:=[oM 23 5,oo 24 (.bin .gtr false) [.t 23,cI 0],oM 25 24,⟨some 26,.mov,[.t 6],false,some (25,true)⟩,⟨some 27,.mov,[.t 0],false,some (25,true)⟩,⟨some 28,.mov,[.t 5],false,some (25,true)⟩,⟨some 29,.bin .sub false,[.t 28,cI 1],false,some (25,true)⟩,⟨some 30,.idx 1,[.t 27,.t 29],false,some (25,true)⟩,⟨some 31,.load false 1,[.t 30],false,some (25,true)⟩,⟨some 32,.bin .leq false,[.t 26,.t 31],false,some (25,true)⟩,oo 33 .pick [.t 25,.t 32,.c (.d (.bool false))],oM 22 33]
def Qy0:List COp:=[oo 4 .mov [cI 5]]
def Qy1:List COp:=[oo 34 (.bin .add false) [.t 9,cI 1],oM 9 34]
def Qy2:List COp:=[oo 4 .mov [cI 0]]
def Qih:CFn:=⟨2,35,[.t 4],.seq (.region Qyt 9 []) (.seq (.seq (.region Qyu 9 []) (.block 0 (.loop [] (.seq (.region Qyv 9 []) (.seq (.cond (.t 10) (.skip) (.exit 0)) (.seq (.block 1 (.seq (.region Qyw 9 []) (.block 2 (.seq (.region Qyx 9 []) (.cond (.t 14) (.seq (.region Qyy 9 []) (.ret)) (.seq (.region Qyz 9 []) (.cond (.t 22) (.seq (.region Qy0 9 []) (.ret)) (.skip)))))))) (.region Qy1 9 []))))))) (.seq (.region Qy2 9 []) (.ret)))⟩
def Qb5 (fuel:Nat) (l1:(List Int)) (n2:Int):Option Int :=
  Qcl (fun k4 (x3:Int)=>(if (x3 < (l1.length:Int)) then ((getO l1 x3).bind fun x6=>(((if (x6 < 0) then some true else some (decide (x6≥n2)))).bind fun (x9:Bool)=>(if x9 then some 2 else (((if (x3 > 0) then ((getO l1 (IntKind.wrap .i64 (x3 - 1))).bind fun x12=>some (decide (x6≤x12))) else some false)).bind fun (x14:Bool)=>(if x14 then some 5 else k4 (IntKind.wrap .i64 (x3 + 1))))))) else some 0)) fuel 0
def Qkj (P:Program) (c:Nat) (f:(List Int)→Int→Option Int):Prop:=∀ s1 v2 r,f s1 v2 = some r→∀ M nb,ACalls P c [(l_ s1),(i_ v2)] M nb (i_ r) M nb
def Q34:List COp:=[oo 4 .mov [cI 0]]
def Q35:List COp:=[oM 6 0,oo 7 .len [.t 6],oo 8 .mov [cI 0]]
def Q36:List COp:=[oo 9 (.bin .lss false) [.t 8,.t 7]]
def Q37:List COp:=[oM 10 8,oM 5 10]
def Q38:List COp:=[oM 11 1,oM 12 0,oM 13 5,oo 14 (.idx 1) [.t 12,.t 13],oL 15 14,oo 16 (.bin .eql false) [.t 11,.t 15]]
def Q39:List COp:=[oM 17 5,oM 4 17]
def Q4a:List COp:=[oo 18 (.bin .add false) [.t 8,cI 1],oM 8 18]
def Q4b:List COp:=[oo 4 .mov [cI (-1)]]
def Qkk:CFn:=⟨2,19,[.t 4],.seq (.region Q34 9 []) (.seq (.seq (.region Q35 9 []) (.block 0 (.loop [] (.seq (.region Q36 9 []) (.seq (.cond (.t 9) (.skip) (.exit 0)) (.seq (.block 1 (.seq (.region Q37 9 []) (.seq (.region Q38 9 []) (.cond (.t 16) (.seq (.region Q39 9 []) (.ret)) (.skip))))) (.region Q4a 9 []))))))) (.seq (.region Q4b 9 []) (.ret)))⟩
def Qcw (fuel:Nat) (s1:(List Int)) (v2:Int):Option Int :=
  Qcl (fun k4 (x3:Int)=>(if (x3 < (s1.length:Int)) then ((getO s1 x3).bind fun x6=>(if (v2 == x6) then some x3 else k4 (IntKind.wrap .i64 (x3 + 1)))) else some (-1))) fuel 0
def Qbp (P:Program) (c:Nat) (f:(List Int)→Int→Option Bool):Prop:=∀ s1 v2 r,f s1 v2 = some r→∀ M nb,ACalls P c [(l_ s1),(i_ v2)] M nb (b_ r) M nb
def Qu8:List COp:=[oo 4 .mov [.c (.d (.bool false))]]
def Qu9:List COp:=[oM 5 0,oM 6 1,oo 7 (.call 88) [.t 5,.t 6],oo 8 (.bin .geq false) [.t 7,cI 0],oM 4 8]
def Qhl:CFn:=⟨2,9,[.t 4],.seq (.region Qu8 9 []) (.seq (.region Qu9 9 []) (.ret))⟩
def Qg (Qcw:(List Int)→Int→Option Int) (s1:(List Int)) (v2:Int):Option Bool :=
  ((Qcw s1 v2).bind fun x4=>some (decide (x4≥0)))
def Qg3 (P:Program) (c:Nat) (f:Qb→Option Int):Prop:=∀ a1 r,f a1 = some r→∀ M nb,ACalls P c [(Qa a1)] M nb (i_ r) M nb
def Qsv:List COp:=[oo 1 (.box 4) [.t 0],oo 2 .mov [cI 0]]
def Qsw:List COp:=[oF 6 3 1,oL 7 6,oo 8 .len [.t 7],oo 9 .mov [cI 0]]
def Qsx:List COp:=[oo 10 (.bin .lss false) [.t 9,.t 8]]
def Qsy:List COp:=[oM 11 9,oo 12 (.idx 3) [.t 7,.t 9],oo 13 (.load true 3) [.t 12],oo 4 (.alloc [.d (.int .i64 0),.d (.int .i64 0),.d (.int .i64 0)]) [],oM 3 11,⟨none,.store 3,[.t 4,.t 13],false,none⟩]
def Qsz:List COp:=[oF 15 0 4,oL 16 15,oo 17 (.bin .lss false) [.t 16,cI 0],oM 18 17,⟨some 19,.fld 0,[.t 4],false,some (18,false)⟩,⟨some 20,.load false 1,[.t 19],false,some (18,false)⟩,⟨some 21,.fld 1,[.t 1],false,some (18,false)⟩,⟨some 22,.load false 1,[.t 21],false,some (18,false)⟩,⟨some 23,.bin .geq false,[.t 20,.t 22],false,some (18,false)⟩,oo 24 .pick [.t 18,.c (.d (.bool true)),.t 23],oM 25 24,⟨some 26,.fld 2,[.t 4],false,some (25,false)⟩,⟨some 27,.load false 1,[.t 26],false,some (25,false)⟩,⟨some 28,.bin .lss false,[.t 27,cI 0],false,some (25,false)⟩,oo 29 .pick [.t 25,.c (.d (.bool true)),.t 28],oM 30 29,⟨some 31,.fld 2,[.t 4],false,some (30,false)⟩,⟨some 32,.load false 1,[.t 31],false,some (30,false)⟩,⟨some 33,.fld 1,[.t 1],false,some (30,false)⟩,⟨some 34,.load false 1,[.t 33],false,some (30,false)⟩,⟨some 35,.bin .geq false,[.t 32,.t 34],false,some (30,false)⟩,oo 36 .pick [.t 30,.c (.d (.bool true)),.t 35],oM 14 36]
def Qs0:List COp:=[oo 2 .mov [cI 2]]
def Qs1:List COp:=[oF 38 0 1,oL 39 38,oF 40 1 4,oL 41 40,oo 42 (.call 56) [.t 39,.t 41],oo 43 (.un .not) [.t 42],oM 37 43]
def Qs2:List COp:=[oo 2 .mov [cI 9]]
def Qs3:List COp:=[oM 44 3,oo 45 (.bin .eql false) [.t 44,cI 0]]
def Qs4:List COp:=[oF 46 3 1,oL 47 46,oM 48 3,oo 49 (.bin .sub false) [.t 48,cI 1],oo 50 (.idx 3) [.t 47,.t 49],oo 51 (.load true 3) [.t 50],oo 5 (.alloc [.d (.int .i64 0),.d (.int .i64 0),.d (.int .i64 0)]) [],⟨none,.store 3,[.t 5,.t 51],false,none⟩]
def Qry:List COp:=[oF 52 0 4,oL 53 52,oF 54 0 5,oL 55 54,oo 56 (.bin .lss false) [.t 53,.t 55],oM 57 56,⟨some 58,.fld 0,[.t 4],false,some (57,false)⟩,⟨some 59,.load false 1,[.t 58],false,some (57,false)⟩,⟨some 60,.fld 0,[.t 5],false,some (57,false)⟩,⟨some 61,.load false 1,[.t 60],false,some (57,false)⟩,⟨some 62,.bin .eql false,[.t 59,.t 61],false,some (57,false)⟩,⟨some 63,.mov,[.t 62],false,some (57,false)⟩,⟨some 64,.fld 1,[.t 4],false,some (63,true)⟩,⟨some 65,.load false 1,[.t 64],false,some (63,true)⟩,⟨some 66,.fld 1,[.t 5],false,some (63,true)⟩,⟨some 67,.load false 1,[.t 66],false,some (63,true)⟩,⟨some 68,.bin .leq false,[.t 65,.t 67],false,some (63,true)⟩,⟨some 69,.pick,[.t 63,.t 68,.c (.d (.bool false))],false,some (57,false)⟩,oo 70 .pick [.t 57,.c (.d (.bool true)),.t 69]]
def Qrz:List COp:=[oo 2 .mov [cI 5]]
def Qr0:List COp:=[oo 71 (.bin .add false) [.t 9,cI 1],oM 9 71]
def Qr1:List COp:=[oo 2 .mov [cI 0]]
def Qg4:CFn:=⟨1,72,[.t 2],.seq (.region Qsv 9 []) (.seq (.seq (.region Qsw 9 []) (.block 0 (.loop [4,5] (.seq (.region Qsx 9 []) (.seq (.cond (.t 10) (.skip) (.exit 0)) (.seq (.block 1 (.seq (.region Qsy 9 []) (.seq (.block 2 (.seq (.region Qsz 9 []) (.cond (.t 14) (.seq (.region Qs0 9 []) (.ret)) (.seq (.region Qs1 9 []) (.cond (.t 37) (.seq (.region Qs2 9 []) (.ret)) (.skip)))))) (.seq (.seq (.region Qs3 9 []) (.cond (.t 45) (.exit 1) (.skip))) (.seq (.region Qs4 9 []) (.seq (.region Qry 9 []) (.cond (.t 70) (.seq (.region Qrz 9 []) (.ret)) (.skip)))))))) (.region Qr0 9 []))))))) (.seq (.region Qr1 9 []) (.ret)))⟩
def Qb3 (Qg:(List Int)→Int→Option Bool) (fuel:Nat) (a1:Qb):Option Int :=
  Qcl (fun k3 (x2:Int)=>(if (x2 < (a1.Edges.length:Int)) then letJ (fun ((c22,c23,c24):Int×Int×Int)=>k3 (IntKind.wrap .i64 (x2 + 1))) fun J25=>((getO a1.Edges x2).bind fun x5=>(((if (x5.From < 0) then some true else (if (x5.From≥a1.States) then some true else (if (x5.To < 0) then some true else some (decide (x5.To≥a1.States)))))).bind fun (x10:Bool)=>(if x10 then some 2 else ((Qg a1.Alphabet x5.Event).bind fun x13=>(if x13 then (if (x2 == 0) then J25 (x5.From,x5.Event,x5.To) else ((getO a1.Edges (IntKind.wrap .i64 (x2 - 1))).bind fun x16=>(((if (x5.From < x16.From) then some true else (if (x5.From == x16.From) then some (decide (x5.Event≤x16.Event)) else some false))).bind fun (x20:Bool)=>(if x20 then some 5 else J25 (x5.From,x5.Event,x5.To))))) else some 9))))) else some 0)) fuel 0
def Qdk (P:Program) (c:Nat) (f:Qb→Option Int):Prop:=∀ a1 r,f a1 = some r→∀ M nb,ACalls P c [(Qa a1)] M nb (i_ r) M nb
def Q61:List COp:=[oo 1 (.box 4) [.t 0],oo 2 .mov [cI 0]]
def Q62:List COp:=[oF 5 0 1,oL 6 5,oo 7 (.call 79) [.t 6,cI 32],oM 3 7]
def Q63:List COp:=[oM 8 3,oo 9 (.bin .neq false) [.t 8,cI 0]]
def Q64:List COp:=[oM 10 3,oM 2 10]
def Q65:List COp:=[oF 12 1 1,oL 13 12,oo 14 (.bin .lss false) [.t 13,cI 0],oM 11 14]
def Q66:List COp:=[oo 2 .mov [cI 2]]
def Q67:List COp:=[oF 16 1 1,oL 17 16,oo 18 (.bin .gtr false) [.t 17,cI 4096],oM 15 18]
def Q68:List COp:=[oo 2 .mov [cI 3]]
def Q69:List COp:=[oF 19 2 1,oL 20 19,oF 21 1 1,oL 22 21,oo 23 (.call 79) [.t 20,.t 22],oM 4 23]
def Q7a:List COp:=[oM 24 4,oo 25 (.bin .neq false) [.t 24,cI 0]]
def Q4c:List COp:=[oM 26 4,oM 2 26]
def Q4d:List COp:=[oo 27 (.load true 4) [.t 1],oo 28 (.call 80) [.t 27],oM 2 28]
def Qlw:CFn:=⟨1,29,[.t 2],.seq (.region Q61 9 []) (.seq (.seq (.region Q62 9 []) (.seq (.region Q63 9 []) (.cond (.t 9) (.seq (.region Q64 9 []) (.ret)) (.skip)))) (.seq (.block 0 (.seq (.region Q65 9 []) (.cond (.t 11) (.seq (.region Q66 9 []) (.ret)) (.seq (.region Q67 9 []) (.cond (.t 15) (.seq (.region Q68 9 []) (.ret)) (.skip)))))) (.seq (.seq (.region Q69 9 []) (.seq (.region Q7a 9 []) (.cond (.t 25) (.seq (.region Q4c 9 []) (.ret)) (.skip)))) (.seq (.region Q4d 9 []) (.ret)))))⟩
def Qs (Qb5:(List Int)→Int→Option Int) (Qb3:Qb→Option Int) (a1:Qb):Option Int :=
  ((Qb5 a1.Alphabet 32).bind fun x3=>(if (x3 != 0) then some x3 else (if (a1.States < 0) then some 2 else (if (a1.States > 4096) then some 3 else ((Qb5 a1.Marked a1.States).bind fun x8=>(if (x8 != 0) then some x8 else ((Qb3 a1).bind fun x11=>some x11)))))))
def Qhm (P:Program) (c:Nat) (f:(List Int)→Int→Option Int):Prop:=∀ l1 n2 r,f l1 n2 = some r→∀ M nb,ACalls P c [(l_ l1),(i_ n2)] M nb (i_ r) M nb
def Qva:List COp:=[oo 4 .mov [cI 0]]
def Qvb:List COp:=[oM 7 0,oo 8 .len [.t 7],oo 9 .mov [cI 0]]
def Qvc:List COp:=[oo 10 (.bin .lss false) [.t 9,.t 8]]
def Qvd:List COp:=[oM 11 9,oo 12 (.idx 1) [.t 7,.t 9],oL 13 12,oM 5 11,oM 6 13]
def Qve:List COp:=[oM 15 6,oo 16 (.bin .lss false) [.t 15,cI 0],oM 17 16,⟨some 18,.mov,[.t 6],false,some (17,false)⟩,⟨some 19,.mov,[.t 1],false,some (17,false)⟩,⟨some 20,.bin .geq false,[.t 18,.t 19],false,some (17,false)⟩,oo 21 .pick [.t 17,.c (.d (.bool true)),.t 20],oM 14 21]
def Qvf:List COp:=[oo 4 .mov [cI 2]]
def Qvg:List COp:=[oM 23 5,oo 24 (.bin .gtr false) [.t 23,cI 0],oM 25 24,⟨some 26,.mov,[.t 6],false,some (25,true)⟩,⟨some 27,.mov,[.t 0],false,some (25,true)⟩,⟨some 28,.mov,[.t 5],false,some (25,true)⟩,⟨some 29,.bin .sub false,[.t 28,cI 1],false,some (25,true)⟩,⟨some 30,.idx 1,[.t 27,.t 29],false,some (25,true)⟩,⟨some 31,.load false 1,[.t 30],false,some (25,true)⟩,⟨some 32,.bin .leq false,[.t 26,.t 31],false,some (25,true)⟩,oo 33 .pick [.t 25,.t 32,.c (.d (.bool false))],oM 22 33]
def Qvh:List COp:=[oo 4 .mov [cI 5]]
def Qvi:List COp:=[oo 34 (.bin .add false) [.t 9,cI 1],oM 9 34]
def Qvj:List COp:=[oo 4 .mov [cI 0]]
def Qhn:CFn:=⟨2,35,[.t 4],.seq (.region Qva 9 []) (.seq (.seq (.region Qvb 9 []) (.block 0 (.loop [] (.seq (.region Qvc 9 []) (.seq (.cond (.t 10) (.skip) (.exit 0)) (.seq (.block 1 (.seq (.region Qvd 9 []) (.block 2 (.seq (.region Qve 9 []) (.cond (.t 14) (.seq (.region Qvf 9 []) (.ret)) (.seq (.region Qvg 9 []) (.cond (.t 22) (.seq (.region Qvh 9 []) (.ret)) (.skip)))))))) (.region Qvi 9 []))))))) (.seq (.region Qvj 9 []) (.ret)))⟩
def Qcg (fuel:Nat) (l1:(List Int)) (n2:Int):Option Int :=
  Qcl (fun k4 (x3:Int)=>(if (x3 < (l1.length:Int)) then ((getO l1 x3).bind fun x6=>(((if (x6 < 0) then some true else some (decide (x6≥n2)))).bind fun (x9:Bool)=>(if x9 then some 2 else (((if (x3 > 0) then ((getO l1 (IntKind.wrap .i64 (x3 - 1))).bind fun x12=>some (decide (x6≤x12))) else some false)).bind fun (x14:Bool)=>(if x14 then some 5 else k4 (IntKind.wrap .i64 (x3 + 1))))))) else some 0)) fuel 0
def Qek (P:Program) (c:Nat) (f:Qb→(List Int)→Option Int):Prop:=∀ a1 events2 r,f a1 events2 = some r→∀ M nb,ACalls P c [(Qa a1),(l_ events2)] M nb (i_ r) M nb
def Q4e:List COp:=[oo 2 (.box 4) [.t 0],oo 4 .mov [cI 0]]
def Q4f:List COp:=[oo 6 (.load true 4) [.t 2],oo 7 (.call 46) [.t 6],oM 5 7]
def Q4g:List COp:=[oM 8 5,oo 9 (.bin .neq false) [.t 8,cI 0]]
def Q4h:List COp:=[oM 10 5,oM 4 10]
def Q4i:List COp:=[oM 11 1,oo 12 (.call 49) [.t 11,cI 32],oM 4 12]
def Qkl:CFn:=⟨2,13,[.t 4],.seq (.region Q4e 9 []) (.seq (.seq (.region Q4f 9 []) (.seq (.region Q4g 9 []) (.cond (.t 9) (.seq (.region Q4h 9 []) (.ret)) (.skip)))) (.seq (.region Q4i 9 []) (.ret)))⟩
def Qw (Qs:Qb→Option Int) (Qcg:(List Int)→Int→Option Int) (a1:Qb) (events2:(List Int)):Option Int :=
  ((Qs a1).bind fun x4=>(if (x4 != 0) then some x4 else ((Qcg events2 32).bind fun x7=>some x7)))
def Qew (P:Program) (c:Nat) (f:Qb→(List Int)→Option Qi):Prop:=∀ a1 onto2 r,f a1 onto2 = some r→∀ M nb,ACalls P c [(Qa a1),(l_ onto2)] M nb (Qk r) M nb
def Qy3:List COp:=[oo 2 (.box 4) [.t 0],oo 4 (.alloc [.nils 1,.nils 1,.nils 1,.nils 1]) []]
def Qy4:List COp:=[oF 10 1 2,oL 11 10,oo 12 (.makes 1 24 [.nils 3]) [.t 11,.t 11],oF 13 2 2,oL 14 13,ot 15 (.build [.nils 1,.nils 1,.nils 1,.nils 1] [(0,1),(3,1)]) [.t 12,.t 14],oo 5 (.alloc [.nils 1,.nils 1,.nils 1,.nils 1]) [],⟨none,.store 4,[.t 5,.t 15],true,none⟩]
def Qy5:List COp:=[oF 16 3 2,oL 17 16,oo 18 .len [.t 17],oo 19 .mov [cI 0]]
def Qy6:List COp:=[oo 20 (.bin .lss false) [.t 19,.t 18]]
def Qy7:List COp:=[oo 21 (.idx 3) [.t 17,.t 19],oo 22 (.load true 3) [.t 21],oo 7 (.alloc [.d (.int .i64 0),.d (.int .i64 0),.d (.int .i64 0)]) [],⟨none,.store 3,[.t 7,.t 22],false,none⟩]
def Qy8:List COp:=[oF 23 0 5,oL 24 23,oF 25 0 7,oL 26 25,oF 27 0 5,oL 28 27,oF 29 0 7,oL 30 29,oo 31 (.idx 1) [.t 28,.t 30],oo 32 .loadT [.t 31],oo 33 (.load true 3) [.t 7],oo 34 (.bslice 3 1 [.d (.int .i64 0),.d (.int .i64 0),.d (.int .i64 0)] [0]) [.t 33],ot 35 (.append 3 24) [.t 32,.t 34],oo 36 (.idx 1) [.t 24,.t 26],⟨none,.store 1,[.t 36,.t 35],true,none⟩]
def Qy9:List COp:=[oo 37 (.bin .add false) [.t 19,cI 1],oM 19 37]
def Qza:List COp:=[oF 38 0 2,oL 39 38,oo 40 .len [.t 39],oo 41 .mov [cI 0]]
def Qzb:List COp:=[oo 42 (.bin .lss false) [.t 41,.t 40]]
def Qzc:List COp:=[oo 43 (.idx 1) [.t 39,.t 41],oL 44 43,oM 9 44]
def Qvk:List COp:=[oM 45 1,oM 46 9,oo 47 (.call 56) [.t 45,.t 46]]
def Qvl:List COp:=[oF 48 1 5,oo 49 .loadT [.t 48],oM 50 9,oo 51 (.bslice 1 1 [.d (.int .i64 0)] [0]) [.t 50],ot 52 (.append 1 8) [.t 49,.t 51],oF 53 1 5,⟨none,.store 1,[.t 53,.t 52],true,none⟩]
def Qvm:List COp:=[oF 54 2 5,oo 55 .loadT [.t 54],oM 56 9,oo 57 (.bslice 1 1 [.d (.int .i64 0)] [0]) [.t 56],ot 58 (.append 1 8) [.t 55,.t 57],oF 59 2 5,⟨none,.store 1,[.t 59,.t 58],true,none⟩]
def Qvn:List COp:=[oo 60 (.bin .add false) [.t 41,cI 1],oM 41 60]
def Qvo:List COp:=[oo 61 (.load true 4) [.t 5],⟨none,.store 4,[.t 4,.t 61],true,none⟩]
def Qii:CFn:=⟨2,62,[.cell 4 true 4],.seq (.region Qy3 9 []) (.seq (.region Qy4 0 []) (.seq (.seq (.region Qy5 9 []) (.block 0 (.loop [7,34] (.seq (.region Qy6 9 []) (.seq (.cond (.t 20) (.skip) (.exit 0)) (.seq (.block 1 (.seq (.region Qy7 9 []) (.region Qy8 0 []))) (.region Qy9 9 []))))))) (.seq (.seq (.region Qza 9 []) (.block 2 (.loop [51,57] (.seq (.region Qzb 9 []) (.seq (.cond (.t 42) (.skip) (.exit 2)) (.seq (.block 3 (.seq (.region Qzc 9 []) (.seq (.region Qvk 9 []) (.cond (.t 47) (.region Qvl 9 []) (.region Qvm 9 []))))) (.region Qvn 9 []))))))) (.seq (.region Qvo 9 []) (.ret)))))⟩
def Q1 (Qg:(List Int)→Int→Option Bool) (fuel:Nat) (a1:Qb) (onto2:(List Int)):Option Qi :=
  ((mkO a1.States ([]:List Qe)).bind fun x3=>((Qcl (fun k7 ((x5,c6):Int×(List (List Qe)))=>(if (x5 < (a1.Edges.length:Int)) then ((getO a1.Edges x5).bind fun x9=>((inO (Int.toNat a1.States) x9.From).bind fun u11=>((getO c6 x9.From).bind fun x13=>((appO x13 [x9]).bind fun x15=>((inO (Int.toNat a1.States) x9.From).bind fun u17=>((setO c6 x9.From x15).bind fun x19=>k7 ((IntKind.wrap .i64 (x5 + 1)),x19))))))) else some c6)) fuel (0,x3)).bind fun (c21:List (List Qe))=>((Qcl (fun k29 ((x22,c23,c24,c25,c26,o27,o28):Int×(List (List Qe))×(List Int)×(List Int)×(List Int)×(List Int)×(List Int))=>(if (x22 < (a1.Alphabet.length:Int)) then ((((getO a1.Alphabet x22).bind fun x31=>((Qg onto2 x31).bind fun x34=>(if x34 then ((appO o27 [x31]).bind fun x36=>some (x36,o28)) else ((appO o28 [x31]).bind fun x38=>some (o27,x38)))))).bind fun ((o40,o41):(List Int)×(List Int))=>k29 ((IntKind.wrap .i64 (x22 + 1)),c23,c24,c25,c26,o40,o41)) else some (c23,c24,c25,c26,o27,o28))) fuel (0,[],[],[],[],[],[])).bind fun ((c42,c43,c44,c45,o46,o47):(List (List Qe))×(List Int)×(List Int)×(List Int)×(List Int)×(List Int))=>((lenO c21 (Int.toNat a1.States)).bind fun _=>some (Qi.mk c21 o46 o47 a1.Marked)))))
def Qeo (P:Program) (c:Nat) (f:Int→(List Bool)→(List Int)→Option ((List Bool)×(List Int))):Prop:=∀ x1 x2 x7 (k3:Nat) (k5:Nat) (k8:Nat) r,f x1 x2 x7 = some r→∀ M nb,(M k3 = some (.cells [.sl 1 k5 0 x2.length x2.length]))→(M k5 = some (.cells (Qcz (fun (x:Bool)=>[V.d (.bool x)]) x2)))→(M k8 = some (.cells [(o_ x7)]))→(k5≠k3)→(k5≠k8)→(k8≠k3)→ACalls P c [(i_ x1),.ptr k3 0,.ptr k8 0] M nb (.tup []) (Mem.puts M [(k5,.cells (Qcz (fun (x:Bool)=>[V.d (.bool x)]) r.1)),(k8,.cells ([(o_ r.2)]))]) nb
def Qlx:List COp:=[oL 4 1,oM 5 0,oo 6 (.idx 1) [.t 4,.t 5],oL 7 6,oo 8 (.un .not) [.t 7]]
def Qly:List COp:=[oL 9 1,oM 10 0,oo 11 (.idx 1) [.t 9,.t 10],⟨none,.store 1,[.t 11,.c (.d (.bool true))],false,none⟩]
def Qlz:List COp:=[oo 12 .loadT [.t 2],oM 13 0,oo 14 (.bslice 1 1 [.d (.int .i64 0)] [0]) [.t 13],ot 15 (.append 1 8) [.t 12,.t 14],⟨none,.store 1,[.t 2,.t 15],true,none⟩]
def Qep:CFn:=⟨3,16,[],.seq (.region Qlx 9 []) (.cond (.t 8) (.seq (.region Qly 9 []) (.region Qlz 9 [])) (.skip))⟩
def Qbd (x1:Int) (x2:(List Bool)) (x7:(List Int)):Option ((List Bool)×(List Int)) :=
  ((inO x2.length x1).bind fun u13=>((getO x2 x1).bind fun x15=>(if x15 then some (x2,x7) else ((inO x2.length x1).bind fun u18=>((setO x2 x1 true).bind fun c20=>((appO x7 [x1]).bind fun x22=>some (c20,x22)))))))
def Qdp (P:Program) (c:Nat) (f:Qi→(List Int)→(List Int)→Option ((List Int))):Prop:=∀ o1 xfrom2 events3 r,f o1 xfrom2 events3 = some r→∀ M nb,ACalls P c [(Qk o1),(l_ xfrom2),(l_ events3)] M nb (l_ r) M nb
def Qnj:List COp:=[oo 3 (.box 4) [.t 0],ot 6 .mov [.c (.nils 1)]]
def Qnk:List COp:=[oF 15 0 3,oL 16 15,oo 17 .len [.t 16],oo 18 (.makes 1 1 [.d (.bool false)]) [.t 17,.t 17],oo 7 (.alloc [.nils 1]) [],⟨none,.store 1,[.t 7,.t 18],true,none⟩]
def Qnl:List COp:=[oo 8 (.alloc [.nils 1]) []]
def Qnm:List COp:=[oo 19 (.func 83) [.t 7,.t 8],oM 9 19]
def Qnn:List COp:=[oM 20 1,oo 21 .len [.t 20],oo 22 .mov [cI 0]]
def Qno:List COp:=[oo 23 (.bin .lss false) [.t 22,.t 21]]
def Qnp:List COp:=[oo 24 (.idx 1) [.t 20,.t 22],oL 25 24,oM 11 25]
def Qnq:List COp:=[oM 26 9,oM 27 11,oo 28 .callv [.t 26,.t 27]]
def Qnr:List COp:=[oo 29 (.bin .add false) [.t 22,cI 1],oM 22 29]
def Qns:List COp:=[oo 12 .mov [cI 0]]
def Qmt:List COp:=[oM 30 12,oL 31 8,oo 32 .len [.t 31],oo 33 (.bin .lss false) [.t 30,.t 32]]
def Qmu:List COp:=[oF 36 0 3,oL 37 36,oL 38 8,oM 39 12,oo 40 (.idx 1) [.t 38,.t 39],oL 41 40,oo 42 (.idx 1) [.t 37,.t 41],oL 43 42,oo 44 .len [.t 43],oo 45 .mov [cI 0]]
def Qmv:List COp:=[oo 46 (.bin .lss false) [.t 45,.t 44]]
def Qmw:List COp:=[oo 47 (.idx 3) [.t 43,.t 45],oo 48 (.load true 3) [.t 47],oo 14 (.alloc [.d (.int .i64 0),.d (.int .i64 0),.d (.int .i64 0)]) [],⟨none,.store 3,[.t 14,.t 48],false,none⟩]
def Qmx:List COp:=[oM 49 2,oF 50 1 14,oL 51 50,oo 52 (.call 56) [.t 49,.t 51]]
def Qmy:List COp:=[oM 53 9,oF 54 2 14,oL 55 54,oo 56 .callv [.t 53,.t 55]]
def Qmz:List COp:=[oo 57 (.bin .add false) [.t 45,cI 1],oM 45 57]
def Qm0:List COp:=[oM 34 12,oo 35 (.bin .add false) [.t 34,cI 1],oM 12 35]
def Qm1:List COp:=[oL 58 8,oo 59 (.call 67) [.t 58]]
def Qm2:List COp:=[oL 60 8,ot 6 .mov [.t 60]]
def Qe5:CFn:=⟨3,61,[.t 6],.seq (.region Qnj 9 []) (.seq (.region Qnk 9 []) (.seq (.region Qnl 9 []) (.seq (.region Qnm 9 []) (.seq (.seq (.region Qnn 9 []) (.block 0 (.loop [] (.seq (.region Qno 9 []) (.seq (.cond (.t 23) (.skip) (.exit 0)) (.seq (.block 1 (.seq (.region Qnp 9 []) (.region Qnq 9 []))) (.region Qnr 9 []))))))) (.seq (.seq (.region Qns 9 []) (.block 2 (.loop [14] (.seq (.seq (.region Qmt 9 []) (.cond (.t 33) (.skip) (.exit 2))) (.seq (.block 3 (.seq (.region Qmu 0 []) (.block 4 (.loop [14] (.seq (.region Qmv 9 []) (.seq (.cond (.t 46) (.skip) (.exit 4)) (.seq (.block 5 (.seq (.region Qmw 9 []) (.seq (.region Qmx 9 []) (.cond (.t 52) (.region Qmy 9 []) (.skip))))) (.region Qmz 9 [])))))))) (.region Qm0 9 [])))))) (.seq (.region Qm1 9 []) (.seq (.region Qm2 9 []) (.ret))))))))⟩
def Q2 (Qg:(List Int)→Int→Option Bool) (f_slices_Sort_int:List Int→Option (List Int)) (Qbd:Int→(List Bool)→(List Int)→Option ((List Bool)×(List Int))) (fuel:Nat) (o1:Qi) (xfrom2:(List Int)) (events3:(List Int)):Option ((List Int)) :=
  ((mkO (o1.out_.length:Int) false).bind fun x4=>((Qcl (fun k9 ((x6,l7,c8):Int×(List Int)×(List Bool))=>(if (x6 < (xfrom2.length:Int)) then ((getO xfrom2 x6).bind fun x11=>((lenO c8 (Int.toNat (o1.out_.length:Int))).bind fun _=>((Qbd x11 c8 l7).bind fun (c14,c15)=>k9 ((IntKind.wrap .i64 (x6 + 1)),c15,c14)))) else some (l7,c8))) fuel (0,[],x4)).bind fun ((l17,c18):(List Int)×(List Bool))=>((Qcl (fun k22 ((i19,l20,c21):Int×(List Int)×(List Bool))=>(if (i19 < (l20.length:Int)) then ((((getO l20 i19).bind fun x24=>((getO o1.out_ x24).bind fun x26=>Qcl (fun k31 ((x28,l29,c30):Int×(List Int)×(List Bool))=>(if (x28 < (x26.length:Int)) then ((((getO x26 x28).bind fun x33=>((Qg events3 x33.Event).bind fun x36=>(if x36 then ((lenO c30 (Int.toNat (o1.out_.length:Int))).bind fun _=>((Qbd x33.To c30 l29).bind fun (c39,c40)=>some (c40,c39,x33.From,x33.Event,x33.To))) else some (l29,c30,x33.From,x33.Event,x33.To))))).bind fun ((l42,c43,c44,c45,c46):(List Int)×(List Bool)×Int×Int×Int)=>k31 ((IntKind.wrap .i64 (x28 + 1)),l42,c43)) else some (l29,c30))) fuel (0,l20,c21)))).bind fun ((l47,c48):(List Int)×(List Bool))=>k22 ((IntKind.wrap .i64 (i19 + 1)),l47,c48)) else some (l20,c21))) fuel (0,l17,c18)).bind fun ((l49,c50):(List Int)×(List Bool))=>((f_slices_Sort_int l49).bind fun row51=>some row51))))
def Qdq (P:Program) (c:Nat) (f:Qi→Option ((List Int))):Prop:=∀ o1 r,f o1 = some r→∀ M nb,ACalls P c [(Qk o1)] M nb (l_ r) M nb
def Qnt:List COp:=[oo 1 (.box 4) [.t 0],ot 2 .mov [.c (.nils 1)]]
def Qnu:List COp:=[oF 3 0 1,oL 4 3,oo 5 .len [.t 4],oo 6 (.bin .eql false) [.t 5,cI 0]]
def Qnv:List COp:=[ot 2 .mov [.c (.nils 1)]]
def Qnw:List COp:=[oo 7 (.load true 4) [.t 1],oo 8 (.bslice 1 1 [.d (.int .i64 0)] [0]) [cI 0],oF 9 2 1,oL 10 9,oo 11 (.call 50) [.t 7,.t 8,.t 10],ot 2 .mov [.t 11]]
def Qe6:CFn:=⟨1,12,[.t 2],.seq (.region Qnt 9 []) (.seq (.seq (.region Qnu 9 []) (.cond (.t 6) (.seq (.region Qnv 9 []) (.ret)) (.skip))) (.seq (.region Qnw 9 []) (.ret)))⟩
def Q3 (Q2:Qi→(List Int)→(List Int)→Option ((List Int))) (o1:Qi):Option ((List Int)) :=
  (if ((o1.out_.length:Int) == 0) then some [] else ((Q2 o1 [0] o1.erased_).bind fun x4=>some x4))
def K_projection_key (P:Program) (c:Nat) (f:(List Int)→Option ByteArray):Prop:=∀ l1 r,f l1 = some r→∀ M nb,ACalls P c [(l_ l1)] M nb (.d (.str r)) M nb
def Qdz (P:Program) (c:Nat) (f:Int→Qi→Option Bool):Prop:=∀ x1 x2 (k3:Nat) r,f x1 x2 = some r→∀ M nb,(M k3 = some (.cells (Qn x2)))→ACalls P c [(i_ x1),.ptr k3 0] M nb (b_ r) M nb
def Qjr:List COp:=[oo 3 .mov [.c (.d (.bool false))]]
def Qjs:List COp:=[oF 4 3 1,oL 5 4,oM 6 0,oo 7 (.call 56) [.t 5,.t 6],oM 3 7]
def Qd0:CFn:=⟨2,8,[.t 3],.seq (.region Qjr 9 []) (.seq (.region Qjs 9 []) (.ret))⟩
def Qbc (Qg:(List Int)→Int→Option Bool) (x1:Int) (x2:Qi):Option Bool :=
  ((Qg x2.marked_ x1).bind fun x6=>some x6)
def Qg5 (P:Program) (c:Nat) (f:(List Int)→(Int→Option Bool)→Option Int):Prop:=∀ s1 f2 (g3:Nat) (cp4:List V) r,f s1 f2 = some r→∀ M nb,(V.dems cp4 = cp4)→(V.ons (There M) cp4)→(∀ a8 r,f2 a8 = some r→∀ M2 nb2,nb≤nb2→Ext M M2→ACalls P g3 ([(i_ a8)] ++ cp4) M2 nb2 (b_ r) M2 nb2)→ACalls P c [(l_ s1),.clo g3 cp4] M nb (i_ r) M nb
def Qs5:List COp:=[oo 4 .mov [cI 0]]
def Qs6:List COp:=[oM 6 0,oo 7 .len [.t 6],oo 8 .mov [cI 0]]
def Qs7:List COp:=[oo 9 (.bin .lss false) [.t 8,.t 7]]
def Qs8:List COp:=[oM 10 8,oM 5 10]
def Qs9:List COp:=[oM 11 1,oM 12 0,oM 13 5,oo 14 (.idx 1) [.t 12,.t 13],oL 15 14,oo 16 .callv [.t 11,.t 15]]
def Qta:List COp:=[oM 17 5,oM 4 17]
def Qtb:List COp:=[oo 18 (.bin .add false) [.t 8,cI 1],oM 8 18]
def Qtc:List COp:=[oo 4 .mov [cI (-1)]]
def Qg6:CFn:=⟨2,19,[.t 4],.seq (.region Qs5 9 []) (.seq (.seq (.region Qs6 9 []) (.block 0 (.loop [] (.seq (.region Qs7 9 []) (.seq (.cond (.t 9) (.skip) (.exit 0)) (.seq (.block 1 (.seq (.region Qs8 9 []) (.seq (.region Qs9 9 []) (.cond (.t 16) (.seq (.region Qta 9 []) (.ret)) (.skip))))) (.region Qtb 9 []))))))) (.seq (.region Qtc 9 []) (.ret)))⟩
def Qb4 (fuel:Nat) (s1:(List Int)) (f2:(Int→Option Bool)):Option Int :=
  Qcl (fun k10 (x9:Int)=>(if (x9 < (s1.length:Int)) then ((getO s1 x9).bind fun x12=>((f2 x12).bind fun x15=>(if x15 then some x9 else k10 (IntKind.wrap .i64 (x9 + 1))))) else some (-1))) fuel 0
def Qde (P:Program) (c:Nat) (f:(List Int)→(Int→Option Bool)→Option Bool):Prop:=∀ s1 f2 (g3:Nat) (cp4:List V) r,f s1 f2 = some r→∀ M nb,(V.dems cp4 = cp4)→(V.ons (There M) cp4)→(∀ a8 r,f2 a8 = some r→∀ M2 nb2,nb≤nb2→Ext M M2→ACalls P g3 ([(i_ a8)] ++ cp4) M2 nb2 (b_ r) M2 nb2)→ACalls P c [(l_ s1),.clo g3 cp4] M nb (b_ r) M nb
def Qpr:List COp:=[oo 4 .mov [.c (.d (.bool false))]]
def Qps:List COp:=[oM 5 0,oM 6 1,oo 7 (.call 89) [.t 5,.t 6],oo 8 (.bin .geq false) [.t 7,cI 0],oM 4 8]
def Qft:CFn:=⟨2,9,[.t 4],.seq (.region Qpr 9 []) (.seq (.region Qps 9 []) (.ret))⟩
def Qt (Qb4:(List Int)→(Int→Option Bool)→Option Int) (s1:(List Int)) (f2:(Int→Option Bool)):Option Bool :=
  ((Qb4 s1 f2).bind fun x13=>some (decide (x13≥0)))
def Qee (P:Program) (c:Nat) (f:Qi→(List Int)→Option Bool):Prop:=∀ o1 estimate2 r,f o1 estimate2 = some r→∀ M nb,ACalls P c [(Qk o1),(l_ estimate2)] M nb (b_ r) M nb
def Qlh:List COp:=[oo 2 (.box 4) [.t 0],oo 4 .mov [.c (.d (.bool false))]]
def Qli:List COp:=[oM 5 1,oo 6 (.func 78) [.t 2],oo 7 (.call 58) [.t 5,.t 6],oM 4 7]
def Qef:CFn:=⟨2,8,[.t 4],.seq (.region Qlh 9 []) (.seq (.region Qli 9 []) (.ret))⟩
def Qbk (Qt:(List Int)→(Int→Option Bool)→Option Bool) (Qbc:Int→Qi→Option Bool) (o1:Qi) (estimate2:(List Int)):Option Bool :=
  ((Qt estimate2 (fun a3=>Qbc a3 o1)).bind fun x7=>some x7)
def Qd1 (P:Program) (c:Nat) (f:Qi→(List Int)→Int→Option ((List Int))):Prop:=∀ o1 estimate2 event3 r,f o1 estimate2 event3 = some r→∀ M nb,ACalls P c [(Qk o1),(l_ estimate2),(i_ event3)] M nb (l_ r) M nb
def Qok:List COp:=[oo 3 (.box 4) [.t 0],ot 6 .mov [.c (.nils 1)]]
def Qol:List COp:=[ot 7 .mov [.c (.nils 1)]]
def Qom:List COp:=[oM 12 1,oo 13 .len [.t 12],oo 14 .mov [cI 0]]
def Qon:List COp:=[oo 15 (.bin .lss false) [.t 14,.t 13]]
def Qoo:List COp:=[oo 16 (.idx 1) [.t 12,.t 14],oL 17 16,oM 9 17]
def Qop:List COp:=[oF 18 0 3,oL 19 18,oM 20 9,oo 21 (.idx 1) [.t 19,.t 20],oL 22 21,oo 23 .len [.t 22],oo 24 .mov [cI 0]]
def Qoq:List COp:=[oo 25 (.bin .lss false) [.t 24,.t 23]]
def Qor:List COp:=[oo 26 (.idx 3) [.t 22,.t 24],oo 27 (.load true 3) [.t 26],oo 11 (.alloc [.d (.int .i64 0),.d (.int .i64 0),.d (.int .i64 0)]) [],⟨none,.store 3,[.t 11,.t 27],false,none⟩]
def Qos:List COp:=[oF 28 1 11,oL 29 28,oM 30 2,oo 31 (.bin .eql false) [.t 29,.t 30]]
def Qot:List COp:=[ot 32 .mov [.t 7],oF 33 2 11,oL 34 33,oo 35 (.bslice 1 1 [.d (.int .i64 0)] [0]) [.t 34],ot 36 (.append 1 8) [.t 32,.t 35],ot 7 .mov [.t 36]]
def Qnx:List COp:=[oo 37 (.bin .add false) [.t 24,cI 1],oM 24 37]
def Qny:List COp:=[oo 38 (.bin .add false) [.t 14,cI 1],oM 14 38]
def Qnz:List COp:=[oo 39 (.load true 4) [.t 3],oM 40 7,oF 41 2 3,oL 42 41,oo 43 (.call 50) [.t 39,.t 40,.t 42],ot 6 .mov [.t 43]]
def Qfe:CFn:=⟨3,44,[.t 6],.seq (.region Qok 9 []) (.seq (.region Qol 9 []) (.seq (.seq (.region Qom 9 []) (.block 0 (.loop [11,35] (.seq (.region Qon 9 []) (.seq (.cond (.t 15) (.skip) (.exit 0)) (.seq (.block 1 (.seq (.region Qoo 9 []) (.seq (.region Qop 9 []) (.block 2 (.loop [11,35] (.seq (.region Qoq 9 []) (.seq (.cond (.t 25) (.skip) (.exit 2)) (.seq (.block 3 (.seq (.region Qor 9 []) (.seq (.region Qos 9 []) (.cond (.t 31) (.region Qot 9 []) (.skip))))) (.region Qnx 9 []))))))))) (.region Qny 9 []))))))) (.seq (.region Qnz 9 []) (.ret))))⟩
def Q4 (Q2:Qi→(List Int)→(List Int)→Option ((List Int))) (fuel:Nat) (o1:Qi) (estimate2:(List Int)) (event3:Int):Option ((List Int)) :=
  ((Qcl (fun k6 ((l4,x5):(List Int)×Int)=>(if (x5 < (estimate2.length:Int)) then ((((getO estimate2 x5).bind fun x8=>((getO o1.out_ x8).bind fun x10=>Qcl (fun k14 ((l12,x13):(List Int)×Int)=>(if (x13 < (x10.length:Int)) then ((((getO x10 x13).bind fun x16=>(if (x16.Event == event3) then ((appO l12 [x16.To]).bind fun x19=>some (x19,x16.From,x16.Event,x16.To)) else some (l12,x16.From,x16.Event,x16.To)))).bind fun ((l21,c22,c23,c24):(List Int)×Int×Int×Int)=>k14 (l21,(IntKind.wrap .i64 (x13 + 1)))) else some l12)) fuel (l4,0)))).bind fun (l25:List Int)=>k6 (l25,(IntKind.wrap .i64 (x5 + 1)))) else some l4)) fuel ([],0)).bind fun (l26:List Int)=>((Q2 o1 l26 o1.erased_).bind fun x28=>some x28))
def Qf4 (P:Program) (c:Nat) (f:Qb→(List Int)→Option (Qb×(List (List Int))×Int)):Prop:=∀ a1 onto2 r,f a1 onto2 = some r→∀ M nb,ACalls P c [(Qa a1),(l_ onto2)] M nb (.tup [(Qa r.1),.own 1 (List.map (eL 1 (eI .i64)) r.2.1),(i_ r.2.2)]) M nb
def Qzd:List COp:=[oo 2 (.box 4) [.t 0],oo 4 (.alloc [.nils 1,.d (.int .i64 0),.nils 1,.nils 3]) [],ot 5 .mov [.c (.nils 1)],oo 6 .mov [cI 0]]
def Qze:List COp:=[oo 18 (.load true 4) [.t 2],oM 19 1,oo 20 (.call 38) [.t 18,.t 19],oM 7 20]
def Qzf:List COp:=[oM 21 7,oo 22 (.bin .neq false) [.t 21,cI 0]]
def Qzg:List COp:=[oo 23 (.build [.nils 1,.d (.int .i64 0),.nils 1,.nils 3] []) [],oM 24 7,⟨none,.store 4,[.t 4,.t 23],true,none⟩,ot 5 .mov [.c (.nils 1)],oM 6 24]
def Qzh:List COp:=[oo 25 (.load true 4) [.t 2],oM 26 1,oo 27 (.call 39) [.t 25,.t 26],oo 8 (.alloc [.nils 1,.nils 1,.nils 1,.nils 1]) [],⟨none,.store 4,[.t 8,.t 27],true,none⟩]
def Qzi:List COp:=[oF 28 1 8,oL 29 28,ot 30 (.build [.nils 1,.d (.int .i64 0),.nils 1,.nils 3] [(0,1)]) [.t 29],oo 9 (.alloc [.nils 1,.d (.int .i64 0),.nils 1,.nils 3]) [],⟨none,.store 4,[.t 9,.t 30],true,none⟩]
def Qzj:List COp:=[oF 31 1 2,oL 32 31,oo 33 (.bin .eql false) [.t 32,cI 0]]
def Qzk:List COp:=[oo 34 (.load true 4) [.t 9],⟨none,.store 4,[.t 4,.t 34],true,none⟩,ot 5 .mov [.c (.nils 1)],oo 6 .mov [cI 0]]
def Qzl:List COp:=[oo 35 (.load true 4) [.t 8],oo 36 (.call 40) [.t 35],oo 37 (.bslice 1 1 [.nils 1] [0]) [.t 36],ot 10 .mov [.t 37]]
def Qzm:List COp:=[oo 38 .mkmap [],oM 39 10,oo 40 (.idx 1) [.t 39,cI 0],oL 41 40,oo 42 (.call 41) [.t 41],⟨none,.mapset .str,[.t 38,.t 42,cI 0],false,none⟩,oM 43 38,oM 11 43]
def Qvp:List COp:=[oo 12 .mov [cI 0]]
def Qvq:List COp:=[oM 44 12,oM 45 10,oo 46 .len [.t 45],oo 47 (.bin .lss false) [.t 44,.t 46]]
def Qvr:List COp:=[oo 50 (.load true 4) [.t 8],oM 51 10,oM 52 12,oo 53 (.idx 1) [.t 51,.t 52],oL 54 53,oo 55 (.call 42) [.t 50,.t 54]]
def Qvs:List COp:=[oF 56 2 9,oo 57 .loadT [.t 56],oM 58 12,oo 59 (.bslice 1 1 [.d (.int .i64 0)] [0]) [.t 58],ot 60 (.append 1 8) [.t 57,.t 59],oF 61 2 9,⟨none,.store 1,[.t 61,.t 60],true,none⟩]
def Qvt:List COp:=[oF 62 1 8,oL 63 62,oo 64 .len [.t 63],oo 65 .mov [cI 0]]
def Qvu:List COp:=[oo 66 (.bin .lss false) [.t 65,.t 64]]
def Qvv:List COp:=[oo 67 (.idx 1) [.t 63,.t 65],oL 68 67,oM 14 68]
def Qvw:List COp:=[oo 69 (.load true 4) [.t 8],oM 70 10,oM 71 12,oo 72 (.idx 1) [.t 70,.t 71],oL 73 72,oM 74 14,oo 75 (.call 43) [.t 69,.t 73,.t 74],ot 15 .mov [.t 75]]
def Qvx:List COp:=[oM 76 15,oo 77 .len [.t 76],oo 78 (.bin .eql false) [.t 77,cI 0]]
def Qvy:List COp:=[oM 80 11,oM 81 15,oo 82 (.call 41) [.t 81],oo 83 (.lookup .str true (.d (.int .i64 0))) [.t 80,.t 82],oM 79 83,oo 84 (.extract 0) [.t 79],oo 85 (.extract 1) [.t 79],oM 16 84,oM 17 85]
def Qvz:List COp:=[oM 86 17,oo 87 (.un .not) [.t 86]]
def Qv0:List COp:=[oM 88 10,oo 89 .len [.t 88],oM 16 89]
def Qv1:List COp:=[oM 90 11,oM 91 15,oo 92 (.call 41) [.t 91],oM 93 16,⟨none,.mapset .str,[.t 90,.t 92,.t 93],false,none⟩]
def Qv2:List COp:=[ot 94 .mov [.t 10],oM 95 15,oo 96 (.bslice 1 1 [.nils 1] [0]) [.t 95],ot 97 (.append 1 24) [.t 94,.t 96],ot 10 .mov [.t 97]]
def Qv3:List COp:=[oF 98 3 9,oo 99 .loadT [.t 98],oM 100 12,oM 101 14,oM 102 16,oo 103 (.build [.d (.int .i64 0),.d (.int .i64 0),.d (.int .i64 0)] [(0,1),(1,1),(2,1)]) [.t 100,.t 101,.t 102],oo 104 (.bslice 3 1 [.d (.int .i64 0),.d (.int .i64 0),.d (.int .i64 0)] [0]) [.t 103],ot 105 (.append 3 24) [.t 99,.t 104],oF 106 3 9,⟨none,.store 1,[.t 106,.t 105],true,none⟩]
def Qv4:List COp:=[oo 107 (.bin .add false) [.t 65,cI 1],oM 65 107]
def Qv5:List COp:=[oM 108 10,oo 109 .len [.t 108],oo 110 (.bin .gtr false) [.t 109,cI 4096]]
def Qv6:List COp:=[oo 111 (.build [.nils 1,.d (.int .i64 0),.nils 1,.nils 3] []) [],⟨none,.store 4,[.t 4,.t 111],true,none⟩,ot 5 .mov [.c (.nils 1)],oo 6 .mov [cI 3]]
def Qv7:List COp:=[oM 48 12,oo 49 (.bin .add false) [.t 48,cI 1],oM 12 49]
def Qv8:List COp:=[oM 112 10,oo 113 .len [.t 112],oF 114 1 9,⟨none,.store 1,[.t 114,.t 113],false,none⟩]
def Qv9:List COp:=[oo 115 (.load true 4) [.t 9],ot 116 .mov [.t 10],⟨none,.store 4,[.t 4,.t 115],true,none⟩,ot 5 .mov [.t 116],oo 6 .mov [cI 0]]
def Qij:CFn:=⟨2,117,[.cell 4 true 4,.t 5,.t 6],.seq (.region Qzd 9 []) (.seq (.seq (.region Qze 9 []) (.seq (.region Qzf 9 []) (.cond (.t 22) (.seq (.region Qzg 9 []) (.ret)) (.skip)))) (.seq (.region Qzh 9 []) (.seq (.region Qzi 9 []) (.seq (.seq (.region Qzj 9 []) (.cond (.t 33) (.seq (.region Qzk 9 []) (.ret)) (.skip))) (.seq (.region Qzl 9 []) (.seq (.region Qzm 9 []) (.seq (.seq (.region Qvp 9 []) (.block 0 (.loop [59,96,104] (.seq (.seq (.region Qvq 9 []) (.cond (.t 47) (.skip) (.exit 0))) (.seq (.block 1 (.seq (.seq (.region Qvr 0 []) (.cond (.t 55) (.region Qvs 9 []) (.skip))) (.seq (.seq (.region Qvt 9 []) (.block 2 (.loop [96,104] (.seq (.region Qvu 9 []) (.seq (.cond (.t 66) (.skip) (.exit 2)) (.seq (.block 3 (.seq (.region Qvv 9 []) (.seq (.region Qvw 0 []) (.seq (.seq (.region Qvx 9 []) (.cond (.t 78) (.exit 3) (.skip))) (.seq (.region Qvy 9 []) (.seq (.seq (.region Qvz 9 []) (.cond (.t 87) (.seq (.region Qv0 9 []) (.seq (.region Qv1 9 []) (.region Qv2 9 []))) (.skip))) (.region Qv3 9 []))))))) (.region Qv4 9 []))))))) (.seq (.region Qv5 9 []) (.cond (.t 110) (.seq (.region Qv6 9 []) (.ret)) (.skip)))))) (.region Qv7 9 [])))))) (.seq (.region Qv8 9 []) (.seq (.region Qv9 9 []) (.ret))))))))))⟩
def Qbo (Qw:Qb→(List Int)→Option Int) (Q1:Qb→(List Int)→Option Qi) (Q3:Qi→Option ((List Int))) (f_projection_key:(List Int)→Option ByteArray) (Qbk:Qi→(List Int)→Option Bool) (Q4:Qi→(List Int)→Int→Option ((List Int))) (fuel:Nat) (a1:Qb) (onto2:(List Int)):Option (Qb×(List (List Int))×Int) :=
  ((Qw a1 onto2).bind fun x4=>(if (x4 != 0) then some ((Qb.mk [] 0 [] []),[],x4) else ((Q1 a1 onto2).bind fun x7=>(if (a1.States == 0) then some ((Qb.mk x7.kept_ 0 [] []),[],0) else ((Q3 x7).bind fun x10=>((f_projection_key x10).bind fun x12=>Qcl (fun k21 ((states13,i14,c15,c16,c17,r18,r19,c20):(List (List Int))×Int×(List Int)×(List Int)×(List Qe)×(List Int)×(List Qe)×(List (ByteArray×Int)))=>(if (i14 < (states13.length:Int)) then ((((getO states13 i14).bind fun x23=>((Qbk x7 x23).bind fun x26=>(if x26 then ((appO r18 [i14]).bind fun x28=>some x28) else some r18)))).bind fun (r30:List Int)=>((Qcl (fun k35 ((states31,x32,r33,c34):(List (List Int))×Int×(List Qe)×(List (ByteArray×Int)))=>(if (x32 < (x7.kept_.length:Int)) then ((((getO x7.kept_ x32).bind fun x37=>((getO states31 i14).bind fun x39=>((Q4 x7 x39 x37).bind fun x42=>(if ((x42.length:Int) == 0) then some (states31,r33,c34) else ((f_projection_key x42).bind fun x45=>(((if (hasM c34 x45) then some (states31,(getM c34 x45 0),c34) else ((f_projection_key x42).bind fun x48=>((appO states31 [x42]).bind fun x49=>some (x49,(states31.length:Int),(setM c34 x48 (states31.length:Int))))))).bind fun ((states51,to52,c53):(List (List Int))×Int×(List (ByteArray×Int)))=>((appO r33 [(Qe.mk i14 x37 to52)]).bind fun x54=>some (states51,x54,c53))))))))).bind fun ((states56,r57,c58):(List (List Int))×(List Qe)×(List (ByteArray×Int)))=>k35 (states56,(IntKind.wrap .i64 (x32 + 1)),r57,c58)) else some (states31,r33,c34))) fuel (states13,0,r19,c20)).bind fun ((states59,r60,c61):(List (List Int))×(List Qe)×(List (ByteArray×Int)))=>(if ((states59.length:Int) > 4096) then some ((Qb.mk [] 0 [] []),[],3) else k21 (states59,(IntKind.wrap .i64 (i14 + 1)),c15,c16,c17,r30,r60,c61)))) else some ((Qb.mk x7.kept_ (states13.length:Int) r18 r19),states13,0))) fuel ([x10],0,[],[],[],[],[],(setM ([]:List (ByteArray×Int)) x12 0))))))))
def Qeq (P:Program) (c:Nat) (f:Int→Qi→Option Bool):Prop:=∀ x1 x2 (k3:Nat) r,f x1 x2 = some r→∀ M nb,(M k3 = some (.cells (Qn x2)))→ACalls P c [(i_ x1),.ptr k3 0] M nb (b_ r) M nb
def Ql0:List COp:=[oo 3 .mov [.c (.d (.bool false))]]
def Ql1:List COp:=[oF 4 1 1,oL 5 4,oM 6 0,oo 7 (.call 56) [.t 5,.t 6],oo 8 (.un .not) [.t 7],oM 3 8]
def Qer:CFn:=⟨2,9,[.t 3],.seq (.region Ql0 9 []) (.seq (.region Ql1 9 []) (.ret))⟩
def Qbe (Qg:(List Int)→Int→Option Bool) (x1:Int) (x2:Qi):Option Bool :=
  ((Qg x2.kept_ x1).bind fun x6=>some (!x6))
def Qdr (P:Program) (c:Nat) (f:Qi→(List Int)→Option Bool):Prop:=∀ o1 observation2 r,f o1 observation2 = some r→∀ M nb,ACalls P c [(Qk o1),(l_ observation2)] M nb (b_ r) M nb
def Qn0:List COp:=[oo 2 (.box 4) [.t 0],oo 4 .mov [.c (.d (.bool false))]]
def Qn1:List COp:=[oM 5 1,oo 6 (.func 84) [.t 2],oo 7 (.call 58) [.t 5,.t 6],oo 8 (.un .not) [.t 7],oM 4 8]
def Qe7:CFn:=⟨2,9,[.t 4],.seq (.region Qn0 9 []) (.seq (.region Qn1 9 []) (.ret))⟩
def Qy (Qt:(List Int)→(Int→Option Bool)→Option Bool) (Qbe:Int→Qi→Option Bool) (o1:Qi) (observation2:(List Int)):Option Bool :=
  ((Qt observation2 (fun a3=>Qbe a3 o1)).bind fun x7=>some (!x7))
def Qfj (P:Program) (c:Nat) (f:(List Int)→Option ((List Int))):Prop:=∀ s1 r,f s1 = some r→∀ M nb,ACalls P c [(l_ s1)] M nb (o_ r) M nb
def Q4j:List COp:=[ot 2 .mov [.c (.nils 1)]]
def Q4k:List COp:=[oM 3 0,oo 4 (.isnil false) [.t 3]]
def Q4l:List COp:=[ot 2 .mov [.c (.nils 1)]]
def Q4m:List COp:=[oo 5 (.bslice 1 0 [.d (.int .i64 0)] []) [],oM 6 0,ot 7 (.append 1 8) [.t 5,.t 6],ot 2 .mov [.t 7]]
def Qkm:CFn:=⟨1,8,[.t 2],.seq (.region Q4j 9 []) (.seq (.seq (.region Q4k 9 []) (.cond (.t 4) (.seq (.region Q4l 9 []) (.ret)) (.skip))) (.seq (.region Q4m 9 []) (.ret)))⟩
def Q5 (s1:(List Int)):Option ((List Int)) :=
  (nilO s1 fun b2=>(if b2 then some [] else ((appO [] s1).bind fun x4=>some x4)))
def Qia (P:Program) (c:Nat) (f:Qb→(List Int)→(List Int)→Bool→Option ((List Int)×Bool×Int)):Prop:=∀ a1 onto2 observation3 marked4 r,f a1 onto2 observation3 marked4 = some r→∀ M nb,ACalls P c [(Qa a1),(l_ onto2),(l_ observation3),(b_ marked4)] M nb (.tup [(l_ r.1),(b_ r.2.1),(i_ r.2.2)]) M nb
def Q7b:List COp:=[oo 4 (.box 4) [.t 0],ot 8 .mov [.c (.nils 1)],oo 9 .mov [.c (.d (.bool false))],oo 10 .mov [cI 0]]
def Q7c:List COp:=[oo 20 (.load true 4) [.t 4],oM 21 1,oo 22 (.call 38) [.t 20,.t 21],oM 10 22]
def Q7d:List COp:=[oM 23 10,oo 24 (.bin .neq false) [.t 23,cI 0]]
def Q7e:List COp:=[oM 25 10,ot 8 .mov [.c (.nils 1)],oo 9 .mov [.c (.d (.bool false))],oM 10 25]
def Q7f:List COp:=[oo 26 (.load true 4) [.t 4],oM 27 1,oo 28 (.call 39) [.t 26,.t 27],oo 11 (.alloc [.nils 1,.nils 1,.nils 1,.nils 1]) [],⟨none,.store 4,[.t 11,.t 28],true,none⟩]
def Q7g:List COp:=[oo 29 (.load true 4) [.t 11],oM 30 2,oo 31 (.call 52) [.t 29,.t 30],oo 32 (.un .not) [.t 31]]
def Q7h:List COp:=[ot 8 .mov [.c (.nils 1)],oo 9 .mov [.c (.d (.bool false))],oo 10 .mov [cI 9]]
def Q7i:List COp:=[oF 33 1 4,oL 34 33,oo 35 (.bin .eql false) [.t 34,cI 0]]
def Q7j:List COp:=[ot 8 .mov [.c (.nils 1)],oo 9 .mov [.c (.d (.bool false))],oo 10 .mov [cI 0]]
def Q7k:List COp:=[oo 36 .mkmap [],oo 37 (.build [.d (.int .i64 0),.d (.int .i64 0)] []) [],⟨none,.mapset (.st [.int .i64,.int .i64]),[.t 36,.t 37,.c (.nils 1)],false,none⟩,oM 38 36,oM 12 38]
def Q4n:List COp:=[oo 39 (.build [.d (.int .i64 0),.d (.int .i64 0)] []) [],oo 40 (.bslice 2 1 [.d (.int .i64 0),.d (.int .i64 0)] [0]) [.t 39],ot 13 .mov [.t 40]]
def Q4o:List COp:=[oM 41 13,oo 42 .len [.t 41],oo 43 (.bin .gtr false) [.t 42,cI 0]]
def Q4p:List COp:=[oM 46 13,oo 47 (.idx 2) [.t 46,cI 0],oo 48 (.load true 2) [.t 47],oo 14 (.alloc [.d (.int .i64 0),.d (.int .i64 0)]) [],⟨none,.store 2,[.t 14,.t 48],false,none⟩]
def Q4q:List COp:=[oF 49 1 14,oL 50 49,oM 51 2,oo 52 .len [.t 51],oo 53 (.bin .eql false) [.t 50,.t 52],oM 54 53,⟨some 55,.mov,[.t 3],false,some (54,true)⟩,⟨some 56,.un .not,[.t 55],false,some (54,true)⟩,⟨some 57,.mov,[.t 56],false,some (54,true)⟩,⟨some 58,.fld 2,[.t 4],false,some (57,false)⟩,⟨some 59,.load false 1,[.t 58],false,some (57,false)⟩,⟨some 60,.fld 0,[.t 14],false,some (57,false)⟩,⟨some 61,.load false 1,[.t 60],false,some (57,false)⟩,⟨some 62,.call 56,[.t 59,.t 61],false,some (57,false)⟩,⟨some 63,.pick,[.t 57,.c (.d (.bool true)),.t 62],false,some (54,true)⟩,oo 64 .pick [.t 54,.t 63,.c (.d (.bool false))]]
def Q4r:List COp:=[oM 65 12,oo 66 (.load true 2) [.t 14],oo 67 (.lookup (.st [.int .i64,.int .i64]) false (.d (.lst 1 []))) [.t 65,.t 66],ot 8 .mov [.t 67],oo 9 .mov [.c (.d (.bool true))],oo 10 .mov [cI 0]]
def Q4s:List COp:=[oF 68 0 11,oL 69 68,oF 70 0 14,oL 71 70,oo 72 (.idx 1) [.t 69,.t 71],oL 73 72,oo 74 .len [.t 73],oo 75 .mov [cI 0]]
def Q4t:List COp:=[oo 76 (.bin .lss false) [.t 75,.t 74]]
def Q4u:List COp:=[oo 77 (.idx 3) [.t 73,.t 75],oo 78 (.load true 3) [.t 77],oo 16 (.alloc [.d (.int .i64 0),.d (.int .i64 0),.d (.int .i64 0)]) [],⟨none,.store 3,[.t 16,.t 78],false,none⟩]
def Q4v:List COp:=[oF 79 2 16,oL 80 79,oF 81 1 14,oL 82 81,oo 83 (.build [.d (.int .i64 0),.d (.int .i64 0)] [(0,1),(1,1)]) [.t 80,.t 82],oo 17 (.alloc [.d (.int .i64 0),.d (.int .i64 0)]) [],⟨none,.store 2,[.t 17,.t 83],false,none⟩]
def Q4w:List COp:=[oF 84 1 11,oL 85 84,oF 86 1 16,oL 87 86,oo 88 (.call 56) [.t 85,.t 87]]
def Q4x:List COp:=[oF 89 1 14,oL 90 89,oM 91 2,oo 92 .len [.t 91],oo 93 (.bin .eql false) [.t 90,.t 92],oM 94 93,⟨some 95,.mov,[.t 2],false,some (94,false)⟩,⟨some 96,.fld 1,[.t 14],false,some (94,false)⟩,⟨some 97,.load false 1,[.t 96],false,some (94,false)⟩,⟨some 98,.idx 1,[.t 95,.t 97],false,some (94,false)⟩,⟨some 99,.load false 1,[.t 98],false,some (94,false)⟩,⟨some 100,.fld 1,[.t 16],false,some (94,false)⟩,⟨some 101,.load false 1,[.t 100],false,some (94,false)⟩,⟨some 102,.bin .neq false,[.t 99,.t 101],false,some (94,false)⟩,oo 103 .pick [.t 94,.c (.d (.bool true)),.t 102]]
def Q4y:List COp:=[oF 104 1 17,oL 105 104,oo 106 (.bin .add false) [.t 105,cI 1],oF 107 1 17,⟨none,.store 1,[.t 107,.t 106],false,none⟩]
def Q4z:List COp:=[oM 109 12,oo 110 (.load true 2) [.t 17],oo 111 (.lookup (.st [.int .i64,.int .i64]) true (.d (.lst 1 []))) [.t 109,.t 110],oM 108 111,ot 112 (.extract 0) [.t 108],oo 113 (.extract 1) [.t 108],ot 18 .mov [.t 112],oM 19 113]
def Q40:List COp:=[oM 114 19,oo 115 (.un .not) [.t 114]]
def Q41:List COp:=[oM 116 12,oo 117 (.load true 2) [.t 17],oM 118 12,oo 119 (.load true 2) [.t 14],oo 120 (.lookup (.st [.int .i64,.int .i64]) false (.d (.lst 1 []))) [.t 118,.t 119],oo 121 (.call 55) [.t 120],oF 122 1 16,oL 123 122,oo 124 (.bslice 1 1 [.d (.int .i64 0)] [0]) [.t 123],ot 125 (.append 1 8) [.t 121,.t 124],⟨none,.mapset (.st [.int .i64,.int .i64]),[.t 116,.t 117,.t 125],false,none⟩]
def Q42:List COp:=[ot 126 .mov [.t 13],oo 127 (.load true 2) [.t 17],oo 128 (.bslice 2 1 [.d (.int .i64 0),.d (.int .i64 0)] [0]) [.t 127],ot 129 (.append 2 16) [.t 126,.t 128],ot 13 .mov [.t 129]]
def Q43:List COp:=[oo 130 (.bin .add false) [.t 75,cI 1],oM 75 130]
def Q44:List COp:=[ot 44 .mov [.t 13],ot 45 (.slcT 2) [.t 44,cI 1],ot 13 .mov [.t 45]]
def Q45:List COp:=[ot 8 .mov [.c (.nils 1)],oo 9 .mov [.c (.d (.bool false))],oo 10 .mov [cI 0]]
def Ql2:CFn:=⟨4,131,[.t 8,.t 9,.t 10],.seq (.region Q7b 9 []) (.seq (.seq (.region Q7c 9 []) (.seq (.region Q7d 9 []) (.cond (.t 24) (.seq (.region Q7e 9 []) (.ret)) (.skip)))) (.seq (.region Q7f 9 []) (.seq (.seq (.region Q7g 9 []) (.cond (.t 32) (.seq (.region Q7h 9 []) (.ret)) (.skip))) (.seq (.seq (.region Q7i 9 []) (.cond (.t 35) (.seq (.region Q7j 9 []) (.ret)) (.skip))) (.seq (.region Q7k 9 []) (.seq (.seq (.region Q4n 9 []) (.block 0 (.loop [14,16,17,124,128] (.seq (.seq (.region Q4o 9 []) (.cond (.t 43) (.skip) (.exit 0))) (.seq (.block 1 (.seq (.region Q4p 9 []) (.seq (.seq (.region Q4q 9 []) (.cond (.t 64) (.seq (.region Q4r 9 []) (.ret)) (.skip))) (.seq (.region Q4s 9 []) (.block 2 (.loop [16,17,124,128] (.seq (.region Q4t 9 []) (.seq (.cond (.t 76) (.skip) (.exit 2)) (.seq (.block 3 (.seq (.region Q4u 9 []) (.seq (.region Q4v 9 []) (.seq (.seq (.region Q4w 9 []) (.cond (.t 88) (.seq (.seq (.region Q4x 0 []) (.cond (.t 103) (.exit 3) (.skip))) (.region Q4y 9 [])) (.skip))) (.seq (.region Q4z 9 []) (.seq (.region Q40 9 []) (.cond (.t 115) (.seq (.region Q41 1 []) (.region Q42 9 [])) (.skip)))))))) (.region Q43 9 [])))))))))) (.region Q44 9 [])))))) (.seq (.region Q45 9 []) (.ret))))))))⟩
def Qbu (Qw:Qb→(List Int)→Option Int) (Q1:Qb→(List Int)→Option Qi) (Qy:Qi→(List Int)→Option Bool) (Q5:(List Int)→Option ((List Int))) (Qg:(List Int)→Int→Option Bool) (fuel:Nat) (a1:Qb) (onto2:(List Int)) (observation3:(List Int)) (marked4:Bool):Option ((List Int)×Bool×Int) :=
  ((Qw a1 onto2).bind fun x6=>(if (x6 != 0) then some ([],false,x6) else ((Q1 a1 onto2).bind fun x9=>((Qy x9 observation3).bind fun x11=>(if x11 then (if (a1.States == 0) then some ([],false,0) else Qcl (fun k16 ((l14,c15):(List Qh)×(List (Qh×(List Int))))=>(if ((l14.length:Int) > 0) then ((getO l14 0).bind fun x18=>(((if (x18.done_ == (observation3.length:Int)) then (if marked4 then ((Qg a1.Marked x18.state_).bind fun x23=>some x23) else some true) else some false)).bind fun (x24:Bool)=>(if x24 then some ((getM c15 x18 []),true,0) else ((getO x9.out_ x18.state_).bind fun x26=>Qcl (fun k31 ((l28,x29,c30):(List Qh)×Int×(List (Qh×(List Int))))=>(if (x29 < (x26.length:Int)) then ((((getO x26 x29).bind fun x33=>letJ (fun (q43:Int)=>(if (hasM c30 (Qh.mk x33.To q43)) then some (l28,c30,x33.From,x33.Event,x33.To,x33.To,q43) else ((Q5 (getM c30 x18 [])).bind fun x46=>((appO x46 [x33.Event]).bind fun x47=>((appO l28 [(Qh.mk x33.To q43)]).bind fun x49=>some (x49,(setM c30 (Qh.mk x33.To q43) x47),x33.From,x33.Event,x33.To,x33.To,q43)))))) fun J51=>((Qg x9.kept_ x33.Event).bind fun x36=>(if x36 then (((if (x18.done_ == (observation3.length:Int)) then some true else ((getO observation3 x18.done_).bind fun x39=>some (x39 != x33.Event)))).bind fun (x41:Bool)=>(if x41 then some (l28,c30,x33.From,x33.Event,x33.To,x33.To,x18.done_) else J51 (IntKind.wrap .i64 (x18.done_ + 1)))) else J51 x18.done_)))).bind fun ((l52,c53,c54,c55,c56,q57,q58):(List Qh)×(List (Qh×(List Int)))×Int×Int×Int×Int×Int)=>k31 (l52,(IntKind.wrap .i64 (x29 + 1)),c53)) else ((slcO l28 1 (l28.length:Int)).bind fun x59=>k16 (x59,c30)))) fuel (l14,0,c15))))) else some ([],false,0))) fuel ([(Qh.mk 0 0)],(setM ([]:List (Qh×(List Int))) (Qh.mk 0 0) []))) else some ([],false,9))))))
def Qi4 (P:Program) (c:Nat) (f:(List Qe)→Option ((List Qe))):Prop:=∀ s1 r,f s1 = some r→∀ M nb,ACalls P c [.d (.lst 3 (List.map Qc s1))] M nb (.own 3 (List.map Qc r)) M nb
def Q1s:List COp:=[ot 2 .mov [.c (.nils 3)]]
def Q1t:List COp:=[oM 3 0,oo 4 (.isnil false) [.t 3]]
def Q1u:List COp:=[ot 2 .mov [.c (.nils 3)]]
def Q1v:List COp:=[oo 5 (.bslice 3 0 [.d (.int .i64 0),.d (.int .i64 0),.d (.int .i64 0)] []) [],oM 6 0,ot 7 (.append 3 24) [.t 5,.t 6],ot 2 .mov [.t 7]]
def Qi5:CFn:=⟨1,8,[.t 2],.seq (.region Q1s 9 []) (.seq (.seq (.region Q1t 9 []) (.cond (.t 4) (.seq (.region Q1u 9 []) (.ret)) (.skip))) (.seq (.region Q1v 9 []) (.ret)))⟩
def Qc1 (s1:(List Qe)):Option ((List Qe)) :=
  (nilO s1 fun b2=>(if b2 then some [] else ((appO [] s1).bind fun x4=>some x4)))
def K_slices_Grow_int (P:Program) (c:Nat) (f:Int→Option ((List Int))):Prop:=∀ n1 r,f n1 = some r→∀ M nb,ACalls P c [.nils 1,(i_ n1)] M nb (o_ r) M nb
def Qi6 (P:Program) (c:Nat) (f:(List (List Int))→Option ((List Int))):Prop:=∀ slices1 r,f slices1 = some r→∀ M nb,ACalls P c [.d (.lst 1 (List.map (eL 1 (eI .i64)) slices1))] M nb (o_ r) M nb
def Q1w:List COp:=[ot 2 .mov [.c (.nils 1)]]
def Q1x:List COp:=[oo 3 .mov [cI 0]]
def Q1y:List COp:=[oM 9 0,oo 10 .len [.t 9],oo 11 .mov [cI 0]]
def Q1z:List COp:=[oo 12 (.bin .lss false) [.t 11,.t 10]]
def Q10:List COp:=[oo 13 (.idx 1) [.t 9,.t 11],oL 14 13,ot 5 .mov [.t 14]]
def Q11:List COp:=[oM 15 3,oM 16 5,oo 17 .len [.t 16],oo 18 (.bin .add false) [.t 15,.t 17],oM 3 18]
def Q12:List COp:=[oM 19 3,oo 20 (.bin .lss false) [.t 19,cI 0]]
def Q13:List COp:=[oo 22 (.bin .add false) [.t 11,cI 1],oM 11 22]
def Q14:List COp:=[oM 23 3,oo 24 (.call 91) [.c (.nils 1),.t 23],ot 6 .mov [.t 24]]
def Q15:List COp:=[oM 25 0,oo 26 .len [.t 25],oo 27 .mov [cI 0]]
def Qzn:List COp:=[oo 28 (.bin .lss false) [.t 27,.t 26]]
def Qzo:List COp:=[oo 29 (.idx 1) [.t 25,.t 27],oL 30 29,ot 8 .mov [.t 30]]
def Qzp:List COp:=[ot 31 .mov [.t 6],oM 32 8,ot 33 (.append 1 8) [.t 31,.t 32],ot 6 .mov [.t 33]]
def Qzq:List COp:=[oo 34 (.bin .add false) [.t 27,cI 1],oM 27 34]
def Qzr:List COp:=[ot 35 .mov [.t 6],ot 2 .mov [.t 35]]
def Qi7:CFn:=⟨1,36,[.t 2],.seq (.region Q1w 9 []) (.seq (.region Q1x 9 []) (.seq (.seq (.region Q1y 9 []) (.block 0 (.loop [] (.seq (.region Q1z 9 []) (.seq (.cond (.t 12) (.skip) (.exit 0)) (.seq (.block 1 (.seq (.region Q10 9 []) (.seq (.region Q11 9 []) (.seq (.region Q12 9 []) (.cond (.t 20) (.dead) (.skip)))))) (.region Q13 9 []))))))) (.seq (.region Q14 9 []) (.seq (.seq (.region Q15 9 []) (.block 2 (.loop [] (.seq (.region Qzn 9 []) (.seq (.cond (.t 28) (.skip) (.exit 2)) (.seq (.block 3 (.seq (.region Qzo 9 []) (.region Qzp 9 []))) (.region Qzq 9 []))))))) (.seq (.region Qzr 9 []) (.ret))))))⟩
def Qc2 (f_slices_Grow_int:Int→Option ((List Int))) (fuel:Nat) (slices1:(List (List Int))):Option ((List Int)) :=
  ((Qcl (fun k4 ((size2,x3):Int×Int)=>(if (x3 < (slices1.length:Int)) then ((getO slices1 x3).bind fun x6=>(if ((IntKind.wrap .i64 (size2 + (x6.length:Int))) < 0) then none else k4 ((IntKind.wrap .i64 (size2 + (x6.length:Int))),(IntKind.wrap .i64 (x3 + 1))))) else some size2)) fuel (0,0)).bind fun (size9:Int)=>((f_slices_Grow_int size9).bind fun x11=>((Qcl (fun k14 ((newslice12,x13):(List Int)×Int)=>(if (x13 < (slices1.length:Int)) then ((getO slices1 x13).bind fun x16=>((appO newslice12 x16).bind fun x18=>k14 (x18,(IntKind.wrap .i64 (x13 + 1))))) else some newslice12)) fuel (x11,0)).bind fun (newslice20:List Int)=>some newslice20)))
def Qlp (P:Program) (c:Nat) (f:Qe→Qe→Option Int):Prop:=∀ x1 y2 r,f x1 y2 = some r→∀ M nb,ACalls P c [(Qbs x1),(Qbs y2)] M nb (i_ r) M nb
def Qtd:List COp:=[oo 2 (.box 3) [.t 0],oo 3 (.box 3) [.t 1],oo 4 .mov [cI 0]]
def Qte:List COp:=[oF 5 0 2,oL 6 5,oF 7 0 3,oL 8 7,oo 9 (.bin .neq false) [.t 6,.t 8]]
def Qtf:List COp:=[oF 10 0 2,oL 11 10,oF 12 0 3,oL 13 12,oo 14 (.bin .sub false) [.t 11,.t 13],oM 4 14]
def Qtg:List COp:=[oF 15 1 2,oL 16 15,oF 17 1 3,oL 18 17,oo 19 (.bin .sub false) [.t 16,.t 18],oM 4 19]
def Qg7:CFn:=⟨2,20,[.t 4],.seq (.region Qtd 9 []) (.seq (.seq (.region Qte 9 []) (.cond (.t 9) (.seq (.region Qtf 9 []) (.ret)) (.skip))) (.seq (.region Qtg 9 []) (.ret)))⟩
def Qg8 (x1:Qe) (y2:Qe):Option Int :=
  (if (x1.From != y2.From) then some (IntKind.wrap .i64 (x1.From - y2.From)) else some (IntKind.wrap .i64 (x1.Event - y2.Event)))
def Qpt (P:Program) (c:Nat) (f:Int→Option Bool):Prop:=∀ x1 r,f x1 = some r→∀ M nb,ACalls P c [(i_ x1)] M nb (b_ r) M nb
def Q96:List COp:=[oo 2 .mov [.c (.d (.bool false))]]
def Q97:List COp:=[oM 3 0,oM 4 0,oo 5 (.bin .neq false) [.t 3,.t 4],oM 2 5]
def Qpu:CFn:=⟨1,6,[.t 2],.seq (.region Q96 9 []) (.seq (.region Q97 9 []) (.ret))⟩
def Qds (x1:Int):Option Bool :=
  some (x1 != x1)
def Qr2 (P:Program) (c:Nat) (f:Int→Int→Option Bool):Prop:=∀ x1 y2 r,f x1 y2 = some r→∀ M nb,ACalls P c [(i_ x1),(i_ y2)] M nb (b_ r) M nb
def Qba7:List COp:=[oo 4 .mov [.c (.d (.bool false))]]
def Qba8:List COp:=[oM 5 0,oo 6 (.call 121) [.t 5],oM 7 6,⟨some 8,.mov,[.t 1],false,some (7,true)⟩,⟨some 9,.call 121,[.t 8],false,some (7,true)⟩,⟨some 10,.un .not,[.t 9],false,some (7,true)⟩,oo 11 .pick [.t 7,.t 10,.c (.d (.bool false))],oM 12 11,⟨some 13,.mov,[.t 0],false,some (12,false)⟩,⟨some 14,.mov,[.t 1],false,some (12,false)⟩,⟨some 15,.bin .lss false,[.t 13,.t 14],false,some (12,false)⟩,oo 16 .pick [.t 12,.c (.d (.bool true)),.t 15],oM 4 16]
def Qr3:CFn:=⟨2,17,[.t 4],.seq (.region Qba7 9 []) (.seq (.region Qba8 9 []) (.ret))⟩
def Qe1 (Qds:Int→Option Bool) (x1:Int) (y2:Int):Option Bool :=
  ((Qds x1).bind fun x4=>(if x4 then ((Qds y2).bind fun x7=>(if x7 then some (decide (x1 < y2)) else some true)) else some (decide (x1 < y2))))
def Qkn (P:Program) (c:Nat) (f:Int→Option Bool):Prop:=∀ x1 r,f x1 = some r→∀ M nb,ACalls P c [(i_ x1)] M nb (b_ r) M nb
def Q46:List COp:=[oo 2 .mov [.c (.d (.bool false))]]
def Q47:List COp:=[oM 3 0,oM 4 0,oo 5 (.bin .neq false) [.t 3,.t 4],oM 2 5]
def Qko:CFn:=⟨1,6,[.t 2],.seq (.region Q46 9 []) (.seq (.region Q47 9 []) (.ret))⟩
def Qcx (x1:Int):Option Bool :=
  some (x1 != x1)
def Qfu (P:Program) (c:Nat) (f:(List Int)→Int→Option (Int×Bool)):Prop:=∀ x1 target2 r,f x1 target2 = some r→∀ M nb,ACalls P c [(l_ x1),(i_ target2)] M nb (.tup [(i_ r.1),(b_ r.2)]) M nb
def Qpv:List COp:=[oo 4 .mov [cI 0],oo 5 .mov [.c (.d (.bool false))]]
def Qpw:List COp:=[oM 10 0,oo 11 .len [.t 10],oM 6 11]
def Qpx:List COp:=[oM 12 6,oo 7 .mov [cI 0],oM 8 12]
def Qpy:List COp:=[oM 13 7,oM 14 8,oo 15 (.bin .lss false) [.t 13,.t 14]]
def Qpz:List COp:=[oM 16 7,oM 17 8,oo 18 (.bin .add false) [.t 16,.t 17],oo 19 (.conv .u64) [.t 18],oo 20 (.bin .shr false) [.t 19,.c (.d (.int .u64 1))],oo 21 (.conv .i64) [.t 20],oM 9 21]
def Qp0:List COp:=[oM 22 0,oM 23 9,oo 24 (.idx 1) [.t 22,.t 23],oL 25 24,oM 26 1,oo 27 (.call 97) [.t 25,.t 26]]
def Qp1:List COp:=[oM 28 9,oo 29 (.bin .add false) [.t 28,cI 1],oM 7 29]
def Qp2:List COp:=[oM 30 9,oM 8 30]
def Qp3:List COp:=[oM 31 7,oM 32 7,oM 33 6,oo 34 (.bin .lss false) [.t 32,.t 33],oM 35 34,⟨some 36,.mov,[.t 0],false,some (35,true)⟩,⟨some 37,.mov,[.t 7],false,some (35,true)⟩,⟨some 38,.idx 1,[.t 36,.t 37],false,some (35,true)⟩,⟨some 39,.load false 1,[.t 38],false,some (35,true)⟩,⟨some 40,.mov,[.t 1],false,some (35,true)⟩,⟨some 41,.bin .eql false,[.t 39,.t 40],false,some (35,true)⟩,⟨some 42,.mov,[.t 41],false,some (35,true)⟩,⟨some 43,.mov,[.t 0],false,some (42,false)⟩,⟨some 44,.mov,[.t 7],false,some (42,false)⟩,⟨some 45,.idx 1,[.t 43,.t 44],false,some (42,false)⟩,⟨some 46,.load false 1,[.t 45],false,some (42,false)⟩,⟨some 47,.call 98,[.t 46],false,some (42,false)⟩,⟨some 48,.mov,[.t 47],false,some (42,false)⟩,⟨some 49,.mov,[.t 1],false,some (48,true)⟩,⟨some 50,.call 98,[.t 49],false,some (48,true)⟩,⟨some 51,.pick,[.t 48,.t 50,.c (.d (.bool false))],false,some (42,false)⟩,⟨some 52,.pick,[.t 42,.c (.d (.bool true)),.t 51],false,some (35,true)⟩,oo 53 .pick [.t 35,.t 52,.c (.d (.bool false))],oM 4 31,oM 5 53]
def Qfv:CFn:=⟨2,54,[.t 4,.t 5],.seq (.region Qpv 9 []) (.seq (.region Qpw 9 []) (.seq (.region Qpx 9 []) (.seq (.block 0 (.loop [] (.seq (.seq (.region Qpy 9 []) (.cond (.t 15) (.skip) (.exit 0))) (.block 1 (.seq (.region Qpz 9 []) (.seq (.region Qp0 9 []) (.cond (.t 27) (.region Qp1 9 []) (.region Qp2 9 [])))))))) (.seq (.region Qp3 9 []) (.ret)))))⟩
def Qbz (Qe1:Int→Int→Option Bool) (Qcx:Int→Option Bool) (fuel:Nat) (x1:(List Int)) (target2:Int):Option (Int×Bool) :=
  ((Qcl (fun k5 ((i3,j4):Int×Int)=>(if (i3 < j4) then ((getO x1 (IntKind.wrap .i64 (Int.fdiv (IntKind.wrap .u64 (IntKind.wrap .i64 (i3 + j4))) (2 ^ (min (Int.toNat 1) (IntKind.bits .u64)))))).bind fun x7=>((Qe1 x7 target2).bind fun x10=>(if x10 then k5 ((IntKind.wrap .i64 ((IntKind.wrap .i64 (Int.fdiv (IntKind.wrap .u64 (IntKind.wrap .i64 (i3 + j4))) (2 ^ (min (Int.toNat 1) (IntKind.bits .u64))))) + 1)),j4) else k5 (i3,(IntKind.wrap .i64 (Int.fdiv (IntKind.wrap .u64 (IntKind.wrap .i64 (i3 + j4))) (2 ^ (min (Int.toNat 1) (IntKind.bits .u64))))))))) else some i3)) fuel (0,(x1.length:Int))).bind fun (i12:Int)=>(if (i12 < (x1.length:Int)) then ((getO x1 i12).bind fun x14=>(if (x14 == target2) then some (i12,true) else ((getO x1 i12).bind fun x17=>((Qcx x17).bind fun x20=>(if x20 then ((Qcx target2).bind fun x23=>some (i12,x23)) else some (i12,false)))))) else some (i12,false)))
def Qes (P:Program) (c:Nat) (f:(List Qe)→Int→(Qe→Int→Option Int)→Option (Int×Bool)):Prop:=∀ x1 target2 cmp3 (g4:Nat) (cp5:List V) r,f x1 target2 cmp3 = some r→∀ M nb,(V.dems cp5 = cp5)→(V.ons (There M) cp5)→(∀ a9 a10 r,cmp3 a9 a10 = some r→∀ M2 nb2,nb≤nb2→Ext M M2→ACalls P g4 ([(Qbs a9),(i_ a10)] ++ cp5) M2 nb2 (i_ r) M2 nb2)→ACalls P c [.d (.lst 3 (List.map Qc x1)),(i_ target2),.clo g4 cp5] M nb (.tup [(i_ r.1),(b_ r.2)]) M nb
def Ql3:List COp:=[oo 6 .mov [cI 0],oo 7 .mov [.c (.d (.bool false))]]
def Ql4:List COp:=[oM 12 0,oo 13 .len [.t 12],oM 8 13]
def Ql5:List COp:=[oM 14 8,oo 9 .mov [cI 0],oM 10 14]
def Ql6:List COp:=[oM 15 9,oM 16 10,oo 17 (.bin .lss false) [.t 15,.t 16]]
def Ql7:List COp:=[oM 18 9,oM 19 10,oo 20 (.bin .add false) [.t 18,.t 19],oo 21 (.conv .u64) [.t 20],oo 22 (.bin .shr false) [.t 21,.c (.d (.int .u64 1))],oo 23 (.conv .i64) [.t 22],oM 11 23]
def Ql8:List COp:=[oM 24 2,oM 25 0,oM 26 11,oo 27 (.idx 3) [.t 25,.t 26],oo 28 (.load true 3) [.t 27],oM 29 1,oo 30 .callv [.t 24,.t 28,.t 29],oo 31 (.bin .lss false) [.t 30,cI 0]]
def Ql9:List COp:=[oM 32 11,oo 33 (.bin .add false) [.t 32,cI 1],oM 9 33]
def Qma:List COp:=[oM 34 11,oM 10 34]
def Qmb:List COp:=[oM 35 9,oM 36 9,oM 37 8,oo 38 (.bin .lss false) [.t 36,.t 37],oM 39 38,⟨some 40,.mov,[.t 2],false,some (39,true)⟩,⟨some 41,.mov,[.t 0],false,some (39,true)⟩,⟨some 42,.mov,[.t 9],false,some (39,true)⟩,⟨some 43,.idx 3,[.t 41,.t 42],false,some (39,true)⟩,⟨some 44,.load true 3,[.t 43],false,some (39,true)⟩,⟨some 45,.mov,[.t 1],false,some (39,true)⟩,⟨some 46,.callv,[.t 40,.t 44,.t 45],false,some (39,true)⟩,⟨some 47,.bin .eql false,[.t 46,cI 0],false,some (39,true)⟩,oo 48 .pick [.t 39,.t 47,.c (.d (.bool false))],oM 6 35,oM 7 48]
def Qet:CFn:=⟨3,49,[.t 6,.t 7],.seq (.region Ql3 9 []) (.seq (.region Ql4 9 []) (.seq (.region Ql5 9 []) (.seq (.block 0 (.loop [] (.seq (.seq (.region Ql6 9 []) (.cond (.t 17) (.skip) (.exit 0))) (.block 1 (.seq (.region Ql7 9 []) (.seq (.region Ql8 9 []) (.cond (.t 31) (.region Ql9 9 []) (.region Qma 9 [])))))))) (.seq (.region Qmb 9 []) (.ret)))))⟩
def Qba (fuel:Nat) (x1:(List Qe)) (target2:Int) (cmp3:(Qe→Int→Option Int)):Option (Int×Bool) :=
  ((Qcl (fun k13 ((i11,j12):Int×Int)=>(if (i11 < j12) then ((getO x1 (IntKind.wrap .i64 (Int.fdiv (IntKind.wrap .u64 (IntKind.wrap .i64 (i11 + j12))) (2 ^ (min (Int.toNat 1) (IntKind.bits .u64)))))).bind fun x15=>((cmp3 x15 target2).bind fun x18=>(if (x18 < 0) then k13 ((IntKind.wrap .i64 ((IntKind.wrap .i64 (Int.fdiv (IntKind.wrap .u64 (IntKind.wrap .i64 (i11 + j12))) (2 ^ (min (Int.toNat 1) (IntKind.bits .u64))))) + 1)),j12) else k13 (i11,(IntKind.wrap .i64 (Int.fdiv (IntKind.wrap .u64 (IntKind.wrap .i64 (i11 + j12))) (2 ^ (min (Int.toNat 1) (IntKind.bits .u64))))))))) else some i11)) fuel (0,(x1.length:Int))).bind fun (i20:Int)=>(if (i20 < (x1.length:Int)) then ((getO x1 i20).bind fun x22=>((cmp3 x22 target2).bind fun x25=>some (i20,(x25 == 0)))) else some (i20,false)))
def Qmc (P:Program) (c:Nat) (f:Qe→Int→Option Int):Prop:=∀ x1 s2 r,f x1 s2 = some r→∀ M nb,ACalls P c [(Qbs x1),(i_ s2)] M nb (i_ r) M nb
def Q7l:List COp:=[oo 2 (.box 3) [.t 0],oo 4 .mov [cI 0]]
def Q7m:List COp:=[oF 5 0 2,oL 6 5,oM 7 1,oo 8 (.bin .sub false) [.t 6,.t 7],oM 4 8]
def Qmd:CFn:=⟨2,9,[.t 4],.seq (.region Q7l 9 []) (.seq (.region Q7m 9 []) (.ret))⟩
def Qc8 (x1:Qe) (s2:Int):Option Int :=
  some (IntKind.wrap .i64 (x1.From - s2))
def Qme (P:Program) (c:Nat) (f:Qe→Int→Option Int):Prop:=∀ x1 s2 r,f x1 s2 = some r→∀ M nb,ACalls P c [(Qbs x1),(i_ s2)] M nb (i_ r) M nb
def Q7n:List COp:=[oo 2 (.box 3) [.t 0],oo 4 .mov [cI 0]]
def Q7o:List COp:=[oF 5 0 2,oL 6 5,oM 7 1,oo 8 (.bin .sub false) [.t 6,.t 7],oM 4 8]
def Qmf:CFn:=⟨2,9,[.t 4],.seq (.region Q7n 9 []) (.seq (.region Q7o 9 []) (.ret))⟩
def Qc9 (x1:Qe) (s2:Int):Option Int :=
  some (IntKind.wrap .i64 (x1.From - s2))
def Qho (P:Program) (c:Nat) (f:Qb→Int→Option ((List Qe))):Prop:=∀ a1 state2 r,f a1 state2 = some r→∀ M nb,ACalls P c [(Qa a1),(i_ state2)] M nb (.d (.lst 3 (List.map Qc r))) M nb
def Q98:List COp:=[oo 2 (.box 4) [.t 0],ot 4 .mov [.c (.nils 3)]]
def Q99:List COp:=[oF 10 3 2,oL 11 10,oM 12 1,oo 13 (.call 85) [.t 11,.t 12,.c (.clo 86 [])],oM 9 13,oo 14 (.extract 0) [.t 9],oo 15 (.extract 1) [.t 9],oM 5 14,oM 6 15]
def Qbaa:List COp:=[oF 17 3 2,oL 18 17,oM 19 1,oo 20 (.bin .add false) [.t 19,cI 1],oo 21 (.call 85) [.t 18,.t 20,.c (.clo 87 [])],oM 16 21,oo 22 (.extract 0) [.t 16],oo 23 (.extract 1) [.t 16],oM 7 22,oM 8 23]
def Qbab:List COp:=[oF 24 3 2,oL 25 24,oM 26 5,oM 27 7,oo 28 (.slice 3 true true) [.t 25,.t 26,.t 27],ot 4 .mov [.t 28]]
def Qp4:CFn:=⟨2,29,[.t 4],.seq (.region Q98 9 []) (.seq (.region Q99 9 []) (.seq (.region Qbaa 9 []) (.seq (.region Qbab 9 []) (.ret))))⟩
def Qbl (Qba:(List Qe)→Int→(Qe→Int→Option Int)→Option (Int×Bool)) (Qc8:Qe→Int→Option Int) (Qc9:Qe→Int→Option Int) (a1:Qb) (state2:Int):Option ((List Qe)) :=
  ((Qba a1.Edges state2 Qc8).bind fun (r8,r9)=>((Qba a1.Edges (IntKind.wrap .i64 (state2 + 1)) Qc9).bind fun (r15,r16)=>((slcO a1.Edges r8 r15).bind fun x17=>some x17)))
def Qhp (P:Program) (c:Nat) (f:Qb→Option Qb):Prop:=∀ a1 r,f a1 = some r→∀ M nb,ACalls P c [(Qa a1)] M nb (Qa r) M nb
def Qwa:List COp:=[oo 1 (.box 4) [.t 0],oo 2 (.alloc [.nils 1,.d (.int .i64 0),.nils 1,.nils 3]) []]
def Qwb:List COp:=[oF 12 0 1,oL 13 12,oo 14 (.call 55) [.t 13],ot 15 (.build [.nils 1,.d (.int .i64 0),.nils 1,.nils 3] [(0,1)]) [.t 14],oo 3 (.alloc [.nils 1,.d (.int .i64 0),.nils 1,.nils 3]) [],⟨none,.store 4,[.t 3,.t 15],true,none⟩]
def Qwc:List COp:=[oF 16 1 1,oL 17 16,oo 18 (.bin .eql false) [.t 17,cI 0]]
def Qwd:List COp:=[oo 19 (.load true 4) [.t 3],⟨none,.store 4,[.t 2,.t 19],true,none⟩]
def Qwe:List COp:=[oF 20 1 1,oL 21 20,oo 22 (.makes 1 8 [.d (.int .i64 0)]) [.t 21,.t 21],ot 4 .mov [.t 22]]
def Qwf:List COp:=[oM 23 4,oo 24 .len [.t 23],oo 25 .mov [cI 0]]
def Qwg:List COp:=[oo 26 (.bin .lss false) [.t 25,.t 24]]
def Qwh:List COp:=[oM 27 25,oM 5 27]
def Qwi:List COp:=[oM 28 4,oM 29 5,oo 30 (.idx 1) [.t 28,.t 29],⟨none,.store 1,[.t 30,cI (-1)],false,none⟩]
def Qwj:List COp:=[oo 31 (.bin .add false) [.t 25,cI 1],oM 25 31]
def Qth:List COp:=[oM 32 4,oo 33 (.idx 1) [.t 32,cI 0],⟨none,.store 1,[.t 33,cI 0],false,none⟩]
def Qti:List COp:=[oo 34 (.bslice 1 1 [.d (.int .i64 0)] [0]) [cI 0],ot 6 .mov [.t 34]]
def Qtj:List COp:=[oo 7 .mov [cI 0]]
def Qtk:List COp:=[oM 35 7,oM 36 6,oo 37 .len [.t 36],oo 38 (.bin .lss false) [.t 35,.t 37]]
def Qtl:List COp:=[oF 42 2 1,oL 43 42,oM 44 6,oM 45 7,oo 46 (.idx 1) [.t 44,.t 45],oL 47 46,oo 48 (.call 82) [.t 43,.t 47],oM 41 48,oo 49 (.extract 0) [.t 41],oo 50 (.extract 1) [.t 41],oM 8 49,oM 9 50]
def Qtm:List COp:=[oM 51 9]
def Qtn:List COp:=[oF 52 2 3,oo 53 .loadT [.t 52],oM 54 7,oo 55 (.bslice 1 1 [.d (.int .i64 0)] [0]) [.t 54],ot 56 (.append 1 8) [.t 53,.t 55],oF 57 2 3,⟨none,.store 1,[.t 57,.t 56],true,none⟩]
def Qto:List COp:=[oo 58 (.load true 4) [.t 1],oM 59 6,oM 60 7,oo 61 (.idx 1) [.t 59,.t 60],oL 62 61,oo 63 (.call 54) [.t 58,.t 62],oo 64 .len [.t 63],oo 65 .mov [cI 0]]
def Qtp:List COp:=[oo 66 (.bin .lss false) [.t 65,.t 64]]
def Qtq:List COp:=[oo 67 (.idx 3) [.t 63,.t 65],oo 68 (.load true 3) [.t 67],oo 11 (.alloc [.d (.int .i64 0),.d (.int .i64 0),.d (.int .i64 0)]) [],⟨none,.store 3,[.t 11,.t 68],false,none⟩]
def Qtr:List COp:=[oM 69 4,oF 70 2 11,oL 71 70,oo 72 (.idx 1) [.t 69,.t 71],oL 73 72,oo 74 (.bin .lss false) [.t 73,cI 0]]
def Qts:List COp:=[oM 75 4,oF 76 2 11,oL 77 76,oM 78 6,oo 79 .len [.t 78],oo 80 (.idx 1) [.t 75,.t 77],⟨none,.store 1,[.t 80,.t 79],false,none⟩]
def Qtt:List COp:=[ot 81 .mov [.t 6],oF 82 2 11,oL 83 82,oo 84 (.bslice 1 1 [.d (.int .i64 0)] [0]) [.t 83],ot 85 (.append 1 8) [.t 81,.t 84],ot 6 .mov [.t 85]]
def Qtu:List COp:=[oF 86 3 3,oo 87 .loadT [.t 86],oM 88 7,oF 89 1 11,oL 90 89,oM 91 4,oF 92 2 11,oL 93 92,oo 94 (.idx 1) [.t 91,.t 93],oL 95 94,oo 96 (.build [.d (.int .i64 0),.d (.int .i64 0),.d (.int .i64 0)] [(0,1),(1,1),(2,1)]) [.t 88,.t 90,.t 95],oo 97 (.bslice 3 1 [.d (.int .i64 0),.d (.int .i64 0),.d (.int .i64 0)] [0]) [.t 96],ot 98 (.append 3 24) [.t 87,.t 97],oF 99 3 3,⟨none,.store 1,[.t 99,.t 98],true,none⟩]
def Qtv:List COp:=[oo 100 (.bin .add false) [.t 65,cI 1],oM 65 100]
def Qtw:List COp:=[oM 39 7,oo 40 (.bin .add false) [.t 39,cI 1],oM 7 40]
def Qtx:List COp:=[oM 101 6,oo 102 .len [.t 101],oF 103 1 3,⟨none,.store 1,[.t 103,.t 102],false,none⟩]
def Qty:List COp:=[oo 104 (.load true 4) [.t 3],⟨none,.store 4,[.t 2,.t 104],true,none⟩]
def Qhq:CFn:=⟨1,105,[.cell 2 true 4],.seq (.region Qwa 9 []) (.seq (.region Qwb 9 []) (.seq (.seq (.region Qwc 9 []) (.cond (.t 18) (.seq (.region Qwd 9 []) (.ret)) (.skip))) (.seq (.region Qwe 9 []) (.seq (.seq (.region Qwf 9 []) (.block 0 (.loop [] (.seq (.region Qwg 9 []) (.seq (.cond (.t 26) (.skip) (.exit 0)) (.seq (.block 1 (.seq (.region Qwh 9 []) (.region Qwi 9 []))) (.region Qwj 9 []))))))) (.seq (.region Qth 9 []) (.seq (.region Qti 9 []) (.seq (.seq (.region Qtj 9 []) (.block 2 (.loop [55,11,84,97] (.seq (.seq (.region Qtk 9 []) (.cond (.t 38) (.skip) (.exit 2))) (.seq (.block 3 (.seq (.seq (.region Qtl 0 []) (.seq (.region Qtm 9 []) (.cond (.t 51) (.region Qtn 9 []) (.skip)))) (.seq (.region Qto 0 []) (.block 4 (.loop [11,84,97] (.seq (.region Qtp 9 []) (.seq (.cond (.t 66) (.skip) (.exit 4)) (.seq (.block 5 (.seq (.region Qtq 9 []) (.seq (.seq (.region Qtr 9 []) (.cond (.t 74) (.seq (.region Qts 9 []) (.region Qtt 9 [])) (.skip))) (.region Qtu 0 [])))) (.region Qtv 9 []))))))))) (.region Qtw 9 [])))))) (.seq (.region Qtx 9 []) (.seq (.region Qty 9 []) (.ret))))))))))⟩
def Qch (Qbl:Qb→Int→Option ((List Qe))) (Q5:(List Int)→Option ((List Int))) (Qbz:(List Int)→Int→Option (Int×Bool)) (fuel:Nat) (a1:Qb):Option Qb :=
  ((Q5 a1.Alphabet).bind fun x3=>(if (a1.States == 0) then some (Qb.mk x3 0 [] []) else ((mkO a1.States 0).bind fun x5=>((Qcl (fun k9 ((x7,c8):Int×(List Int))=>(if (x7 < ((Int.toNat a1.States):Int)) then ((inO (Int.toNat a1.States) x7).bind fun u11=>((setO c8 x7 (-1)).bind fun x13=>k9 ((IntKind.wrap .i64 (x7 + 1)),x13))) else some c8)) fuel (0,x5)).bind fun (c15:List Int)=>((inO (Int.toNat a1.States) 0).bind fun u16=>((setO c15 0 0).bind fun x18=>((Qcl (fun k28 ((order20,i21,c22,c23,c24,r25,r26,c27):(List Int)×Int×(List Int)×(List Int)×(List Qe)×(List Int)×(List Qe)×(List Int))=>(if (i21 < (order20.length:Int)) then ((((((getO order20 i21).bind fun x30=>((Qbz a1.Marked x30).bind fun (r33,r34)=>(if r34 then ((appO r25 [i21]).bind fun x36=>some x36) else some r25)))).bind fun (r38:List Int)=>((getO order20 i21).bind fun x39=>((Qbl a1 x39).bind fun x42=>Qcl (fun k47 ((order43,x44,r45,c46):(List Int)×Int×(List Qe)×(List Int))=>(if (x44 < (x42.length:Int)) then ((getO x42 x44).bind fun x49=>((((inO (Int.toNat a1.States) x49.To).bind fun u51=>((getO c46 x49.To).bind fun x53=>(if (x53 < 0) then ((inO (Int.toNat a1.States) x49.To).bind fun u56=>((setO c46 x49.To (order43.length:Int)).bind fun x58=>((appO order43 [x49.To]).bind fun x60=>some (x60,x58)))) else some (order43,c46))))).bind fun ((order62,c63):(List Int)×(List Int))=>((inO (Int.toNat a1.States) x49.To).bind fun u64=>((getO c63 x49.To).bind fun x66=>((appO r45 [(Qe.mk i21 x49.Event x66)]).bind fun x68=>k47 (order62,(IntKind.wrap .i64 (x44 + 1)),x68,c63)))))) else some (order43,r38,r45,c46))) fuel (order20,0,r26,c27))))).bind fun ((order70,r71,r72,c73):(List Int)×(List Int)×(List Qe)×(List Int))=>k28 (order70,(IntKind.wrap .i64 (i21 + 1)),c22,c23,c24,r71,r72,c73)) else some (order20,c22,c23,c24,r25,r26,c27))) fuel ([0],0,[],[],[],[],[],x18)).bind fun ((order74,c75,c76,c77,r78,r79,c80):(List Int)×(List Int)×(List Int)×(List Qe)×(List Int)×(List Qe)×(List Int))=>some (Qb.mk x3 (order74.length:Int) r78 r79))))))))
def Qhr (P:Program) (c:Nat) (f:Qb→Option (Qb×Int)):Prop:=∀ a1 r,f a1 = some r→∀ M nb,ACalls P c [(Qa a1)] M nb (.tup [(Qa r.1),(i_ r.2)]) M nb
def Qwk:List COp:=[oo 1 (.box 4) [.t 0],oo 2 (.alloc [.nils 1,.d (.int .i64 0),.nils 1,.nils 3]) [],oo 3 .mov [cI 0]]
def Qwl:List COp:=[oo 5 (.load true 4) [.t 1],oo 6 (.call 46) [.t 5],oM 4 6]
def Qwm:List COp:=[oM 7 4,oo 8 (.bin .neq false) [.t 7,cI 0]]
def Qwn:List COp:=[oo 9 (.build [.nils 1,.d (.int .i64 0),.nils 1,.nils 3] []) [],oM 10 4,⟨none,.store 4,[.t 2,.t 9],true,none⟩,oM 3 10]
def Qwo:List COp:=[oo 11 (.load true 4) [.t 1],oo 12 (.call 48) [.t 11],⟨none,.store 4,[.t 2,.t 12],true,none⟩,oo 3 .mov [cI 0]]
def Qhs:CFn:=⟨1,13,[.cell 2 true 4,.t 3],.seq (.region Qwk 9 []) (.seq (.seq (.region Qwl 9 []) (.seq (.region Qwm 9 []) (.cond (.t 8) (.seq (.region Qwn 9 []) (.ret)) (.skip)))) (.seq (.region Qwo 9 []) (.ret)))⟩
def Qci (Qs:Qb→Option Int) (Qch:Qb→Option Qb) (a1:Qb):Option (Qb×Int) :=
  ((Qs a1).bind fun x3=>(if (x3 != 0) then some ((Qb.mk [] 0 [] []),x3) else ((Qch a1).bind fun x6=>some (x6,0))))
def Qik (P:Program) (c:Nat) (f:Qb→(List Int)→Option (Qb×Int)):Prop:=∀ a1 alphabet2 r,f a1 alphabet2 = some r→∀ M nb,ACalls P c [(Qa a1),(l_ alphabet2)] M nb (.tup [(Qa r.1),(i_ r.2)]) M nb
def Qzs:List COp:=[oo 2 (.box 4) [.t 0],oo 4 (.alloc [.nils 1,.d (.int .i64 0),.nils 1,.nils 3]) [],oo 5 .mov [cI 0]]
def Qzt:List COp:=[oo 11 (.load true 4) [.t 2],oM 12 1,oo 13 (.call 38) [.t 11,.t 12],oM 6 13]
def Qzu:List COp:=[oM 14 6,oo 15 (.bin .neq false) [.t 14,cI 0]]
def Qzv:List COp:=[oo 16 (.build [.nils 1,.d (.int .i64 0),.nils 1,.nils 3] []) [],oM 17 6,⟨none,.store 4,[.t 4,.t 16],true,none⟩,oM 5 17]
def Qzw:List COp:=[oF 18 1 2,oL 19 18,oF 20 2 2,oL 21 20,oF 22 3 2,oL 23 22,oo 24 (.call 65) [.t 23],ot 25 (.build [.nils 1,.d (.int .i64 0),.nils 1,.nils 3] [(1,1),(2,1),(3,1)]) [.t 19,.t 21,.t 24],oo 7 (.alloc [.nils 1,.d (.int .i64 0),.nils 1,.nils 3]) [],⟨none,.store 4,[.t 7,.t 25],true,none⟩]
def Qzx:List COp:=[oF 26 0 2,oL 27 26,oM 28 1,oo 29 (.bslice 1 2 [.nils 1] [0,1]) [.t 27,.t 28],oo 30 (.call 66) [.t 29],oF 31 0 7,⟨none,.store 1,[.t 31,.t 30],true,none⟩]
def Qzy:List COp:=[oF 32 0 7,oL 33 32,oo 34 (.call 67) [.t 33]]
def Qzz:List COp:=[oF 35 0 7,oL 36 35,oo 37 (.call 68) [.t 36],oF 38 0 7,⟨none,.store 1,[.t 38,.t 37],true,none⟩]
def Qz0:List COp:=[oF 39 1 2,oL 40 39,oo 41 .mov [cI 0]]
def Qz1:List COp:=[oo 42 (.bin .lss false) [.t 41,.t 40]]
def Qwp:List COp:=[oM 43 41,oM 8 43]
def Qwq:List COp:=[oF 44 0 7,oL 45 44,oo 46 .len [.t 45],oo 47 .mov [cI 0]]
def Qwr:List COp:=[oo 48 (.bin .lss false) [.t 47,.t 46]]
def Qws:List COp:=[oo 49 (.idx 1) [.t 45,.t 47],oL 50 49,oM 10 50]
def Qwt:List COp:=[oF 51 0 2,oL 52 51,oM 53 10,oo 54 (.call 56) [.t 52,.t 53],oo 55 (.un .not) [.t 54]]
def Qwu:List COp:=[oF 56 3 7,oo 57 .loadT [.t 56],oM 58 8,oM 59 10,oM 60 8,oo 61 (.build [.d (.int .i64 0),.d (.int .i64 0),.d (.int .i64 0)] [(0,1),(1,1),(2,1)]) [.t 58,.t 59,.t 60],oo 62 (.bslice 3 1 [.d (.int .i64 0),.d (.int .i64 0),.d (.int .i64 0)] [0]) [.t 61],ot 63 (.append 3 24) [.t 57,.t 62],oF 64 3 7,⟨none,.store 1,[.t 64,.t 63],true,none⟩]
def Qwv:List COp:=[oo 65 (.bin .add false) [.t 47,cI 1],oM 47 65]
def Qww:List COp:=[oo 66 (.bin .add false) [.t 41,cI 1],oM 41 66]
def Qwx:List COp:=[oF 67 3 7,oL 68 67,oo 69 (.call 69) [.t 68,.c (.clo 70 [])]]
def Qwy:List COp:=[oo 70 (.load true 4) [.t 7],oo 71 (.call 71) [.t 70],oo 72 (.extract 0) [.t 71],oo 73 (.extract 1) [.t 71],⟨none,.store 4,[.t 4,.t 72],true,none⟩,oM 5 73]
def Qil:CFn:=⟨2,74,[.cell 4 true 4,.t 5],.seq (.region Qzs 9 []) (.seq (.seq (.region Qzt 9 []) (.seq (.region Qzu 9 []) (.cond (.t 15) (.seq (.region Qzv 9 []) (.ret)) (.skip)))) (.seq (.region Qzw 1 []) (.seq (.region Qzx 9 []) (.seq (.region Qzy 9 []) (.seq (.region Qzz 9 []) (.seq (.seq (.region Qz0 9 []) (.block 0 (.loop [62] (.seq (.region Qz1 9 []) (.seq (.cond (.t 42) (.skip) (.exit 0)) (.seq (.block 1 (.seq (.region Qwp 9 []) (.seq (.region Qwq 9 []) (.block 2 (.loop [62] (.seq (.region Qwr 9 []) (.seq (.cond (.t 48) (.skip) (.exit 2)) (.seq (.block 3 (.seq (.region Qws 9 []) (.seq (.region Qwt 9 []) (.cond (.t 55) (.region Qwu 9 []) (.skip))))) (.region Qwv 9 []))))))))) (.region Qww 9 []))))))) (.seq (.region Qwx 9 []) (.seq (.region Qwy 9 []) (.ret)))))))))⟩
def Qcr (Qw:Qb→(List Int)→Option Int) (Qg:(List Int)→Int→Option Bool) (Qc1:(List Qe)→Option ((List Qe))) (Qc2:(List (List Int))→Option ((List Int))) (f_slices_Sort_int:List Int→Option (List Int)) (f_slices_Compact_int:List Int→Option (List Int)) (f_slices_SortFunc_Edge:List Qe→Option (List Qe)) (Qci:Qb→Option (Qb×Int)) (fuel:Nat) (a1:Qb) (alphabet2:(List Int)):Option (Qb×Int) :=
  ((Qw a1 alphabet2).bind fun x4=>(if (x4 != 0) then some ((Qb.mk [] 0 [] []),x4) else ((Qc1 a1.Edges).bind fun x7=>((Qc2 [a1.Alphabet,alphabet2]).bind fun x9=>((f_slices_Sort_int x9).bind fun row10=>((f_slices_Compact_int row10).bind fun row16=>((Qcl (fun k26 ((x24,r25):Int×(List Qe))=>(if (x24 < a1.States) then ((Qcl (fun k30 ((x28,r29):Int×(List Qe))=>(if (x28 < (row16.length:Int)) then ((((getO row16 x28).bind fun x32=>((Qg a1.Alphabet x32).bind fun x35=>(if x35 then some r29 else ((appO r29 [(Qe.mk x24 x32 x24)]).bind fun x37=>some x37))))).bind fun (r39:List Qe)=>k30 ((IntKind.wrap .i64 (x28 + 1)),r39)) else some r29)) fuel (0,r25)).bind fun (r40:List Qe)=>k26 ((IntKind.wrap .i64 (x24 + 1)),r40)) else some r25)) fuel (0,x7)).bind fun (r41:List Qe)=>((f_slices_SortFunc_Edge r41).bind fun row42=>((Qci (Qb.mk row16 a1.States a1.Marked row42)).bind fun (r52,r53)=>some (r52,r53))))))))))
def Qdl (P:Program) (c:Nat) (f:(List Int)→(List Int)→Option Bool):Prop:=∀ a1 b2 r,f a1 b2 = some r→∀ M nb,ACalls P c [(l_ a1),(l_ b2)] M nb (b_ r) M nb
def Qq1:List COp:=[oo 4 .mov [.c (.d (.bool false))]]
def Qq2:List COp:=[oM 6 0,oo 7 .len [.t 6],oM 8 1,oo 9 .len [.t 8],oo 10 (.bin .neq false) [.t 7,.t 9]]
def Qq3:List COp:=[oo 4 .mov [.c (.d (.bool false))]]
def Qq4:List COp:=[oo 5 .mov [cI 0]]
def Qq5:List COp:=[oM 11 5,oM 12 0,oo 13 .len [.t 12],oo 14 (.bin .lss false) [.t 11,.t 13]]
def Qq6:List COp:=[oM 17 0,oM 18 5,oo 19 (.idx 1) [.t 17,.t 18],oL 20 19,oM 21 1,oM 22 5,oo 23 (.idx 1) [.t 21,.t 22],oL 24 23,oo 25 (.bin .neq false) [.t 20,.t 24]]
def Qq7:List COp:=[oo 4 .mov [.c (.d (.bool false))]]
def Qq8:List COp:=[oM 15 5,oo 16 (.bin .add false) [.t 15,cI 1],oM 5 16]
def Qq9:List COp:=[oo 4 .mov [.c (.d (.bool true))]]
def Qgd:CFn:=⟨2,26,[.t 4],.seq (.region Qq1 9 []) (.seq (.seq (.region Qq2 9 []) (.cond (.t 10) (.seq (.region Qq3 9 []) (.ret)) (.skip))) (.seq (.seq (.region Qq4 9 []) (.block 0 (.loop [] (.seq (.seq (.region Qq5 9 []) (.cond (.t 14) (.skip) (.exit 0))) (.seq (.block 1 (.seq (.region Qq6 0 []) (.cond (.t 25) (.seq (.region Qq7 9 []) (.ret)) (.skip)))) (.region Qq8 9 [])))))) (.seq (.region Qq9 9 []) (.ret))))⟩
def Qv (fuel:Nat) (a1:(List Int)) (b2:(List Int)):Option Bool :=
  (if ((a1.length:Int) != (b2.length:Int)) then some false else Qcl (fun k5 (i4:Int)=>(if (i4 < (a1.length:Int)) then ((getO a1 i4).bind fun x7=>((getO b2 i4).bind fun x9=>(if (x7 != x9) then some false else k5 (IntKind.wrap .i64 (i4 + 1))))) else some true)) fuel 0)
def Qim (P:Program) (c:Nat) (f:Qb→Qb→Option Bool):Prop:=∀ a1 b2 r,f a1 b2 = some r→∀ M nb,ACalls P c [(Qa a1),(Qa b2)] M nb (b_ r) M nb
def Qz2:List COp:=[oo 2 (.box 4) [.t 0],oo 3 (.box 4) [.t 1],oo 4 .mov [.c (.d (.bool false))]]
def Qz3:List COp:=[oF 6 0 2,oL 7 6,oF 8 0 3,oL 9 8,oo 10 (.call 19) [.t 7,.t 9],oo 11 (.un .not) [.t 10],oM 12 11,⟨some 13,.fld 1,[.t 2],false,some (12,false)⟩,⟨some 14,.load false 1,[.t 13],false,some (12,false)⟩,⟨some 15,.fld 1,[.t 3],false,some (12,false)⟩,⟨some 16,.load false 1,[.t 15],false,some (12,false)⟩,⟨some 17,.bin .neq false,[.t 14,.t 16],false,some (12,false)⟩,oo 18 .pick [.t 12,.c (.d (.bool true)),.t 17],oM 19 18,⟨some 20,.fld 2,[.t 2],false,some (19,false)⟩,⟨some 21,.load false 1,[.t 20],false,some (19,false)⟩,⟨some 22,.fld 2,[.t 3],false,some (19,false)⟩,⟨some 23,.load false 1,[.t 22],false,some (19,false)⟩,⟨some 24,.call 19,[.t 21,.t 23],false,some (19,false)⟩,⟨some 25,.un .not,[.t 24],false,some (19,false)⟩,oo 26 .pick [.t 19,.c (.d (.bool true)),.t 25],oM 27 26,⟨some 28,.fld 3,[.t 2],false,some (27,false)⟩,⟨some 29,.load false 1,[.t 28],false,some (27,false)⟩,⟨some 30,.len,[.t 29],false,some (27,false)⟩,⟨some 31,.fld 3,[.t 3],false,some (27,false)⟩,⟨some 32,.load false 1,[.t 31],false,some (27,false)⟩,⟨some 33,.len,[.t 32],false,some (27,false)⟩,⟨some 34,.bin .neq false,[.t 30,.t 33],false,some (27,false)⟩,oo 35 .pick [.t 27,.c (.d (.bool true)),.t 34]]
def Qz4:List COp:=[oo 4 .mov [.c (.d (.bool false))]]
def Qz5:List COp:=[oo 5 .mov [cI 0]]
def Qz6:List COp:=[oM 36 5,oF 37 3 2,oL 38 37,oo 39 .len [.t 38],oo 40 (.bin .lss false) [.t 36,.t 39]]
def Qz7:List COp:=[oF 43 3 2,oL 44 43,oM 45 5,oo 46 (.idx 3) [.t 44,.t 45],oo 47 (.load true 3) [.t 46],oF 48 3 3,oL 49 48,oM 50 5,oo 51 (.idx 3) [.t 49,.t 50],oo 52 (.load true 3) [.t 51],oo 53 (.eqa true [0,0,0]) [.t 47,.t 52]]
def Qz8:List COp:=[oo 4 .mov [.c (.d (.bool false))]]
def Qz9:List COp:=[oM 41 5,oo 42 (.bin .add false) [.t 41,cI 1],oM 5 42]
def Q0a:List COp:=[oo 4 .mov [.c (.d (.bool true))]]
def Qin:CFn:=⟨2,54,[.t 4],.seq (.region Qz2 9 []) (.seq (.seq (.region Qz3 9 []) (.cond (.t 35) (.seq (.region Qz4 9 []) (.ret)) (.skip))) (.seq (.seq (.region Qz5 9 []) (.block 0 (.loop [] (.seq (.seq (.region Qz6 9 []) (.cond (.t 40) (.skip) (.exit 0))) (.seq (.block 1 (.seq (.region Qz7 0 []) (.cond (.t 53) (.seq (.region Qz8 9 []) (.ret)) (.skip)))) (.region Qz9 9 [])))))) (.seq (.region Q0a 9 []) (.ret))))⟩
def Qcs (Qv:(List Int)→(List Int)→Option Bool) (fuel:Nat) (a1:Qb) (b2:Qb):Option Bool :=
  ((((Qv a1.Alphabet b2.Alphabet).bind fun x4=>(if x4 then (if (a1.States != b2.States) then some true else ((Qv a1.Marked b2.Marked).bind fun x8=>(if x8 then some ((a1.Edges.length:Int) != (b2.Edges.length:Int)) else some true))) else some true))).bind fun (x10:Bool)=>(if x10 then some false else Qcl (fun k13 (i12:Int)=>(if (i12 < (a1.Edges.length:Int)) then ((getO a1.Edges i12).bind fun x15=>((getO b2.Edges i12).bind fun x17=>(if ((x15.From == x17.From) && ((x15.Event == x17.Event) && ((x15.To == x17.To) && true))) then k13 (IntKind.wrap .i64 (i12 + 1)) else some false))) else some true)) fuel 0))
def Qfw (P:Program) (c:Nat) (f:(List (List Int))→(List (List Int))→Option Bool):Prop:=∀ a1 b2 r,f a1 b2 = some r→∀ M nb,ACalls P c [.d (.lst 1 (List.map (eL 1 (eI .i64)) a1)),.d (.lst 1 (List.map (eL 1 (eI .i64)) b2))] M nb (b_ r) M nb
def Qp5:List COp:=[oo 4 .mov [.c (.d (.bool false))]]
def Qp6:List COp:=[oM 6 0,oo 7 .len [.t 6],oM 8 1,oo 9 .len [.t 8],oo 10 (.bin .neq false) [.t 7,.t 9]]
def Qp7:List COp:=[oo 4 .mov [.c (.d (.bool false))]]
def Qp8:List COp:=[oo 5 .mov [cI 0]]
def Qp9:List COp:=[oM 11 5,oM 12 0,oo 13 .len [.t 12],oo 14 (.bin .lss false) [.t 11,.t 13]]
def Qqa:List COp:=[oM 17 0,oM 18 5,oo 19 (.idx 1) [.t 17,.t 18],oL 20 19,oM 21 1,oM 22 5,oo 23 (.idx 1) [.t 21,.t 22],oL 24 23,oo 25 (.call 19) [.t 20,.t 24],oo 26 (.un .not) [.t 25]]
def Qqb:List COp:=[oo 4 .mov [.c (.d (.bool false))]]
def Qqc:List COp:=[oM 15 5,oo 16 (.bin .add false) [.t 15,cI 1],oM 5 16]
def Qqd:List COp:=[oo 4 .mov [.c (.d (.bool true))]]
def Qfx:CFn:=⟨2,27,[.t 4],.seq (.region Qp5 9 []) (.seq (.seq (.region Qp6 9 []) (.cond (.t 10) (.seq (.region Qp7 9 []) (.ret)) (.skip))) (.seq (.seq (.region Qp8 9 []) (.block 0 (.loop [] (.seq (.seq (.region Qp9 9 []) (.cond (.t 14) (.skip) (.exit 0))) (.seq (.block 1 (.seq (.region Qqa 0 []) (.cond (.t 26) (.seq (.region Qqb 9 []) (.ret)) (.skip)))) (.region Qqc 9 [])))))) (.seq (.region Qqd 9 []) (.ret))))⟩
def Qb0 (Qv:(List Int)→(List Int)→Option Bool) (fuel:Nat) (a1:(List (List Int))) (b2:(List (List Int))):Option Bool :=
  (if ((a1.length:Int) != (b2.length:Int)) then some false else Qcl (fun k5 (i4:Int)=>(if (i4 < (a1.length:Int)) then ((getO a1 i4).bind fun x7=>((getO b2 i4).bind fun x9=>((Qv x7 x9).bind fun x12=>(if x12 then k5 (IntKind.wrap .i64 (i4 + 1)) else some false)))) else some true)) fuel 0)
def Qfk (P:Program) (c:Nat) (f:Option Bool):Prop:=∀ r,f = some r→∀ M nb,ACalls P c [] M nb (b_ r) M nb
def Qwz:List COp:=[oo 0 .mov [.c (.d (.bool false))]]
def Qw0:List COp:=[oo 10 (.call 34) [],oo 1 (.alloc [.nils 1,.d (.int .i64 0),.nils 1,.nils 3]) [],⟨none,.store 4,[.t 1,.t 10],true,none⟩]
def Qw1:List COp:=[oo 12 (.load true 4) [.t 1],oo 13 (.bslice 1 1 [.d (.int .i64 0)] [0]) [cI 1],oo 14 (.call 12) [.t 12,.t 13],oM 11 14,oo 15 (.extract 0) [.t 11],ot 16 (.extract 1) [.t 11],oo 17 (.extract 2) [.t 11],oo 2 (.alloc [.nils 1,.d (.int .i64 0),.nils 1,.nils 3]) [],⟨none,.store 4,[.t 2,.t 15],true,none⟩,ot 3 .mov [.t 16],oM 4 17]
def Qw2:List COp:=[oo 19 (.load true 4) [.t 1],oo 20 (.bslice 1 1 [.d (.int .i64 0)] [0]) [cI 1],oo 21 (.bslice 1 1 [.d (.int .i64 0)] [0]) [cI 1],oo 22 (.call 31) [.t 19,.t 20,.t 21,.c (.d (.bool true))],oM 18 22,ot 23 (.extract 0) [.t 18],oo 24 (.extract 1) [.t 18],oo 25 (.extract 2) [.t 18],ot 5 .mov [.t 23],oM 6 24,oM 7 25]
def Qw3:List COp:=[oo 27 (.bslice 1 1 [.d (.int .i64 0)] [0]) [cI 1],ot 28 (.build [.nils 1,.d (.int .i64 0),.nils 1,.nils 3] [(0,1),(1,1)]) [.t 27,cI 1],oo 29 (.bslice 1 2 [.d (.int .i64 0)] [0,1]) [cI 0,cI 1],oo 30 (.call 35) [.t 28,.t 29],oM 26 30,oo 31 (.extract 0) [.t 26],oo 32 (.extract 1) [.t 26],oo 8 (.alloc [.nils 1,.d (.int .i64 0),.nils 1,.nils 3]) [],⟨none,.store 4,[.t 8,.t 31],true,none⟩,oM 9 32]
def Qw4:List COp:=[oM 33 4,oo 34 (.bin .eql false) [.t 33,cI 0],oM 35 34,⟨some 36,.load true 4,[.t 2],false,some (35,true)⟩,⟨some 37,.bslice 1 1 [.d (.int .i64 0)] [0],[cI 1],false,some (35,true)⟩,⟨some 38,.bslice 1 1 [.d (.int .i64 0)] [0],[cI 1],false,some (35,true)⟩,⟨some 39,.build [.d (.int .i64 0),.d (.int .i64 0),.d (.int .i64 0)] [(0,1),(1,1),(2,1)],[cI 0,cI 1,cI 1],false,some (35,true)⟩,⟨some 40,.build [.d (.int .i64 0),.d (.int .i64 0),.d (.int .i64 0)] [(0,1),(1,1),(2,1)],[cI 1,cI 1,cI 1],false,some (35,true)⟩,⟨some 41,.bslice 3 2 [.d (.int .i64 0),.d (.int .i64 0),.d (.int .i64 0)] [0,1],[.t 39,.t 40],false,some (35,true)⟩,⟨some 42,.build [.nils 1,.d (.int .i64 0),.nils 1,.nils 3] [(0,1),(1,1),(2,1),(3,1)],[.t 37,cI 2,.t 38,.t 41],true,some (35,true)⟩,⟨some 43,.call 14,[.t 36,.t 42],false,some (35,true)⟩,oo 44 .pick [.t 35,.t 43,.c (.d (.bool false))],oM 45 44,⟨some 46,.mov,[.t 3],false,some (45,true)⟩,⟨some 47,.bslice 1 2 [.d (.int .i64 0)] [0,1],[cI 0,cI 1],false,some (45,true)⟩,⟨some 48,.bslice 1 3 [.d (.int .i64 0)] [0,1,2],[cI 0,cI 1,cI 2],false,some (45,true)⟩,⟨some 49,.bslice 1 2 [.nils 1] [0,1],[.t 47,.t 48],false,some (45,true)⟩,⟨some 50,.call 15,[.t 46,.t 49],false,some (45,true)⟩,oo 51 .pick [.t 45,.t 50,.c (.d (.bool false))],oM 52 51,⟨some 53,.mov,[.t 7],false,some (52,true)⟩,⟨some 54,.bin .eql false,[.t 53,cI 0],false,some (52,true)⟩,oo 55 .pick [.t 52,.t 54,.c (.d (.bool false))],oM 56 55,⟨some 57,.mov,[.t 6],false,some (56,true)⟩,oo 58 .pick [.t 56,.t 57,.c (.d (.bool false))],oM 59 58,⟨some 60,.mov,[.t 5],false,some (59,true)⟩,⟨some 61,.bslice 1 2 [.d (.int .i64 0)] [0,1],[cI 0,cI 1],false,some (59,true)⟩,⟨some 62,.call 19,[.t 60,.t 61],false,some (59,true)⟩,oo 63 .pick [.t 59,.t 62,.c (.d (.bool false))],oM 64 63,⟨some 65,.mov,[.t 9],false,some (64,true)⟩,⟨some 66,.bin .eql false,[.t 65,cI 0],false,some (64,true)⟩,oo 67 .pick [.t 64,.t 66,.c (.d (.bool false))],oM 68 67,⟨some 69,.fld 3,[.t 8],false,some (68,true)⟩,⟨some 70,.load false 1,[.t 69],false,some (68,true)⟩,⟨some 71,.len,[.t 70],false,some (68,true)⟩,⟨some 72,.bin .eql false,[.t 71,cI 1],false,some (68,true)⟩,oo 73 .pick [.t 68,.t 72,.c (.d (.bool false))],oM 0 73]
def Qht:CFn:=⟨0,74,[.t 0],.seq (.region Qwz 9 []) (.seq (.region Qw0 9 []) (.seq (.region Qw1 9 []) (.seq (.region Qw2 9 []) (.seq (.region Qw3 9 []) (.seq (.region Qw4 9 []) (.ret))))))⟩
def Qbi (Qbo:Qb→(List Int)→Option (Qb×(List (List Int))×Int)) (Qcs:Qb→Qb→Option Bool) (Qb0:(List (List Int))→(List (List Int))→Option Bool) (Qv:(List Int)→(List Int)→Option Bool) (Qbu:Qb→(List Int)→(List Int)→Bool→Option ((List Int)×Bool×Int)) (Qb7:Option Qb) (Qcr:Qb→(List Int)→Option (Qb×Int)):Option Bool :=
  (Qb7.bind fun x2=>((Qbo x2 [1]).bind fun (r4,r5,r6)=>((Qbu x2 [1] [1] true).bind fun (r8,r9,r10)=>((Qcr (Qb.mk [1] 1 [] []) [0,1]).bind fun (r12,r13)=>(((if (r6 == 0) then ((Qcs r4 (Qb.mk [1] 2 [1] [(Qe.mk 0 1 1),(Qe.mk 1 1 1)])).bind fun x16=>(if x16 then ((Qb0 r5 ([[0,1],[0,1,2]])).bind fun x19=>(if x19 then (if (r10 == 0) then (if r9 then ((Qv r8 [0,1]).bind fun x24=>(if x24 then (if (r13 == 0) then some ((r12.Edges.length:Int) == 1) else some false) else some false)) else some false) else some false) else some false)) else some false)) else some false)).bind fun (x27:Bool)=>some x27)))))
def Qd2 (P:Program) (c:Nat) (f:Int→Option ((List Int))):Prop:=∀ s1 r,f s1 = some r→∀ M nb,ACalls P c [.d (.int .u8 s1)] M nb (o_ r) M nb
def Qou:List COp:=[ot 2 .mov [.c (.nils 1)]]
def Qov:List COp:=[ot 3 .mov [.c (.nils 1)]]
def Qow:List COp:=[oo 4 .mov [cI 0]]
def Qox:List COp:=[oM 5 4,oo 6 (.bin .lss false) [.t 5,cI 5]]
def Qoy:List COp:=[oM 9 0,oM 10 4,oo 11 (.bin .shr false) [.t 9,.t 10],oo 12 (.bin .and false) [.t 11,.c (.d (.int .u8 1))],oo 13 (.bin .eql false) [.t 12,.c (.d (.int .u8 1))]]
def Qoz:List COp:=[ot 14 .mov [.t 3],oM 15 4,oo 16 (.bslice 1 1 [.d (.int .i64 0)] [0]) [.t 15],ot 17 (.append 1 8) [.t 14,.t 16],ot 3 .mov [.t 17]]
def Qo0:List COp:=[oM 7 4,oo 8 (.bin .add false) [.t 7,cI 1],oM 4 8]
def Qo1:List COp:=[ot 18 .mov [.t 3],ot 2 .mov [.t 18]]
def Qff:CFn:=⟨1,19,[.t 2],.seq (.region Qou 9 []) (.seq (.region Qov 9 []) (.seq (.seq (.region Qow 9 []) (.block 0 (.loop [16] (.seq (.seq (.region Qox 9 []) (.cond (.t 6) (.skip) (.exit 0))) (.seq (.block 1 (.seq (.region Qoy 9 []) (.cond (.t 13) (.region Qoz 9 []) (.skip)))) (.region Qo0 9 [])))))) (.seq (.region Qo1 9 []) (.ret))))⟩
def Qx (fuel:Nat) (s1:Int):Option ((List Int)) :=
  ((Qcl (fun k4 ((out2,i3):(List Int)×Int)=>(if (i3 < 5) then ((((shrO .u8 s1 i3).bind fun s6=>(if ((andI .u8 s6 1) == 1) then ((appO out2 [i3]).bind fun x9=>some x9) else some out2))).bind fun (out11:List Int)=>k4 (out11,(IntKind.wrap .i64 (i3 + 1)))) else some out2)) fuel ([],0)).bind fun (out12:List Int)=>some out12)
def Qfl (P:Program) (c:Nat) (f:(List Int)→Option Qb):Prop:=∀ alphabet1 r,f alphabet1 = some r→∀ M nb,ACalls P c [(l_ alphabet1)] M nb (.agg [(l_ r.Alphabet),(i_ r.States),.nils 1,.nils 3]) M nb
def Qw5:List COp:=[oo 2 (.alloc [.nils 1,.d (.int .i64 0),.nils 1,.nils 3]) []]
def Qw6:List COp:=[oo 3 (.bslice 1 0 [.d (.int .i64 0)] []) [],oM 4 0,ot 5 (.append 1 8) [.t 3,.t 4],ot 6 (.build [.nils 1,.d (.int .i64 0),.nils 1,.nils 3] [(0,1)]) [.t 5],⟨none,.store 4,[.t 2,.t 6],true,none⟩]
def Qhu:CFn:=⟨1,7,[.cell 2 true 4],.seq (.region Qw5 9 []) (.seq (.region Qw6 9 []) (.ret))⟩
def Q9 (alphabet1:(List Int)):Option Qb :=
  ((appO [] alphabet1).bind fun x2=>some (Qb.mk x2 0 [] []))
def Qf5 (P:Program) (c:Nat) (f:Qb→Int→Int→Option Int):Prop:=∀ a1 state2 event3 r,f a1 state2 event3 = some r→∀ M nb,ACalls P c [(Qa a1),(i_ state2),(i_ event3)] M nb (i_ r) M nb
def Q0b:List COp:=[oo 3 (.box 4) [.t 0],oo 6 .mov [cI 0]]
def Q0c:List COp:=[oo 7 .mov [cI 0]]
def Q0d:List COp:=[oM 8 7,oF 9 3 3,oL 10 9,oo 11 .len [.t 10],oo 12 (.bin .lss false) [.t 8,.t 11]]
def Q0e:List COp:=[oF 15 3 3,oL 16 15,oM 17 7,oo 18 (.idx 3) [.t 16,.t 17],oF 19 0 18,oL 20 19,oM 21 1,oo 22 (.bin .eql false) [.t 20,.t 21],oM 23 22,⟨some 24,.fld 3,[.t 3],false,some (23,true)⟩,⟨some 25,.load false 1,[.t 24],false,some (23,true)⟩,⟨some 26,.mov,[.t 7],false,some (23,true)⟩,⟨some 27,.idx 3,[.t 25,.t 26],false,some (23,true)⟩,⟨some 28,.fld 1,[.t 27],false,some (23,true)⟩,⟨some 29,.load false 1,[.t 28],false,some (23,true)⟩,⟨some 30,.mov,[.t 2],false,some (23,true)⟩,⟨some 31,.bin .eql false,[.t 29,.t 30],false,some (23,true)⟩,oo 32 .pick [.t 23,.t 31,.c (.d (.bool false))]]
def Q0f:List COp:=[oF 33 3 3,oL 34 33,oM 35 7,oo 36 (.idx 3) [.t 34,.t 35],oF 37 2 36,oL 38 37,oM 6 38]
def Q0g:List COp:=[oM 13 7,oo 14 (.bin .add false) [.t 13,cI 1],oM 7 14]
def Q0h:List COp:=[oo 6 .mov [cI (-1)]]
def Qio:CFn:=⟨3,39,[.t 6],.seq (.region Q0b 9 []) (.seq (.seq (.region Q0c 9 []) (.block 0 (.loop [] (.seq (.seq (.region Q0d 9 []) (.cond (.t 12) (.skip) (.exit 0))) (.seq (.block 1 (.seq (.region Q0e 9 []) (.cond (.t 32) (.seq (.region Q0f 9 []) (.ret)) (.skip)))) (.region Q0g 9 [])))))) (.seq (.region Q0h 9 []) (.ret)))⟩
def Qbf (fuel:Nat) (a1:Qb) (state2:Int) (event3:Int):Option Int :=
  Qcl (fun k5 (i4:Int)=>(if (i4 < (a1.Edges.length:Int)) then ((((getO a1.Edges i4).bind fun x7=>(if (x7.From == state2) then ((getO a1.Edges i4).bind fun x10=>some (x10.Event == event3)) else some false))).bind fun (x12:Bool)=>(if x12 then ((getO a1.Edges i4).bind fun x14=>some x14.To) else k5 (IntKind.wrap .i64 (i4 + 1)))) else some (-1))) fuel 0
def Qgn (P:Program) (c:Nat) (f:(List Int)→Int→Option Bool):Prop:=∀ l1 n2 r,f l1 n2 = some r→∀ M nb,ACalls P c [(l_ l1),(i_ n2)] M nb (b_ r) M nb
def Q16:List COp:=[oo 4 .mov [.c (.d (.bool false))]]
def Q17:List COp:=[oo 5 .mov [cI 0]]
def Q18:List COp:=[oM 6 5,oM 7 0,oo 8 .len [.t 7],oo 9 (.bin .lss false) [.t 6,.t 8]]
def Q19:List COp:=[oM 12 0,oM 13 5,oo 14 (.idx 1) [.t 12,.t 13],oL 15 14,oM 16 1,oo 17 (.bin .eql false) [.t 15,.t 16]]
def Q2a:List COp:=[oo 4 .mov [.c (.d (.bool true))]]
def Q2b:List COp:=[oM 10 5,oo 11 (.bin .add false) [.t 10,cI 1],oM 5 11]
def Q2c:List COp:=[oo 4 .mov [.c (.d (.bool false))]]
def Qi8:CFn:=⟨2,18,[.t 4],.seq (.region Q16 9 []) (.seq (.seq (.region Q17 9 []) (.block 0 (.loop [] (.seq (.seq (.region Q18 9 []) (.cond (.t 9) (.skip) (.exit 0))) (.seq (.block 1 (.seq (.region Q19 9 []) (.cond (.t 17) (.seq (.region Q2a 9 []) (.ret)) (.skip)))) (.region Q2b 9 [])))))) (.seq (.region Q2c 9 []) (.ret)))⟩
def Qbm (fuel:Nat) (l1:(List Int)) (n2:Int):Option Bool :=
  Qcl (fun k4 (i3:Int)=>(if (i3 < (l1.length:Int)) then ((getO l1 i3).bind fun x6=>(if (x6 == n2) then some true else k4 (IntKind.wrap .i64 (i3 + 1)))) else some false)) fuel 0
def Qhv (P:Program) (c:Nat) (f:Qb→Option ((List Int))):Prop:=∀ a1 r,f a1 = some r→∀ M nb,ACalls P c [(Qa a1)] M nb (o_ r) M nb
def Qw7:List COp:=[oo 1 (.box 4) [.t 0],ot 2 .mov [.c (.nils 1)]]
def Qw8:List COp:=[ot 3 .mov [.c (.nils 1)]]
def Qw9:List COp:=[oF 7 1 1,oL 8 7,oo 9 (.bin .gtr false) [.t 8,cI 0]]
def Qxa:List COp:=[ot 10 .mov [.t 3],oo 11 (.bslice 1 1 [.d (.int .i64 0)] [0]) [cI 0],ot 12 (.append 1 8) [.t 10,.t 11],ot 3 .mov [.t 12]]
def Qxb:List COp:=[oo 4 .mov [cI 0]]
def Qxc:List COp:=[oM 13 4,oM 14 3,oo 15 .len [.t 14],oo 16 (.bin .lss false) [.t 13,.t 15]]
def Qxd:List COp:=[oo 5 .mov [cI 0]]
def Qxe:List COp:=[oM 19 5,oF 20 0 1,oL 21 20,oo 22 .len [.t 21],oo 23 (.bin .lss false) [.t 19,.t 22]]
def Qxf:List COp:=[oo 26 (.load true 4) [.t 1],oM 27 3,oM 28 4,oo 29 (.idx 1) [.t 27,.t 28],oL 30 29,oF 31 0 1,oL 32 31,oM 33 5,oo 34 (.idx 1) [.t 32,.t 33],oL 35 34,oo 36 (.call 74) [.t 26,.t 30,.t 35],oM 6 36]
def Qxg:List COp:=[oM 37 6,oo 38 (.bin .geq false) [.t 37,cI 0],oM 39 38,⟨some 40,.mov,[.t 3],false,some (39,true)⟩,⟨some 41,.mov,[.t 6],false,some (39,true)⟩,⟨some 42,.call 73,[.t 40,.t 41],false,some (39,true)⟩,⟨some 43,.un .not,[.t 42],false,some (39,true)⟩,oo 44 .pick [.t 39,.t 43,.c (.d (.bool false))]]
def Qtz:List COp:=[ot 45 .mov [.t 3],oM 46 6,oo 47 (.bslice 1 1 [.d (.int .i64 0)] [0]) [.t 46],ot 48 (.append 1 8) [.t 45,.t 47],ot 3 .mov [.t 48]]
def Qt0:List COp:=[oM 24 5,oo 25 (.bin .add false) [.t 24,cI 1],oM 5 25]
def Qt1:List COp:=[oM 17 4,oo 18 (.bin .add false) [.t 17,cI 1],oM 4 18]
def Qt2:List COp:=[ot 49 .mov [.t 3],ot 2 .mov [.t 49]]
def Qhw:CFn:=⟨1,50,[.t 2],.seq (.region Qw7 9 []) (.seq (.region Qw8 9 []) (.seq (.seq (.region Qw9 9 []) (.cond (.t 9) (.region Qxa 9 []) (.skip))) (.seq (.seq (.region Qxb 9 []) (.block 0 (.loop [47] (.seq (.seq (.region Qxc 9 []) (.cond (.t 16) (.skip) (.exit 0))) (.seq (.block 1 (.seq (.region Qxd 9 []) (.block 2 (.loop [47] (.seq (.seq (.region Qxe 9 []) (.cond (.t 23) (.skip) (.exit 2))) (.seq (.block 3 (.seq (.region Qxf 0 []) (.seq (.region Qxg 9 []) (.cond (.t 44) (.region Qtz 9 []) (.skip))))) (.region Qt0 9 []))))))) (.region Qt1 9 [])))))) (.seq (.region Qt2 9 []) (.ret)))))⟩
def Qb8 (Qbm:(List Int)→Int→Option Bool) (Qbf:Qb→Int→Int→Option Int) (fuel:Nat) (a1:Qb):Option ((List Int)) :=
  (((if (a1.States > 0) then ((appO [] [0]).bind fun x3=>some x3) else some [])).bind fun (out5:List Int)=>((Qcl (fun k8 ((out6,i7):(List Int)×Int)=>(if (i7 < (out6.length:Int)) then ((Qcl (fun k12 ((out10,k11):(List Int)×Int)=>(if (k11 < (a1.Alphabet.length:Int)) then ((((getO out10 i7).bind fun x14=>((getO a1.Alphabet k11).bind fun x16=>((Qbf a1 x14 x16).bind fun x19=>(((if (x19≥0) then ((Qbm out10 x19).bind fun x22=>some (!x22)) else some false)).bind fun (x23:Bool)=>(if x23 then ((appO out10 [x19]).bind fun x25=>some x25) else some out10)))))).bind fun (out27:List Int)=>k12 (out27,(IntKind.wrap .i64 (k11 + 1)))) else some out10)) fuel (out6,0)).bind fun (out28:List Int)=>k8 (out28,(IntKind.wrap .i64 (i7 + 1)))) else some out6)) fuel (out5,0)).bind fun (out29:List Int)=>some out29))
def Qhx (P:Program) (c:Nat) (f:(List Int)→Int→Option Int):Prop:=∀ l1 n2 r,f l1 n2 = some r→∀ M nb,ACalls P c [(l_ l1),(i_ n2)] M nb (i_ r) M nb
def Qxh:List COp:=[oo 4 .mov [cI 0]]
def Qxi:List COp:=[oo 5 .mov [cI 0]]
def Qxj:List COp:=[oM 6 5,oM 7 0,oo 8 .len [.t 7],oo 9 (.bin .lss false) [.t 6,.t 8]]
def Qxk:List COp:=[oM 12 0,oM 13 5,oo 14 (.idx 1) [.t 12,.t 13],oL 15 14,oM 16 1,oo 17 (.bin .eql false) [.t 15,.t 16]]
def Qxl:List COp:=[oM 18 5,oM 4 18]
def Qxm:List COp:=[oM 10 5,oo 11 (.bin .add false) [.t 10,cI 1],oM 5 11]
def Qxn:List COp:=[oo 4 .mov [cI (-1)]]
def Qhy:CFn:=⟨2,19,[.t 4],.seq (.region Qxh 9 []) (.seq (.seq (.region Qxi 9 []) (.block 0 (.loop [] (.seq (.seq (.region Qxj 9 []) (.cond (.t 9) (.skip) (.exit 0))) (.seq (.block 1 (.seq (.region Qxk 9 []) (.cond (.t 17) (.seq (.region Qxl 9 []) (.ret)) (.skip)))) (.region Qxm 9 [])))))) (.seq (.region Qxn 9 []) (.ret)))⟩
def Qb9 (fuel:Nat) (l1:(List Int)) (n2:Int):Option Int :=
  Qcl (fun k4 (i3:Int)=>(if (i3 < (l1.length:Int)) then ((getO l1 i3).bind fun x6=>(if (x6 == n2) then some i3 else k4 (IntKind.wrap .i64 (i3 + 1)))) else some (-1))) fuel 0
def Qfy (P:Program) (c:Nat) (f:Qb→Option Qb):Prop:=∀ a1 r,f a1 = some r→∀ M nb,ACalls P c [(Qa a1)] M nb (Qa r) M nb
def Qqe:List COp:=[oo 1 (.box 4) [.t 0],oo 2 (.alloc [.nils 1,.d (.int .i64 0),.nils 1,.nils 3]) []]
def Qqf:List COp:=[oo 8 (.load true 4) [.t 1],oo 9 (.call 72) [.t 8],ot 3 .mov [.t 9]]
def Qqg:List COp:=[oF 10 0 1,oL 11 10,oo 12 (.call 36) [.t 11],oo 4 (.alloc [.nils 1,.d (.int .i64 0),.nils 1,.nils 3]) [],⟨none,.store 4,[.t 4,.t 12],true,none⟩]
def Qqh:List COp:=[oM 13 3,oo 14 .len [.t 13],oF 15 1 4,⟨none,.store 1,[.t 15,.t 14],false,none⟩]
def Qqi:List COp:=[oo 5 .mov [cI 0]]
def Qqj:List COp:=[oM 16 5,oM 17 3,oo 18 .len [.t 17],oo 19 (.bin .lss false) [.t 16,.t 18]]
def Qqk:List COp:=[oF 22 2 1,oL 23 22,oM 24 3,oM 25 5,oo 26 (.idx 1) [.t 24,.t 25],oL 27 26,oo 28 (.call 73) [.t 23,.t 27]]
def Qql:List COp:=[oF 29 2 4,oo 30 .loadT [.t 29],oM 31 5,oo 32 (.bslice 1 1 [.d (.int .i64 0)] [0]) [.t 31],ot 33 (.append 1 8) [.t 30,.t 32],oF 34 2 4,⟨none,.store 1,[.t 34,.t 33],true,none⟩]
def Qqm:List COp:=[oo 6 .mov [cI 0]]
def Qqn:List COp:=[oM 35 6,oF 36 0 1,oL 37 36,oo 38 .len [.t 37],oo 39 (.bin .lss false) [.t 35,.t 38]]
def Qo2:List COp:=[oo 42 (.load true 4) [.t 1],oM 43 3,oM 44 5,oo 45 (.idx 1) [.t 43,.t 44],oL 46 45,oF 47 0 1,oL 48 47,oM 49 6,oo 50 (.idx 1) [.t 48,.t 49],oL 51 50,oo 52 (.call 74) [.t 42,.t 46,.t 51],oM 7 52]
def Qo3:List COp:=[oM 53 7,oo 54 (.bin .geq false) [.t 53,cI 0]]
def Qo4:List COp:=[oF 55 3 4,oo 56 .loadT [.t 55],oM 57 5,oF 58 0 1,oL 59 58,oM 60 6,oo 61 (.idx 1) [.t 59,.t 60],oL 62 61,oM 63 3,oM 64 7,oo 65 (.call 75) [.t 63,.t 64],oo 66 (.build [.d (.int .i64 0),.d (.int .i64 0),.d (.int .i64 0)] [(0,1),(1,1),(2,1)]) [.t 57,.t 62,.t 65],oo 67 (.bslice 3 1 [.d (.int .i64 0),.d (.int .i64 0),.d (.int .i64 0)] [0]) [.t 66],ot 68 (.append 3 24) [.t 56,.t 67],oF 69 3 4,⟨none,.store 1,[.t 69,.t 68],true,none⟩]
def Qo5:List COp:=[oM 40 6,oo 41 (.bin .add false) [.t 40,cI 1],oM 6 41]
def Qo6:List COp:=[oM 20 5,oo 21 (.bin .add false) [.t 20,cI 1],oM 5 21]
def Qo7:List COp:=[oo 70 (.load true 4) [.t 4],⟨none,.store 4,[.t 2,.t 70],true,none⟩]
def Qfz:CFn:=⟨1,71,[.cell 2 true 4],.seq (.region Qqe 9 []) (.seq (.region Qqf 9 []) (.seq (.region Qqg 9 []) (.seq (.region Qqh 9 []) (.seq (.seq (.region Qqi 9 []) (.block 0 (.loop [32,67] (.seq (.seq (.region Qqj 9 []) (.cond (.t 19) (.skip) (.exit 0))) (.seq (.block 1 (.seq (.seq (.region Qqk 0 []) (.cond (.t 28) (.region Qql 9 []) (.skip))) (.seq (.region Qqm 9 []) (.block 2 (.loop [67] (.seq (.seq (.region Qqn 9 []) (.cond (.t 39) (.skip) (.exit 2))) (.seq (.block 3 (.seq (.region Qo2 0 []) (.seq (.region Qo3 9 []) (.cond (.t 54) (.region Qo4 2 []) (.skip))))) (.region Qo5 9 [])))))))) (.region Qo6 9 [])))))) (.seq (.region Qo7 9 []) (.ret))))))⟩
def Qbr (Q9:(List Int)→Option Qb) (Qb8:Qb→Option ((List Int))) (Qbm:(List Int)→Int→Option Bool) (Qbf:Qb→Int→Int→Option Int) (Qb9:(List Int)→Int→Option Int) (fuel:Nat) (a1:Qb):Option Qb :=
  ((Qb8 a1).bind fun x3=>((Q9 a1.Alphabet).bind fun x5=>((Qcl (fun k12 ((i6,c7,c8,c9,out10,out11):Int×(List Int)×(List Int)×(List Qe)×(List Int)×(List Qe))=>(if (i6 < (x3.length:Int)) then ((((((getO x3 i6).bind fun x14=>((Qbm a1.Marked x14).bind fun x17=>(if x17 then ((appO out10 [i6]).bind fun x19=>some x19) else some out10)))).bind fun (out21:List Int)=>Qcl (fun k24 ((k22,out23):Int×(List Qe))=>(if (k22 < (a1.Alphabet.length:Int)) then ((((getO x3 i6).bind fun x26=>((getO a1.Alphabet k22).bind fun x28=>((Qbf a1 x26 x28).bind fun x31=>(if (x31≥0) then ((getO a1.Alphabet k22).bind fun x33=>((Qb9 x3 x31).bind fun x36=>((appO out23 [(Qe.mk i6 x33 x36)]).bind fun x37=>some x37))) else some out23))))).bind fun (out39:List Qe)=>k24 ((IntKind.wrap .i64 (k22 + 1)),out39)) else some (out21,out23))) fuel (0,out11))).bind fun ((out40,out41):(List Int)×(List Qe))=>k12 ((IntKind.wrap .i64 (i6 + 1)),c7,c8,c9,out40,out41)) else some (c7,c8,c9,out10,out11))) fuel (0,[],[],[],[],[])).bind fun ((c42,c43,c44,out45,out46):(List Int)×(List Int)×(List Qe)×(List Int)×(List Qe))=>some (Qb.mk x5.Alphabet (x3.length:Int) out45 out46))))
def Qf6 (P:Program) (c:Nat) (f:(List Int)→Qz→Option Qb):Prop:=∀ alphabet1 g2 r,f alphabet1 g2 = some r→∀ M nb,ACalls P c [(l_ alphabet1),.agg [.d (.int .u8 g2.States),.d (.int .u8 g2.Marks),.d (.int .u8 g2.To.1.1),.d (.int .u8 g2.To.1.2.1),.d (.int .u8 g2.To.1.2.2.1),.d (.int .u8 g2.To.1.2.2.2.1),.d (.int .u8 g2.To.1.2.2.2.2),.d (.int .u8 g2.To.2.1.1),.d (.int .u8 g2.To.2.1.2.1),.d (.int .u8 g2.To.2.1.2.2.1),.d (.int .u8 g2.To.2.1.2.2.2.1),.d (.int .u8 g2.To.2.1.2.2.2.2),.d (.int .u8 g2.To.2.2.1.1),.d (.int .u8 g2.To.2.2.1.2.1),.d (.int .u8 g2.To.2.2.1.2.2.1),.d (.int .u8 g2.To.2.2.1.2.2.2.1),.d (.int .u8 g2.To.2.2.1.2.2.2.2),.d (.int .u8 g2.To.2.2.2.1.1),.d (.int .u8 g2.To.2.2.2.1.2.1),.d (.int .u8 g2.To.2.2.2.1.2.2.1),.d (.int .u8 g2.To.2.2.2.1.2.2.2.1),.d (.int .u8 g2.To.2.2.2.1.2.2.2.2),.d (.int .u8 g2.To.2.2.2.2.1),.d (.int .u8 g2.To.2.2.2.2.2.1),.d (.int .u8 g2.To.2.2.2.2.2.2.1),.d (.int .u8 g2.To.2.2.2.2.2.2.2.1),.d (.int .u8 g2.To.2.2.2.2.2.2.2.2)]] M nb (Qa r) M nb
def Q0i:List COp:=[oo 3 (.box 27) [.t 1],oo 4 (.alloc [.nils 1,.d (.int .i64 0),.nils 1,.nils 3]) []]
def Q0j:List COp:=[oF 9 0 3,oL 10 9,oo 11 (.bin .geq false) [.t 10,.c (.d (.int .u8 250))]]
def Q0k:List COp:=[oM 12 0,oo 13 (.call 36) [.t 12],⟨none,.store 4,[.t 4,.t 13],true,none⟩]
def Q0l:List COp:=[oM 14 0,oo 15 (.call 36) [.t 14],oo 5 (.alloc [.nils 1,.d (.int .i64 0),.nils 1,.nils 3]) [],⟨none,.store 4,[.t 5,.t 15],true,none⟩]
def Q0m:List COp:=[oF 16 0 3,oL 17 16,oo 18 (.bin .rem false) [.t 17,.c (.d (.int .u8 5))],oo 19 (.conv .i64) [.t 18],oo 20 (.bin .add false) [cI 1,.t 19],oF 21 1 5,⟨none,.store 1,[.t 21,.t 20],false,none⟩]
def Q0n:List COp:=[oo 6 .mov [cI 0]]
def Q0o:List COp:=[oM 22 6,oF 23 1 5,oL 24 23,oo 25 (.bin .lss false) [.t 22,.t 24]]
def Q0p:List COp:=[oF 28 1 3,oL 29 28,oM 30 6,oo 31 (.bin .shr false) [.t 29,.t 30],oo 32 (.bin .and false) [.t 31,.c (.d (.int .u8 1))],oo 33 (.bin .eql false) [.t 32,.c (.d (.int .u8 1))]]
def Q0q:List COp:=[oF 34 2 5,oo 35 .loadT [.t 34],oM 36 6,oo 37 (.bslice 1 1 [.d (.int .i64 0)] [0]) [.t 36],ot 38 (.append 1 8) [.t 35,.t 37],oF 39 2 5,⟨none,.store 1,[.t 39,.t 38],true,none⟩]
def Q0r:List COp:=[oo 7 .mov [cI 0]]
def Qxo:List COp:=[oM 40 7,oM 41 0,oo 42 .len [.t 41],oo 43 (.bin .lss false) [.t 40,.t 42],oM 44 43,⟨some 45,.mov,[.t 7],false,some (44,true)⟩,⟨some 46,.bin .lss false,[.t 45,cI 5],false,some (44,true)⟩,oo 47 .pick [.t 44,.t 46,.c (.d (.bool false))]]
def Qxp:List COp:=[oM 50 6,oM 51 7,oF 52 2 3,oo 53 (.idxarr 5 5) [.t 52,.t 50],oo 54 (.idxarr 1 5) [.t 53,.t 51],oL 55 54,oo 56 (.conv .i64) [.t 55],oF 57 1 5,oL 58 57,oo 59 (.bin .add false) [.t 58,cI 2],oo 60 (.bin .rem false) [.t 56,.t 59],oM 8 60]
def Qxq:List COp:=[oM 61 8,oF 62 1 5,oL 63 62,oo 64 (.bin .lss false) [.t 61,.t 63]]
def Qxr:List COp:=[oF 65 3 5,oo 66 .loadT [.t 65],oM 67 6,oM 68 0,oM 69 7,oo 70 (.idx 1) [.t 68,.t 69],oL 71 70,oM 72 8,oo 73 (.build [.d (.int .i64 0),.d (.int .i64 0),.d (.int .i64 0)] [(0,1),(1,1),(2,1)]) [.t 67,.t 71,.t 72],oo 74 (.bslice 3 1 [.d (.int .i64 0),.d (.int .i64 0),.d (.int .i64 0)] [0]) [.t 73],ot 75 (.append 3 24) [.t 66,.t 74],oF 76 3 5,⟨none,.store 1,[.t 76,.t 75],true,none⟩]
def Qxs:List COp:=[oM 48 7,oo 49 (.bin .add false) [.t 48,cI 1],oM 7 49]
def Qxt:List COp:=[oM 26 6,oo 27 (.bin .add false) [.t 26,cI 1],oM 6 27]
def Qxu:List COp:=[oo 77 (.load true 4) [.t 5],oo 78 (.call 37) [.t 77],⟨none,.store 4,[.t 4,.t 78],true,none⟩]
def Qip:CFn:=⟨2,79,[.cell 4 true 4],.seq (.region Q0i 9 []) (.seq (.seq (.region Q0j 9 []) (.cond (.t 11) (.seq (.region Q0k 9 []) (.ret)) (.skip))) (.seq (.region Q0l 9 []) (.seq (.region Q0m 9 []) (.seq (.seq (.region Q0n 9 []) (.block 0 (.loop [37,74] (.seq (.seq (.region Q0o 9 []) (.cond (.t 25) (.skip) (.exit 0))) (.seq (.block 1 (.seq (.seq (.region Q0p 9 []) (.cond (.t 33) (.region Q0q 9 []) (.skip))) (.seq (.region Q0r 9 []) (.block 2 (.loop [74] (.seq (.seq (.region Qxo 9 []) (.cond (.t 47) (.skip) (.exit 2))) (.seq (.block 3 (.seq (.region Qxp 0 []) (.seq (.region Qxq 9 []) (.cond (.t 64) (.region Qxr 0 []) (.skip))))) (.region Qxs 9 [])))))))) (.region Qxt 9 [])))))) (.seq (.region Qxu 9 []) (.ret))))))⟩
def Qbg (Q9:(List Int)→Option Qb) (Qbr:Qb→Option Qb) (fuel:Nat) (alphabet1:(List Int)) (g2:Qz):Option Qb :=
  (if (g2.States≥250) then ((Q9 alphabet1).bind fun x5=>some (Qb.mk x5.Alphabet x5.States [] [])) else ((Q9 alphabet1).bind fun x7=>((Qcl (fun k15 ((i8,c9,c10,c11,a12,a13,a14):Int×(List Int)×(List Int)×(List Qe)×Int×(List Int)×(List Qe))=>(if (i8 < a12) then ((((((shrO .u8 g2.Marks i8).bind fun s17=>(if ((andI .u8 s17 1) == 1) then ((appO a13 [i8]).bind fun x20=>some x20) else some a13))).bind fun (a22:List Int)=>Qcl (fun k25 ((k23,a24):Int×(List Qe))=>(((if (k23 < (alphabet1.length:Int)) then some (decide (k23 < 5)) else some false)).bind fun (x27:Bool)=>(if x27 then ((((inO 5 i8).bind fun _=>((inO 5 k23).bind fun _=>((rowO [g2.To.1.1,g2.To.1.2.1,g2.To.1.2.2.1,g2.To.1.2.2.2.1,g2.To.1.2.2.2.2,g2.To.2.1.1,g2.To.2.1.2.1,g2.To.2.1.2.2.1,g2.To.2.1.2.2.2.1,g2.To.2.1.2.2.2.2,g2.To.2.2.1.1,g2.To.2.2.1.2.1,g2.To.2.2.1.2.2.1,g2.To.2.2.1.2.2.2.1,g2.To.2.2.1.2.2.2.2,g2.To.2.2.2.1.1,g2.To.2.2.2.1.2.1,g2.To.2.2.2.1.2.2.1,g2.To.2.2.2.1.2.2.2.1,g2.To.2.2.2.1.2.2.2.2,g2.To.2.2.2.2.1,g2.To.2.2.2.2.2.1,g2.To.2.2.2.2.2.2.1,g2.To.2.2.2.2.2.2.2.1,g2.To.2.2.2.2.2.2.2.2] (Int.toNat i8 * 5 + Int.toNat k23 * 1)).bind fun x31=>((remO .i64 (IntKind.wrap .i64 x31) (IntKind.wrap .i64 (a12 + 2))).bind fun s33=>(if (s33 < a12) then ((getO alphabet1 k23).bind fun x36=>((appO a24 [(Qe.mk i8 x36 s33)]).bind fun x38=>some x38)) else some a24)))))).bind fun (a40:List Qe)=>k25 ((IntKind.wrap .i64 (k23 + 1)),a40)) else some (a22,a24)))) fuel (0,a14))).bind fun ((a41,a42):(List Int)×(List Qe))=>k15 ((IntKind.wrap .i64 (i8 + 1)),c9,c10,c11,a12,a41,a42)) else some (c9,c10,c11,a12,a13,a14))) fuel (0,[],[],[],(IntKind.wrap .i64 (1 + (IntKind.wrap .i64 (Int.tmod g2.States 5)))),[],[])).bind fun ((c43,c44,c45,a46,a47,a48):(List Int)×(List Int)×(List Qe)×Int×(List Int)×(List Qe))=>((Qbr (Qb.mk x7.Alphabet a46 a47 a48)).bind fun x50=>some x50))))
def Qib (P:Program) (c:Nat) (f:Qb→Int→Bool→Option ((List (List Int))×Int)):Prop:=∀ a1 most2 marked3 r,f a1 most2 marked3 = some r→∀ M nb,ACalls P c [(Qa a1),(i_ most2),(b_ marked3)] M nb (.tup [.own 1 (List.map (eL 1 (eI .i64)) r.1),(i_ r.2)]) M nb
def Q7p:List COp:=[oo 3 (.box 4) [.t 0],ot 6 .mov [.c (.nils 1)],oo 7 .mov [cI 0]]
def Q7q:List COp:=[oo 16 (.load true 4) [.t 3],oo 17 (.call 46) [.t 16],oM 8 17]
def Q7r:List COp:=[oM 18 8,oo 19 (.bin .neq false) [.t 18,cI 0]]
def Q7s:List COp:=[oM 20 8,ot 6 .mov [.c (.nils 1)],oM 7 20]
def Q7t:List COp:=[oM 21 1,oo 22 (.bin .lss false) [.t 21,cI 0],oM 23 22,⟨some 24,.mov,[.t 1],false,some (23,false)⟩,⟨some 25,.bin .gtr false,[.t 24,cI 4096],false,some (23,false)⟩,oo 26 .pick [.t 23,.c (.d (.bool true)),.t 25]]
def Q7u:List COp:=[ot 6 .mov [.c (.nils 1)],oo 7 .mov [cI 2]]
def Q7v:List COp:=[oF 27 1 3,oL 28 27,oo 29 (.bin .eql false) [.t 28,cI 0]]
def Q7w:List COp:=[ot 6 .mov [.c (.nils 1)],oo 7 .mov [cI 0]]
def Q7x:List COp:=[oo 30 (.build [.nils 1,.d (.int .i64 0)] []) [],oo 31 (.bslice 2 1 [.nils 1,.d (.int .i64 0)] [0]) [.t 30],ot 9 .mov [.t 31]]
def Q7y:List COp:=[oo 10 .mov [cI 0]]
def Q48:List COp:=[oM 32 10,oM 33 9,oo 34 .len [.t 33],oo 35 (.bin .lss false) [.t 32,.t 34]]
def Q49:List COp:=[oM 38 9,oM 39 10,oo 40 (.idx 2) [.t 38,.t 39],oF 41 0 40,oL 42 41,oo 43 .len [.t 42],oM 44 1,oo 45 (.bin .eql false) [.t 43,.t 44]]
def Q5a:List COp:=[oo 46 (.load true 4) [.t 3],oM 47 9,oM 48 10,oo 49 (.idx 2) [.t 47,.t 48],oF 50 1 49,oL 51 50,oo 52 (.call 54) [.t 46,.t 51],oo 53 .len [.t 52],oo 54 .mov [cI 0]]
def Q5b:List COp:=[oo 55 (.bin .lss false) [.t 54,.t 53]]
def Q5c:List COp:=[oo 56 (.idx 3) [.t 52,.t 54],oo 57 (.load true 3) [.t 56],oo 12 (.alloc [.d (.int .i64 0),.d (.int .i64 0),.d (.int .i64 0)]) [],⟨none,.store 3,[.t 12,.t 57],false,none⟩]
def Q5d:List COp:=[ot 58 .mov [.t 9],oM 59 9,oM 60 10,oo 61 (.idx 2) [.t 59,.t 60],oF 62 0 61,oL 63 62,oo 64 (.call 55) [.t 63],oF 65 1 12,oL 66 65,oo 67 (.bslice 1 1 [.d (.int .i64 0)] [0]) [.t 66],ot 68 (.append 1 8) [.t 64,.t 67],oF 69 2 12,oL 70 69,ot 71 (.build [.nils 1,.d (.int .i64 0)] [(0,1),(1,1)]) [.t 68,.t 70],oo 72 (.bslice 2 1 [.nils 1,.d (.int .i64 0)] [0]) [.t 71],ot 73 (.append 2 32) [.t 58,.t 72],ot 9 .mov [.t 73]]
def Q5e:List COp:=[oo 74 (.bin .add false) [.t 54,cI 1],oM 54 74]
def Q5f:List COp:=[oM 75 9,oo 76 .len [.t 75],oo 77 (.bin .gtr false) [.t 76,cI 1024]]
def Q5g:List COp:=[ot 6 .mov [.c (.nils 1)],oo 7 .mov [cI 3]]
def Q5h:List COp:=[oM 36 10,oo 37 (.bin .add false) [.t 36,cI 1],oM 10 37]
def Q5i:List COp:=[ot 13 .mov [.c (.nils 1)]]
def Q5j:List COp:=[oM 78 9,oo 79 .len [.t 78],oo 80 .mov [cI 0]]
def Q5k:List COp:=[oo 81 (.bin .lss false) [.t 80,.t 79]]
def Q5l:List COp:=[oo 82 (.idx 2) [.t 78,.t 80],oo 83 (.load true 2) [.t 82],oo 15 (.alloc [.nils 1,.d (.int .i64 0)]) [],⟨none,.store 2,[.t 15,.t 83],true,none⟩]
def Q5m:List COp:=[oM 84 2,oo 85 (.un .not) [.t 84],oM 86 85,⟨some 87,.fld 2,[.t 3],false,some (86,false)⟩,⟨some 88,.load false 1,[.t 87],false,some (86,false)⟩,⟨some 89,.fld 1,[.t 15],false,some (86,false)⟩,⟨some 90,.load false 1,[.t 89],false,some (86,false)⟩,⟨some 91,.call 56,[.t 88,.t 90],false,some (86,false)⟩,oo 92 .pick [.t 86,.c (.d (.bool true)),.t 91]]
def Q5n:List COp:=[ot 93 .mov [.t 13],oo 94 (.bslice 1 0 [.d (.int .i64 0)] []) [],oF 95 0 15,oL 96 95,ot 97 (.append 1 8) [.t 94,.t 96],oo 98 (.bslice 1 1 [.nils 1] [0]) [.t 97],ot 99 (.append 1 24) [.t 93,.t 98],ot 13 .mov [.t 99]]
def Q5o:List COp:=[oo 100 (.bin .add false) [.t 80,cI 1],oM 80 100]
def Q5p:List COp:=[ot 101 .mov [.t 13],ot 6 .mov [.t 101],oo 7 .mov [cI 0]]
def Qmg:CFn:=⟨3,102,[.t 6,.t 7],.seq (.region Q7p 9 []) (.seq (.seq (.region Q7q 9 []) (.seq (.region Q7r 9 []) (.cond (.t 19) (.seq (.region Q7s 9 []) (.ret)) (.skip)))) (.seq (.seq (.region Q7t 9 []) (.cond (.t 26) (.seq (.region Q7u 9 []) (.ret)) (.skip))) (.seq (.seq (.region Q7v 9 []) (.cond (.t 29) (.seq (.region Q7w 9 []) (.ret)) (.skip))) (.seq (.region Q7x 9 []) (.seq (.seq (.region Q7y 9 []) (.block 0 (.loop [12,67,72] (.seq (.seq (.region Q48 9 []) (.cond (.t 35) (.skip) (.exit 0))) (.seq (.block 1 (.seq (.seq (.region Q49 9 []) (.cond (.t 45) (.exit 0) (.skip))) (.seq (.seq (.region Q5a 0 []) (.block 2 (.loop [12,67,72] (.seq (.region Q5b 9 []) (.seq (.cond (.t 55) (.skip) (.exit 2)) (.seq (.block 3 (.seq (.region Q5c 9 []) (.region Q5d 1 []))) (.region Q5e 9 []))))))) (.seq (.region Q5f 9 []) (.cond (.t 77) (.seq (.region Q5g 9 []) (.ret)) (.skip)))))) (.region Q5h 9 [])))))) (.seq (.region Q5i 9 []) (.seq (.seq (.region Q5j 9 []) (.block 4 (.loop [15,94,98] (.seq (.region Q5k 9 []) (.seq (.cond (.t 81) (.skip) (.exit 4)) (.seq (.block 5 (.seq (.region Q5l 9 []) (.seq (.region Q5m 9 []) (.cond (.t 92) (.region Q5n 9 []) (.skip))))) (.region Q5o 9 []))))))) (.seq (.region Q5p 9 []) (.ret)))))))))⟩
def Qbv (Qs:Qb→Option Int) (Qbl:Qb→Int→Option ((List Qe))) (Q5:(List Int)→Option ((List Int))) (Qg:(List Int)→Int→Option Bool) (fuel:Nat) (a1:Qb) (most2:Int) (marked3:Bool):Option ((List (List Int))×Int) :=
  ((Qs a1).bind fun x5=>(if (x5 != 0) then some ([],x5) else (((if (most2 < 0) then some true else some (decide (most2 > 4096)))).bind fun (x8:Bool)=>(if x8 then some ([],2) else (if (a1.States == 0) then some ([],0) else letJ (fun (all38:List Qo)=>((Qcl (fun k41 ((l39,x40):(List (List Int))×Int)=>(if (x40 < (all38.length:Int)) then ((((getO all38 x40).bind fun x43=>(((if marked3 then ((Qg a1.Marked x43.state_).bind fun x47=>some x47) else some true)).bind fun (x48:Bool)=>(if x48 then ((appO [] x43.word_).bind fun x50=>((appO l39 [x50]).bind fun x52=>some (x52,x43.word_,x43.state_))) else some (l39,x43.word_,x43.state_))))).bind fun ((l54,c55,c56):(List (List Int))×(List Int)×Int)=>k41 (l54,(IntKind.wrap .i64 (x40 + 1)))) else some l39)) fuel ([],0)).bind fun (l57:List (List Int))=>some (l57,0))) fun J58=>Qcl (fun k13 ((all11,i12):(List Qo)×Int)=>(if (i12 < (all11.length:Int)) then ((getO all11 i12).bind fun x15=>(if ((x15.word_.length:Int) == most2) then J58 all11 else ((((getO all11 i12).bind fun x18=>((Qbl a1 x18.state_).bind fun x21=>Qcl (fun k24 ((all22,x23):(List Qo)×Int)=>(if (x23 < (x21.length:Int)) then ((getO x21 x23).bind fun x26=>((getO all22 i12).bind fun x28=>((Q5 x28.word_).bind fun x31=>((appO x31 [x26.Event]).bind fun x32=>((appO all22 [(Qo.mk x32 x26.To)]).bind fun x34=>k24 (x34,(IntKind.wrap .i64 (x23 + 1)))))))) else some all22)) fuel (all11,0)))).bind fun (all36:List Qo)=>(if ((all36.length:Int) > 1024) then some ([],3) else k13 (all36,(IntKind.wrap .i64 (i12 + 1))))))) else J58 all11)) fuel ([(Qo.mk [] 0)],0))))))
def Qi9 (P:Program) (c:Nat) (f:(List Int)→Int→Option Bool):Prop:=∀ l1 n2 r,f l1 n2 = some r→∀ M nb,ACalls P c [(l_ l1),(i_ n2)] M nb (b_ r) M nb
def Q2d:List COp:=[oo 4 .mov [.c (.d (.bool false))]]
def Q2e:List COp:=[oo 5 .mov [cI 0]]
def Q2f:List COp:=[oM 6 5,oM 7 0,oo 8 .len [.t 7],oo 9 (.bin .lss false) [.t 6,.t 8]]
def Q2g:List COp:=[oM 12 0,oM 13 5,oo 14 (.idx 1) [.t 12,.t 13],oL 15 14,oM 16 1,oo 17 (.bin .eql false) [.t 15,.t 16]]
def Q2h:List COp:=[oo 4 .mov [.c (.d (.bool true))]]
def Q2i:List COp:=[oM 10 5,oo 11 (.bin .add false) [.t 10,cI 1],oM 5 11]
def Q2j:List COp:=[oo 4 .mov [.c (.d (.bool false))]]
def Qja:CFn:=⟨2,18,[.t 4],.seq (.region Q2d 9 []) (.seq (.seq (.region Q2e 9 []) (.block 0 (.loop [] (.seq (.seq (.region Q2f 9 []) (.cond (.t 9) (.skip) (.exit 0))) (.seq (.block 1 (.seq (.region Q2g 9 []) (.cond (.t 17) (.seq (.region Q2h 9 []) (.ret)) (.skip)))) (.region Q2i 9 [])))))) (.seq (.region Q2j 9 []) (.ret)))⟩
def Qc3 (fuel:Nat) (l1:(List Int)) (n2:Int):Option Bool :=
  Qcl (fun k4 (i3:Int)=>(if (i3 < (l1.length:Int)) then ((getO l1 i3).bind fun x6=>(if (x6 == n2) then some true else k4 (IntKind.wrap .i64 (i3 + 1)))) else some false)) fuel 0
def Qez (P:Program) (c:Nat) (f:(List Int)→(List Int)→Option ((List Int))):Prop:=∀ onto1 word2 r,f onto1 word2 = some r→∀ M nb,ACalls P c [(l_ onto1),(l_ word2)] M nb (o_ r) M nb
def Qr4:List COp:=[ot 4 .mov [.c (.nils 1)]]
def Qr5:List COp:=[ot 5 .mov [.c (.nils 1)]]
def Qr6:List COp:=[oo 6 .mov [cI 0]]
def Qr7:List COp:=[oM 7 6,oM 8 1,oo 9 .len [.t 8],oo 10 (.bin .lss false) [.t 7,.t 9]]
def Qr8:List COp:=[oM 13 0,oM 14 1,oM 15 6,oo 16 (.idx 1) [.t 14,.t 15],oL 17 16,oo 18 (.call 45) [.t 13,.t 17]]
def Qr9:List COp:=[ot 19 .mov [.t 5],oM 20 1,oM 21 6,oo 22 (.idx 1) [.t 20,.t 21],oL 23 22,oo 24 (.bslice 1 1 [.d (.int .i64 0)] [0]) [.t 23],ot 25 (.append 1 8) [.t 19,.t 24],ot 5 .mov [.t 25]]
def Qsa:List COp:=[oM 11 6,oo 12 (.bin .add false) [.t 11,cI 1],oM 6 12]
def Qsb:List COp:=[ot 26 .mov [.t 5],ot 4 .mov [.t 26]]
def Qgo:CFn:=⟨2,27,[.t 4],.seq (.region Qr4 9 []) (.seq (.region Qr5 9 []) (.seq (.seq (.region Qr6 9 []) (.block 0 (.loop [24] (.seq (.seq (.region Qr7 9 []) (.cond (.t 10) (.skip) (.exit 0))) (.seq (.block 1 (.seq (.region Qr8 9 []) (.cond (.t 18) (.region Qr9 9 []) (.skip)))) (.region Qsa 9 [])))))) (.seq (.region Qsb 9 []) (.ret))))⟩
def Q7 (Qc3:(List Int)→Int→Option Bool) (fuel:Nat) (onto1:(List Int)) (word2:(List Int)):Option ((List Int)) :=
  ((Qcl (fun k5 ((out3,i4):(List Int)×Int)=>(if (i4 < (word2.length:Int)) then ((((getO word2 i4).bind fun x7=>((Qc3 onto1 x7).bind fun x10=>(if x10 then ((getO word2 i4).bind fun x12=>((appO out3 [x12]).bind fun x14=>some x14)) else some out3)))).bind fun (out16:List Int)=>k5 (out16,(IntKind.wrap .i64 (i4 + 1)))) else some out3)) fuel ([],0)).bind fun (out17:List Int)=>some out17)
def K_projection_Alike (P:Program) (c:Nat) (f:(List Int)→(List Int)→(List Int)→Option Bool):Prop:=∀ onto1 v2 w3 r,f onto1 v2 w3 = some r→∀ M nb,ACalls P c [(l_ onto1),(l_ v2),(l_ w3)] M nb (b_ r) M nb
def Qkp (P:Program) (c:Nat) (f:Qe→Int→Option Bool):Prop:=∀ x1 x2 (k3:Nat) r,f x1 x2 = some r→∀ M nb,(M k3 = some (.cells [(i_ x2)]))→ACalls P c [(Qbs x1),.ptr k3 0] M nb (b_ r) M nb
def Q5q:List COp:=[oo 2 (.box 3) [.t 0],oo 3 .mov [.c (.d (.bool false))]]
def Q5r:List COp:=[oF 4 1 2,oL 5 4,oL 6 1,oo 7 (.bin .eql false) [.t 5,.t 6],oM 3 7]
def Qkq:CFn:=⟨2,8,[.t 3],.seq (.region Q5q 9 []) (.seq (.region Q5r 9 []) (.ret))⟩
def Qcy (x1:Qe) (x2:Int):Option Bool :=
  some (x1.Event == x2)
def Qgp (P:Program) (c:Nat) (f:(List Qe)→(Qe→Option Bool)→Option Int):Prop:=∀ s1 f2 (g3:Nat) (cp4:List V) r,f s1 f2 = some r→∀ M nb,(V.dems cp4 = cp4)→(V.ons (There M) cp4)→(∀ a8 r,f2 a8 = some r→∀ M2 nb2,nb≤nb2→Ext M M2→ACalls P g3 ([(Qbs a8)] ++ cp4) M2 nb2 (b_ r) M2 nb2)→ACalls P c [.d (.lst 3 (List.map Qc s1)),.clo g3 cp4] M nb (i_ r) M nb
def Qsc:List COp:=[oo 4 .mov [cI 0]]
def Qsd:List COp:=[oM 6 0,oo 7 .len [.t 6],oo 8 .mov [cI 0]]
def Qse:List COp:=[oo 9 (.bin .lss false) [.t 8,.t 7]]
def Qsf:List COp:=[oM 10 8,oM 5 10]
def Qsg:List COp:=[oM 11 1,oM 12 0,oM 13 5,oo 14 (.idx 3) [.t 12,.t 13],oo 15 (.load true 3) [.t 14],oo 16 .callv [.t 11,.t 15]]
def Qsh:List COp:=[oM 17 5,oM 4 17]
def Qsi:List COp:=[oo 18 (.bin .add false) [.t 8,cI 1],oM 8 18]
def Qsj:List COp:=[oo 4 .mov [cI (-1)]]
def Qgq:CFn:=⟨2,19,[.t 4],.seq (.region Qsc 9 []) (.seq (.seq (.region Qsd 9 []) (.block 0 (.loop [] (.seq (.region Qse 9 []) (.seq (.cond (.t 9) (.skip) (.exit 0)) (.seq (.block 1 (.seq (.region Qsf 9 []) (.seq (.region Qsg 9 []) (.cond (.t 16) (.seq (.region Qsh 9 []) (.ret)) (.skip))))) (.region Qsi 9 []))))))) (.seq (.region Qsj 9 []) (.ret)))⟩
def Qby (fuel:Nat) (s1:(List Qe)) (f2:(Qe→Option Bool)):Option Int :=
  Qcl (fun k10 (x9:Int)=>(if (x9 < (s1.length:Int)) then ((getO s1 x9).bind fun x12=>((f2 x12).bind fun x15=>(if x15 then some x9 else k10 (IntKind.wrap .i64 (x9 + 1))))) else some (-1))) fuel 0
def Qn2 (P:Program) (c:Nat) (f:Qb→Int→Int→Option Int):Prop:=∀ a1 state2 event3 r,f a1 state2 event3 = some r→∀ M nb,ACalls P c [(Qa a1),(i_ state2),(i_ event3)] M nb (i_ r) M nb
def Q82:List COp:=[oo 3 (.box 4) [.t 0],oo 5 (.box 1) [.t 2],oo 6 .mov [cI 0]]
def Q83:List COp:=[oo 9 (.load true 4) [.t 3],oM 10 1,oo 11 (.call 54) [.t 9,.t 10],ot 7 .mov [.t 11]]
def Q84:List COp:=[oM 12 7,oo 13 (.func 100) [.t 5],oo 14 (.call 99) [.t 12,.t 13],oM 8 14]
def Q85:List COp:=[oM 15 8,oo 16 (.bin .lss false) [.t 15,cI 0]]
def Q86:List COp:=[oo 6 .mov [cI (-1)]]
def Q87:List COp:=[oM 17 7,oM 18 8,oo 19 (.idx 3) [.t 17,.t 18],oF 20 2 19,oL 21 20,oM 6 21]
def Qn3:CFn:=⟨3,22,[.t 6],.seq (.region Q82 9 []) (.seq (.region Q83 9 []) (.seq (.region Q84 9 []) (.seq (.seq (.region Q85 9 []) (.cond (.t 16) (.seq (.region Q86 9 []) (.ret)) (.skip))) (.seq (.region Q87 9 []) (.ret)))))⟩
def Qdf (Qbl:Qb→Int→Option ((List Qe))) (Qby:(List Qe)→(Qe→Option Bool)→Option Int) (Qcy:Qe→Int→Option Bool) (a1:Qb) (state2:Int) (event3:Int):Option Int :=
  ((Qbl a1 state2).bind fun x5=>((Qby x5 (fun a6=>Qcy a6 event3)).bind fun x10=>(if (x10 < 0) then some (-1) else ((getO x5 x10).bind fun x12=>some x12.To))))
def Qhe (P:Program) (c:Nat) (f:Qb→Int→(List Int)→Option (Int×Int)):Prop:=∀ a1 state2 word3 r,f a1 state2 word3 = some r→∀ M nb,ACalls P c [(Qa a1),(i_ state2),(l_ word3)] M nb (.tup [(i_ r.1),(i_ r.2)]) M nb
def Q5s:List COp:=[oo 3 (.box 4) [.t 0],oo 6 .mov [cI 0],oo 7 .mov [cI 0]]
def Q5t:List COp:=[oM 11 2,oo 12 .len [.t 11],oo 13 .mov [cI 0]]
def Q5u:List COp:=[oo 14 (.bin .lss false) [.t 13,.t 12]]
def Q5v:List COp:=[oM 15 13,oo 16 (.idx 1) [.t 11,.t 13],oL 17 16,oM 8 15,oM 9 17]
def Q5w:List COp:=[oo 18 (.load true 4) [.t 3],oM 19 1,oM 20 9,oo 21 (.call 90) [.t 18,.t 19,.t 20],oM 10 21]
def Q5x:List COp:=[oM 22 10,oo 23 (.bin .lss false) [.t 22,cI 0]]
def Q5y:List COp:=[oM 24 1,oM 25 8,oM 6 24,oM 7 25]
def Q5z:List COp:=[oM 26 10,oM 1 26]
def Q50:List COp:=[oo 27 (.bin .add false) [.t 13,cI 1],oM 13 27]
def Q51:List COp:=[oM 28 1,oM 29 2,oo 30 .len [.t 29],oM 6 28,oM 7 30]
def Qkr:CFn:=⟨3,31,[.t 6,.t 7],.seq (.region Q5s 9 []) (.seq (.seq (.region Q5t 9 []) (.block 0 (.loop [] (.seq (.region Q5u 9 []) (.seq (.cond (.t 14) (.skip) (.exit 0)) (.seq (.block 1 (.seq (.region Q5v 9 []) (.seq (.region Q5w 9 []) (.seq (.seq (.region Q5x 9 []) (.cond (.t 23) (.seq (.region Q5y 9 []) (.ret)) (.skip))) (.region Q5z 9 []))))) (.region Q50 9 []))))))) (.seq (.region Q51 9 []) (.ret)))⟩
def Qbq (Qdf:Qb→Int→Int→Option Int) (fuel:Nat) (a1:Qb) (state2:Int) (word3:(List Int)):Option (Int×Int) :=
  Qcl (fun k6 ((state4,x5):Int×Int)=>(if (x5 < (word3.length:Int)) then ((getO word3 x5).bind fun x8=>((Qdf a1 state4 x8).bind fun x11=>(if (x11 < 0) then some (state4,x5) else k6 (x11,(IntKind.wrap .i64 (x5 + 1)))))) else some (state4,(word3.length:Int)))) fuel (state2,0)
def Qgr (P:Program) (c:Nat) (f:Qb→(List Int)→Option (Int×Bool)):Prop:=∀ a1 word2 r,f a1 word2 = some r→∀ M nb,ACalls P c [(Qa a1),(l_ word2)] M nb (.tup [(i_ r.1),(b_ r.2)]) M nb
def Q2k:List COp:=[oo 2 (.box 4) [.t 0],oo 4 .mov [cI 0],oo 5 .mov [.c (.d (.bool false))]]
def Q2l:List COp:=[oF 8 1 2,oL 9 8,oo 10 (.bin .eql false) [.t 9,cI 0]]
def Q2m:List COp:=[oo 4 .mov [cI 0],oo 5 .mov [.c (.d (.bool false))]]
def Q2n:List COp:=[oo 12 (.load true 4) [.t 2],oM 13 1,oo 14 (.call 60) [.t 12,cI 0,.t 13],oM 11 14,oo 15 (.extract 0) [.t 11],oo 16 (.extract 1) [.t 11],oM 6 15,oM 7 16]
def Q2o:List COp:=[oM 17 6,oM 18 7,oM 19 1,oo 20 .len [.t 19],oo 21 (.bin .eql false) [.t 18,.t 20],oM 4 17,oM 5 21]
def Qjb:CFn:=⟨2,22,[.t 4,.t 5],.seq (.region Q2k 9 []) (.seq (.seq (.region Q2l 9 []) (.cond (.t 10) (.seq (.region Q2m 9 []) (.ret)) (.skip))) (.seq (.region Q2n 9 []) (.seq (.region Q2o 9 []) (.ret))))⟩
def Qbn (Qbq:Qb→Int→(List Int)→Option (Int×Int)) (a1:Qb) (word2:(List Int)):Option (Int×Bool) :=
  (if (a1.States == 0) then some (0,false) else ((Qbq a1 0 word2).bind fun (r5,r6)=>some (r5,(r6 == (word2.length:Int)))))
def Qhz (P:Program) (c:Nat) (f:Qb→(List Int)→Option (Bool×Int)):Prop:=∀ a1 word2 r,f a1 word2 = some r→∀ M nb,ACalls P c [(Qa a1),(l_ word2)] M nb (.tup [(b_ r.1),(i_ r.2)]) M nb
def Qxv:List COp:=[oo 2 (.box 4) [.t 0],oo 4 .mov [.c (.d (.bool false))],oo 5 .mov [cI 0]]
def Qxw:List COp:=[oo 9 (.load true 4) [.t 2],oo 10 (.call 46) [.t 9],oM 6 10]
def Qxx:List COp:=[oM 11 6,oo 12 (.bin .neq false) [.t 11,cI 0]]
def Qxy:List COp:=[oM 13 6,oo 4 .mov [.c (.d (.bool false))],oM 5 13]
def Qxz:List COp:=[oo 15 (.load true 4) [.t 2],oM 16 1,oo 17 (.call 61) [.t 15,.t 16],oM 14 17,oo 18 (.extract 0) [.t 14],oo 19 (.extract 1) [.t 14],oM 7 18,oM 8 19]
def Qx0:List COp:=[oM 20 8,oM 4 20,oo 5 .mov [cI 0]]
def Qh0:CFn:=⟨2,21,[.t 4,.t 5],.seq (.region Qxv 9 []) (.seq (.seq (.region Qxw 9 []) (.seq (.region Qxx 9 []) (.cond (.t 12) (.seq (.region Qxy 9 []) (.ret)) (.skip)))) (.seq (.region Qxz 9 []) (.seq (.region Qx0 9 []) (.ret))))⟩
def Qca (Qs:Qb→Option Int) (Qbn:Qb→(List Int)→Option (Int×Bool)) (a1:Qb) (word2:(List Int)):Option (Bool×Int) :=
  ((Qs a1).bind fun x4=>(if (x4 != 0) then some (false,x4) else ((Qbn a1 word2).bind fun (r7,r8)=>some (r8,0))))
def Qge (P:Program) (c:Nat) (f:(Int×Int)→Qz→Int→Option Bool):Prop:=∀ s1 g2 xat3 r,f s1 g2 xat3 = some r→∀ M nb,ACalls P c [.agg [.d (.int .u8 s1.1),.d (.int .u8 s1.2)],.agg [.d (.int .u8 g2.States),.d (.int .u8 g2.Marks),.d (.int .u8 g2.To.1.1),.d (.int .u8 g2.To.1.2.1),.d (.int .u8 g2.To.1.2.2.1),.d (.int .u8 g2.To.1.2.2.2.1),.d (.int .u8 g2.To.1.2.2.2.2),.d (.int .u8 g2.To.2.1.1),.d (.int .u8 g2.To.2.1.2.1),.d (.int .u8 g2.To.2.1.2.2.1),.d (.int .u8 g2.To.2.1.2.2.2.1),.d (.int .u8 g2.To.2.1.2.2.2.2),.d (.int .u8 g2.To.2.2.1.1),.d (.int .u8 g2.To.2.2.1.2.1),.d (.int .u8 g2.To.2.2.1.2.2.1),.d (.int .u8 g2.To.2.2.1.2.2.2.1),.d (.int .u8 g2.To.2.2.1.2.2.2.2),.d (.int .u8 g2.To.2.2.2.1.1),.d (.int .u8 g2.To.2.2.2.1.2.1),.d (.int .u8 g2.To.2.2.2.1.2.2.1),.d (.int .u8 g2.To.2.2.2.1.2.2.2.1),.d (.int .u8 g2.To.2.2.2.1.2.2.2.2),.d (.int .u8 g2.To.2.2.2.2.1),.d (.int .u8 g2.To.2.2.2.2.2.1),.d (.int .u8 g2.To.2.2.2.2.2.2.1),.d (.int .u8 g2.To.2.2.2.2.2.2.2.1),.d (.int .u8 g2.To.2.2.2.2.2.2.2.2)],.d (.int .u16 xat3)] M nb (b_ r) M nb
def Qks:List COp:=[oo 3 (.box 2) [.t 0],oo 4 (.box 27) [.t 1],oo 6 .mov [.c (.d (.bool false))]]
def Qkt:List COp:=[oo 18 (.call 8) [],oo 19 (.un .not) [.t 18]]
def Qku:List COp:=[oo 6 .mov [.c (.d (.bool false))]]
def Qkv:List COp:=[oo 20 (.idxarr 1 2) [.t 3,cI 0],oL 21 20,oo 22 (.call 11) [.t 21],oo 23 (.load true 27) [.t 4],oo 24 (.call 10) [.t 22,.t 23],oo 25 (.idxarr 1 2) [.t 3,cI 1],oL 26 25,oo 27 (.call 11) [.t 26],oo 7 (.alloc [.nils 1,.d (.int .i64 0),.nils 1,.nils 3]) [],⟨none,.store 4,[.t 7,.t 24],true,none⟩,ot 8 .mov [.t 27]]
def Qkw:List COp:=[oo 29 (.load true 4) [.t 7],oo 30 (.call 27) [.t 29,cI 4,.c (.d (.bool false))],oM 28 30,ot 31 (.extract 0) [.t 28],oo 32 (.extract 1) [.t 28],ot 9 .mov [.t 31],oM 10 32]
def Qkx:List COp:=[oM 33 10,oo 34 (.bin .neq false) [.t 33,cI 0],oM 35 34,⟨some 36,.mov,[.t 9],false,some (35,false)⟩,⟨some 37,.len,[.t 36],false,some (35,false)⟩,⟨some 38,.bin .eql false,[.t 37,cI 0],false,some (35,false)⟩,oo 39 .pick [.t 35,.c (.d (.bool true)),.t 38]]
def Qky:List COp:=[oM 40 10,oo 41 (.bin .eql false) [.t 40,cI 0],oM 6 41]
def Qkz:List COp:=[oM 42 9,oM 43 2,oo 44 (.conv .i64) [.t 43],oM 45 9,oo 46 .len [.t 45],oo 47 (.bin .rem false) [.t 44,.t 46],oo 48 (.idx 1) [.t 42,.t 47],oL 49 48,ot 11 .mov [.t 49]]
def Qk0:List COp:=[oo 51 (.load true 4) [.t 7],oM 52 8,oM 53 8,oM 54 11,oo 55 (.call 28) [.t 53,.t 54],oo 56 (.call 31) [.t 51,.t 52,.t 55,.c (.d (.bool false))],oM 50 56,ot 57 (.extract 0) [.t 50],oo 58 (.extract 1) [.t 50],oo 59 (.extract 2) [.t 50],ot 12 .mov [.t 57],oM 13 58,oM 14 59]
def Qk1:List COp:=[oM 60 14,oo 61 (.bin .neq false) [.t 60,cI 0],oM 62 61,⟨some 63,.mov,[.t 13],false,some (62,false)⟩,⟨some 64,.un .not,[.t 63],false,some (62,false)⟩,oo 65 .pick [.t 62,.c (.d (.bool true)),.t 64],oM 66 65,⟨some 67,.mov,[.t 8],false,some (66,false)⟩,⟨some 68,.mov,[.t 12],false,some (66,false)⟩,⟨some 69,.mov,[.t 11],false,some (66,false)⟩,⟨some 70,.call 32,[.t 67,.t 68,.t 69],false,some (66,false)⟩,⟨some 71,.un .not,[.t 70],false,some (66,false)⟩,oo 72 .pick [.t 66,.c (.d (.bool true)),.t 71],oM 73 72,⟨some 74,.mov,[.t 12],false,some (73,false)⟩,⟨some 75,.len,[.t 74],false,some (73,false)⟩,⟨some 76,.mov,[.t 11],false,some (73,false)⟩,⟨some 77,.len,[.t 76],false,some (73,false)⟩,⟨some 78,.bin .gtr false,[.t 75,.t 77],false,some (73,false)⟩,oo 79 .pick [.t 73,.c (.d (.bool true)),.t 78]]
def Qjt:List COp:=[oo 6 .mov [.c (.d (.bool false))]]
def Qju:List COp:=[oo 81 (.load true 4) [.t 7],oM 82 12,oo 83 (.call 33) [.t 81,.t 82],oM 80 83,oo 84 (.extract 0) [.t 80],oo 85 (.extract 1) [.t 80],oM 15 84,oM 16 85]
def Qjv:List COp:=[oM 86 15,oo 87 (.un .not) [.t 86],oM 88 87,⟨some 89,.mov,[.t 16],false,some (88,false)⟩,⟨some 90,.bin .neq false,[.t 89,cI 0],false,some (88,false)⟩,oo 91 .pick [.t 88,.c (.d (.bool true)),.t 90]]
def Qjw:List COp:=[oo 6 .mov [.c (.d (.bool false))]]
def Qjx:List COp:=[oo 17 .mov [cI 0]]
def Qjy:List COp:=[oM 92 17,oM 93 12,oo 94 .len [.t 93],oo 95 (.bin .lss false) [.t 92,.t 94],oM 96 95,⟨some 97,.mov,[.t 12],false,some (96,true)⟩,⟨some 98,.len,[.t 97],false,some (96,true)⟩,⟨some 99,.mov,[.t 11],false,some (96,true)⟩,⟨some 100,.len,[.t 99],false,some (96,true)⟩,⟨some 101,.bin .eql false,[.t 98,.t 100],false,some (96,true)⟩,oo 102 .pick [.t 96,.t 101,.c (.d (.bool false))]]
def Qjz:List COp:=[oM 105 12,oM 106 17,oo 107 (.idx 1) [.t 105,.t 106],oL 108 107,oM 109 11,oM 110 17,oo 111 (.idx 1) [.t 109,.t 110],oL 112 111,oo 113 (.bin .neq false) [.t 108,.t 112]]
def Qj0:List COp:=[oM 114 12,oM 115 17,oo 116 (.idx 1) [.t 114,.t 115],oL 117 116,oM 118 11,oM 119 17,oo 120 (.idx 1) [.t 118,.t 119],oL 121 120,oo 122 (.bin .lss false) [.t 117,.t 121],oM 6 122]
def Qj1:List COp:=[oM 103 17,oo 104 (.bin .add false) [.t 103,cI 1],oM 17 104]
def Qj2:List COp:=[oo 6 .mov [.c (.d (.bool true))]]
def Qd5:CFn:=⟨3,123,[.t 6],.seq (.region Qks 9 []) (.seq (.seq (.region Qkt 9 []) (.cond (.t 19) (.seq (.region Qku 9 []) (.ret)) (.skip))) (.seq (.region Qkv 1 []) (.seq (.region Qkw 9 []) (.seq (.seq (.region Qkx 9 []) (.cond (.t 39) (.seq (.region Qky 9 []) (.ret)) (.skip))) (.seq (.region Qkz 9 []) (.seq (.region Qk0 1 []) (.seq (.seq (.region Qk1 9 []) (.cond (.t 79) (.seq (.region Qjt 9 []) (.ret)) (.skip))) (.seq (.region Qju 9 []) (.seq (.seq (.region Qjv 9 []) (.cond (.t 91) (.seq (.region Qjw 9 []) (.ret)) (.skip))) (.seq (.seq (.region Qjx 9 []) (.block 0 (.loop [] (.seq (.seq (.region Qjy 9 []) (.cond (.t 102) (.skip) (.exit 0))) (.seq (.block 1 (.seq (.region Qjz 0 []) (.cond (.t 113) (.seq (.region Qj0 0 []) (.ret)) (.skip)))) (.region Qj1 9 [])))))) (.seq (.region Qj2 9 []) (.ret))))))))))))⟩
def Qda (Qbi:Option Bool) (Qbg:(List Int)→Qz→Option Qb) (Qx:Int→Option ((List Int))) (Qbv:Qb→Int→Bool→Option ((List (List Int))×Int)) (Q7:(List Int)→(List Int)→Option ((List Int))) (Qbu:Qb→(List Int)→(List Int)→Bool→Option ((List Int)×Bool×Int)) (f_projection_Alike:(List Int)→(List Int)→(List Int)→Option Bool) (Qca:Qb→(List Int)→Option (Bool×Int)) (fuel:Nat) (s1:(Int×Int)) (g2:Qz) (xat3:Int):Option Bool :=
  (Qbi.bind fun x5=>(if x5 then ((Qx s1.1).bind fun x8=>((Qbg x8 (Qz.mk g2.States g2.Marks ((g2.To.1.1,g2.To.1.2.1,g2.To.1.2.2.1,g2.To.1.2.2.2.1,g2.To.1.2.2.2.2),(g2.To.2.1.1,g2.To.2.1.2.1,g2.To.2.1.2.2.1,g2.To.2.1.2.2.2.1,g2.To.2.1.2.2.2.2),(g2.To.2.2.1.1,g2.To.2.2.1.2.1,g2.To.2.2.1.2.2.1,g2.To.2.2.1.2.2.2.1,g2.To.2.2.1.2.2.2.2),(g2.To.2.2.2.1.1,g2.To.2.2.2.1.2.1,g2.To.2.2.2.1.2.2.1,g2.To.2.2.2.1.2.2.2.1,g2.To.2.2.2.1.2.2.2.2),(g2.To.2.2.2.2.1,g2.To.2.2.2.2.2.1,g2.To.2.2.2.2.2.2.1,g2.To.2.2.2.2.2.2.2.1,g2.To.2.2.2.2.2.2.2.2)))).bind fun x10=>((Qx s1.2).bind fun x12=>((Qbv x10 4 false).bind fun (r14,r15)=>(((if (r15 != 0) then some true else some ((r14.length:Int) == 0))).bind fun (x17:Bool)=>(if x17 then some (r15 == 0) else ((remO .i64 (IntKind.wrap .i64 xat3) (r14.length:Int)).bind fun s19=>((getO r14 s19).bind fun x21=>((Q7 x12 x21).bind fun x24=>((Qbu x10 x12 x24 false).bind fun (r26,r27,r28)=>(((if (r28 != 0) then some true else (if r27 then ((f_projection_Alike x12 r26 x21).bind fun x32=>(if x32 then some (decide ((r26.length:Int) > (x21.length:Int))) else some true)) else some true))).bind fun (x34:Bool)=>(if x34 then some false else ((Qca x10 r26).bind fun (r37,r38)=>(((if r37 then some (r38 != 0) else some true)).bind fun (x40:Bool)=>(if x40 then some false else Qcl (fun k43 (i42:Int)=>(((if (i42 < (r26.length:Int)) then some ((r26.length:Int) == (x21.length:Int)) else some false)).bind fun (x45:Bool)=>(if x45 then ((getO r26 i42).bind fun x47=>((getO x21 i42).bind fun x49=>(if (x47 != x49) then ((getO r26 i42).bind fun x52=>((getO x21 i42).bind fun x54=>some (decide (x52 < x54)))) else k43 (IntKind.wrap .i64 (i42 + 1))))) else some true))) fuel 0))))))))))))))) else some false))
def Qg9 (P:Program) (c:Nat) (f:Qb→Int→Option Int):Prop:=∀ a1 state2 r,f a1 state2 = some r→∀ M nb,ACalls P c [(Qa a1),(i_ state2)] M nb (i_ r) M nb
def Qt3:List COp:=[oo 2 (.box 4) [.t 0],oo 4 .mov [cI 0]]
def Qt4:List COp:=[oo 6 (.load true 4) [.t 2],oo 7 (.call 46) [.t 6],oM 5 7]
def Qt5:List COp:=[oM 8 5,oo 9 (.bin .neq false) [.t 8,cI 0]]
def Qt6:List COp:=[oM 10 5,oM 4 10]
def Qt7:List COp:=[oM 11 1,oo 12 (.bin .lss false) [.t 11,cI 0],oM 13 12,⟨some 14,.mov,[.t 1],false,some (13,false)⟩,⟨some 15,.fld 1,[.t 2],false,some (13,false)⟩,⟨some 16,.load false 1,[.t 15],false,some (13,false)⟩,⟨some 17,.bin .geq false,[.t 14,.t 16],false,some (13,false)⟩,oo 18 .pick [.t 13,.c (.d (.bool true)),.t 17]]
def Qt8:List COp:=[oo 4 .mov [cI 2]]
def Qt9:List COp:=[oo 4 .mov [cI 0]]
def Qha:CFn:=⟨2,19,[.t 4],.seq (.region Qt3 9 []) (.seq (.seq (.region Qt4 9 []) (.seq (.region Qt5 9 []) (.cond (.t 9) (.seq (.region Qt6 9 []) (.ret)) (.skip)))) (.seq (.seq (.region Qt7 9 []) (.cond (.t 18) (.seq (.region Qt8 9 []) (.ret)) (.skip))) (.seq (.region Qt9 9 []) (.ret))))⟩
def Qcc (Qs:Qb→Option Int) (a1:Qb) (state2:Int):Option Int :=
  ((Qs a1).bind fun x4=>(if (x4 != 0) then some x4 else (((if (state2 < 0) then some true else some (decide (state2≥a1.States)))).bind fun (x7:Bool)=>(if x7 then some 2 else some 0))))
def Qmh (P:Program) (c:Nat) (f:Int→Qb→Option Bool):Prop:=∀ x1 x2 (k3:Nat) r,f x1 x2 = some r→∀ M nb,(M k3 = some (.cells (Qd x2)))→ACalls P c [(i_ x1),.ptr k3 0] M nb (b_ r) M nb
def Q7z:List COp:=[oo 3 .mov [.c (.d (.bool false))]]
def Q70:List COp:=[oF 4 0 1,oL 5 4,oM 6 0,oo 7 (.call 56) [.t 5,.t 6],oo 8 (.un .not) [.t 7],oM 3 8]
def Qmi:CFn:=⟨2,9,[.t 3],.seq (.region Q7z 9 []) (.seq (.region Q70 9 []) (.ret))⟩
def Qdm (Qg:(List Int)→Int→Option Bool) (x1:Int) (x2:Qb):Option Bool :=
  ((Qg x2.Alphabet x1).bind fun x6=>some (!x6))
def Qqo (P:Program) (c:Nat) (f:Qb→Int→(List Int)→Option (Int×Int×Int)):Prop:=∀ a1 xfrom2 word3 r,f a1 xfrom2 word3 = some r→∀ M nb,ACalls P c [(Qa a1),(i_ xfrom2),(l_ word3)] M nb (.tup [(i_ r.1),(i_ r.2.1),(i_ r.2.2)]) M nb
def Qbac:List COp:=[oo 3 (.box 4) [.t 0],oo 6 .mov [cI 0],oo 7 .mov [cI 0],oo 8 .mov [cI 0]]
def Qbad:List COp:=[oo 9 (.load true 4) [.t 3],oM 10 1,oo 11 (.call 57) [.t 9,.t 10],oM 8 11]
def Qbae:List COp:=[oM 12 8,oo 13 (.bin .neq false) [.t 12,cI 0]]
def Qbaf:List COp:=[oM 14 8,oo 6 .mov [cI 0],oo 7 .mov [cI 0],oM 8 14]
def Qbag:List COp:=[oM 15 2,oo 16 (.func 59) [.t 3],oo 17 (.call 58) [.t 15,.t 16]]
def Qbah:List COp:=[oo 6 .mov [cI 0],oo 7 .mov [cI 0],oo 8 .mov [cI 9]]
def Qbai:List COp:=[oo 19 (.load true 4) [.t 3],oM 20 1,oM 21 2,oo 22 (.call 60) [.t 19,.t 20,.t 21],oM 18 22,oo 23 (.extract 0) [.t 18],oo 24 (.extract 1) [.t 18],oM 6 23,oM 7 24]
def Qbaj:List COp:=[oM 25 6,oM 26 7,oM 6 25,oM 7 26,oo 8 .mov [cI 0]]
def Qqp:CFn:=⟨3,27,[.t 6,.t 7,.t 8],.seq (.region Qbac 9 []) (.seq (.seq (.region Qbad 9 []) (.seq (.region Qbae 9 []) (.cond (.t 13) (.seq (.region Qbaf 9 []) (.ret)) (.skip)))) (.seq (.seq (.region Qbag 9 []) (.cond (.t 17) (.seq (.region Qbah 9 []) (.ret)) (.skip))) (.seq (.region Qbai 9 []) (.seq (.region Qbaj 9 []) (.ret)))))⟩
def Qdt (Qcc:Qb→Int→Option Int) (Qt:(List Int)→(Int→Option Bool)→Option Bool) (Qdm:Int→Qb→Option Bool) (Qbq:Qb→Int→(List Int)→Option (Int×Int)) (a1:Qb) (xfrom2:Int) (word3:(List Int)):Option (Int×Int×Int) :=
  ((Qcc a1 xfrom2).bind fun x5=>(if (x5 != 0) then some (0,0,x5) else ((Qt word3 (fun a7=>Qdm a7 a1)).bind fun x11=>(if x11 then some (0,0,9) else ((Qbq a1 xfrom2 word3).bind fun (r14,r15)=>some (r14,r15,0))))))
def Qjc (P:Program) (c:Nat) (f:(List Int)→Int→Option Bool):Prop:=∀ l1 n2 r,f l1 n2 = some r→∀ M nb,ACalls P c [(l_ l1),(i_ n2)] M nb (b_ r) M nb
def Q2p:List COp:=[oo 4 .mov [.c (.d (.bool false))]]
def Q2q:List COp:=[oo 5 .mov [cI 0]]
def Q2r:List COp:=[oM 6 5,oM 7 0,oo 8 .len [.t 7],oo 9 (.bin .lss false) [.t 6,.t 8]]
def Q2s:List COp:=[oM 12 0,oM 13 5,oo 14 (.idx 1) [.t 12,.t 13],oL 15 14,oM 16 1,oo 17 (.bin .eql false) [.t 15,.t 16]]
def Q2t:List COp:=[oo 4 .mov [.c (.d (.bool true))]]
def Q2u:List COp:=[oM 10 5,oo 11 (.bin .add false) [.t 10,cI 1],oM 5 11]
def Q2v:List COp:=[oo 4 .mov [.c (.d (.bool false))]]
def Qjd:CFn:=⟨2,18,[.t 4],.seq (.region Q2p 9 []) (.seq (.seq (.region Q2q 9 []) (.block 0 (.loop [] (.seq (.seq (.region Q2r 9 []) (.cond (.t 9) (.skip) (.exit 0))) (.seq (.block 1 (.seq (.region Q2s 9 []) (.cond (.t 17) (.seq (.region Q2t 9 []) (.ret)) (.skip)))) (.region Q2u 9 [])))))) (.seq (.region Q2v 9 []) (.ret)))⟩
def Qc4 (fuel:Nat) (l1:(List Int)) (n2:Int):Option Bool :=
  Qcl (fun k4 (i3:Int)=>(if (i3 < (l1.length:Int)) then ((getO l1 i3).bind fun x6=>(if (x6 == n2) then some true else k4 (IntKind.wrap .i64 (i3 + 1)))) else some false)) fuel 0
def Qje (P:Program) (c:Nat) (f:Qb→(List Int)→Option (Bool×Int)):Prop:=∀ a1 word2 r,f a1 word2 = some r→∀ M nb,ACalls P c [(Qa a1),(l_ word2)] M nb (.tup [(b_ r.1),(i_ r.2)]) M nb
def Q2w:List COp:=[oo 2 (.box 4) [.t 0],oo 4 .mov [.c (.d (.bool false))],oo 5 .mov [cI 0]]
def Q2x:List COp:=[oo 9 (.load true 4) [.t 2],oo 10 (.call 46) [.t 9],oM 6 10]
def Q2y:List COp:=[oM 11 6,oo 12 (.bin .neq false) [.t 11,cI 0]]
def Q2z:List COp:=[oM 13 6,oo 4 .mov [.c (.d (.bool false))],oM 5 13]
def Q20:List COp:=[oo 15 (.load true 4) [.t 2],oM 16 1,oo 17 (.call 61) [.t 15,.t 16],oM 14 17,oo 18 (.extract 0) [.t 14],oo 19 (.extract 1) [.t 14],oM 7 18,oM 8 19]
def Q21:List COp:=[oM 20 8,oM 21 20,⟨some 22,.fld 2,[.t 2],false,some (21,true)⟩,⟨some 23,.load false 1,[.t 22],false,some (21,true)⟩,⟨some 24,.mov,[.t 7],false,some (21,true)⟩,⟨some 25,.call 56,[.t 23,.t 24],false,some (21,true)⟩,oo 26 .pick [.t 21,.t 25,.c (.d (.bool false))],oM 4 26,oo 5 .mov [cI 0]]
def Qjf:CFn:=⟨2,27,[.t 4,.t 5],.seq (.region Q2w 9 []) (.seq (.seq (.region Q2x 9 []) (.seq (.region Q2y 9 []) (.cond (.t 12) (.seq (.region Q2z 9 []) (.ret)) (.skip)))) (.seq (.region Q20 9 []) (.seq (.region Q21 9 []) (.ret))))⟩
def Qck (Qs:Qb→Option Int) (Qg:(List Int)→Int→Option Bool) (Qbn:Qb→(List Int)→Option (Int×Bool)) (a1:Qb) (word2:(List Int)):Option (Bool×Int) :=
  ((Qs a1).bind fun x4=>(if (x4 != 0) then some (false,x4) else ((Qbn a1 word2).bind fun (r7,r8)=>(if r8 then ((Qg a1.Marked r7).bind fun x11=>some (x11,0)) else some (false,0)))))
def Qgf (P:Program) (c:Nat) (f:(Int×Int)→Qz→Option Bool):Prop:=∀ s1 g2 r,f s1 g2 = some r→∀ M nb,ACalls P c [.agg [.d (.int .u8 s1.1),.d (.int .u8 s1.2)],.agg [.d (.int .u8 g2.States),.d (.int .u8 g2.Marks),.d (.int .u8 g2.To.1.1),.d (.int .u8 g2.To.1.2.1),.d (.int .u8 g2.To.1.2.2.1),.d (.int .u8 g2.To.1.2.2.2.1),.d (.int .u8 g2.To.1.2.2.2.2),.d (.int .u8 g2.To.2.1.1),.d (.int .u8 g2.To.2.1.2.1),.d (.int .u8 g2.To.2.1.2.2.1),.d (.int .u8 g2.To.2.1.2.2.2.1),.d (.int .u8 g2.To.2.1.2.2.2.2),.d (.int .u8 g2.To.2.2.1.1),.d (.int .u8 g2.To.2.2.1.2.1),.d (.int .u8 g2.To.2.2.1.2.2.1),.d (.int .u8 g2.To.2.2.1.2.2.2.1),.d (.int .u8 g2.To.2.2.1.2.2.2.2),.d (.int .u8 g2.To.2.2.2.1.1),.d (.int .u8 g2.To.2.2.2.1.2.1),.d (.int .u8 g2.To.2.2.2.1.2.2.1),.d (.int .u8 g2.To.2.2.2.1.2.2.2.1),.d (.int .u8 g2.To.2.2.2.1.2.2.2.2),.d (.int .u8 g2.To.2.2.2.2.1),.d (.int .u8 g2.To.2.2.2.2.2.1),.d (.int .u8 g2.To.2.2.2.2.2.2.1),.d (.int .u8 g2.To.2.2.2.2.2.2.2.1),.d (.int .u8 g2.To.2.2.2.2.2.2.2.2)]] M nb (b_ r) M nb
def Qk2:List COp:=[oo 2 (.box 2) [.t 0],oo 3 (.box 27) [.t 1],oo 4 .mov [.c (.d (.bool false))]]
def Qk3:List COp:=[oo 24 (.call 8) [],oo 25 (.un .not) [.t 24]]
def Qk4:List COp:=[oo 4 .mov [.c (.d (.bool false))]]
def Qk5:List COp:=[oo 26 (.idxarr 1 2) [.t 2,cI 0],oL 27 26,oo 28 (.call 11) [.t 27],oo 29 (.load true 27) [.t 3],oo 30 (.call 10) [.t 28,.t 29],oo 31 (.idxarr 1 2) [.t 2,cI 1],oL 32 31,oo 33 (.call 11) [.t 32],oo 5 (.alloc [.nils 1,.d (.int .i64 0),.nils 1,.nils 3]) [],⟨none,.store 4,[.t 5,.t 30],true,none⟩,ot 6 .mov [.t 33]]
def Qk6:List COp:=[oo 35 (.load true 4) [.t 5],oM 36 6,oo 37 (.call 12) [.t 35,.t 36],oM 34 37,oo 38 (.extract 0) [.t 34],ot 39 (.extract 1) [.t 34],oo 40 (.extract 2) [.t 34],oo 7 (.alloc [.nils 1,.d (.int .i64 0),.nils 1,.nils 3]) [],⟨none,.store 4,[.t 7,.t 38],true,none⟩,ot 8 .mov [.t 39],oM 9 40]
def Qk7:List COp:=[oo 42 (.load true 4) [.t 5],oo 43 (.call 27) [.t 42,cI 3,.c (.d (.bool false))],oM 41 43,ot 44 (.extract 0) [.t 41],oo 45 (.extract 1) [.t 41],ot 10 .mov [.t 44],oM 11 45]
def Qk8:List COp:=[oM 46 9,oo 47 (.bin .neq false) [.t 46,cI 0],oM 48 47,⟨some 49,.mov,[.t 11],false,some (48,false)⟩,⟨some 50,.bin .neq false,[.t 49,cI 0],false,some (48,false)⟩,oo 51 .pick [.t 48,.c (.d (.bool true)),.t 50],oM 52 51,⟨some 53,.mov,[.t 8],false,some (52,false)⟩,⟨some 54,.len,[.t 53],false,some (52,false)⟩,⟨some 55,.fld 1,[.t 7],false,some (52,false)⟩,⟨some 56,.load false 1,[.t 55],false,some (52,false)⟩,⟨some 57,.bin .neq false,[.t 54,.t 56],false,some (52,false)⟩,oo 58 .pick [.t 52,.c (.d (.bool true)),.t 57]]
def Qk9:List COp:=[oo 4 .mov [.c (.d (.bool false))]]
def Qla:List COp:=[oo 12 .mov [cI 0]]
def Qlb:List COp:=[oM 59 12,oM 60 10,oo 61 .len [.t 60],oo 62 (.bin .lss false) [.t 59,.t 61]]
def Qj3:List COp:=[oM 65 6,oM 66 10,oM 67 12,oo 68 (.idx 1) [.t 66,.t 67],oL 69 68,oo 70 (.call 28) [.t 65,.t 69],ot 13 .mov [.t 70]]
def Qj4:List COp:=[oo 72 (.load true 4) [.t 7],oM 73 13,oo 74 (.call 29) [.t 72,cI 0,.t 73],oM 71 74,oo 75 (.extract 0) [.t 71],oo 76 (.extract 1) [.t 71],oo 77 (.extract 2) [.t 71],oM 14 75,oM 15 76,oM 16 77]
def Qj5:List COp:=[oo 79 (.load true 4) [.t 5],oM 80 10,oM 81 12,oo 82 (.idx 1) [.t 80,.t 81],oL 83 82,oo 84 (.call 29) [.t 79,cI 0,.t 83],oM 78 84,oo 85 (.extract 0) [.t 78],oo 86 (.extract 1) [.t 78],oo 87 (.extract 2) [.t 78],oM 17 85,oM 18 86,oM 19 87]
def Qj6:List COp:=[oM 88 16,oo 89 (.bin .neq false) [.t 88,cI 0],oM 90 89,⟨some 91,.mov,[.t 19],false,some (90,false)⟩,⟨some 92,.bin .neq false,[.t 91,cI 0],false,some (90,false)⟩,oo 93 .pick [.t 90,.c (.d (.bool true)),.t 92],oM 94 93,⟨some 95,.mov,[.t 15],false,some (94,false)⟩,⟨some 96,.mov,[.t 13],false,some (94,false)⟩,⟨some 97,.len,[.t 96],false,some (94,false)⟩,⟨some 98,.bin .neq false,[.t 95,.t 97],false,some (94,false)⟩,oo 99 .pick [.t 94,.c (.d (.bool true)),.t 98],oM 100 99,⟨some 101,.mov,[.t 14],false,some (100,false)⟩,⟨some 102,.mov,[.t 8],false,some (100,false)⟩,⟨some 103,.len,[.t 102],false,some (100,false)⟩,⟨some 104,.bin .geq false,[.t 101,.t 103],false,some (100,false)⟩,oo 105 .pick [.t 100,.c (.d (.bool true)),.t 104],oM 106 105,⟨some 107,.mov,[.t 8],false,some (106,false)⟩,⟨some 108,.mov,[.t 14],false,some (106,false)⟩,⟨some 109,.idx 1,[.t 107,.t 108],false,some (106,false)⟩,⟨some 110,.load false 1,[.t 109],false,some (106,false)⟩,⟨some 111,.mov,[.t 17],false,some (106,false)⟩,⟨some 112,.call 22,[.t 110,.t 111],false,some (106,false)⟩,⟨some 113,.un .not,[.t 112],false,some (106,false)⟩,oo 114 .pick [.t 106,.c (.d (.bool true)),.t 113]]
def Qj7:List COp:=[oo 4 .mov [.c (.d (.bool false))]]
def Qj8:List COp:=[oo 116 (.load true 4) [.t 5],oM 117 10,oM 118 12,oo 119 (.idx 1) [.t 117,.t 118],oL 120 119,oo 121 (.call 30) [.t 116,.t 120],oM 115 121,oo 122 (.extract 0) [.t 115],oo 123 (.extract 1) [.t 115],oM 20 122,oM 21 123]
def Qj9:List COp:=[oo 125 (.load true 4) [.t 7],oM 126 13,oo 127 (.call 30) [.t 125,.t 126],oM 124 127,oo 128 (.extract 0) [.t 124],oo 129 (.extract 1) [.t 124],oM 22 128,oM 23 129]
def Qka:List COp:=[oM 130 20,oM 131 130,⟨some 132,.mov,[.t 22],false,some (131,true)⟩,⟨some 133,.un .not,[.t 132],false,some (131,true)⟩,oo 134 .pick [.t 131,.t 133,.c (.d (.bool false))]]
def Qkb:List COp:=[oo 4 .mov [.c (.d (.bool false))]]
def Qkc:List COp:=[oM 63 12,oo 64 (.bin .add false) [.t 63,cI 1],oM 12 64]
def Qkd:List COp:=[oo 4 .mov [.c (.d (.bool true))]]
def Qd6:CFn:=⟨2,135,[.t 4],.seq (.region Qk2 9 []) (.seq (.seq (.region Qk3 9 []) (.cond (.t 25) (.seq (.region Qk4 9 []) (.ret)) (.skip))) (.seq (.region Qk5 1 []) (.seq (.region Qk6 9 []) (.seq (.region Qk7 9 []) (.seq (.seq (.region Qk8 9 []) (.cond (.t 58) (.seq (.region Qk9 9 []) (.ret)) (.skip))) (.seq (.seq (.region Qla 9 []) (.block 0 (.loop [] (.seq (.seq (.region Qlb 9 []) (.cond (.t 62) (.skip) (.exit 0))) (.seq (.block 1 (.seq (.region Qj3 9 []) (.seq (.region Qj4 9 []) (.seq (.region Qj5 0 []) (.seq (.seq (.region Qj6 9 []) (.cond (.t 114) (.seq (.region Qj7 9 []) (.ret)) (.skip))) (.seq (.region Qj8 0 []) (.seq (.region Qj9 9 []) (.seq (.region Qka 9 []) (.cond (.t 134) (.seq (.region Qkb 9 []) (.ret)) (.skip)))))))))) (.region Qkc 9 [])))))) (.seq (.region Qkd 9 []) (.ret))))))))⟩
def Qd7 (Qbi:Option Bool) (Qbg:(List Int)→Qz→Option Qb) (Qx:Int→Option ((List Int))) (Qbo:Qb→(List Int)→Option (Qb×(List (List Int))×Int)) (Qc4:(List Int)→Int→Option Bool) (Qbv:Qb→Int→Bool→Option ((List (List Int))×Int)) (Q7:(List Int)→(List Int)→Option ((List Int))) (Qdt:Qb→Int→(List Int)→Option (Int×Int×Int)) (Qck:Qb→(List Int)→Option (Bool×Int)) (fuel:Nat) (s1:(Int×Int)) (g2:Qz):Option Bool :=
  (Qbi.bind fun x4=>(if x4 then ((Qx s1.1).bind fun x7=>((Qbg x7 (Qz.mk g2.States g2.Marks ((g2.To.1.1,g2.To.1.2.1,g2.To.1.2.2.1,g2.To.1.2.2.2.1,g2.To.1.2.2.2.2),(g2.To.2.1.1,g2.To.2.1.2.1,g2.To.2.1.2.2.1,g2.To.2.1.2.2.2.1,g2.To.2.1.2.2.2.2),(g2.To.2.2.1.1,g2.To.2.2.1.2.1,g2.To.2.2.1.2.2.1,g2.To.2.2.1.2.2.2.1,g2.To.2.2.1.2.2.2.2),(g2.To.2.2.2.1.1,g2.To.2.2.2.1.2.1,g2.To.2.2.2.1.2.2.1,g2.To.2.2.2.1.2.2.2.1,g2.To.2.2.2.1.2.2.2.2),(g2.To.2.2.2.2.1,g2.To.2.2.2.2.2.1,g2.To.2.2.2.2.2.2.1,g2.To.2.2.2.2.2.2.2.1,g2.To.2.2.2.2.2.2.2.2)))).bind fun x9=>((Qx s1.2).bind fun x11=>((Qbo x9 x11).bind fun (r13,r14,r15)=>((Qbv x9 3 false).bind fun (r17,r18)=>(((if (r15 != 0) then some true else (if (r18 != 0) then some true else some ((r14.length:Int) != r13.States)))).bind fun (x21:Bool)=>(if x21 then some false else Qcl (fun k24 (i23:Int)=>(if (i23 < (r17.length:Int)) then ((getO r17 i23).bind fun x26=>((Q7 x11 x26).bind fun x29=>((Qdt r13 0 x29).bind fun (r31,r32,r33)=>((getO r17 i23).bind fun x34=>((Qdt x9 0 x34).bind fun (r37,r38,r39)=>(((if (r33 != 0) then some true else (if (r39 != 0) then some true else (if (r32 != (x29.length:Int)) then some true else (if (r31≥(r14.length:Int)) then some true else ((getO r14 r31).bind fun x44=>((Qc4 x44 r37).bind fun x47=>some (!x47)))))))).bind fun (x48:Bool)=>(if x48 then some false else ((getO r17 i23).bind fun x50=>((Qck x9 x50).bind fun (r53,r54)=>((Qck r13 x29).bind fun (r56,r57)=>(((if r53 then some (!r56) else some false)).bind fun (x59:Bool)=>(if x59 then some false else k24 (IntKind.wrap .i64 (i23 + 1)))))))))))))) else some true)) fuel 0))))))) else some false))
def Qm3 (P:Program) (c:Nat) (f:Qb→(List Int)→(List Int)→Option ((List Int)×Int)):Prop:=∀ a1 onto2 observation3 r,f a1 onto2 observation3 = some r→∀ M nb,ACalls P c [(Qa a1),(l_ onto2),(l_ observation3)] M nb (.tup [(l_ r.1),(i_ r.2)]) M nb
def Qx1:List COp:=[oo 3 (.box 4) [.t 0],ot 6 .mov [.c (.nils 1)],oo 7 .mov [cI 0]]
def Qx2:List COp:=[oo 13 (.load true 4) [.t 3],oM 14 1,oo 15 (.call 38) [.t 13,.t 14],oM 8 15]
def Qx3:List COp:=[oM 16 8,oo 17 (.bin .neq false) [.t 16,cI 0]]
def Qx4:List COp:=[oM 18 8,ot 6 .mov [.c (.nils 1)],oM 7 18]
def Qx5:List COp:=[oo 19 (.load true 4) [.t 3],oM 20 1,oo 21 (.call 39) [.t 19,.t 20],oo 9 (.alloc [.nils 1,.nils 1,.nils 1,.nils 1]) [],⟨none,.store 4,[.t 9,.t 21],true,none⟩]
def Qx6:List COp:=[oo 22 (.load true 4) [.t 9],oM 23 2,oo 24 (.call 52) [.t 22,.t 23],oo 25 (.un .not) [.t 24]]
def Qx7:List COp:=[ot 6 .mov [.c (.nils 1)],oo 7 .mov [cI 9]]
def Qx8:List COp:=[oo 26 (.load true 4) [.t 9],oo 27 (.call 40) [.t 26],ot 10 .mov [.t 27]]
def Qx9:List COp:=[oM 28 2,oo 29 .len [.t 28],oo 30 .mov [cI 0]]
def Qya:List COp:=[oo 31 (.bin .lss false) [.t 30,.t 29]]
def Qua:List COp:=[oo 32 (.idx 1) [.t 28,.t 30],oL 33 32,oM 12 33]
def Qub:List COp:=[oo 34 (.load true 4) [.t 9],oM 35 10,oM 36 12,oo 37 (.call 43) [.t 34,.t 35,.t 36],ot 10 .mov [.t 37]]
def Quc:List COp:=[oo 38 (.bin .add false) [.t 30,cI 1],oM 30 38]
def Qud:List COp:=[ot 39 .mov [.t 10],ot 6 .mov [.t 39],oo 7 .mov [cI 0]]
def Qh1:CFn:=⟨3,40,[.t 6,.t 7],.seq (.region Qx1 9 []) (.seq (.seq (.region Qx2 9 []) (.seq (.region Qx3 9 []) (.cond (.t 17) (.seq (.region Qx4 9 []) (.ret)) (.skip)))) (.seq (.region Qx5 9 []) (.seq (.seq (.region Qx6 9 []) (.cond (.t 25) (.seq (.region Qx7 9 []) (.ret)) (.skip))) (.seq (.region Qx8 9 []) (.seq (.seq (.region Qx9 9 []) (.block 0 (.loop [] (.seq (.region Qya 9 []) (.seq (.cond (.t 31) (.skip) (.exit 0)) (.seq (.block 1 (.seq (.region Qua 9 []) (.region Qub 9 []))) (.region Quc 9 []))))))) (.seq (.region Qud 9 []) (.ret)))))))⟩
def Qh2 (Qw:Qb→(List Int)→Option Int) (Q1:Qb→(List Int)→Option Qi) (Q3:Qi→Option ((List Int))) (Q4:Qi→(List Int)→Int→Option ((List Int))) (Qy:Qi→(List Int)→Option Bool) (fuel:Nat) (a1:Qb) (onto2:(List Int)) (observation3:(List Int)):Option ((List Int)×Int) :=
  ((Qw a1 onto2).bind fun x5=>(if (x5 != 0) then some ([],x5) else ((Q1 a1 onto2).bind fun x8=>((Qy x8 observation3).bind fun x10=>(if x10 then ((Q3 x8).bind fun x13=>((Qcl (fun k16 ((l14,x15):(List Int)×Int)=>(if (x15 < (observation3.length:Int)) then ((getO observation3 x15).bind fun x18=>((Q4 x8 l14 x18).bind fun x21=>k16 (x21,(IntKind.wrap .i64 (x15 + 1))))) else some l14)) fuel (x13,0)).bind fun (l22:List Int)=>some (l22,0))) else some ([],9))))))
end Go.Abs
