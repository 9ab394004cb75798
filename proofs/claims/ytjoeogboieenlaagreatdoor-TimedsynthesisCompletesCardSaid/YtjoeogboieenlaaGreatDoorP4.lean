/-
  Part 4 of the proof: see the last text.
-/
import Derived.Test.YtjoeogboieenlaaGreatDoorP3
set_option linter.unusedVariables false
set_option linter.unusedSimpArgs false
set_option linter.unusedSectionVars false
section
namespace Go.Abs
open Go
set_option maxRecDepth 10000
set_option maxHeartbeats 4000000
def Qjo (P:Program) (c:Nat) (f:(List Int)→Option Qh):Prop:=∀ forcible1 r,f forcible1=some r→∀ M nb,ACalls P c [(l_ forcible1)] M nb (.agg [(l_ r.zA.zJ),(i_ r.zA.zM),(l_ r.zA.zK),(Qe r.zA.zL),(l_ r.zC),.nils 1,(l_ r.zD),(i_ r.Tick)]) M nb
def Q05:List COp:=[oo 2 (.alloc [.nils 1,.d (.int .i64 0),.nils 1,.nils 3,.nils 1,.nils 1,.nils 1,.d (.int .i64 0)]) []]
def Q06:List COp:=[oo 3 (.bslice 1 2 [.d (.int .i64 0)] [0,1]) [cI 0,cI 2],oo 4 (.bslice 1 1 [.d (.int .i64 0)] [0]) [cI 0],oo 5 (.build [.d (.int .i64 0),.d (.int .i64 0),.d (.int .i64 0)] [(0,1),(1,1),(2,1)]) [cI 0,cI 0,cI 0],oo 6 (.build [.d (.int .i64 0),.d (.int .i64 0),.d (.int .i64 0)] [(0,1),(1,1),(2,1)]) [cI 0,cI 2,cI 1],oo 7 (.bslice 3 2 [.d (.int .i64 0),.d (.int .i64 0),.d (.int .i64 0)] [0,1]) [.t 5,.t 6],ot 8 (.build [.nils 1,.d (.int .i64 0),.nils 1,.nils 3] [(0,1),(1,1),(2,1),(3,1)]) [.t 3,cI 2,.t 4,.t 7],oo 9 (.bslice 1 1 [.d (.int .i64 0)] [0]) [cI 1],oM 10 0,ot 11 (.build [.nils 1,.d (.int .i64 0),.nils 1,.nils 3,.nils 1,.nils 1,.nils 1,.d (.int .i64 0)] [(0,4),(4,1),(6,1),(7,1)]) [.t 8,.t 9,.t 10,cI 2],⟨none,.store 8,[.t 2,.t 11],true,none⟩]
def Qjp:CFn:=⟨1,12,[.cell 2 true 8],.seq (.region Q05 9 []) (.seq (.region Q06 9 []) (.ret))⟩
def Qco (forcible1:(List Int)):Option Qh :=
  some (Qh.mk (Qa.mk [0,2] 2 [0] [(Qc.mk 0 0 0),(Qc.mk 0 2 1)]) [1] [] forcible1 2)
def Qkc (P:Program) (c:Nat) (f:(List Int)→Int→Option Int):Prop:=∀ l1 n2 r,f l1 n2=some r→∀ M nb,ACalls P c [(l_ l1),(i_ n2)] M nb (i_ r) M nb
def Q20:List COp:=[oo 4 .mov [cI 0]]
def Q21:List COp:=[oM 7 0,oo 8 .len [.t 7],oo 9 .mov [cI 0]]
def Q22:List COp:=[oo 10 (.bin .lss false) [.t 9,.t 8]]
def Q23:List COp:=[oM 11 9,oo 12 (.idx 1) [.t 7,.t 9],oL 13 12,oM 5 11,oM 6 13]
def Q24:List COp:=[oM 15 6,oo 16 (.bin .lss false) [.t 15,cI 0],oM 17 16,⟨some 18,.mov,[.t 6],false,some (17,false)⟩,⟨some 19,.mov,[.t 1],false,some (17,false)⟩,⟨some 20,.bin .geq false,[.t 18,.t 19],false,some (17,false)⟩,oo 21 .pick [.t 17,.c (.d (.bool true)),.t 20],oM 14 21]
def Q25:List COp:=[oo 4 .mov [cI 2]]
def Q26:List COp:=[oM 23 5,oo 24 (.bin .gtr false) [.t 23,cI 0],oM 25 24,⟨some 26,.mov,[.t 6],false,some (25,true)⟩,⟨some 27,.mov,[.t 0],false,some (25,true)⟩,⟨some 28,.mov,[.t 5],false,some (25,true)⟩,⟨some 29,.bin .sub false,[.t 28,cI 1],false,some (25,true)⟩,⟨some 30,.idx 1,[.t 27,.t 29],false,some (25,true)⟩,⟨some 31,.load false 1,[.t 30],false,some (25,true)⟩,⟨some 32,.bin .leq false,[.t 26,.t 31],false,some (25,true)⟩,oo 33 .pick [.t 25,.t 32,.c (.d (.bool false))],oM 22 33]
def Q27:List COp:=[oo 4 .mov [cI 5]]
def Q28:List COp:=[oo 34 (.bin .add false) [.t 9,cI 1],oM 9 34]
def Q29:List COp:=[oo 4 .mov [cI 0]]
def Qkd:CFn:=⟨2,35,[.t 4],.seq (.region Q20 9 []) (.seq (.seq (.region Q21 9 []) (.block 0 (.loop [] (.seq (.region Q22 9 []) (.seq (.cond (.t 10) (.skip) (.exit 0)) (.seq (.block 1 (.seq (.region Q23 9 []) (.block 2 (.seq (.region Q24 9 []) (.cond (.t 14) (.seq (.region Q25 9 []) (.ret)) (.seq (.region Q26 9 []) (.cond (.t 22) (.seq (.region Q27 9 []) (.ret)) (.skip)))))))) (.region Q28 9 []))))))) (.seq (.region Q29 9 []) (.ret)))⟩
def Qck (fuel:Nat) (l1:(List Int)) (n2:Int):Option Int :=
  Qcv (fun k4 (x3:Int)=>(if (x3 < (l1.length:Int)) then ((getO l1 x3).bind fun x6=>(((if (x6 < 0) then some true else some (decide (x6≥n2)))).bind fun (x9:Bool)=>(if x9 then some 2 else (((if (x3 > 0) then ((getO l1 (IntKind.wrap .i64 (x3 - 1))).bind fun x12=>some (decide (x6≤x12))) else some false)).bind fun (x14:Bool)=>(if x14 then some 5 else k4 (IntKind.wrap .i64 (x3+1))))))) else some 0)) fuel 0
def Qmj (P:Program) (c:Nat) (f:(List Int)→Int→Option Int):Prop:=∀ s1 v2 r,f s1 v2=some r→∀ M nb,ACalls P c [(l_ s1),(i_ v2)] M nb (i_ r) M nb
def Q60:List COp:=[oo 4 .mov [cI 0]]
def Q61:List COp:=[oM 6 0,oo 7 .len [.t 6],oo 8 .mov [cI 0]]
def Q62:List COp:=[oo 9 (.bin .lss false) [.t 8,.t 7]]
def Q63:List COp:=[oM 10 8,oM 5 10]
def Q64:List COp:=[oM 11 1,oM 12 0,oM 13 5,oo 14 (.idx 1) [.t 12,.t 13],oL 15 14,oo 16 (.bin .eql false) [.t 11,.t 15]]
def Q65:List COp:=[oM 17 5,oM 4 17]
def Q66:List COp:=[oo 18 (.bin .add false) [.t 8,cI 1],oM 8 18]
def Q67:List COp:=[oo 4 .mov [cI (-1)]]
def Qmk:CFn:=⟨2,19,[.t 4],.seq (.region Q60 9 []) (.seq (.seq (.region Q61 9 []) (.block 0 (.loop [] (.seq (.region Q62 9 []) (.seq (.cond (.t 9) (.skip) (.exit 0)) (.seq (.block 1 (.seq (.region Q63 9 []) (.seq (.region Q64 9 []) (.cond (.t 16) (.seq (.region Q65 9 []) (.ret)) (.skip))))) (.region Q66 9 []))))))) (.seq (.region Q67 9 []) (.ret)))⟩
def Qdc (fuel:Nat) (s1:(List Int)) (v2:Int):Option Int :=
  Qcv (fun k4 (x3:Int)=>(if (x3 < (s1.length:Int)) then ((getO s1 x3).bind fun x6=>(if (v2 == x6) then some x3 else k4 (IntKind.wrap .i64 (x3+1)))) else some (-1))) fuel 0
def Qgd (P:Program) (c:Nat) (f:(List Int)→Int→Option Bool):Prop:=∀ s1 v2 r,f s1 v2=some r→∀ M nb,ACalls P c [(l_ s1),(i_ v2)] M nb (b_ r) M nb
def Q07:List COp:=[oo 4 .mov [.c (.d (.bool false))]]
def Q08:List COp:=[oM 5 0,oM 6 1,oo 7 (.call 66) [.t 5,.t 6],oo 8 (.bin .geq false) [.t 7,cI 0],oM 4 8]
def Qjq:CFn:=⟨2,9,[.t 4],.seq (.region Q07 9 []) (.seq (.region Q08 9 []) (.ret))⟩
def Q8 (Qdc:(List Int)→Int→Option Int) (s1:(List Int)) (v2:Int):Option Bool :=
  ((Qdc s1 v2).bind fun x4=>some (decide (x4≥0)))
def Qip (P:Program) (c:Nat) (f:Qa→Option Int):Prop:=∀ a1 r,f a1=some r→∀ M nb,ACalls P c [(Qb a1)] M nb (i_ r) M nb
def Qxy:List COp:=[oo 1 (.box 4) [.t 0],oo 2 .mov [cI 0]]
def Qxz:List COp:=[oF 6 3 1,oL 7 6,oo 8 .len [.t 7],oo 9 .mov [cI 0]]
def Qx0:List COp:=[oo 10 (.bin .lss false) [.t 9,.t 8]]
def Qx1:List COp:=[oM 11 9,oo 12 (.idx 3) [.t 7,.t 9],oo 13 (.load true 3) [.t 12],oo 4 (.alloc [.d (.int .i64 0),.d (.int .i64 0),.d (.int .i64 0)]) [],oM 3 11,⟨none,.store 3,[.t 4,.t 13],false,none⟩]
def Qx2:List COp:=[oF 15 0 4,oL 16 15,oo 17 (.bin .lss false) [.t 16,cI 0],oM 18 17,⟨some 19,.fld 0,[.t 4],false,some (18,false)⟩,⟨some 20,.load false 1,[.t 19],false,some (18,false)⟩,⟨some 21,.fld 1,[.t 1],false,some (18,false)⟩,⟨some 22,.load false 1,[.t 21],false,some (18,false)⟩,⟨some 23,.bin .geq false,[.t 20,.t 22],false,some (18,false)⟩,oo 24 .pick [.t 18,.c (.d (.bool true)),.t 23],oM 25 24,⟨some 26,.fld 2,[.t 4],false,some (25,false)⟩,⟨some 27,.load false 1,[.t 26],false,some (25,false)⟩,⟨some 28,.bin .lss false,[.t 27,cI 0],false,some (25,false)⟩,oo 29 .pick [.t 25,.c (.d (.bool true)),.t 28],oM 30 29,⟨some 31,.fld 2,[.t 4],false,some (30,false)⟩,⟨some 32,.load false 1,[.t 31],false,some (30,false)⟩,⟨some 33,.fld 1,[.t 1],false,some (30,false)⟩,⟨some 34,.load false 1,[.t 33],false,some (30,false)⟩,⟨some 35,.bin .geq false,[.t 32,.t 34],false,some (30,false)⟩,oo 36 .pick [.t 30,.c (.d (.bool true)),.t 35],oM 14 36]
def Qx3:List COp:=[oo 2 .mov [cI 2]]
def Qx4:List COp:=[oF 38 0 1,oL 39 38,oF 40 1 4,oL 41 40,oo 42 (.call 38) [.t 39,.t 41],oo 43 (.un .not) [.t 42],oM 37 43]
def Qx5:List COp:=[oo 2 .mov [cI 9]]
def Qx6:List COp:=[oM 44 3,oo 45 (.bin .eql false) [.t 44,cI 0]]
def Qx7:List COp:=[oF 46 3 1,oL 47 46,oM 48 3,oo 49 (.bin .sub false) [.t 48,cI 1],oo 50 (.idx 3) [.t 47,.t 49],oo 51 (.load true 3) [.t 50],oo 5 (.alloc [.d (.int .i64 0),.d (.int .i64 0),.d (.int .i64 0)]) [],⟨none,.store 3,[.t 5,.t 51],false,none⟩]
def Qv4:List COp:=[oF 52 0 4,oL 53 52,oF 54 0 5,oL 55 54,oo 56 (.bin .lss false) [.t 53,.t 55],oM 57 56,⟨some 58,.fld 0,[.t 4],false,some (57,false)⟩,⟨some 59,.load false 1,[.t 58],false,some (57,false)⟩,⟨some 60,.fld 0,[.t 5],false,some (57,false)⟩,⟨some 61,.load false 1,[.t 60],false,some (57,false)⟩,⟨some 62,.bin .eql false,[.t 59,.t 61],false,some (57,false)⟩,⟨some 63,.mov,[.t 62],false,some (57,false)⟩,⟨some 64,.fld 1,[.t 4],false,some (63,true)⟩,⟨some 65,.load false 1,[.t 64],false,some (63,true)⟩,⟨some 66,.fld 1,[.t 5],false,some (63,true)⟩,⟨some 67,.load false 1,[.t 66],false,some (63,true)⟩,⟨some 68,.bin .leq false,[.t 65,.t 67],false,some (63,true)⟩,⟨some 69,.pick,[.t 63,.t 68,.c (.d (.bool false))],false,some (57,false)⟩,oo 70 .pick [.t 57,.c (.d (.bool true)),.t 69]]
def Qv5:List COp:=[oo 2 .mov [cI 5]]
def Qv6:List COp:=[oo 71 (.bin .add false) [.t 9,cI 1],oM 9 71]
def Qv7:List COp:=[oo 2 .mov [cI 0]]
def Qiq:CFn:=⟨1,72,[.t 2],.seq (.region Qxy 9 []) (.seq (.seq (.region Qxz 9 []) (.block 0 (.loop [4,5] (.seq (.region Qx0 9 []) (.seq (.cond (.t 10) (.skip) (.exit 0)) (.seq (.block 1 (.seq (.region Qx1 9 []) (.seq (.block 2 (.seq (.region Qx2 9 []) (.cond (.t 14) (.seq (.region Qx3 9 []) (.ret)) (.seq (.region Qx4 9 []) (.cond (.t 37) (.seq (.region Qx5 9 []) (.ret)) (.skip)))))) (.seq (.seq (.region Qx6 9 []) (.cond (.t 45) (.exit 1) (.skip))) (.seq (.region Qx7 9 []) (.seq (.region Qv4 9 []) (.cond (.t 70) (.seq (.region Qv5 9 []) (.ret)) (.skip)))))))) (.region Qv6 9 []))))))) (.seq (.region Qv7 9 []) (.ret)))⟩
def Qch (Q8:(List Int)→Int→Option Bool) (fuel:Nat) (a1:Qa):Option Int :=
  Qcv (fun k3 (x2:Int)=>(if (x2 < (a1.zL.length:Int)) then letJ (fun ((c22,c23,c24):Int×Int×Int)=>k3 (IntKind.wrap .i64 (x2+1))) fun J25=>((getO a1.zL x2).bind fun x5=>(((if (x5.From < 0) then some true else (if (x5.From≥a1.zM) then some true else (if (x5.To < 0) then some true else some (decide (x5.To≥a1.zM)))))).bind fun (x10:Bool)=>(if x10 then some 2 else ((Q8 a1.zJ x5.Event).bind fun x13=>(if x13 then (if (x2 == 0) then J25 (x5.From,x5.Event,x5.To) else ((getO a1.zL (IntKind.wrap .i64 (x2 - 1))).bind fun x16=>(((if (x5.From < x16.From) then some true else (if (x5.From == x16.From) then some (decide (x5.Event≤x16.Event)) else some false))).bind fun (x20:Bool)=>(if x20 then some 5 else J25 (x5.From,x5.Event,x5.To))))) else some 9))))) else some 0)) fuel 0
def Qha (P:Program) (c:Nat) (f:Qa→Option Int):Prop:=∀ a1 r,f a1=some r→∀ M nb,ACalls P c [(Qb a1)] M nb (i_ r) M nb
def Q8o:List COp:=[oo 1 (.box 4) [.t 0],oo 2 .mov [cI 0]]
def Q8p:List COp:=[oF 5 0 1,oL 6 5,oo 7 (.call 80) [.t 6,cI 32],oM 3 7]
def Q8q:List COp:=[oM 8 3,oo 9 (.bin .neq false) [.t 8,cI 0]]
def Q8r:List COp:=[oM 10 3,oM 2 10]
def Q8s:List COp:=[oF 12 1 1,oL 13 12,oo 14 (.bin .lss false) [.t 13,cI 0],oM 11 14]
def Q8t:List COp:=[oo 2 .mov [cI 2]]
def Q8u:List COp:=[oF 16 1 1,oL 17 16,oo 18 (.bin .gtr false) [.t 17,cI 4096],oM 15 18]
def Q8v:List COp:=[oo 2 .mov [cI 3]]
def Q8w:List COp:=[oF 19 2 1,oL 20 19,oF 21 1 1,oL 22 21,oo 23 (.call 80) [.t 20,.t 22],oM 4 23]
def Q8x:List COp:=[oM 24 4,oo 25 (.bin .neq false) [.t 24,cI 0]]
def Q68:List COp:=[oM 26 4,oM 2 26]
def Q69:List COp:=[oo 27 (.load true 4) [.t 1],oo 28 (.call 81) [.t 27],oM 2 28]
def Qnw:CFn:=⟨1,29,[.t 2],.seq (.region Q8o 9 []) (.seq (.seq (.region Q8p 9 []) (.seq (.region Q8q 9 []) (.cond (.t 9) (.seq (.region Q8r 9 []) (.ret)) (.skip)))) (.seq (.block 0 (.seq (.region Q8s 9 []) (.cond (.t 11) (.seq (.region Q8t 9 []) (.ret)) (.seq (.region Q8u 9 []) (.cond (.t 15) (.seq (.region Q8v 9 []) (.ret)) (.skip)))))) (.seq (.seq (.region Q8w 9 []) (.seq (.region Q8x 9 []) (.cond (.t 25) (.seq (.region Q68 9 []) (.ret)) (.skip)))) (.seq (.region Q69 9 []) (.ret)))))⟩
def Q5 (Qck:(List Int)→Int→Option Int) (Qch:Qa→Option Int) (a1:Qa):Option Int :=
  ((Qck a1.zJ 32).bind fun x3=>(if (x3 != 0) then some x3 else (if (a1.zM < 0) then some 2 else (if (a1.zM > 4096) then some 3 else ((Qck a1.zK a1.zM).bind fun x8=>(if (x8 != 0) then some x8 else ((Qch a1).bind fun x11=>some x11)))))))
def Qfr (P:Program) (c:Nat) (f:(List Int)→Int→Option Int):Prop:=∀ xset1 n2 r,f xset1 n2=some r→∀ M nb,ACalls P c [(l_ xset1),(i_ n2)] M nb (i_ r) M nb
def Q4x:List COp:=[oo 4 .mov [cI 0]]
def Q4y:List COp:=[oM 7 0,oo 8 .len [.t 7],oo 9 .mov [cI 0]]
def Q4z:List COp:=[oo 10 (.bin .lss false) [.t 9,.t 8]]
def Q40:List COp:=[oM 11 9,oo 12 (.idx 1) [.t 7,.t 9],oL 13 12,oM 5 11,oM 6 13]
def Q41:List COp:=[oM 14 6,oo 15 (.bin .lss false) [.t 14,cI 0],oM 16 15,⟨some 17,.mov,[.t 6],false,some (16,false)⟩,⟨some 18,.mov,[.t 1],false,some (16,false)⟩,⟨some 19,.bin .geq false,[.t 17,.t 18],false,some (16,false)⟩,oo 20 .pick [.t 16,.c (.d (.bool true)),.t 19]]
def Q42:List COp:=[oo 4 .mov [cI 2]]
def Q43:List COp:=[oM 21 5,oo 22 (.bin .gtr false) [.t 21,cI 0],oM 23 22,⟨some 24,.mov,[.t 6],false,some (23,true)⟩,⟨some 25,.mov,[.t 0],false,some (23,true)⟩,⟨some 26,.mov,[.t 5],false,some (23,true)⟩,⟨some 27,.bin .sub false,[.t 26,cI 1],false,some (23,true)⟩,⟨some 28,.idx 1,[.t 25,.t 27],false,some (23,true)⟩,⟨some 29,.load false 1,[.t 28],false,some (23,true)⟩,⟨some 30,.bin .leq false,[.t 24,.t 29],false,some (23,true)⟩,oo 31 .pick [.t 23,.t 30,.c (.d (.bool false))]]
def Q44:List COp:=[oo 4 .mov [cI 5]]
def Q45:List COp:=[oo 32 (.bin .add false) [.t 9,cI 1],oM 9 32]
def Q46:List COp:=[oo 4 .mov [cI 0]]
def Qk1:CFn:=⟨2,33,[.t 4],.seq (.region Q4x 9 []) (.seq (.seq (.region Q4y 9 []) (.block 0 (.loop [] (.seq (.region Q4z 9 []) (.seq (.cond (.t 10) (.skip) (.exit 0)) (.seq (.block 1 (.seq (.region Q40 9 []) (.seq (.seq (.region Q41 9 []) (.cond (.t 20) (.seq (.region Q42 9 []) (.ret)) (.skip))) (.seq (.region Q43 9 []) (.cond (.t 31) (.seq (.region Q44 9 []) (.ret)) (.skip)))))) (.region Q45 9 []))))))) (.seq (.region Q46 9 []) (.ret)))⟩
def Qy (fuel:Nat) (xset1:(List Int)) (n2:Int):Option Int :=
  Qcv (fun k4 (x3:Int)=>(if (x3 < (xset1.length:Int)) then ((getO xset1 x3).bind fun x6=>(((if (x6 < 0) then some true else some (decide (x6≥n2)))).bind fun (x9:Bool)=>(if x9 then some 2 else (((if (x3 > 0) then ((getO xset1 (IntKind.wrap .i64 (x3 - 1))).bind fun x12=>some (decide (x6≤x12))) else some false)).bind fun (x14:Bool)=>(if x14 then some 5 else k4 (IntKind.wrap .i64 (x3+1))))))) else some 0)) fuel 0
def Qem (P:Program) (c:Nat) (f:Int→Option Bool):Prop:=∀ n1 r,f n1=some r→∀ M nb,ACalls P c [(i_ n1)] M nb (b_ r) M nb
def Qx8:List COp:=[oo 2 .mov [.c (.d (.bool false))]]
def Qx9:List COp:=[oM 3 0,oo 4 (.bin .geq false) [.t 3,cI 0],oM 5 4,⟨some 6,.mov,[.t 0],false,some (5,true)⟩,⟨some 7,.bin .lss false,[.t 6,cI 32],false,some (5,true)⟩,oo 8 .pick [.t 5,.t 7,.c (.d (.bool false))],oM 2 8]
def Qir:CFn:=⟨1,9,[.t 2],.seq (.region Qx8 9 []) (.seq (.region Qx9 9 []) (.ret))⟩
def Qt (n1:Int):Option Bool :=
  (if (n1≥0) then some (decide (n1 < 32)) else some false)
def Qts (P:Program) (c:Nat) (f:Int→Option Bool):Prop:=∀ x1 r,f x1=some r→∀ M nb,ACalls P c [(i_ x1)] M nb (b_ r) M nb
def Qbca:List COp:=[oo 2 .mov [.c (.d (.bool false))]]
def Qbcb:List COp:=[oM 3 0,oM 4 0,oo 5 (.bin .neq false) [.t 3,.t 4],oM 2 5]
def Qtt:CFn:=⟨1,6,[.t 2],.seq (.region Qbca 9 []) (.seq (.region Qbcb 9 []) (.ret))⟩
def Qdz (x1:Int):Option Bool :=
  some (x1 != x1)
def Qv8 (P:Program) (c:Nat) (f:Int→Int→Option Bool):Prop:=∀ x1 y2 r,f x1 y2=some r→∀ M nb,ACalls P c [(i_ x1),(i_ y2)] M nb (b_ r) M nb
def Qbdp:List COp:=[oo 4 .mov [.c (.d (.bool false))]]
def Qbdq:List COp:=[oM 5 0,oo 6 (.call 98) [.t 5],oM 7 6,⟨some 8,.mov,[.t 1],false,some (7,true)⟩,⟨some 9,.call 98,[.t 8],false,some (7,true)⟩,⟨some 10,.un .not,[.t 9],false,some (7,true)⟩,oo 11 .pick [.t 7,.t 10,.c (.d (.bool false))],oM 12 11,⟨some 13,.mov,[.t 0],false,some (12,false)⟩,⟨some 14,.mov,[.t 1],false,some (12,false)⟩,⟨some 15,.bin .lss false,[.t 13,.t 14],false,some (12,false)⟩,oo 16 .pick [.t 12,.c (.d (.bool true)),.t 15],oM 4 16]
def Qv9:CFn:=⟨2,17,[.t 4],.seq (.region Qbdp 9 []) (.seq (.region Qbdq 9 []) (.ret))⟩
def Qer (Qdz:Int→Option Bool) (x1:Int) (y2:Int):Option Bool :=
  ((Qdz x1).bind fun x4=>(if x4 then ((Qdz y2).bind fun x7=>(if x7 then some (decide (x1 < y2)) else some true)) else some (decide (x1 < y2))))
def Qml (P:Program) (c:Nat) (f:Int→Option Bool):Prop:=∀ x1 r,f x1=some r→∀ M nb,ACalls P c [(i_ x1)] M nb (b_ r) M nb
def Q7a:List COp:=[oo 2 .mov [.c (.d (.bool false))]]
def Q7b:List COp:=[oM 3 0,oM 4 0,oo 5 (.bin .neq false) [.t 3,.t 4],oM 2 5]
def Qmm:CFn:=⟨1,6,[.t 2],.seq (.region Q7a 9 []) (.seq (.region Q7b 9 []) (.ret))⟩
def Qc5 (x1:Int):Option Bool :=
  some (x1 != x1)
def Qgk (P:Program) (c:Nat) (f:(List Int)→Int→Option (Int×Bool)):Prop:=∀ x1 target2 r,f x1 target2=some r→∀ M nb,ACalls P c [(l_ x1),(i_ target2)] M nb (.tup [(i_ r.1),(b_ r.2)]) M nb
def Qtu:List COp:=[oo 4 .mov [cI 0],oo 5 .mov [.c (.d (.bool false))]]
def Qtv:List COp:=[oM 10 0,oo 11 .len [.t 10],oM 6 11]
def Qtw:List COp:=[oM 12 6,oo 7 .mov [cI 0],oM 8 12]
def Qtx:List COp:=[oM 13 7,oM 14 8,oo 15 (.bin .lss false) [.t 13,.t 14]]
def Qty:List COp:=[oM 16 7,oM 17 8,oo 18 (.bin .add false) [.t 16,.t 17],oo 19 (.conv .u64) [.t 18],oo 20 (.bin .shr false) [.t 19,.c (.d (.int .u64 1))],oo 21 (.conv .i64) [.t 20],oM 9 21]
def Qtz:List COp:=[oM 22 0,oM 23 9,oo 24 (.idx 1) [.t 22,.t 23],oL 25 24,oM 26 1,oo 27 (.call 86) [.t 25,.t 26]]
def Qt0:List COp:=[oM 28 9,oo 29 (.bin .add false) [.t 28,cI 1],oM 7 29]
def Qt1:List COp:=[oM 30 9,oM 8 30]
def Qt2:List COp:=[oM 31 7,oM 32 7,oM 33 6,oo 34 (.bin .lss false) [.t 32,.t 33],oM 35 34,⟨some 36,.mov,[.t 0],false,some (35,true)⟩,⟨some 37,.mov,[.t 7],false,some (35,true)⟩,⟨some 38,.idx 1,[.t 36,.t 37],false,some (35,true)⟩,⟨some 39,.load false 1,[.t 38],false,some (35,true)⟩,⟨some 40,.mov,[.t 1],false,some (35,true)⟩,⟨some 41,.bin .eql false,[.t 39,.t 40],false,some (35,true)⟩,⟨some 42,.mov,[.t 41],false,some (35,true)⟩,⟨some 43,.mov,[.t 0],false,some (42,false)⟩,⟨some 44,.mov,[.t 7],false,some (42,false)⟩,⟨some 45,.idx 1,[.t 43,.t 44],false,some (42,false)⟩,⟨some 46,.load false 1,[.t 45],false,some (42,false)⟩,⟨some 47,.call 87,[.t 46],false,some (42,false)⟩,⟨some 48,.mov,[.t 47],false,some (42,false)⟩,⟨some 49,.mov,[.t 1],false,some (48,true)⟩,⟨some 50,.call 87,[.t 49],false,some (48,true)⟩,⟨some 51,.pick,[.t 48,.t 50,.c (.d (.bool false))],false,some (42,false)⟩,⟨some 52,.pick,[.t 42,.c (.d (.bool true)),.t 51],false,some (35,true)⟩,oo 53 .pick [.t 35,.t 52,.c (.d (.bool false))],oM 4 31,oM 5 53]
def Qgl:CFn:=⟨2,54,[.t 4,.t 5],.seq (.region Qtu 9 []) (.seq (.region Qtv 9 []) (.seq (.region Qtw 9 []) (.seq (.block 0 (.loop [] (.seq (.seq (.region Qtx 9 []) (.cond (.t 15) (.skip) (.exit 0))) (.block 1 (.seq (.region Qty 9 []) (.seq (.region Qtz 9 []) (.cond (.t 27) (.region Qt0 9 []) (.region Qt1 9 [])))))))) (.seq (.region Qt2 9 []) (.ret)))))⟩
def Qbv (Qer:Int→Int→Option Bool) (Qc5:Int→Option Bool) (fuel:Nat) (x1:(List Int)) (target2:Int):Option (Int×Bool) :=
  ((Qcv (fun k5 ((i3,j4):Int×Int)=>(if (i3 < j4) then ((getO x1 (IntKind.wrap .i64 (Int.fdiv (IntKind.wrap .u64 (IntKind.wrap .i64 (i3+j4))) (2 ^ (min (Int.toNat 1) (IntKind.bits .u64)))))).bind fun x7=>((Qer x7 target2).bind fun x10=>(if x10 then k5 ((IntKind.wrap .i64 ((IntKind.wrap .i64 (Int.fdiv (IntKind.wrap .u64 (IntKind.wrap .i64 (i3+j4))) (2 ^ (min (Int.toNat 1) (IntKind.bits .u64)))))+1)),j4) else k5 (i3,(IntKind.wrap .i64 (Int.fdiv (IntKind.wrap .u64 (IntKind.wrap .i64 (i3+j4))) (2 ^ (min (Int.toNat 1) (IntKind.bits .u64))))))))) else some i3)) fuel (0,(x1.length:Int))).bind fun (i12:Int)=>(if (i12 < (x1.length:Int)) then ((getO x1 i12).bind fun x14=>(if (x14 == target2) then some (i12,true) else ((getO x1 i12).bind fun x17=>((Qc5 x17).bind fun x20=>(if x20 then ((Qc5 target2).bind fun x23=>some (i12,x23)) else some (i12,false)))))) else some (i12,false)))
def Qcf (P:Program) (c:Nat) (f:(List Int)→Int→Option Bool):Prop:=∀ xset1 x2 r,f xset1 x2=some r→∀ M nb,ACalls P c [(l_ xset1),(i_ x2)] M nb (b_ r) M nb
def Q47:List COp:=[oo 4 .mov [.c (.d (.bool false))]]
def Q48:List COp:=[oM 8 0,oM 9 1,oo 10 (.call 59) [.t 8,.t 9],oM 7 10,oo 11 (.extract 0) [.t 7],oo 12 (.extract 1) [.t 7],oM 5 11,oM 6 12]
def Q49:List COp:=[oM 13 6,oM 4 13]
def Qk2:CFn:=⟨2,14,[.t 4],.seq (.region Q47 9 []) (.seq (.region Q48 9 []) (.seq (.region Q49 9 []) (.ret)))⟩
def Qi (Qbv:(List Int)→Int→Option (Int×Bool)) (xset1:(List Int)) (x2:Int):Option Bool :=
  ((Qbv xset1 x2).bind fun (r4,r5)=>some r5)
def Qis (P:Program) (c:Nat) (f:Qh→Option Int):Prop:=∀ p1 r,f p1=some r→∀ M nb,ACalls P c [(Qw p1)] M nb (i_ r) M nb
def Qya:List COp:=[oo 1 (.box 8) [.t 0],oo 2 .mov [cI 0]]
def Qyb:List COp:=[oF 8 0 1,oo 9 (.load true 4) [.t 8],oo 10 (.call 55) [.t 9],oM 3 10]
def Qyc:List COp:=[oM 11 3,oo 12 (.bin .neq false) [.t 11,cI 0]]
def Qyd:List COp:=[oM 13 3,oM 2 13]
def Qye:List COp:=[oF 14 4 1,oL 15 14,oF 16 0 1,oF 17 1 16,oL 18 17,oo 19 (.call 9) [.t 15,.t 18],oM 4 19]
def Qyf:List COp:=[oM 20 4,oo 21 (.bin .neq false) [.t 20,cI 0]]
def Qyg:List COp:=[oM 22 4,oM 2 22]
def Qyh:List COp:=[oF 23 5 1,oL 24 23,oF 25 6 1,oL 26 25,oo 27 (.bslice 1 2 [.nils 1] [0,1]) [.t 24,.t 26],oo 28 .len [.t 27],oo 29 .mov [cI 0]]
def Qyi:List COp:=[oo 30 (.bin .lss false) [.t 29,.t 28]]
def Qyj:List COp:=[oo 31 (.idx 1) [.t 27,.t 29],oL 32 31,ot 6 .mov [.t 32]]
def Qwa:List COp:=[oM 33 6,oo 34 (.call 9) [.t 33,cI 32],oM 7 34]
def Qwb:List COp:=[oM 35 7,oo 36 (.bin .neq false) [.t 35,cI 0]]
def Qwc:List COp:=[oM 37 7,oM 2 37]
def Qwd:List COp:=[oo 38 (.bin .add false) [.t 29,cI 1],oM 29 38]
def Qwe:List COp:=[oF 40 7 1,oL 41 40,oo 42 (.call 27) [.t 41],oo 43 (.un .not) [.t 42],oM 39 43]
def Qwf:List COp:=[oo 2 .mov [cI 2]]
def Qwg:List COp:=[oF 45 5 1,oL 46 45,oF 47 7 1,oL 48 47,oo 49 (.call 29) [.t 46,.t 48],oM 50 49,⟨some 51,.fld 6,[.t 1],false,some (50,false)⟩,⟨some 52,.load false 1,[.t 51],false,some (50,false)⟩,⟨some 53,.fld 7,[.t 1],false,some (50,false)⟩,⟨some 54,.load false 1,[.t 53],false,some (50,false)⟩,⟨some 55,.call 29,[.t 52,.t 54],false,some (50,false)⟩,oo 56 .pick [.t 50,.c (.d (.bool true)),.t 55],oM 44 56]
def Qwh:List COp:=[oo 2 .mov [cI 13]]
def Qwi:List COp:=[oo 2 .mov [cI 0]]
def Qit:CFn:=⟨1,57,[.t 2],.seq (.region Qya 9 []) (.seq (.seq (.region Qyb 9 []) (.seq (.region Qyc 9 []) (.cond (.t 12) (.seq (.region Qyd 9 []) (.ret)) (.skip)))) (.seq (.seq (.region Qye 9 []) (.seq (.region Qyf 9 []) (.cond (.t 21) (.seq (.region Qyg 9 []) (.ret)) (.skip)))) (.seq (.seq (.region Qyh 9 []) (.block 0 (.loop [] (.seq (.region Qyi 9 []) (.seq (.cond (.t 30) (.skip) (.exit 0)) (.seq (.block 1 (.seq (.region Qyj 9 []) (.seq (.region Qwa 9 []) (.seq (.region Qwb 9 []) (.cond (.t 36) (.seq (.region Qwc 9 []) (.ret)) (.skip)))))) (.region Qwd 9 []))))))) (.seq (.block 2 (.seq (.region Qwe 9 []) (.cond (.t 39) (.seq (.region Qwf 9 []) (.ret)) (.seq (.region Qwg 9 []) (.cond (.t 44) (.seq (.region Qwh 9 []) (.ret)) (.skip)))))) (.seq (.region Qwi 9 []) (.ret))))))⟩
def Qcw (Qy:(List Int)→Int→Option Int) (Qt:Int→Option Bool) (Qi:(List Int)→Int→Option Bool) (Q5:Qa→Option Int) (fuel:Nat) (p1:Qh):Option Int :=
  ((Q5 p1.zA).bind fun x3=>(if (x3 != 0) then some x3 else ((Qy p1.zC p1.zA.zM).bind fun x6=>(if (x6 != 0) then some x6 else Qcv (fun k9 (x8:Int)=>(if (x8 < 2) then ((getO [p1.zB,p1.zD] x8).bind fun x11=>((Qy x11 32).bind fun x14=>(if (x14 != 0) then some x14 else k9 (IntKind.wrap .i64 (x8+1))))) else ((Qt p1.Tick).bind fun x17=>(if x17 then ((((Qi p1.zB p1.Tick).bind fun x20=>(if x20 then some true else ((Qi p1.zD p1.Tick).bind fun x23=>some x23)))).bind fun (x24:Bool)=>(if x24 then some 13 else some 0)) else some 2)))) fuel 0))))
def Qiu (P:Program) (c:Nat) (f:Qh→Option Ql):Prop:=∀ p1 r,f p1=some r→∀ M nb,ACalls P c [(Qw p1)] M nb (.ptr (nb+17) 0) (Qm nb [(17,.cells [(l_ r.zN.zA.zJ),(i_ r.zN.zA.zM),(l_ r.zN.zA.zK),(Qe r.zN.zA.zL),(l_ r.zN.zC),(l_ r.zN.zB),(l_ r.zN.zD),(i_ r.zN.Tick),.sl 1 (nb+11) 0 r.from_.length r.from_.length,.sl 1 (nb+15) 0 r.left_.length r.left_.length]),(11,.cells (Qbb (fun (x:List Qc)=>[(Qe x)]) r.from_)),(15,.cells (Qbb (fun (x:Bool)=>[V.d (.bool x)]) r.left_))] M) (nb+66)
def Qyk:List COp:=[oo 1 (.box 8) [.t 0],oo 2 .mov [.c (.nilp)]]
def Qyl:List COp:=[oo 7 (.load true 8) [.t 1],oF 8 0 1,oF 9 1 8,oL 10 9,oo 11 (.makes 1 24 [.nils 3]) [.t 10,.t 10],oF 12 0 1,oF 13 1 12,oL 14 13,oo 15 (.makes 1 1 [.d (.bool false)]) [.t 14,.t 14],ot 16 (.build [.nils 1,.d (.int .i64 0),.nils 1,.nils 3,.nils 1,.nils 1,.nils 1,.d (.int .i64 0),.nils 1,.nils 1] [(0,8),(8,1),(9,1)]) [.t 7,.t 11,.t 15],oo 17 (.box 10) [.t 16],oM 3 17]
def Qym:List COp:=[oF 18 0 1,oF 19 3 18,oL 20 19,oo 21 .len [.t 20],oo 22 .mov [cI 0]]
def Qyn:List COp:=[oo 23 (.bin .lss false) [.t 22,.t 21]]
def Qyo:List COp:=[oo 24 (.idx 3) [.t 20,.t 22],oo 25 (.load true 3) [.t 24],oo 5 (.alloc [.d (.int .i64 0),.d (.int .i64 0),.d (.int .i64 0)]) [],⟨none,.store 3,[.t 5,.t 25],false,none⟩]
def Qyp:List COp:=[oM 26 3,oo 27 .nilchk [.t 26],oF 28 8 27,oL 29 28,oF 30 0 5,oL 31 30,oM 32 3,oo 33 .nilchk [.t 32],oF 34 8 33,oL 35 34,oF 36 0 5,oL 37 36,oo 38 (.idx 1) [.t 35,.t 37],oo 39 .loadT [.t 38],oo 40 (.load true 3) [.t 5],oo 41 (.bslice 3 1 [.d (.int .i64 0),.d (.int .i64 0),.d (.int .i64 0)] [0]) [.t 40],ot 42 (.append 3 24) [.t 39,.t 41],oo 43 (.idx 1) [.t 29,.t 31],⟨none,.store 1,[.t 43,.t 42],true,none⟩]
def Qyq:List COp:=[oo 44 (.bin .add false) [.t 22,cI 1],oM 22 44]
def Qyr:List COp:=[oM 45 3,oo 46 .nilchk [.t 45],oF 47 9 46,oL 48 47,oo 49 .len [.t 48],oo 50 .mov [cI 0]]
def Qys:List COp:=[oo 51 (.bin .lss false) [.t 50,.t 49]]
def Qyt:List COp:=[oM 52 50,oM 6 52]
def Qwj:List COp:=[oM 53 3,oo 54 .nilchk [.t 53],oF 55 9 54,oL 56 55,oM 57 6,oF 58 4 1,oL 59 58,oM 60 6,oo 61 (.call 29) [.t 59,.t 60],oo 62 (.un .not) [.t 61],oo 63 (.idx 1) [.t 56,.t 57],⟨none,.store 1,[.t 63,.t 62],false,none⟩]
def Qwk:List COp:=[oo 64 (.bin .add false) [.t 50,cI 1],oM 50 64]
def Qwl:List COp:=[oM 65 3,oM 2 65]
def Qiv:CFn:=⟨1,66,[.t 2],.seq (.region Qyk 9 []) (.seq (.region Qyl 0 []) (.seq (.seq (.region Qym 9 []) (.block 0 (.loop [5,41] (.seq (.region Qyn 9 []) (.seq (.cond (.t 23) (.skip) (.exit 0)) (.seq (.block 1 (.seq (.region Qyo 9 []) (.region Qyp 0 []))) (.region Qyq 9 []))))))) (.seq (.seq (.region Qyr 9 []) (.block 2 (.loop [] (.seq (.region Qys 9 []) (.seq (.cond (.t 51) (.skip) (.exit 2)) (.seq (.block 3 (.seq (.region Qyt 9 []) (.region Qwj 1 []))) (.region Qwk 9 []))))))) (.seq (.region Qwl 9 []) (.ret)))))⟩
def Qcx (Qi:(List Int)→Int→Option Bool) (fuel:Nat) (p1:Qh):Option Ql :=
  ((mkO p1.zA.zM ([]:List Qc)).bind fun x2=>((mkO p1.zA.zM false).bind fun x4=>((Qcv (fun k8 ((x6,c7):Int×(List (List Qc)))=>(if (x6 < (p1.zA.zL.length:Int)) then ((getO p1.zA.zL x6).bind fun x10=>((inO (Int.toNat p1.zA.zM) x10.From).bind fun u12=>((getO c7 x10.From).bind fun x14=>((appO x14 [x10]).bind fun x16=>((inO (Int.toNat p1.zA.zM) x10.From).bind fun u18=>((setO c7 x10.From x16).bind fun x20=>k8 ((IntKind.wrap .i64 (x6+1)),x20))))))) else some c7)) fuel (0,x2)).bind fun (c22:List (List Qc))=>((Qcv (fun k25 ((x23,c24):Int×(List Bool))=>(if (x23 < ((Int.toNat p1.zA.zM):Int)) then ((Qi p1.zC x23).bind fun x28=>((inO (Int.toNat p1.zA.zM) x23).bind fun u29=>((setO c24 x23 (!x28)).bind fun x31=>k25 ((IntKind.wrap .i64 (x23+1)),x31)))) else some c24)) fuel (0,x4)).bind fun (c33:List Bool)=>(lenO c22 (Int.toNat p1.zA.zM)).bind fun _=>(lenO c33 (Int.toNat p1.zA.zM)).bind fun _=>some (Ql.mk p1 c22 c33)))))
def Qey (P:Program) (c:Nat) (f:Qc→Ql→Option Bool):Prop:=∀ x1 x2 (k3:Nat) (k5:Nat) (k7:Nat) (k9:Nat) r,f x1 x2=some r→∀ M nb,(M k3=some (.cells [.ptr k5 0]))→(M k5=some (.cells [(l_ x2.zN.zA.zJ),(i_ x2.zN.zA.zM),(l_ x2.zN.zA.zK),(Qe x2.zN.zA.zL),(l_ x2.zN.zC),(l_ x2.zN.zB),(l_ x2.zN.zD),(i_ x2.zN.Tick),.sl 1 k7 0 x2.from_.length x2.from_.length,.sl 1 k9 0 x2.left_.length x2.left_.length]))→(M k7=some (.cells (Qbb (fun (x:List Qc)=>[(Qe x)]) x2.from_)))→(M k9=some (.cells (Qbb (fun (x:Bool)=>[V.d (.bool x)]) x2.left_)))→ACalls P c [(Qbh x1),.ptr k3 0] M nb (b_ r) M nb
def Qnd:List COp:=[oo 2 (.box 3) [.t 0],oo 3 .mov [.c (.d (.bool false))]]
def Qne:List COp:=[oF 4 1 2,oL 5 4,oL 6 1,oo 7 .nilchk [.t 6],oF 8 0 7,oF 9 7 8,oL 10 9,oo 11 (.bin .eql false) [.t 5,.t 10],oM 12 11,⟨some 13,.load false 1,[.t 1],false,some (12,true)⟩,⟨some 14,.nilchk,[.t 13],false,some (12,true)⟩,⟨some 15,.fld 9,[.t 14],false,some (12,true)⟩,⟨some 16,.load false 1,[.t 15],false,some (12,true)⟩,⟨some 17,.fld 2,[.t 2],false,some (12,true)⟩,⟨some 18,.load false 1,[.t 17],false,some (12,true)⟩,⟨some 19,.idx 1,[.t 16,.t 18],false,some (12,true)⟩,⟨some 20,.load false 1,[.t 19],false,some (12,true)⟩,⟨some 21,.un .not,[.t 20],false,some (12,true)⟩,oo 22 .pick [.t 12,.t 21,.c (.d (.bool false))],oM 3 22]
def Qez:CFn:=⟨2,23,[.t 3],.seq (.region Qnd 9 []) (.seq (.region Qne 0 []) (.ret))⟩
def Qbj (x1:Qc) (x2:Ql):Option Bool :=
  (if (x1.Event == x2.zN.Tick) then ((inO x2.left_.length x1.To).bind fun u12=>((getO x2.left_ x1.To).bind fun x14=>some (!x14))) else some false)
def Qfi (P:Program) (c:Nat) (f:(List Qc)→(Qc→Option Bool)→Option Int):Prop:=∀ s1 f2 (g3:Nat) (cp4:List V) r,f s1 f2=some r→∀ M nb,(V.dems cp4=cp4)→(V.ons (There M) cp4)→(∀ a8 r,f2 a8=some r→∀ M2 nb2,nb≤nb2→Ext M M2→ACalls P g3 ([(Qbh a8)] ++ cp4) M2 nb2 (b_ r) M2 nb2)→ACalls P c [(Qe s1),.clo g3 cp4] M nb (i_ r) M nb
def Qwm:List COp:=[oo 4 .mov [cI 0]]
def Qwn:List COp:=[oM 6 0,oo 7 .len [.t 6],oo 8 .mov [cI 0]]
def Qwo:List COp:=[oo 9 (.bin .lss false) [.t 8,.t 7]]
def Qwp:List COp:=[oM 10 8,oM 5 10]
def Qwq:List COp:=[oM 11 1,oM 12 0,oM 13 5,oo 14 (.idx 3) [.t 12,.t 13],oo 15 (.load true 3) [.t 14],oo 16 .callv [.t 11,.t 15]]
def Qwr:List COp:=[oM 17 5,oM 4 17]
def Qws:List COp:=[oo 18 (.bin .add false) [.t 8,cI 1],oM 8 18]
def Qwt:List COp:=[oo 4 .mov [cI (-1)]]
def Qhj:CFn:=⟨2,19,[.t 4],.seq (.region Qwm 9 []) (.seq (.seq (.region Qwn 9 []) (.block 0 (.loop [] (.seq (.region Qwo 9 []) (.seq (.cond (.t 9) (.skip) (.exit 0)) (.seq (.block 1 (.seq (.region Qwp 9 []) (.seq (.region Qwq 9 []) (.cond (.t 16) (.seq (.region Qwr 9 []) (.ret)) (.skip))))) (.region Qws 9 []))))))) (.seq (.region Qwt 9 []) (.ret)))⟩
def Qz (fuel:Nat) (s1:(List Qc)) (f2:(Qc→Option Bool)):Option Int :=
  Qcv (fun k10 (x9:Int)=>(if (x9 < (s1.length:Int)) then ((getO s1 x9).bind fun x12=>((f2 x12).bind fun x15=>(if x15 then some x9 else k10 (IntKind.wrap .i64 (x9+1))))) else some (-1))) fuel 0
def Qdq (P:Program) (c:Nat) (f:(List Qc)→(Qc→Option Bool)→Option Bool):Prop:=∀ s1 f2 (g3:Nat) (cp4:List V) r,f s1 f2=some r→∀ M nb,(V.dems cp4=cp4)→(V.ons (There M) cp4)→(∀ a8 r,f2 a8=some r→∀ M2 nb2,nb≤nb2→Ext M M2→ACalls P g3 ([(Qbh a8)] ++ cp4) M2 nb2 (b_ r) M2 nb2)→ACalls P c [(Qe s1),.clo g3 cp4] M nb (b_ r) M nb
def Qrt:List COp:=[oo 4 .mov [.c (.d (.bool false))]]
def Qru:List COp:=[oM 5 0,oM 6 1,oo 7 (.call 67) [.t 5,.t 6],oo 8 (.bin .geq false) [.t 7,cI 0],oM 4 8]
def Qf6:CFn:=⟨2,9,[.t 4],.seq (.region Qrt 9 []) (.seq (.region Qru 9 []) (.ret))⟩
def Qs (Qz:(List Qc)→(Qc→Option Bool)→Option Int) (s1:(List Qc)) (f2:(Qc→Option Bool)):Option Bool :=
  ((Qz s1 f2).bind fun x13=>some (decide (x13≥0)))
def Qe0 (P:Program) (c:Nat) (f:Qc→Ql→Option Bool):Prop:=∀ x1 x2 (k3:Nat) (k5:Nat) (k7:Nat) (k9:Nat) r,f x1 x2=some r→∀ M nb,(M k3=some (.cells [.ptr k5 0]))→(M k5=some (.cells [(l_ x2.zN.zA.zJ),(i_ x2.zN.zA.zM),(l_ x2.zN.zA.zK),(Qe x2.zN.zA.zL),(l_ x2.zN.zC),(l_ x2.zN.zB),(l_ x2.zN.zD),(i_ x2.zN.Tick),.sl 1 k7 0 x2.from_.length x2.from_.length,.sl 1 k9 0 x2.left_.length x2.left_.length]))→(M k7=some (.cells (Qbb (fun (x:List Qc)=>[(Qe x)]) x2.from_)))→(M k9=some (.cells (Qbb (fun (x:Bool)=>[V.d (.bool x)]) x2.left_)))→ACalls P c [(Qbh x1),.ptr k3 0] M nb (b_ r) M nb
def Qnf:List COp:=[oo 2 (.box 3) [.t 0],oo 3 .mov [.c (.d (.bool false))]]
def Qng:List COp:=[oL 4 1,oo 5 .nilchk [.t 4],oF 6 9 5,oL 7 6,oF 8 2 2,oL 9 8,oo 10 (.idx 1) [.t 7,.t 9],oL 11 10,oM 12 11,⟨some 13,.load false 1,[.t 1],false,some (12,true)⟩,⟨some 14,.nilchk,[.t 13],false,some (12,true)⟩,⟨some 15,.fld 0,[.t 14],false,some (12,true)⟩,⟨some 16,.fld 6,[.t 15],false,some (12,true)⟩,⟨some 17,.load false 1,[.t 16],false,some (12,true)⟩,⟨some 18,.fld 1,[.t 2],false,some (12,true)⟩,⟨some 19,.load false 1,[.t 18],false,some (12,true)⟩,⟨some 20,.call 29,[.t 17,.t 19],false,some (12,true)⟩,oo 21 .pick [.t 12,.t 20,.c (.d (.bool false))],oM 3 21]
def Qe1:CFn:=⟨2,22,[.t 3],.seq (.region Qnf 9 []) (.seq (.region Qng 0 []) (.ret))⟩
def Qbk (Qi:(List Int)→Int→Option Bool) (x1:Qc) (x2:Ql):Option Bool :=
  ((inO x2.left_.length x1.To).bind fun u11=>((getO x2.left_ x1.To).bind fun x13=>(if x13 then ((Qi x2.zN.zD x1.Event).bind fun x17=>some x17) else some false)))
def Qfj (P:Program) (c:Nat) (f:Ql→Int→Option Bool):Prop:=∀ t1 state8 (k2:Nat) (k4:Nat) (k6:Nat) r,f t1 state8=some r→∀ M nb,(M k2=some (.cells [(l_ t1.zN.zA.zJ),(i_ t1.zN.zA.zM),(l_ t1.zN.zA.zK),(Qe t1.zN.zA.zL),(l_ t1.zN.zC),(l_ t1.zN.zB),(l_ t1.zN.zD),(i_ t1.zN.Tick),.sl 1 k4 0 t1.from_.length t1.from_.length,.sl 1 k6 0 t1.left_.length t1.left_.length]))→(M k4=some (.cells (Qbb (fun (x:List Qc)=>[(Qe x)]) t1.from_)))→(M k6=some (.cells (Qbb (fun (x:Bool)=>[V.d (.bool x)]) t1.left_)))→ACalls P c [.ptr k2 0,(i_ state8)] M nb (b_ r) M nb
def Qot:List COp:=[oo 2 (.box 1) [.t 0],oo 4 .mov [.c (.d (.bool false))]]
def Qou:List COp:=[oL 5 2,oo 6 .nilchk [.t 5],oF 7 8 6,oL 8 7,oM 9 1,oo 10 (.idx 1) [.t 8,.t 9],oL 11 10,oo 12 (.func 112) [.t 2],oo 13 (.call 47) [.t 11,.t 12],oM 4 13]
def Qfk:CFn:=⟨2,14,[.t 4],.seq (.region Qot 9 []) (.seq (.region Qou 9 []) (.ret))⟩
def Qbp (Qs:(List Qc)→(Qc→Option Bool)→Option Bool) (Qbk:Qc→Ql→Option Bool) (t1:Ql) (state8:Int):Option Bool :=
  ((inO t1.from_.length state8).bind fun u9=>((getO t1.from_ state8).bind fun x11=>((Qs x11 (fun a13=>Qbk a13 t1)).bind fun x17=>some x17)))
def Qfl (P:Program) (c:Nat) (f:Ql→Int→Option (Int×Int)):Prop:=∀ t1 state8 (k2:Nat) (k4:Nat) (k6:Nat) r,f t1 state8=some r→∀ M nb,(M k2=some (.cells [(l_ t1.zN.zA.zJ),(i_ t1.zN.zA.zM),(l_ t1.zN.zA.zK),(Qe t1.zN.zA.zL),(l_ t1.zN.zC),(l_ t1.zN.zB),(l_ t1.zN.zD),(i_ t1.zN.Tick),.sl 1 k4 0 t1.from_.length t1.from_.length,.sl 1 k6 0 t1.left_.length t1.left_.length]))→(M k4=some (.cells (Qbb (fun (x:List Qc)=>[(Qe x)]) t1.from_)))→(M k6=some (.cells (Qbb (fun (x:Bool)=>[V.d (.bool x)]) t1.left_)))→ACalls P c [.ptr k2 0,(i_ state8)] M nb (.tup [(i_ r.1),(i_ r.2)]) M nb
def Qov:List COp:=[oo 2 (.box 1) [.t 0],oo 4 .mov [cI 0],oo 5 .mov [cI 0]]
def Qow:List COp:=[oL 9 2,oo 10 .nilchk [.t 9],oF 11 8 10,oL 12 11,oM 13 1,oo 14 (.idx 1) [.t 12,.t 13],oL 15 14,oo 16 .len [.t 15],oo 17 .mov [cI 0]]
def Qox:List COp:=[oo 18 (.bin .lss false) [.t 17,.t 16]]
def Qoy:List COp:=[oo 19 (.idx 3) [.t 15,.t 17],oo 20 (.load true 3) [.t 19],oo 7 (.alloc [.d (.int .i64 0),.d (.int .i64 0),.d (.int .i64 0)]) [],⟨none,.store 3,[.t 7,.t 20],false,none⟩]
def Qoz:List COp:=[oL 21 2,oo 22 .nilchk [.t 21],oF 23 9 22,oL 24 23,oF 25 2 7,oL 26 25,oo 27 (.idx 1) [.t 24,.t 26],oL 28 27,oo 29 (.un .not) [.t 28],oM 30 29,⟨some 31,.load false 1,[.t 2],false,some (30,true)⟩,⟨some 32,.nilchk,[.t 31],false,some (30,true)⟩,⟨some 33,.fld 0,[.t 32],false,some (30,true)⟩,⟨some 34,.fld 5,[.t 33],false,some (30,true)⟩,⟨some 35,.load false 1,[.t 34],false,some (30,true)⟩,⟨some 36,.fld 1,[.t 7],false,some (30,true)⟩,⟨some 37,.load false 1,[.t 36],false,some (30,true)⟩,⟨some 38,.call 29,[.t 35,.t 37],false,some (30,true)⟩,oo 39 .pick [.t 30,.t 38,.c (.d (.bool false))]]
def Qo0:List COp:=[oF 40 1 7,oL 41 40,oo 4 .mov [cI 2],oM 5 41]
def Qo1:List COp:=[oo 42 (.bin .add false) [.t 17,cI 1],oM 17 42]
def Qo2:List COp:=[oL 43 2,oo 44 .nilchk [.t 43],oF 45 8 44,oL 46 45,oM 47 1,oo 48 (.idx 1) [.t 46,.t 47],oL 49 48,oo 50 (.func 93) [.t 2],oo 51 (.call 47) [.t 49,.t 50],oM 8 51]
def Qo3:List COp:=[oM 52 8,oM 53 52,⟨some 54,.load false 1,[.t 2],false,some (53,true)⟩,⟨some 55,.mov,[.t 1],false,some (53,true)⟩,⟨some 56,.call 94,[.t 54,.t 55],false,some (53,true)⟩,⟨some 57,.un .not,[.t 56],false,some (53,true)⟩,oo 58 .pick [.t 53,.t 57,.c (.d (.bool false))]]
def Qo4:List COp:=[oL 59 2,oo 60 .nilchk [.t 59],oF 61 0 60,oF 62 7 61,oL 63 62,oo 4 .mov [cI 4],oM 5 63]
def Qnx:List COp:=[oo 4 .mov [cI 0],oo 5 .mov [cI (-1)]]
def Qfm:CFn:=⟨2,64,[.t 4,.t 5],.seq (.region Qov 9 []) (.seq (.seq (.region Qow 9 []) (.block 0 (.loop [7] (.seq (.region Qox 9 []) (.seq (.cond (.t 18) (.skip) (.exit 0)) (.seq (.block 1 (.seq (.region Qoy 9 []) (.seq (.region Qoz 0 []) (.cond (.t 39) (.seq (.region Qo0 0 []) (.ret)) (.skip))))) (.region Qo1 9 []))))))) (.seq (.region Qo2 9 []) (.seq (.seq (.region Qo3 9 []) (.cond (.t 58) (.seq (.region Qo4 0 []) (.ret)) (.skip))) (.seq (.region Qnx 9 []) (.ret)))))⟩
def Qbq (Qi:(List Int)→Int→Option Bool) (Qs:(List Qc)→(Qc→Option Bool)→Option Bool) (Qbj:Qc→Ql→Option Bool) (Qbp:Ql→Int→Option Bool) (fuel:Nat) (t1:Ql) (state8:Int):Option (Int×Int) :=
  ((inO t1.from_.length state8).bind fun u9=>((getO t1.from_ state8).bind fun x11=>Qcv (fun k14 (x13:Int)=>(if (x13 < (x11.length:Int)) then ((getO x11 x13).bind fun x16=>((((inO t1.left_.length x16.To).bind fun u18=>((getO t1.left_ x16.To).bind fun x20=>(if x20 then some false else ((Qi t1.zN.zB x16.Event).bind fun x24=>some x24))))).bind fun (x25:Bool)=>(if x25 then some (2,x16.Event) else k14 (IntKind.wrap .i64 (x13+1))))) else ((inO t1.from_.length state8).bind fun u27=>((getO t1.from_ state8).bind fun x29=>((Qs x29 (fun a31=>Qbj a31 t1)).bind fun x35=>(((if x35 then ((Qbp t1 state8).bind fun x38=>some (!x38)) else some false)).bind fun (x39:Bool)=>(if x39 then some (4,t1.zN.Tick) else some (0,(-1))))))))) fuel 0))
def Qdm (P:Program) (c:Nat) (f:Ql→Option ((List Int))):Prop:=∀ t1 (k2:Nat) (k4:Nat) (k6:Nat) r,f t1=some r→∀ M nb,(M k2=some (.cells [(l_ t1.zN.zA.zJ),(i_ t1.zN.zA.zM),(l_ t1.zN.zA.zK),(Qe t1.zN.zA.zL),(l_ t1.zN.zC),(l_ t1.zN.zB),(l_ t1.zN.zD),(i_ t1.zN.Tick),.sl 1 k4 0 t1.from_.length t1.from_.length,.sl 1 k6 0 t1.left_.length t1.left_.length]))→(M k4=some (.cells (Qbb (fun (x:List Qc)=>[(Qe x)]) t1.from_)))→(M k6=some (.cells (Qbb (fun (x:Bool)=>[V.d (.bool x)]) t1.left_)))→ACalls P c [.ptr k2 0] M nb (l_ r) M nb
def Qmn:List COp:=[ot 2 .mov [.c (.nils 1)]]
def Qmo:List COp:=[oM 9 0,oo 10 .nilchk [.t 9],oF 11 0 10,oF 12 0 11,oF 13 1 12,oL 14 13,oo 15 (.makes 1 8 [.d (.int .i64 0)]) [.t 14,.t 14],ot 3 .mov [.t 15]]
def Qmp:List COp:=[oM 16 3,oo 17 .len [.t 16],oo 18 .mov [cI 0]]
def Qmq:List COp:=[oo 19 (.bin .lss false) [.t 18,.t 17]]
def Qmr:List COp:=[oM 20 18,oM 4 20]
def Qms:List COp:=[oM 21 3,oM 22 4,oo 23 (.idx 1) [.t 21,.t 22],⟨none,.store 1,[.t 23,cI (-1)],false,none⟩]
def Qmt:List COp:=[oM 24 0,oo 25 .nilchk [.t 24],oF 26 9 25,oL 27 26,oM 28 4,oo 29 (.idx 1) [.t 27,.t 28],oL 30 29,oM 31 30,⟨some 32,.mov,[.t 0],false,some (31,true)⟩,⟨some 33,.nilchk,[.t 32],false,some (31,true)⟩,⟨some 34,.fld 0,[.t 33],false,some (31,true)⟩,⟨some 35,.fld 0,[.t 34],false,some (31,true)⟩,⟨some 36,.fld 2,[.t 35],false,some (31,true)⟩,⟨some 37,.load false 1,[.t 36],false,some (31,true)⟩,⟨some 38,.mov,[.t 4],false,some (31,true)⟩,⟨some 39,.call 29,[.t 37,.t 38],false,some (31,true)⟩,oo 40 .pick [.t 31,.t 39,.c (.d (.bool false))]]
def Qmu:List COp:=[oM 41 3,oM 42 4,oo 43 (.idx 1) [.t 41,.t 42],⟨none,.store 1,[.t 43,cI 0],false,none⟩]
def Qmv:List COp:=[oo 44 (.bin .add false) [.t 18,cI 1],oM 18 44]
def Qmw:List COp:=[oo 5 .mov [cI 1],oo 6 .mov [.c (.d (.bool true))]]
def Qlt:List COp:=[oM 45 6]
def Qlu:List COp:=[oo 6 .mov [.c (.d (.bool false))]]
def Qlv:List COp:=[oM 48 0,oo 49 .nilchk [.t 48],oF 50 0 49,oF 51 0 50,oF 52 3 51,oL 53 52,oo 54 .len [.t 53],oo 55 .mov [cI 0]]
def Qlw:List COp:=[oo 56 (.bin .lss false) [.t 55,.t 54]]
def Qlx:List COp:=[oo 57 (.idx 3) [.t 53,.t 55],oo 58 (.load true 3) [.t 57],oo 8 (.alloc [.d (.int .i64 0),.d (.int .i64 0),.d (.int .i64 0)]) [],⟨none,.store 3,[.t 8,.t 58],false,none⟩]
def Qly:List COp:=[oM 59 0,oo 60 .nilchk [.t 59],oF 61 9 60,oL 62 61,oF 63 0 8,oL 64 63,oo 65 (.idx 1) [.t 62,.t 64],oL 66 65,oM 67 66,⟨some 68,.mov,[.t 0],false,some (67,true)⟩,⟨some 69,.nilchk,[.t 68],false,some (67,true)⟩,⟨some 70,.fld 9,[.t 69],false,some (67,true)⟩,⟨some 71,.load false 1,[.t 70],false,some (67,true)⟩,⟨some 72,.fld 2,[.t 8],false,some (67,true)⟩,⟨some 73,.load false 1,[.t 72],false,some (67,true)⟩,⟨some 74,.idx 1,[.t 71,.t 73],false,some (67,true)⟩,⟨some 75,.load false 1,[.t 74],false,some (67,true)⟩,oo 76 .pick [.t 67,.t 75,.c (.d (.bool false))],oM 77 76,⟨some 78,.mov,[.t 3],false,some (77,true)⟩,⟨some 79,.fld 0,[.t 8],false,some (77,true)⟩,⟨some 80,.load false 1,[.t 79],false,some (77,true)⟩,⟨some 81,.idx 1,[.t 78,.t 80],false,some (77,true)⟩,⟨some 82,.load false 1,[.t 81],false,some (77,true)⟩,⟨some 83,.bin .lss false,[.t 82,cI 0],false,some (77,true)⟩,oo 84 .pick [.t 77,.t 83,.c (.d (.bool false))],oM 85 84,⟨some 86,.mov,[.t 3],false,some (85,true)⟩,⟨some 87,.fld 2,[.t 8],false,some (85,true)⟩,⟨some 88,.load false 1,[.t 87],false,some (85,true)⟩,⟨some 89,.idx 1,[.t 86,.t 88],false,some (85,true)⟩,⟨some 90,.load false 1,[.t 89],false,some (85,true)⟩,⟨some 91,.mov,[.t 5],false,some (85,true)⟩,⟨some 92,.bin .sub false,[.t 91,cI 1],false,some (85,true)⟩,⟨some 93,.bin .eql false,[.t 90,.t 92],false,some (85,true)⟩,oo 94 .pick [.t 85,.t 93,.c (.d (.bool false))]]
def Qlz:List COp:=[oM 95 3,oF 96 0 8,oL 97 96,oM 98 5,oo 99 (.idx 1) [.t 95,.t 97],⟨none,.store 1,[.t 99,.t 98],false,none⟩,oo 6 .mov [.c (.d (.bool true))]]
def Ql0:List COp:=[oo 100 (.bin .add false) [.t 55,cI 1],oM 55 100]
def Ql1:List COp:=[oM 46 5,oo 47 (.bin .add false) [.t 46,cI 1],oM 5 47]
def Ql2:List COp:=[ot 101 .mov [.t 3],ot 2 .mov [.t 101]]
def Qen:CFn:=⟨1,102,[.t 2],.seq (.region Qmn 9 []) (.seq (.region Qmo 9 []) (.seq (.seq (.region Qmp 9 []) (.block 0 (.loop [] (.seq (.region Qmq 9 []) (.seq (.cond (.t 19) (.skip) (.exit 0)) (.seq (.block 1 (.seq (.region Qmr 9 []) (.seq (.region Qms 9 []) (.seq (.region Qmt 9 []) (.cond (.t 40) (.region Qmu 9 []) (.skip)))))) (.region Qmv 9 []))))))) (.seq (.seq (.region Qmw 9 []) (.block 2 (.loop [8] (.seq (.seq (.region Qlt 9 []) (.cond (.t 45) (.skip) (.exit 2))) (.seq (.block 3 (.seq (.region Qlu 9 []) (.seq (.region Qlv 9 []) (.block 4 (.loop [8] (.seq (.region Qlw 9 []) (.seq (.cond (.t 56) (.skip) (.exit 4)) (.seq (.block 5 (.seq (.region Qlx 9 []) (.seq (.region Qly 0 []) (.cond (.t 94) (.region Qlz 9 []) (.skip))))) (.region Ql0 9 []))))))))) (.region Ql1 9 [])))))) (.seq (.region Ql2 9 []) (.ret)))))⟩
def Qu (Qi:(List Int)→Int→Option Bool) (fuel:Nat) (t1:Ql):Option ((List Int)) :=
  ((mkO t1.zN.zA.zM 0).bind fun x8=>((Qcv (fun k12 ((x10,c11):Int×(List Int))=>(if (x10 < ((Int.toNat t1.zN.zA.zM):Int)) then ((((inO (Int.toNat t1.zN.zA.zM) x10).bind fun u14=>((setO c11 x10 (-1)).bind fun x16=>((((inO t1.left_.length x10).bind fun u18=>((getO t1.left_ x10).bind fun x20=>(if x20 then ((Qi t1.zN.zA.zK x10).bind fun x24=>some x24) else some false)))).bind fun (x25:Bool)=>(if x25 then ((inO (Int.toNat t1.zN.zA.zM) x10).bind fun u27=>((setO x16 x10 0).bind fun x29=>some x29)) else some x16))))).bind fun (c31:List Int)=>k12 ((IntKind.wrap .i64 (x10+1)),c31)) else some c11)) fuel (0,x8)).bind fun (c32:List Int)=>((Qcv (fun k36 ((round33,more34,c35):Int×Bool×(List Int))=>(if more34 then ((Qcv (fun k41 ((more38,x39,c40):Bool×Int×(List Int))=>(if (x39 < (t1.zN.zA.zL.length:Int)) then ((((getO t1.zN.zA.zL x39).bind fun x43=>((((inO t1.left_.length x43.From).bind fun u45=>((getO t1.left_ x43.From).bind fun x47=>(if x47 then ((inO t1.left_.length x43.To).bind fun u50=>((getO t1.left_ x43.To).bind fun x52=>(if x52 then ((inO (Int.toNat t1.zN.zA.zM) x43.From).bind fun u55=>((getO c40 x43.From).bind fun x57=>(if (x57 < 0) then ((inO (Int.toNat t1.zN.zA.zM) x43.To).bind fun u60=>((getO c40 x43.To).bind fun x62=>some (x62 == (IntKind.wrap .i64 (round33 - 1))))) else some false))) else some false))) else some false)))).bind fun (x64:Bool)=>(if x64 then ((inO (Int.toNat t1.zN.zA.zM) x43.From).bind fun u66=>((setO c40 x43.From round33).bind fun x68=>some (true,x68,x43.From,x43.Event,x43.To))) else some (more38,c40,x43.From,x43.Event,x43.To))))).bind fun ((more70,c71,c72,c73,c74):Bool×(List Int)×Int×Int×Int)=>k41 (more70,(IntKind.wrap .i64 (x39+1)),c71)) else some (more38,c40))) fuel (false,0,c35)).bind fun ((more75,c76):Bool×(List Int))=>k36 ((IntKind.wrap .i64 (round33+1)),more75,c76)) else some c35)) fuel (1,true,c32)).bind fun (c77:List Int)=>((lenO c77 (Int.toNat t1.zN.zA.zM)).bind fun _=>some c77))))
def Qfs (P:Program) (c:Nat) (f:Ql→Int→Option ((List Qo))):Prop:=∀ t1 rank8 (k2:Nat) (k4:Nat) (k6:Nat) r,f t1 rank8=some r→∀ M nb,(M k2=some (.cells [(l_ t1.zN.zA.zJ),(i_ t1.zN.zA.zM),(l_ t1.zN.zA.zK),(Qe t1.zN.zA.zL),(l_ t1.zN.zC),(l_ t1.zN.zB),(l_ t1.zN.zD),(i_ t1.zN.Tick),.sl 1 k4 0 t1.from_.length t1.from_.length,.sl 1 k6 0 t1.left_.length t1.left_.length]))→(M k4=some (.cells (Qbb (fun (x:List Qc)=>[(Qe x)]) t1.from_)))→(M k6=some (.cells (Qbb (fun (x:Bool)=>[V.d (.bool x)]) t1.left_)))→ACalls P c [.ptr k2 0,(i_ rank8)] M nb (Q7 r) M nb
def Qqd:List COp:=[ot 4 .mov [.c (.nils 4)]]
def Qqe:List COp:=[ot 5 .mov [.c (.nils 4)]]
def Qqf:List COp:=[oM 12 0,oo 13 .nilchk [.t 12],oF 14 9 13,oL 15 14,oo 16 .len [.t 15],oo 17 .mov [cI 0]]
def Qqg:List COp:=[oo 18 (.bin .lss false) [.t 17,.t 16]]
def Qqh:List COp:=[oM 19 17,oo 20 (.idx 1) [.t 15,.t 17],oL 21 20,oM 6 19,oM 7 21]
def Qqi:List COp:=[oM 23 0,oM 24 6,oo 25 (.call 70) [.t 23,.t 24],oM 22 25,oo 26 (.extract 0) [.t 22],oo 27 (.extract 1) [.t 22],oM 8 26,oM 9 27]
def Qqj:List COp:=[oM 28 7,oM 29 28,⟨some 30,.mov,[.t 8],false,some (29,true)⟩,⟨some 31,.bin .neq false,[.t 30,cI 0],false,some (29,true)⟩,oo 32 .pick [.t 29,.t 31,.c (.d (.bool false))]]
def Qqk:List COp:=[ot 33 .mov [.t 5],oM 34 6,oM 35 1,oM 36 8,oM 37 9,oo 38 (.build [.d (.int .i64 0),.d (.int .i64 0),.d (.int .i64 0),.d (.int .i64 0)] [(0,1),(1,1),(2,1),(3,1)]) [.t 34,.t 35,.t 36,.t 37],oo 39 (.bslice 4 1 [.d (.int .i64 0),.d (.int .i64 0),.d (.int .i64 0),.d (.int .i64 0)] [0]) [.t 38],ot 40 (.append 4 32) [.t 33,.t 39],ot 5 .mov [.t 40]]
def Qql:List COp:=[oo 41 (.bin .add false) [.t 17,cI 1],oM 17 41]
def Qqm:List COp:=[oM 42 5,oo 43 .len [.t 42],oo 44 (.bin .gtr false) [.t 43,cI 0]]
def Qo5:List COp:=[ot 45 .mov [.t 5],ot 4 .mov [.t 45]]
def Qo6:List COp:=[oM 46 0,oo 47 (.call 46) [.t 46],oo 48 .len [.t 47],oo 49 .mov [cI 0]]
def Qo7:List COp:=[oo 50 (.bin .lss false) [.t 49,.t 48]]
def Qo8:List COp:=[oM 51 49,oo 52 (.idx 1) [.t 47,.t 49],oL 53 52,oM 10 51,oM 11 53]
def Qo9:List COp:=[oM 54 0,oo 55 .nilchk [.t 54],oF 56 9 55,oL 57 56,oM 58 10,oo 59 (.idx 1) [.t 57,.t 58],oL 60 59,oM 61 60,⟨some 62,.mov,[.t 11],false,some (61,true)⟩,⟨some 63,.bin .lss false,[.t 62,cI 0],false,some (61,true)⟩,oo 64 .pick [.t 61,.t 63,.c (.d (.bool false))]]
def Qpa:List COp:=[ot 65 .mov [.t 5],oM 66 10,oM 67 1,oo 68 (.build [.d (.int .i64 0),.d (.int .i64 0),.d (.int .i64 0),.d (.int .i64 0)] [(0,1),(1,1),(2,1),(3,1)]) [.t 66,.t 67,cI 3,cI (-1)],oo 69 (.bslice 4 1 [.d (.int .i64 0),.d (.int .i64 0),.d (.int .i64 0),.d (.int .i64 0)] [0]) [.t 68],ot 70 (.append 4 32) [.t 65,.t 69],ot 5 .mov [.t 70]]
def Qpb:List COp:=[oo 71 (.bin .add false) [.t 49,cI 1],oM 49 71]
def Qpc:List COp:=[ot 72 .mov [.t 5],ot 4 .mov [.t 72]]
def Qft:CFn:=⟨2,73,[.t 4],.seq (.region Qqd 9 []) (.seq (.region Qqe 9 []) (.seq (.seq (.region Qqf 9 []) (.block 0 (.loop [39] (.seq (.region Qqg 9 []) (.seq (.cond (.t 18) (.skip) (.exit 0)) (.seq (.block 1 (.seq (.region Qqh 9 []) (.seq (.region Qqi 9 []) (.seq (.region Qqj 9 []) (.cond (.t 32) (.region Qqk 9 []) (.skip)))))) (.region Qql 9 []))))))) (.seq (.seq (.region Qqm 9 []) (.cond (.t 44) (.seq (.region Qo5 9 []) (.ret)) (.skip))) (.seq (.seq (.region Qo6 9 []) (.block 2 (.loop [69] (.seq (.region Qo7 9 []) (.seq (.cond (.t 50) (.skip) (.exit 2)) (.seq (.block 3 (.seq (.region Qo8 9 []) (.seq (.region Qo9 9 []) (.cond (.t 64) (.region Qpa 9 []) (.skip))))) (.region Qpb 9 []))))))) (.seq (.region Qpc 9 []) (.ret))))))⟩
def Qb0 (Qu:Ql→Option ((List Int))) (Qbq:Ql→Int→Option (Int×Int)) (fuel:Nat) (t1:Ql) (rank8:Int):Option ((List Qo)) :=
  ((Qcv (fun k11 ((out9,x10):(List Qo)×Int)=>(if (x10 < (t1.left_.length:Int)) then ((((inO t1.left_.length x10).bind fun u13=>((getO t1.left_ x10).bind fun x15=>((Qbq t1 x10).bind fun (r18,r19)=>(((if x15 then some (r18 != 0) else some false)).bind fun (x21:Bool)=>(if x21 then ((appO out9 [(Qo.mk x10 rank8 r18 r19)]).bind fun x23=>some x23) else some out9)))))).bind fun (out25:List Qo)=>k11 (out25,(IntKind.wrap .i64 (x10+1)))) else some out9)) fuel ([],0)).bind fun (out26:List Qo)=>(if ((out26.length:Int) > 0) then some out26 else ((((Qu t1).bind fun x29=>Qcv (fun k32 ((out30,x31):(List Qo)×Int)=>(if (x31 < (x29.length:Int)) then ((((getO x29 x31).bind fun x34=>((((inO t1.left_.length x31).bind fun u36=>((getO t1.left_ x31).bind fun x38=>(if x38 then some (decide (x34 < 0)) else some false)))).bind fun (x41:Bool)=>(if x41 then ((appO out30 [(Qo.mk x31 rank8 3 (-1))]).bind fun x43=>some x43) else some out30)))).bind fun (out45:List Qo)=>k32 (out45,(IntKind.wrap .i64 (x31+1)))) else some out30)) fuel (out26,0))).bind fun (out46:List Qo)=>some out46)))
def Qe9 (P:Program) (c:Nat) (f:Qc→Qh→Ql→Option Bool):Prop:=∀ x1 x2 x5 (k3:Nat) (k6:Nat) (k8:Nat) (k10:Nat) (k12:Nat) r,f x1 x2 x5=some r→∀ M nb,(M k3=some (.cells (Qp x2)))→(M k6=some (.cells [.ptr k8 0]))→(M k8=some (.cells [(l_ x5.zN.zA.zJ),(i_ x5.zN.zA.zM),(l_ x5.zN.zA.zK),(Qe x5.zN.zA.zL),(l_ x5.zN.zC),(l_ x5.zN.zB),(l_ x5.zN.zD),(i_ x5.zN.Tick),.sl 1 k10 0 x5.from_.length x5.from_.length,.sl 1 k12 0 x5.left_.length x5.left_.length]))→(M k10=some (.cells (Qbb (fun (x:List Qc)=>[(Qe x)]) x5.from_)))→(M k12=some (.cells (Qbb (fun (x:Bool)=>[V.d (.bool x)]) x5.left_)))→ACalls P c [(Qbh x1),.ptr k3 0,.ptr k6 0] M nb (b_ r) M nb
def Qny:List COp:=[oo 3 (.box 3) [.t 0],oo 4 .mov [.c (.d (.bool false))]]
def Qnz:List COp:=[oF 5 1 3,oL 6 5,oF 7 7 1,oL 8 7,oo 9 (.bin .eql false) [.t 6,.t 8],oM 10 9,⟨some 11,.load false 1,[.t 2],false,some (10,true)⟩,⟨some 12,.nilchk,[.t 11],false,some (10,true)⟩,⟨some 13,.fld 9,[.t 12],false,some (10,true)⟩,⟨some 14,.load false 1,[.t 13],false,some (10,true)⟩,⟨some 15,.fld 2,[.t 3],false,some (10,true)⟩,⟨some 16,.load false 1,[.t 15],false,some (10,true)⟩,⟨some 17,.idx 1,[.t 14,.t 16],false,some (10,true)⟩,⟨some 18,.load false 1,[.t 17],false,some (10,true)⟩,⟨some 19,.un .not,[.t 18],false,some (10,true)⟩,oo 20 .pick [.t 10,.t 19,.c (.d (.bool false))],oM 4 20]
def Qfa:CFn:=⟨3,21,[.t 4],.seq (.region Qny 9 []) (.seq (.region Qnz 0 []) (.ret))⟩
def Qbo (x1:Qc) (x2:Qh) (x5:Ql):Option Bool :=
  (if (x1.Event == x2.Tick) then ((inO x5.left_.length x1.To).bind fun u15=>((getO x5.left_ x1.To).bind fun x17=>some (!x17))) else some false)
def Qjg (P:Program) (c:Nat) (f:(List Int)→Option ((List Int))):Prop:=∀ s1 r,f s1=some r→∀ M nb,ACalls P c [(l_ s1)] M nb (o_ r) M nb
def Q7c:List COp:=[ot 2 .mov [.c (.nils 1)]]
def Q7d:List COp:=[oM 3 0,oo 4 (.isnil false) [.t 3]]
def Q7e:List COp:=[ot 2 .mov [.c (.nils 1)]]
def Q7f:List COp:=[oo 5 (.bslice 1 0 [.d (.int .i64 0)] []) [],oM 6 0,ot 7 (.append 1 8) [.t 5,.t 6],ot 2 .mov [.t 7]]
def Qmx:CFn:=⟨1,8,[.t 2],.seq (.region Q7c 9 []) (.seq (.seq (.region Q7d 9 []) (.cond (.t 4) (.seq (.region Q7e 9 []) (.ret)) (.skip))) (.seq (.region Q7f 9 []) (.ret)))⟩
def Qbr (s1:(List Int)):Option ((List Int)) :=
  (nilO s1 fun b2=>(if b2 then some [] else ((appO [] s1).bind fun x4=>some x4)))
def Qeh (P:Program) (c:Nat) (f:Ql→Option (Qa×(List Int))):Prop:=∀ t1 (k2:Nat) (k4:Nat) (k6:Nat) r,f t1=some r→∀ M nb,(M k2=some (.cells [(l_ t1.zN.zA.zJ),(i_ t1.zN.zA.zM),(l_ t1.zN.zA.zK),(Qe t1.zN.zA.zL),(l_ t1.zN.zC),(l_ t1.zN.zB),(l_ t1.zN.zD),(i_ t1.zN.Tick),.sl 1 k4 0 t1.from_.length t1.from_.length,.sl 1 k6 0 t1.left_.length t1.left_.length]))→(M k4=some (.cells (Qbb (fun (x:List Qc)=>[(Qe x)]) t1.from_)))→(M k6=some (.cells (Qbb (fun (x:Bool)=>[V.d (.bool x)]) t1.left_)))→ACalls P c [.ptr k2 0] M nb (.tup [(Qb r.1),(o_ r.2)]) M nb
def Ql3:List COp:=[oo 2 (.alloc [.nils 1,.d (.int .i64 0),.nils 1,.nils 3]) [],ot 3 .mov [.c (.nils 1)]]
def Ql4:List COp:=[oM 12 0,oo 13 .nilchk [.t 12],oF 14 0 13,oF 15 0 14,oF 16 0 15,oL 17 16,oo 18 (.call 56) [.t 17],ot 19 (.build [.nils 1,.d (.int .i64 0),.nils 1,.nils 3] [(0,1)]) [.t 18],oo 4 (.alloc [.nils 1,.d (.int .i64 0),.nils 1,.nils 3]) [],⟨none,.store 4,[.t 4,.t 19],true,none⟩]
def Ql5:List COp:=[ot 5 .mov [.c (.nils 1)]]
def Ql6:List COp:=[oo 20 .mkmap [],oM 6 20]
def Ql7:List COp:=[oM 21 0,oo 22 .nilchk [.t 21],oF 23 9 22,oL 24 23,oo 25 .len [.t 24],oo 26 (.bin .gtr false) [.t 25,cI 0],oM 27 26,⟨some 28,.mov,[.t 0],false,some (27,true)⟩,⟨some 29,.nilchk,[.t 28],false,some (27,true)⟩,⟨some 30,.fld 9,[.t 29],false,some (27,true)⟩,⟨some 31,.load false 1,[.t 30],false,some (27,true)⟩,⟨some 32,.idx 1,[.t 31,cI 0],false,some (27,true)⟩,⟨some 33,.load false 1,[.t 32],false,some (27,true)⟩,oo 34 .pick [.t 27,.t 33,.c (.d (.bool false))]]
def Ql8:List COp:=[ot 35 .mov [.t 5],oo 36 (.bslice 1 1 [.d (.int .i64 0)] [0]) [cI 0],ot 37 (.append 1 8) [.t 35,.t 36],ot 5 .mov [.t 37]]
def Ql9:List COp:=[oM 38 6,⟨none,.mapset (.int .i64),[.t 38,cI 0,cI 0],false,none⟩]
def Qma:List COp:=[oo 7 .mov [cI 0]]
def Qmb:List COp:=[oM 39 7,oM 40 5,oo 41 .len [.t 40],oo 42 (.bin .lss false) [.t 39,.t 41]]
def Qmc:List COp:=[oM 45 0,oo 46 .nilchk [.t 45],oF 47 0 46,oF 48 0 47,oF 49 2 48,oL 50 49,oM 51 5,oM 52 7,oo 53 (.idx 1) [.t 51,.t 52],oL 54 53,oo 55 (.call 29) [.t 50,.t 54]]
def Qk3:List COp:=[oF 56 2 4,oo 57 .loadT [.t 56],oM 58 7,oo 59 (.bslice 1 1 [.d (.int .i64 0)] [0]) [.t 58],ot 60 (.append 1 8) [.t 57,.t 59],oF 61 2 4,⟨none,.store 1,[.t 61,.t 60],true,none⟩]
def Qk4:List COp:=[oM 62 0,oo 63 .nilchk [.t 62],oF 64 8 63,oL 65 64,oM 66 5,oM 67 7,oo 68 (.idx 1) [.t 66,.t 67],oL 69 68,oo 70 (.idx 1) [.t 65,.t 69],oL 71 70,oo 72 .len [.t 71],oo 73 .mov [cI 0]]
def Qk5:List COp:=[oo 74 (.bin .lss false) [.t 73,.t 72]]
def Qk6:List COp:=[oo 75 (.idx 3) [.t 71,.t 73],oo 76 (.load true 3) [.t 75],oo 9 (.alloc [.d (.int .i64 0),.d (.int .i64 0),.d (.int .i64 0)]) [],⟨none,.store 3,[.t 9,.t 76],false,none⟩]
def Qk7:List COp:=[oM 77 0,oo 78 .nilchk [.t 77],oF 79 9 78,oL 80 79,oF 81 2 9,oL 82 81,oo 83 (.idx 1) [.t 80,.t 82],oL 84 83,oo 85 (.un .not) [.t 84]]
def Qk8:List COp:=[oM 87 6,oF 88 2 9,oL 89 88,oo 90 (.lookup (.int .i64) true (.d (.int .i64 0))) [.t 87,.t 89],oM 86 90,oo 91 (.extract 0) [.t 86],oo 92 (.extract 1) [.t 86],oM 10 91,oM 11 92]
def Qk9:List COp:=[oM 93 11,oo 94 (.un .not) [.t 93]]
def Qla:List COp:=[oM 95 6,oF 96 2 9,oL 97 96,oM 98 5,oo 99 .len [.t 98],⟨none,.mapset (.int .i64),[.t 95,.t 97,.t 99],false,none⟩]
def Qlb:List COp:=[ot 100 .mov [.t 5],oF 101 2 9,oL 102 101,oo 103 (.bslice 1 1 [.d (.int .i64 0)] [0]) [.t 102],ot 104 (.append 1 8) [.t 100,.t 103],ot 5 .mov [.t 104]]
def Qlc:List COp:=[oF 105 3 4,oo 106 .loadT [.t 105],oM 107 7,oF 108 1 9,oL 109 108,oM 110 6,oF 111 2 9,oL 112 111,oo 113 (.lookup (.int .i64) false (.d (.int .i64 0))) [.t 110,.t 112],oo 114 (.build [.d (.int .i64 0),.d (.int .i64 0),.d (.int .i64 0)] [(0,1),(1,1),(2,1)]) [.t 107,.t 109,.t 113],oo 115 (.bslice 3 1 [.d (.int .i64 0),.d (.int .i64 0),.d (.int .i64 0)] [0]) [.t 114],ot 116 (.append 3 24) [.t 106,.t 115],oF 117 3 4,⟨none,.store 1,[.t 117,.t 116],true,none⟩]
def Qld:List COp:=[oo 118 (.bin .add false) [.t 73,cI 1],oM 73 118]
def Qle:List COp:=[oM 43 7,oo 44 (.bin .add false) [.t 43,cI 1],oM 7 44]
def Qlf:List COp:=[oM 119 5,oo 120 .len [.t 119],oF 121 1 4,⟨none,.store 1,[.t 121,.t 120],false,none⟩]
def Qlg:List COp:=[oo 122 (.load true 4) [.t 4],ot 123 .mov [.t 5],⟨none,.store 4,[.t 2,.t 122],true,none⟩,ot 3 .mov [.t 123]]
def Qei:CFn:=⟨1,124,[.cell 2 true 4,.t 3],.seq (.region Ql3 9 []) (.seq (.region Ql4 9 []) (.seq (.region Ql5 9 []) (.seq (.region Ql6 9 []) (.seq (.seq (.region Ql7 9 []) (.cond (.t 34) (.seq (.region Ql8 9 []) (.region Ql9 9 [])) (.skip))) (.seq (.seq (.region Qma 9 []) (.block 0 (.loop [59,9,103,115] (.seq (.seq (.region Qmb 9 []) (.cond (.t 42) (.skip) (.exit 0))) (.seq (.block 1 (.seq (.seq (.region Qmc 0 []) (.cond (.t 55) (.region Qk3 9 []) (.skip))) (.seq (.region Qk4 0 []) (.block 2 (.loop [9,103,115] (.seq (.region Qk5 9 []) (.seq (.cond (.t 74) (.skip) (.exit 2)) (.seq (.block 3 (.seq (.region Qk6 9 []) (.seq (.seq (.region Qk7 0 []) (.cond (.t 85) (.exit 3) (.skip))) (.seq (.seq (.region Qk8 9 []) (.seq (.region Qk9 9 []) (.cond (.t 94) (.seq (.region Qla 9 []) (.region Qlb 9 [])) (.skip)))) (.region Qlc 9 []))))) (.region Qld 9 []))))))))) (.region Qle 9 [])))))) (.seq (.region Qlf 9 []) (.seq (.region Qlg 9 []) (.ret))))))))⟩
def Qba (Qi:(List Int)→Int→Option Bool) (Qbr:(List Int)→Option ((List Int))) (fuel:Nat) (t1:Ql):Option (Qa×(List Int)) :=
  ((Qbr t1.zN.zA.zJ).bind fun x9=>(((((if ((t1.left_.length:Int) > 0) then ((inO t1.left_.length 0).bind fun u11=>((getO t1.left_ 0).bind fun x13=>some x13)) else some false)).bind fun (x15:Bool)=>(if x15 then ((appO [] [0]).bind fun x17=>some (x17,(setM ([]:List (Int×Int)) 0 0))) else some ([],[])))).bind fun ((origins19,c20):(List Int)×(List (Int×Int)))=>((Qcv (fun k29 ((origins21,i22,c23,c24,c25,a26,a27,c28):(List Int)×Int×(List Int)×(List Int)×(List Qc)×(List Int)×(List Qc)×(List (Int×Int)))=>(if (i22 < (origins21.length:Int)) then ((((((getO origins21 i22).bind fun x31=>((Qi t1.zN.zA.zK x31).bind fun x34=>(if x34 then ((appO a26 [i22]).bind fun x36=>some x36) else some a26)))).bind fun (a38:List Int)=>((getO origins21 i22).bind fun x39=>((inO t1.from_.length x39).bind fun u41=>((getO t1.from_ x39).bind fun x43=>Qcv (fun k49 ((origins45,x46,a47,c48):(List Int)×Int×(List Qc)×(List (Int×Int)))=>(if (x46 < (x43.length:Int)) then ((((getO x43 x46).bind fun x51=>((inO t1.left_.length x51.To).bind fun u53=>((getO t1.left_ x51.To).bind fun x55=>(if x55 then (((if (hasM c48 x51.To) then some (origins45,c48) else ((appO origins45 [x51.To]).bind fun x59=>some (x59,(setM c48 x51.To (origins45.length:Int)))))).bind fun ((origins61,c62):(List Int)×(List (Int×Int)))=>((appO a47 [(Qc.mk i22 x51.Event (getM c62 x51.To 0))]).bind fun x63=>some (origins61,x63,c62,x51.From,x51.Event,x51.To))) else some (origins45,a47,c48,x51.From,x51.Event,x51.To)))))).bind fun ((origins65,a66,c67,c68,c69,c70):(List Int)×(List Qc)×(List (Int×Int))×Int×Int×Int)=>k49 (origins65,(IntKind.wrap .i64 (x46+1)),a66,c67)) else some (origins45,a38,a47,c48))) fuel (origins21,0,a27,c28)))))).bind fun ((origins71,a72,a73,c74):(List Int)×(List Int)×(List Qc)×(List (Int×Int)))=>k29 (origins71,(IntKind.wrap .i64 (i22+1)),c23,c24,c25,a72,a73,c74)) else some (origins21,c23,c24,c25,a26,a27,c28))) fuel (origins19,0,[],[],[],[],[],c20)).bind fun ((origins75,c76,c77,c78,a79,a80,c81):(List Int)×(List Int)×(List Int)×(List Qc)×(List Int)×(List Qc)×(List (Int×Int)))=>some ((Qa.mk x9 (origins75.length:Int) a79 a80),origins75))))
def Qfu (P:Program) (c:Nat) (f:Qh→Option (Qcn×Int)):Prop:=∀ p1 r,f p1=some r→∀ M nb,ACalls P c [(Qw p1)] M nb (.tup [(Qx r.1),(i_ r.2)]) M nb
def Qqn:List COp:=[oo 1 (.box 8) [.t 0],oo 2 (.alloc [.nils 1,.nils 1,.nils 4,.d (.int .i64 0),.nils 1,.d (.int .i64 0),.nils 1,.nils 3,.nils 1,.nils 1]) [],oo 3 .mov [cI 0]]
def Qqo:List COp:=[oo 17 (.load true 8) [.t 1],oo 18 (.call 43) [.t 17],oM 4 18]
def Qqp:List COp:=[oM 19 4,oo 20 (.bin .neq false) [.t 19,cI 0]]
def Qqq:List COp:=[oo 21 (.build [.nils 1,.nils 1,.nils 4,.d (.int .i64 0),.nils 1,.d (.int .i64 0),.nils 1,.nils 3,.nils 1,.nils 1] []) [],oM 22 4,⟨none,.store 10,[.t 2,.t 21],true,none⟩,oM 3 22]
def Qqr:List COp:=[oo 23 (.load true 8) [.t 1],oo 24 (.call 44) [.t 23],oo 5 (.alloc [.nilp]) [],⟨none,.store 1,[.t 5,.t 24],false,none⟩]
def Qqs:List COp:=[oo 6 (.alloc [.nils 1,.nils 1,.nils 4,.d (.int .i64 0),.nils 1,.d (.int .i64 0),.nils 1,.nils 3,.nils 1,.nils 1]) []]
def Qqt:List COp:=[oL 25 5,oo 26 .nilchk [.t 25],oF 27 9 26,oL 28 27,oo 29 .len [.t 28],oo 30 (.makes 4 32 [.d (.int .i64 0),.d (.int .i64 0),.d (.int .i64 0),.d (.int .i64 0)]) [.t 29,.t 29],ot 7 .mov [.t 30]]
def Qqu:List COp:=[oF 31 4 1,oL 32 31,oo 33 .len [.t 32],oo 34 .mov [cI 0]]
def Qqv:List COp:=[oo 35 (.bin .lss false) [.t 34,.t 33]]
def Qqw:List COp:=[oo 36 (.idx 1) [.t 32,.t 34],oL 37 36,oM 9 37]
def Qpd:List COp:=[oM 38 7,oM 39 9,oM 40 9,oo 41 (.build [.d (.int .i64 0),.d (.int .i64 0),.d (.int .i64 0),.d (.int .i64 0)] [(0,1),(1,1),(2,1),(3,1)]) [.t 40,cI 1,cI 1,cI (-1)],oo 42 (.idx 4) [.t 38,.t 39],⟨none,.store 4,[.t 42,.t 41],false,none⟩,oF 43 3 6,⟨none,.store 1,[.t 43,cI 1],false,none⟩]
def Qpe:List COp:=[oo 44 (.bin .add false) [.t 34,cI 1],oM 34 44]
def Qpf:List COp:=[oo 10 .mov [cI 2]]
def Qpg:List COp:=[oL 47 5,oM 48 10,oo 49 (.call 45) [.t 47,.t 48],ot 11 .mov [.t 49]]
def Qph:List COp:=[oM 50 11,oo 51 .len [.t 50],oo 52 (.bin .eql false) [.t 51,cI 0]]
def Qpi:List COp:=[oM 53 11,oo 54 .len [.t 53],oo 55 .mov [cI 0]]
def Qpj:List COp:=[oo 56 (.bin .lss false) [.t 55,.t 54]]
def Qpk:List COp:=[oo 57 (.idx 4) [.t 53,.t 55],oo 58 (.load true 4) [.t 57],oo 13 (.alloc [.d (.int .i64 0),.d (.int .i64 0),.d (.int .i64 0),.d (.int .i64 0)]) [],⟨none,.store 4,[.t 13,.t 58],false,none⟩]
def Qpl:List COp:=[oL 59 5,oo 60 .nilchk [.t 59],oF 61 9 60,oL 62 61,oF 63 0 13,oL 64 63,oM 65 7,oF 66 0 13,oL 67 66,oo 68 (.load true 4) [.t 13],oo 69 (.idx 1) [.t 62,.t 64],⟨none,.store 1,[.t 69,.c (.d (.bool false))],false,none⟩,oo 70 (.idx 4) [.t 65,.t 67],⟨none,.store 4,[.t 70,.t 68],false,none⟩]
def Qpm:List COp:=[oo 71 (.bin .add false) [.t 55,cI 1],oM 55 71]
def Qpn:List COp:=[oM 72 10,oF 73 3 6,⟨none,.store 1,[.t 73,.t 72],false,none⟩]
def Qpo:List COp:=[oM 45 10,oo 46 (.bin .add false) [.t 45,cI 1],oM 10 46]
def Qpp:List COp:=[oF 74 0 6,oM 14 74]
def Qpq:List COp:=[oL 75 5,oo 76 (.call 46) [.t 75],oo 77 .len [.t 76],oo 78 .mov [cI 0]]
def Qpr:List COp:=[oo 79 (.bin .lss false) [.t 78,.t 77]]
def Qps:List COp:=[oM 80 78,oo 81 (.idx 1) [.t 76,.t 78],oL 82 81,oM 15 80,oM 16 82]
def Qpt:List COp:=[oL 83 5,oo 84 .nilchk [.t 83],oF 85 9 84,oL 86 85,oM 87 15,oo 88 (.idx 1) [.t 86,.t 87],oL 89 88,oo 90 (.un .not) [.t 89]]
def Qpu:List COp:=[oM 91 14,oM 92 14,oo 93 .nilchk [.t 92],oF 94 2 93,oo 95 .loadT [.t 94],oM 96 7,oM 97 15,oo 98 (.idx 4) [.t 96,.t 97],oo 99 (.load true 4) [.t 98],oo 100 (.bslice 4 1 [.d (.int .i64 0),.d (.int .i64 0),.d (.int .i64 0),.d (.int .i64 0)] [0]) [.t 99],ot 101 (.append 4 32) [.t 95,.t 100],oo 102 .nilchk [.t 91],oF 103 2 102,⟨none,.store 1,[.t 103,.t 101],true,none⟩]
def Qpv:List COp:=[oM 104 14,oM 105 14,oM 106 14,oo 107 .nilchk [.t 106],oF 108 0 107,oo 109 .loadT [.t 108],oM 110 15,oo 111 (.bslice 1 1 [.d (.int .i64 0)] [0]) [.t 110],ot 112 (.append 1 8) [.t 109,.t 111],oM 113 14,oo 114 .nilchk [.t 113],oF 115 1 114,oo 116 .loadT [.t 115],oM 117 16,oo 118 (.bslice 1 1 [.d (.int .i64 0)] [0]) [.t 117],ot 119 (.append 1 8) [.t 116,.t 118],oo 120 .nilchk [.t 104],oF 121 0 120,⟨none,.store 1,[.t 121,.t 112],true,none⟩,oo 122 .nilchk [.t 105],oF 123 1 122,⟨none,.store 1,[.t 123,.t 119],true,none⟩]
def Qpw:List COp:=[oL 124 5,oo 125 .nilchk [.t 124],oF 126 8 125,oL 127 126,oM 128 15,oo 129 (.idx 1) [.t 127,.t 128],oL 130 129,oo 131 (.func 48) [.t 1,.t 5],oo 132 (.call 47) [.t 130,.t 131]]
def Qpx:List COp:=[oF 133 9 6,oo 134 .loadT [.t 133],oM 135 15,oo 136 (.bslice 1 1 [.d (.int .i64 0)] [0]) [.t 135],ot 137 (.append 1 8) [.t 134,.t 136],oF 138 9 6,⟨none,.store 1,[.t 138,.t 137],true,none⟩]
def Qpy:List COp:=[oo 139 (.bin .add false) [.t 78,cI 1],oM 78 139]
def Qpz:List COp:=[oL 141 5,oo 142 (.call 49) [.t 141],oM 140 142,oo 143 (.extract 0) [.t 140],ot 144 (.extract 1) [.t 140],oF 145 4 6,⟨none,.store 4,[.t 145,.t 143],true,none⟩,oF 146 8 6,⟨none,.store 1,[.t 146,.t 144],true,none⟩]
def Qp0:List COp:=[oo 147 (.load true 10) [.t 6],⟨none,.store 10,[.t 2,.t 147],true,none⟩,oo 3 .mov [cI 0]]
def Qfv:CFn:=⟨1,148,[.cell 2 true 10,.t 3],.seq (.region Qqn 9 []) (.seq (.seq (.region Qqo 9 []) (.seq (.region Qqp 9 []) (.cond (.t 20) (.seq (.region Qqq 9 []) (.ret)) (.skip)))) (.seq (.region Qqr 9 []) (.seq (.region Qqs 9 []) (.seq (.region Qqt 9 []) (.seq (.seq (.region Qqu 9 []) (.block 0 (.loop [] (.seq (.region Qqv 9 []) (.seq (.cond (.t 35) (.skip) (.exit 0)) (.seq (.block 1 (.seq (.region Qqw 9 []) (.region Qpd 9 []))) (.region Qpe 9 []))))))) (.seq (.seq (.region Qpf 9 []) (.block 2 (.loop [13] (.seq (.block 3 (.seq (.region Qpg 9 []) (.seq (.seq (.region Qph 9 []) (.cond (.t 52) (.exit 2) (.skip))) (.seq (.seq (.region Qpi 9 []) (.block 4 (.loop [13] (.seq (.region Qpj 9 []) (.seq (.cond (.t 56) (.skip) (.exit 4)) (.seq (.block 5 (.seq (.region Qpk 9 []) (.region Qpl 0 [⟨66,1,69,1⟩,⟨13,4,69,1⟩]))) (.region Qpm 9 []))))))) (.region Qpn 9 []))))) (.region Qpo 9 []))))) (.seq (.region Qpp 9 []) (.seq (.seq (.region Qpq 9 []) (.block 6 (.loop [100,111,118,136] (.seq (.region Qpr 9 []) (.seq (.cond (.t 79) (.skip) (.exit 6)) (.seq (.block 7 (.seq (.region Qps 9 []) (.seq (.seq (.region Qpt 9 []) (.cond (.t 90) (.seq (.region Qpu 0 []) (.exit 7)) (.skip))) (.seq (.region Qpv 0 [⟨108,1,115,1⟩]) (.seq (.region Qpw 9 []) (.cond (.t 132) (.region Qpx 9 []) (.skip))))))) (.region Qpy 9 []))))))) (.seq (.region Qpz 9 []) (.seq (.region Qp0 9 []) (.ret)))))))))))⟩
def Qbl (Qcw:Qh→Option Int) (Qcx:Qh→Option Ql) (Qb0:Ql→Int→Option ((List Qo))) (Qu:Ql→Option ((List Int))) (Qs:(List Qc)→(Qc→Option Bool)→Option Bool) (Qbo:Qc→Qh→Ql→Option Bool) (Qba:Ql→Option (Qa×(List Int))) (fuel:Nat) (p1:Qh):Option (Qcn×Int) :=
  ((Qcw p1).bind fun x3=>(if (x3 != 0) then some ((Qcn.mk (Qg9.mk [] [] []) 0 (Qa.mk [] 0 [] []) [] []),x3) else ((Qcx p1).bind fun x5=>((mkO (x5.left_.length:Int) (Qo.mk 0 0 0 0)).bind fun x7=>((Qcv (fun k12 ((x9,r10,c11):Int×Int×(List Qo))=>(if (x9 < (p1.zC.length:Int)) then ((getO p1.zC x9).bind fun x14=>((inO (Int.toNat (x5.left_.length:Int)) x14).bind fun u16=>((setO c11 x14 (Qo.mk x14 1 1 (-1))).bind fun x18=>k12 ((IntKind.wrap .i64 (x9+1)),1,x18)))) else some (r10,c11))) fuel (0,0,x7)).bind fun ((r20,c21):Int×(List Qo))=>((Qcv (fun k26 ((rank22,r23,c24,c25):Int×Int×(List Qo)×(List Bool))=>((lenO c25 x5.left_.length).bind fun _=>((Qb0 (Ql.mk x5.zN x5.from_ c25) rank22).bind fun x29=>(if ((x29.length:Int) == 0) then some (r23,c24,c25) else ((Qcv (fun k34 ((x31,c32,c33):Int×(List Qo)×(List Bool))=>(if (x31 < (x29.length:Int)) then ((getO x29 x31).bind fun x36=>((inO x5.left_.length x36.State).bind fun u38=>((setO c33 x36.State false).bind fun x40=>((inO (Int.toNat (x5.left_.length:Int)) x36.State).bind fun u42=>((setO c32 x36.State x36).bind fun x44=>k34 ((IntKind.wrap .i64 (x31+1)),x44,x40)))))) else some (c32,c33))) fuel (0,c24,c25)).bind fun ((c46,c47):(List Qo)×(List Bool))=>k26 ((IntKind.wrap .i64 (rank22+1)),rank22,c46,c47)))))) fuel (2,r20,c21,x5.left_)).bind fun ((r48,c49,c50):Int×(List Qo)×(List Bool))=>((((lenO c50 x5.left_.length).bind fun _=>((Qu (Ql.mk x5.zN x5.from_ c50)).bind fun x53=>Qcv (fun k71 ((x54,c55,c56,c57,c58,c59,c60,c61,c62,r63,r64,r65,r66,r67,r68,r69,r70):Int×(List Int)×(List Int)×(List Qo)×(List Int)×(List Int)×(List Qc)×(List Int)×(List Int)×(List Int)×(List Int)×(List Qo)×(List Int)×(List Int)×(List Qc)×(List Int)×(List Int))=>(if (x54 < (x53.length:Int)) then ((((getO x53 x54).bind fun x73=>((inO x5.left_.length x54).bind fun u75=>((getO c50 x54).bind fun x77=>(if x77 then ((appO r63 [x54]).bind fun x86=>((appO r64 [x73]).bind fun x88=>((inO x5.from_.length x54).bind fun u90=>((getO x5.from_ x54).bind fun x92=>((lenO c50 x5.left_.length).bind fun _=>((Qs x92 (fun a94=>Qbo a94 p1 (Ql.mk x5.zN x5.from_ c50))).bind fun x99=>(if x99 then ((appO r70 [x54]).bind fun x101=>some (x86,x88,r65,x101)) else some (x86,x88,r65,r70)))))))) else ((inO (Int.toNat (x5.left_.length:Int)) x54).bind fun u80=>((getO c49 x54).bind fun x82=>((appO r65 [x82]).bind fun x84=>some (r63,r64,x84,r70))))))))).bind fun ((r103,r104,r105,r106):(List Int)×(List Int)×(List Qo)×(List Int))=>k71 ((IntKind.wrap .i64 (x54+1)),c55,c56,c57,c58,c59,c60,c61,c62,r103,r104,r105,r66,r67,r68,r69,r106)) else some (c55,c56,c57,c58,c59,c60,c61,c62,r63,r64,r65,r66,r67,r68,r69,r70))) fuel (0,[],[],[],[],[],[],[],[],[],[],[],[],[],[],[],[])))).bind fun ((c107,c108,c109,c110,c111,c112,c113,c114,r115,r116,r117,r118,r119,r120,r121,r122):(List Int)×(List Int)×(List Qo)×(List Int)×(List Int)×(List Qc)×(List Int)×(List Int)×(List Int)×(List Int)×(List Qo)×(List Int)×(List Int)×(List Qc)×(List Int)×(List Int))=>((lenO c50 x5.left_.length).bind fun _=>((Qba (Ql.mk x5.zN x5.from_ c50)).bind fun (r125,r126)=>some ((Qcn.mk (Qg9.mk r115 r116 r117) r48 r125 r126 r122),0))))))))))
def Qfw (P:Program) (c:Nat) (f:Int→Int→Int→Int→Int→Option Int):Prop:=∀ state1 x2 x3 x6 x9 (k4:Nat) (k7:Nat) (k10:Nat) r,f state1 x2 x3 x6 x9=some r→∀ M nb,(M k4=some (.cells [(i_ x3)]))→(M k7=some (.cells [(i_ x6)]))→(M k10=some (.cells [(i_ x9)]))→ACalls P c [(i_ state1),(i_ x2),.ptr k4 0,.ptr k7 0,.ptr k10 0] M nb (i_ r) M nb
def Qqx:List COp:=[oo 7 .mov [cI 0]]
def Qqy:List COp:=[oM 9 1,oL 10 2,oo 11 (.bin .eql false) [.t 9,.t 10],oM 8 11]
def Qqz:List COp:=[oM 12 0,oM 7 12]
def Qq0:List COp:=[oM 14 1,oL 15 3,oo 16 (.bin .eql false) [.t 14,.t 15],oM 13 16]
def Qq1:List COp:=[oo 7 .mov [cI 0]]
def Qq2:List COp:=[oM 18 0,oL 19 4,oo 20 (.bin .leq false) [.t 18,.t 19],oM 17 20]
def Qq3:List COp:=[oM 21 0,oo 22 (.bin .add false) [.t 21,cI 1],oM 7 22]
def Qq4:List COp:=[oo 7 .mov [cI (-1)]]
def Qfx:CFn:=⟨5,23,[.t 7],.seq (.region Qqx 9 []) (.seq (.block 0 (.seq (.region Qqy 9 []) (.cond (.t 8) (.seq (.region Qqz 9 []) (.ret)) (.seq (.region Qq0 9 []) (.cond (.t 13) (.seq (.region Qq1 9 []) (.ret)) (.seq (.region Qq2 9 []) (.cond (.t 17) (.seq (.region Qq3 9 []) (.ret)) (.skip)))))))) (.seq (.region Qq4 9 []) (.ret)))⟩
def Qb1 (state1:Int) (x2:Int) (x3:Int) (x6:Int) (x9:Int):Option Int :=
  (if (x2 == x3) then some state1 else (if (x2 == x6) then some 0 else (if (state1≤x9) then some (IntKind.wrap .i64 (state1+1)) else some (-1))))
def Qiw (P:Program) (c:Nat) (f:Int→Int→Int→Int→Bool→(Int→Int→Option Int)→Option (Qa×Int)):Prop:=∀ xfrom1 to2 ticks3 tick4 marked5 lead6 (g7:Nat) (cp8:List V) r,f xfrom1 to2 ticks3 tick4 marked5 lead6=some r→∀ M nb,(V.dems cp8=cp8)→(V.ons (There M) cp8)→(∀ a12 a13 r,lead6 a12 a13=some r→∀ M2 nb2,nb≤nb2→Ext M M2→ACalls P g7 ([(i_ a12),(i_ a13)] ++ cp8) M2 nb2 (i_ r) M2 nb2)→ACalls P c [(i_ xfrom1),(i_ to2),(i_ ticks3),(i_ tick4),(b_ marked5),.clo g7 cp8] M nb (.tup [(Qb r.1),(i_ r.2)]) M nb
def Qyu:List COp:=[oo 12 (.alloc [.nils 1,.d (.int .i64 0),.nils 1,.nils 3]) [],oo 13 .mov [cI 0]]
def Qyv:List COp:=[oM 20 0,oo 21 (.call 27) [.t 20],oo 22 (.un .not) [.t 21],oM 23 22,⟨some 24,.mov,[.t 1],false,some (23,false)⟩,⟨some 25,.call 27,[.t 24],false,some (23,false)⟩,⟨some 26,.un .not,[.t 25],false,some (23,false)⟩,oo 27 .pick [.t 23,.c (.d (.bool true)),.t 26],oM 28 27,⟨some 29,.mov,[.t 3],false,some (28,false)⟩,⟨some 30,.call 27,[.t 29],false,some (28,false)⟩,⟨some 31,.un .not,[.t 30],false,some (28,false)⟩,oo 32 .pick [.t 28,.c (.d (.bool true)),.t 31],oM 19 32]
def Qyw:List COp:=[oo 33 (.build [.nils 1,.d (.int .i64 0),.nils 1,.nils 3] []) [],⟨none,.store 4,[.t 12,.t 33],true,none⟩,oo 13 .mov [cI 2]]
def Qyx:List COp:=[oM 35 0,oM 36 1,oo 37 (.bin .eql false) [.t 35,.t 36],oM 38 37,⟨some 39,.mov,[.t 0],false,some (38,false)⟩,⟨some 40,.mov,[.t 3],false,some (38,false)⟩,⟨some 41,.bin .eql false,[.t 39,.t 40],false,some (38,false)⟩,oo 42 .pick [.t 38,.c (.d (.bool true)),.t 41],oM 43 42,⟨some 44,.mov,[.t 1],false,some (43,false)⟩,⟨some 45,.mov,[.t 3],false,some (43,false)⟩,⟨some 46,.bin .eql false,[.t 44,.t 45],false,some (43,false)⟩,oo 47 .pick [.t 43,.c (.d (.bool true)),.t 46],oM 34 47]
def Qyy:List COp:=[oo 48 (.build [.nils 1,.d (.int .i64 0),.nils 1,.nils 3] []) [],⟨none,.store 4,[.t 12,.t 48],true,none⟩,oo 13 .mov [cI 13]]
def Qyz:List COp:=[oM 50 2,oo 51 (.bin .lss false) [.t 50,cI 0],oM 52 51,⟨some 53,.mov,[.t 2],false,some (52,false)⟩,⟨some 54,.bin .gtr false,[.t 53,cI 16],false,some (52,false)⟩,oo 55 .pick [.t 52,.c (.d (.bool true)),.t 54],oM 49 55]
def Qy0:List COp:=[oo 56 (.build [.nils 1,.d (.int .i64 0),.nils 1,.nils 3] []) [],⟨none,.store 4,[.t 12,.t 56],true,none⟩,oo 13 .mov [cI 2]]
def Qy1:List COp:=[oM 57 0,oM 58 1,oM 59 3,oo 60 (.bslice 1 3 [.d (.int .i64 0)] [0,1,2]) [.t 57,.t 58,.t 59],oM 61 2,oo 62 (.bin .add false) [.t 61,cI 2],ot 63 (.build [.nils 1,.d (.int .i64 0),.nils 1,.nils 3] [(0,1),(1,1)]) [.t 60,.t 62],oo 14 (.alloc [.nils 1,.d (.int .i64 0),.nils 1,.nils 3]) [],⟨none,.store 4,[.t 14,.t 63],true,none⟩]
def Qy2:List COp:=[oF 64 0 14,oL 65 64,oo 66 (.call 69) [.t 65]]
def Qy3:List COp:=[oF 67 1 14,oL 68 67,oo 69 .mov [cI 0]]
def Qwu:List COp:=[oo 70 (.bin .lss false) [.t 69,.t 68]]
def Qwv:List COp:=[oM 71 69,oM 15 71]
def Qww:List COp:=[oM 72 15,oo 73 (.bin .eql false) [.t 72,cI 0],oM 74 73,⟨some 75,.mov,[.t 4],false,some (74,false)⟩,oo 76 .pick [.t 74,.c (.d (.bool true)),.t 75]]
def Qwx:List COp:=[oF 77 2 14,oo 78 .loadT [.t 77],oM 79 15,oo 80 (.bslice 1 1 [.d (.int .i64 0)] [0]) [.t 79],ot 81 (.append 1 8) [.t 78,.t 80],oF 82 2 14,⟨none,.store 1,[.t 82,.t 81],true,none⟩]
def Qwy:List COp:=[oF 83 0 14,oL 84 83,oo 85 .len [.t 84],oo 86 .mov [cI 0]]
def Qwz:List COp:=[oo 87 (.bin .lss false) [.t 86,.t 85]]
def Qw0:List COp:=[oo 88 (.idx 1) [.t 84,.t 86],oL 89 88,oM 17 89]
def Qw1:List COp:=[oM 90 5,oM 91 15,oM 92 17,oo 93 .callv [.t 90,.t 91,.t 92],oM 18 93]
def Qw2:List COp:=[oM 94 15,oo 95 (.bin .eql false) [.t 94,cI 0]]
def Qw3:List COp:=[oo 18 .mov [cI 0]]
def Qw4:List COp:=[oM 96 17,oM 97 0,oo 98 (.bin .eql false) [.t 96,.t 97]]
def Qw5:List COp:=[oo 18 .mov [cI 1]]
def Qw6:List COp:=[oM 99 18,oo 100 (.bin .neq false) [.t 99,cI (-1)]]
def Qw7:List COp:=[oF 101 3 14,oo 102 .loadT [.t 101],oM 103 15,oM 104 17,oM 105 18,oo 106 (.build [.d (.int .i64 0),.d (.int .i64 0),.d (.int .i64 0)] [(0,1),(1,1),(2,1)]) [.t 103,.t 104,.t 105],oo 107 (.bslice 3 1 [.d (.int .i64 0),.d (.int .i64 0),.d (.int .i64 0)] [0]) [.t 106],ot 108 (.append 3 24) [.t 102,.t 107],oF 109 3 14,⟨none,.store 1,[.t 109,.t 108],true,none⟩]
def Qw8:List COp:=[oo 110 (.bin .add false) [.t 86,cI 1],oM 86 110]
def Qw9:List COp:=[oo 111 (.bin .add false) [.t 69,cI 1],oM 69 111]
def Qxa:List COp:=[oo 112 (.load true 4) [.t 14],⟨none,.store 4,[.t 12,.t 112],true,none⟩,oo 13 .mov [cI 0]]
def Qix:CFn:=⟨6,113,[.cell 12 true 4,.t 13],.seq (.region Qyu 9 []) (.seq (.block 0 (.seq (.region Qyv 9 []) (.cond (.t 19) (.seq (.region Qyw 9 []) (.ret)) (.seq (.region Qyx 9 []) (.cond (.t 34) (.seq (.region Qyy 9 []) (.ret)) (.seq (.region Qyz 9 []) (.cond (.t 49) (.seq (.region Qy0 9 []) (.ret)) (.skip)))))))) (.seq (.region Qy1 9 []) (.seq (.region Qy2 9 []) (.seq (.seq (.region Qy3 9 []) (.block 1 (.loop [80,107] (.seq (.region Qwu 9 []) (.seq (.cond (.t 70) (.skip) (.exit 1)) (.seq (.block 2 (.seq (.region Qwv 9 []) (.seq (.seq (.region Qww 9 []) (.cond (.t 76) (.region Qwx 9 []) (.skip))) (.seq (.region Qwy 9 []) (.block 3 (.loop [107] (.seq (.region Qwz 9 []) (.seq (.cond (.t 87) (.skip) (.exit 3)) (.seq (.block 4 (.seq (.region Qw0 9 []) (.seq (.region Qw1 9 []) (.seq (.seq (.region Qw2 9 []) (.cond (.t 95) (.seq (.region Qw3 9 []) (.seq (.region Qw4 9 []) (.cond (.t 98) (.region Qw5 9 []) (.skip)))) (.skip))) (.seq (.region Qw6 9 []) (.cond (.t 100) (.region Qw7 9 []) (.skip))))))) (.region Qw8 9 [])))))))))) (.region Qw9 9 []))))))) (.seq (.region Qxa 9 []) (.ret))))))⟩
def Qcy (Qt:Int→Option Bool) (f_slices_Sort_int:List Int→Option (List Int)) (fuel:Nat) (xfrom1:Int) (to2:Int) (ticks3:Int) (tick4:Int) (marked5:Bool) (lead6:(Int→Int→Option Int)):Option (Qa×Int) :=
  ((((Qt xfrom1).bind fun x15=>(if x15 then ((Qt to2).bind fun x18=>(if x18 then ((Qt tick4).bind fun x21=>some (!x21)) else some true)) else some true))).bind fun (x22:Bool)=>(if x22 then some ((Qa.mk [] 0 [] []),2) else (((if (xfrom1 == to2) then some true else (if (xfrom1 == tick4) then some true else some (to2 == tick4)))).bind fun (x26:Bool)=>(if x26 then some ((Qa.mk [] 0 [] []),13) else (((if (ticks3 < 0) then some true else some (decide (ticks3 > 16)))).bind fun (x29:Bool)=>(if x29 then some ((Qa.mk [] 0 [] []),2) else ((f_slices_Sort_int [xfrom1,to2,tick4]).bind fun row31=>((Qcv (fun k44 ((x36,x37,c38,c39,c40,a41,a42,a43):Int×Int×(List Int)×(List Int)×(List Qc)×Int×(List Int)×(List Qc))=>(if (x37 < x36) then (((((((if (x37 == 0) then some true else some marked5)).bind fun (x47:Bool)=>(if x47 then ((appO a42 [x37]).bind fun x49=>some x49) else some a42))).bind fun (a51:List Int)=>Qcv (fun k54 ((x52,a53):Int×(List Qc))=>(if (x52 < (3:Int)) then ((((inO 3 x52).bind fun u56=>((getO row31 x52).bind fun x58=>((lead6 x37 x58).bind fun x61=>(((if (x37 == 0) then (if (x58 == xfrom1) then some 1 else some 0) else some x61)).bind fun (next64:Int)=>(if (next64 != (-1)) then ((appO a53 [(Qc.mk x37 x58 next64)]).bind fun x66=>some x66) else some a53)))))).bind fun (a68:List Qc)=>k54 ((IntKind.wrap .i64 (x52+1)),a68)) else some (a51,a53))) fuel (0,a43))).bind fun ((a69,a70):(List Int)×(List Qc))=>k44 (x36,(IntKind.wrap .i64 (x37+1)),c38,c39,c40,a41,a69,a70)) else some (c38,c39,c40,a41,a42,a43))) fuel ((IntKind.wrap .i64 (ticks3+2)),0,[],[],[],(IntKind.wrap .i64 (ticks3+2)),[],[])).bind fun ((c71,c72,c73,a74,a75,a76):(List Int)×(List Int)×(List Qc)×Int×(List Int)×(List Qc))=>((lenO row31 3).bind fun _=>some ((Qa.mk row31 a74 a75 a76),0))))))))))
def Qgm (P:Program) (c:Nat) (f:Int→Int→Int→Int→Option (Qa×Int)):Prop:=∀ xfrom1 to2 ticks3 tick4 r,f xfrom1 to2 ticks3 tick4=some r→∀ M nb,ACalls P c [(i_ xfrom1),(i_ to2),(i_ ticks3),(i_ tick4)] M nb (.tup [(Qb r.1),(i_ r.2)]) M nb
def Qt3:List COp:=[oo 4 (.box 1) [.t 0],oo 5 (.box 1) [.t 1],oo 6 (.box 1) [.t 2],oo 8 (.alloc [.nils 1,.d (.int .i64 0),.nils 1,.nils 3]) [],oo 9 .mov [cI 0]]
def Qt4:List COp:=[oL 10 4,oL 11 5,oL 12 6,oM 13 3,oo 14 (.func 42) [.t 4,.t 5,.t 6],oo 15 (.call 41) [.t 10,.t 11,.t 12,.t 13,.c (.d (.bool false)),.t 14],oo 16 (.extract 0) [.t 15],oo 17 (.extract 1) [.t 15],⟨none,.store 4,[.t 8,.t 16],true,none⟩,oM 9 17]
def Qgn:CFn:=⟨4,18,[.cell 8 true 4,.t 9],.seq (.region Qt3 9 []) (.seq (.region Qt4 9 []) (.ret))⟩
def Qcc (Qcy:Int→Int→Int→Int→Bool→(Int→Int→Option Int)→Option (Qa×Int)) (Qb1:Int→Int→Int→Int→Int→Option Int) (xfrom1:Int) (to2:Int) (ticks3:Int) (tick4:Int):Option (Qa×Int) :=
  ((Qcy xfrom1 to2 ticks3 tick4 false (fun a5 a6=>Qb1 a5 a6 xfrom1 to2 ticks3)).bind fun (r10,r11)=>some (r10,r11))
def Qjh (P:Program) (c:Nat) (f:(List Int)→(List Int)→Option Bool):Prop:=∀ s1 s2 r,f s1 s2=some r→∀ M nb,ACalls P c [(l_ s1),(l_ s2)] M nb (b_ r) M nb
def Q7g:List COp:=[oo 4 .mov [.c (.d (.bool false))]]
def Q7h:List COp:=[oM 6 0,oo 7 .len [.t 6],oM 8 1,oo 9 .len [.t 8],oo 10 (.bin .neq false) [.t 7,.t 9]]
def Q7i:List COp:=[oo 4 .mov [.c (.d (.bool false))]]
def Q7j:List COp:=[oM 11 0,oo 12 .len [.t 11],oo 13 .mov [cI 0]]
def Q7k:List COp:=[oo 14 (.bin .lss false) [.t 13,.t 12]]
def Q7l:List COp:=[oM 15 13,oM 5 15]
def Q7m:List COp:=[oM 16 0,oM 17 5,oo 18 (.idx 1) [.t 16,.t 17],oL 19 18,oM 20 1,oM 21 5,oo 22 (.idx 1) [.t 20,.t 21],oL 23 22,oo 24 (.bin .neq false) [.t 19,.t 23]]
def Q7n:List COp:=[oo 4 .mov [.c (.d (.bool false))]]
def Q7o:List COp:=[oo 25 (.bin .add false) [.t 13,cI 1],oM 13 25]
def Q7p:List COp:=[oo 4 .mov [.c (.d (.bool true))]]
def Qmy:CFn:=⟨2,26,[.t 4],.seq (.region Q7g 9 []) (.seq (.seq (.region Q7h 9 []) (.cond (.t 10) (.seq (.region Q7i 9 []) (.ret)) (.skip))) (.seq (.seq (.region Q7j 9 []) (.block 0 (.loop [] (.seq (.region Q7k 9 []) (.seq (.cond (.t 14) (.skip) (.exit 0)) (.seq (.block 1 (.seq (.region Q7l 9 []) (.seq (.region Q7m 0 []) (.cond (.t 24) (.seq (.region Q7n 9 []) (.ret)) (.skip))))) (.region Q7o 9 []))))))) (.seq (.region Q7p 9 []) (.ret))))⟩
def Qbm (fuel:Nat) (s1:(List Int)) (s2:(List Int)):Option Bool :=
  (if ((s1.length:Int) != (s2.length:Int)) then some false else Qcv (fun k5 (x4:Int)=>(if (x4 < (s1.length:Int)) then ((getO s1 x4).bind fun x7=>((getO s2 x4).bind fun x9=>(if (x7 != x9) then some false else k5 (IntKind.wrap .i64 (x4+1))))) else some true)) fuel 0)
def Qvu (P:Program) (c:Nat) (f:(List Int)→(List Int)→Option Bool):Prop:=∀ a1 b2 r,f a1 b2=some r→∀ M nb,ACalls P c [(l_ a1),(l_ b2)] M nb (b_ r) M nb
def Qbgi:List COp:=[oo 4 .mov [.c (.d (.bool false))]]
def Qbgj:List COp:=[oM 5 0,oM 6 1,oo 7 (.call 36) [.t 5,.t 6],oM 4 7]
def Q5a:CFn:=⟨2,8,[.t 4],.seq (.region Qbgi 9 []) (.seq (.region Qbgj 9 []) (.ret))⟩
def Qdv (Qbm:(List Int)→(List Int)→Option Bool) (a1:(List Int)) (b2:(List Int)):Option Bool :=
  ((Qbm a1 b2).bind fun x4=>some x4)
def Qjr (P:Program) (c:Nat) (f:Option Bool):Prop:=∀ r,f=some r→∀ M nb,ACalls P c [] M nb (b_ r) M nb
def Q09:List COp:=[oo 0 .mov [.c (.d (.bool false))]]
def Q1a:List COp:=[oo 8 (.bslice 1 1 [.d (.int .i64 0)] [0]) [cI 0],oo 9 (.call 23) [.t 8],oo 10 (.call 18) [.t 9],oM 7 10,oo 11 (.extract 0) [.t 7],oo 12 (.extract 1) [.t 7],oo 1 (.alloc [.nils 1,.nils 1,.nils 4,.d (.int .i64 0),.nils 1,.d (.int .i64 0),.nils 1,.nils 3,.nils 1,.nils 1]) [],⟨none,.store 10,[.t 1,.t 11],true,none⟩,oM 2 12]
def Q1b:List COp:=[oo 14 (.call 23) [.c (.nils 1)],oo 15 (.call 18) [.t 14],oM 13 15,oo 16 (.extract 0) [.t 13],oo 17 (.extract 1) [.t 13],oo 3 (.alloc [.nils 1,.nils 1,.nils 4,.d (.int .i64 0),.nils 1,.d (.int .i64 0),.nils 1,.nils 3,.nils 1,.nils 1]) [],⟨none,.store 10,[.t 3,.t 16],true,none⟩,oM 4 17]
def Q1c:List COp:=[oo 19 (.call 17) [cI 0,cI 1,cI 1,cI 2],oM 18 19,oo 20 (.extract 0) [.t 18],oo 21 (.extract 1) [.t 18],oo 5 (.alloc [.nils 1,.d (.int .i64 0),.nils 1,.nils 3]) [],⟨none,.store 4,[.t 5,.t 20],true,none⟩,oM 6 21]
def Q1d:List COp:=[oM 22 2,oo 23 (.bin .eql false) [.t 22,cI 0],oM 24 23,⟨some 25,.fld 9,[.t 1],false,some (24,true)⟩,⟨some 26,.load false 1,[.t 25],false,some (24,true)⟩,⟨some 27,.bslice 1 1 [.d (.int .i64 0)] [0],[cI 0],false,some (24,true)⟩,⟨some 28,.call 12,[.t 26,.t 27],false,some (24,true)⟩,oo 29 .pick [.t 24,.t 28,.c (.d (.bool false))],oM 30 29,⟨some 31,.fld 9,[.t 1],false,some (30,true)⟩,⟨some 32,.load false 1,[.t 31],false,some (30,true)⟩,⟨some 33,.len,[.t 32],false,some (30,true)⟩,⟨some 34,.bin .eql false,[.t 33,cI 1],false,some (30,true)⟩,oo 35 .pick [.t 30,.t 34,.c (.d (.bool false))],oM 36 35,⟨some 37,.fld 4,[.t 1],false,some (36,true)⟩,⟨some 38,.fld 1,[.t 37],false,some (36,true)⟩,⟨some 39,.load false 1,[.t 38],false,some (36,true)⟩,⟨some 40,.bin .eql false,[.t 39,cI 1],false,some (36,true)⟩,oo 41 .pick [.t 36,.t 40,.c (.d (.bool false))],oM 42 41,⟨some 43,.mov,[.t 4],false,some (42,true)⟩,⟨some 44,.bin .eql false,[.t 43,cI 0],false,some (42,true)⟩,oo 45 .pick [.t 42,.t 44,.c (.d (.bool false))],oM 46 45,⟨some 47,.fld 0,[.t 3],false,some (46,true)⟩,⟨some 48,.fld 2,[.t 47],false,some (46,true)⟩,⟨some 49,.load false 1,[.t 48],false,some (46,true)⟩,⟨some 50,.len,[.t 49],false,some (46,true)⟩,⟨some 51,.bin .eql false,[.t 50,cI 2],false,some (46,true)⟩,oo 52 .pick [.t 46,.t 51,.c (.d (.bool false))],oM 53 52,⟨some 54,.fld 0,[.t 3],false,some (53,true)⟩,⟨some 55,.fld 2,[.t 54],false,some (53,true)⟩,⟨some 56,.load false 1,[.t 55],false,some (53,true)⟩,⟨some 57,.idx 4,[.t 56,cI 0],false,some (53,true)⟩,⟨some 58,.load true 4,[.t 57],false,some (53,true)⟩,⟨some 59,.build [.d (.int .i64 0),.d (.int .i64 0),.d (.int .i64 0),.d (.int .i64 0)] [(0,1),(1,1),(2,1),(3,1)],[cI 0,cI 2,cI 4,cI 2],false,some (53,true)⟩,⟨some 60,.eqa false [0,0,0,0],[.t 58,.t 59],false,some (53,true)⟩,oo 61 .pick [.t 53,.t 60,.c (.d (.bool false))],oM 62 61,⟨some 63,.mov,[.t 6],false,some (62,true)⟩,⟨some 64,.bin .eql false,[.t 63,cI 0],false,some (62,true)⟩,oo 65 .pick [.t 62,.t 64,.c (.d (.bool false))],oM 66 65,⟨some 67,.fld 1,[.t 5],false,some (66,true)⟩,⟨some 68,.load false 1,[.t 67],false,some (66,true)⟩,⟨some 69,.bin .eql false,[.t 68,cI 3],false,some (66,true)⟩,oo 70 .pick [.t 66,.t 69,.c (.d (.bool false))],oM 71 70,⟨some 72,.fld 3,[.t 5],false,some (71,true)⟩,⟨some 73,.load false 1,[.t 72],false,some (71,true)⟩,⟨some 74,.len,[.t 73],false,some (71,true)⟩,⟨some 75,.bin .eql false,[.t 74,cI 8],false,some (71,true)⟩,oo 76 .pick [.t 71,.t 75,.c (.d (.bool false))],oM 0 76]
def Qjs:CFn:=⟨0,77,[.t 0],.seq (.region Q09 9 []) (.seq (.region Q1a 9 []) (.seq (.region Q1b 9 []) (.seq (.region Q1c 9 []) (.seq (.region Q1d 9 []) (.ret)))))⟩
def Qcp (Qdv:(List Int)→(List Int)→Option Bool) (Qcc:Int→Int→Int→Int→Option (Qa×Int)) (Qbl:Qh→Option (Qcn×Int)) (Qco:(List Int)→Option Qh):Option Bool :=
  ((Qco [0]).bind fun x2=>((Qbl (Qh.mk x2.zA x2.zC [] x2.zD x2.Tick)).bind fun (r4,r5)=>((Qco []).bind fun x7=>((Qbl (Qh.mk x7.zA x7.zC [] x7.zD x7.Tick)).bind fun (r9,r10)=>((Qcc 0 1 1 2).bind fun (r12,r13)=>(((if (r5 == 0) then ((Qdv r4.zI [0]).bind fun x16=>(if x16 then (if ((r4.zI.length:Int) == 1) then (if (r4.zH.zM == 1) then (if (r10 == 0) then (if ((r9.zE.zG.length:Int) == 2) then ((getO r9.zE.zG 0).bind fun x22=>(if ((x22.State == 0) && ((x22.Rank == 2) && ((x22.Reason == 4) && ((x22.Event == 2) && true)))) then (if (r13 == 0) then (if (r12.zM == 3) then some ((r12.zL.length:Int) == 8) else some false) else some false) else some false)) else some false) else some false) else some false) else some false) else some false)) else some false)).bind fun (x27:Bool)=>some x27))))))
def Qf7 (P:Program) (c:Nat) (f:Int→Option ((List Int))):Prop:=∀ s1 r,f s1=some r→∀ M nb,ACalls P c [.d (.int .u8 s1)] M nb (o_ r) M nb
def Qrv:List COp:=[ot 2 .mov [.c (.nils 1)]]
def Qrw:List COp:=[ot 3 .mov [.c (.nils 1)]]
def Qrx:List COp:=[oo 4 .mov [cI 0]]
def Qry:List COp:=[oM 5 4,oo 6 (.bin .lss false) [.t 5,cI 5]]
def Qrz:List COp:=[oM 9 0,oM 10 4,oo 11 (.bin .shr false) [.t 9,.t 10],oo 12 (.bin .and false) [.t 11,.c (.d (.int .u8 1))],oo 13 (.bin .eql false) [.t 12,.c (.d (.int .u8 1))]]
def Qr0:List COp:=[ot 14 .mov [.t 3],oM 15 4,oo 16 (.bslice 1 1 [.d (.int .i64 0)] [0]) [.t 15],ot 17 (.append 1 8) [.t 14,.t 16],ot 3 .mov [.t 17]]
def Qr1:List COp:=[oM 7 4,oo 8 (.bin .add false) [.t 7,cI 1],oM 4 8]
def Qr2:List COp:=[ot 18 .mov [.t 3],ot 2 .mov [.t 18]]
def Qf8:CFn:=⟨1,19,[.t 2],.seq (.region Qrv 9 []) (.seq (.region Qrw 9 []) (.seq (.seq (.region Qrx 9 []) (.block 0 (.loop [16] (.seq (.seq (.region Qry 9 []) (.cond (.t 6) (.skip) (.exit 0))) (.seq (.block 1 (.seq (.region Qrz 9 []) (.cond (.t 13) (.region Qr0 9 []) (.skip)))) (.region Qr1 9 [])))))) (.seq (.region Qr2 9 []) (.ret))))⟩
def Qb9 (fuel:Nat) (s1:Int):Option ((List Int)) :=
  ((Qcv (fun k4 ((out2,i3):(List Int)×Int)=>(if (i3 < 5) then ((((shrO .u8 s1 i3).bind fun s6=>(if ((andI .u8 s6 1) == 1) then ((appO out2 [i3]).bind fun x9=>some x9) else some out2))).bind fun (out11:List Int)=>k4 (out11,(IntKind.wrap .i64 (i3+1)))) else some out2)) fuel ([],0)).bind fun (out12:List Int)=>some out12)
def Qge (P:Program) (c:Nat) (f:(List Int)→Option Qa):Prop:=∀ alphabet1 r,f alphabet1=some r→∀ M nb,ACalls P c [(l_ alphabet1)] M nb (.agg [(l_ r.zJ),(i_ r.zM),.nils 1,.nils 3]) M nb
def Q1e:List COp:=[oo 2 (.alloc [.nils 1,.d (.int .i64 0),.nils 1,.nils 3]) []]
def Q1f:List COp:=[oo 3 (.bslice 1 0 [.d (.int .i64 0)] []) [],oM 4 0,ot 5 (.append 1 8) [.t 3,.t 4],ot 6 (.build [.nils 1,.d (.int .i64 0),.nils 1,.nils 3] [(0,1)]) [.t 5],⟨none,.store 4,[.t 2,.t 6],true,none⟩]
def Qjt:CFn:=⟨1,7,[.cell 2 true 4],.seq (.region Q1e 9 []) (.seq (.region Q1f 9 []) (.ret))⟩
def Q1 (alphabet1:(List Int)):Option Qa :=
  ((appO [] alphabet1).bind fun x2=>some (Qa.mk x2 0 [] []))
def Qgy (P:Program) (c:Nat) (f:Qa→Int→Int→Option Int):Prop:=∀ a1 state2 event3 r,f a1 state2 event3=some r→∀ M nb,ACalls P c [(Qb a1),(i_ state2),(i_ event3)] M nb (i_ r) M nb
def Q3a:List COp:=[oo 3 (.box 4) [.t 0],oo 6 .mov [cI 0]]
def Q3b:List COp:=[oo 7 .mov [cI 0]]
def Q3c:List COp:=[oM 8 7,oF 9 3 3,oL 10 9,oo 11 .len [.t 10],oo 12 (.bin .lss false) [.t 8,.t 11]]
def Q3d:List COp:=[oF 15 3 3,oL 16 15,oM 17 7,oo 18 (.idx 3) [.t 16,.t 17],oF 19 0 18,oL 20 19,oM 21 1,oo 22 (.bin .eql false) [.t 20,.t 21],oM 23 22,⟨some 24,.fld 3,[.t 3],false,some (23,true)⟩,⟨some 25,.load false 1,[.t 24],false,some (23,true)⟩,⟨some 26,.mov,[.t 7],false,some (23,true)⟩,⟨some 27,.idx 3,[.t 25,.t 26],false,some (23,true)⟩,⟨some 28,.fld 1,[.t 27],false,some (23,true)⟩,⟨some 29,.load false 1,[.t 28],false,some (23,true)⟩,⟨some 30,.mov,[.t 2],false,some (23,true)⟩,⟨some 31,.bin .eql false,[.t 29,.t 30],false,some (23,true)⟩,oo 32 .pick [.t 23,.t 31,.c (.d (.bool false))]]
def Q3e:List COp:=[oF 33 3 3,oL 34 33,oM 35 7,oo 36 (.idx 3) [.t 34,.t 35],oF 37 2 36,oL 38 37,oM 6 38]
def Q3f:List COp:=[oM 13 7,oo 14 (.bin .add false) [.t 13,cI 1],oM 7 14]
def Q3g:List COp:=[oo 6 .mov [cI (-1)]]
def Qke:CFn:=⟨3,39,[.t 6],.seq (.region Q3a 9 []) (.seq (.seq (.region Q3b 9 []) (.block 0 (.loop [] (.seq (.seq (.region Q3c 9 []) (.cond (.t 12) (.skip) (.exit 0))) (.seq (.block 1 (.seq (.region Q3d 9 []) (.cond (.t 32) (.seq (.region Q3e 9 []) (.ret)) (.skip)))) (.region Q3f 9 [])))))) (.seq (.region Q3g 9 []) (.ret)))⟩
def Qbc (fuel:Nat) (a1:Qa) (state2:Int) (event3:Int):Option Int :=
  Qcv (fun k5 (i4:Int)=>(if (i4 < (a1.zL.length:Int)) then ((((getO a1.zL i4).bind fun x7=>(if (x7.From == state2) then ((getO a1.zL i4).bind fun x10=>some (x10.Event == event3)) else some false))).bind fun (x12:Bool)=>(if x12 then ((getO a1.zL i4).bind fun x14=>some x14.To) else k5 (IntKind.wrap .i64 (i4+1)))) else some (-1))) fuel 0
def Qhk (P:Program) (c:Nat) (f:(List Int)→Int→Option Bool):Prop:=∀ l1 n2 r,f l1 n2=some r→∀ M nb,ACalls P c [(l_ l1),(i_ n2)] M nb (b_ r) M nb
def Q5b:List COp:=[oo 4 .mov [.c (.d (.bool false))]]
def Q5c:List COp:=[oo 5 .mov [cI 0]]
def Q5d:List COp:=[oM 6 5,oM 7 0,oo 8 .len [.t 7],oo 9 (.bin .lss false) [.t 6,.t 8]]
def Q5e:List COp:=[oM 12 0,oM 13 5,oo 14 (.idx 1) [.t 12,.t 13],oL 15 14,oM 16 1,oo 17 (.bin .eql false) [.t 15,.t 16]]
def Q5f:List COp:=[oo 4 .mov [.c (.d (.bool true))]]
def Q5g:List COp:=[oM 10 5,oo 11 (.bin .add false) [.t 10,cI 1],oM 5 11]
def Q5h:List COp:=[oo 4 .mov [.c (.d (.bool false))]]
def Qlh:CFn:=⟨2,18,[.t 4],.seq (.region Q5b 9 []) (.seq (.seq (.region Q5c 9 []) (.block 0 (.loop [] (.seq (.seq (.region Q5d 9 []) (.cond (.t 9) (.skip) (.exit 0))) (.seq (.block 1 (.seq (.region Q5e 9 []) (.cond (.t 17) (.seq (.region Q5f 9 []) (.ret)) (.skip)))) (.region Q5g 9 [])))))) (.seq (.region Q5h 9 []) (.ret)))⟩
def Qbn (fuel:Nat) (l1:(List Int)) (n2:Int):Option Bool :=
  Qcv (fun k4 (i3:Int)=>(if (i3 < (l1.length:Int)) then ((getO l1 i3).bind fun x6=>(if (x6 == n2) then some true else k4 (IntKind.wrap .i64 (i3+1)))) else some false)) fuel 0
def Qju (P:Program) (c:Nat) (f:Qa→Option ((List Int))):Prop:=∀ a1 r,f a1=some r→∀ M nb,ACalls P c [(Qb a1)] M nb (o_ r) M nb
def Q1g:List COp:=[oo 1 (.box 4) [.t 0],ot 2 .mov [.c (.nils 1)]]
def Q1h:List COp:=[ot 3 .mov [.c (.nils 1)]]
def Q1i:List COp:=[oF 7 1 1,oL 8 7,oo 9 (.bin .gtr false) [.t 8,cI 0]]
def Q1j:List COp:=[ot 10 .mov [.t 3],oo 11 (.bslice 1 1 [.d (.int .i64 0)] [0]) [cI 0],ot 12 (.append 1 8) [.t 10,.t 11],ot 3 .mov [.t 12]]
def Q1k:List COp:=[oo 4 .mov [cI 0]]
def Q1l:List COp:=[oM 13 4,oM 14 3,oo 15 .len [.t 14],oo 16 (.bin .lss false) [.t 13,.t 15]]
def Q1m:List COp:=[oo 5 .mov [cI 0]]
def Q1n:List COp:=[oM 19 5,oF 20 0 1,oL 21 20,oo 22 .len [.t 21],oo 23 (.bin .lss false) [.t 19,.t 22]]
def Q1o:List COp:=[oo 26 (.load true 4) [.t 1],oM 27 3,oM 28 4,oo 29 (.idx 1) [.t 27,.t 28],oL 30 29,oF 31 0 1,oL 32 31,oM 33 5,oo 34 (.idx 1) [.t 32,.t 33],oL 35 34,oo 36 (.call 84) [.t 26,.t 30,.t 35],oM 6 36]
def Q1p:List COp:=[oM 37 6,oo 38 (.bin .geq false) [.t 37,cI 0],oM 39 38,⟨some 40,.mov,[.t 3],false,some (39,true)⟩,⟨some 41,.mov,[.t 6],false,some (39,true)⟩,⟨some 42,.call 83,[.t 40,.t 41],false,some (39,true)⟩,⟨some 43,.un .not,[.t 42],false,some (39,true)⟩,oo 44 .pick [.t 39,.t 43,.c (.d (.bool false))]]
def Qy4:List COp:=[ot 45 .mov [.t 3],oM 46 6,oo 47 (.bslice 1 1 [.d (.int .i64 0)] [0]) [.t 46],ot 48 (.append 1 8) [.t 45,.t 47],ot 3 .mov [.t 48]]
def Qy5:List COp:=[oM 24 5,oo 25 (.bin .add false) [.t 24,cI 1],oM 5 25]
def Qy6:List COp:=[oM 17 4,oo 18 (.bin .add false) [.t 17,cI 1],oM 4 18]
def Qy7:List COp:=[ot 49 .mov [.t 3],ot 2 .mov [.t 49]]
def Qjv:CFn:=⟨1,50,[.t 2],.seq (.region Q1g 9 []) (.seq (.region Q1h 9 []) (.seq (.seq (.region Q1i 9 []) (.cond (.t 9) (.region Q1j 9 []) (.skip))) (.seq (.seq (.region Q1k 9 []) (.block 0 (.loop [47] (.seq (.seq (.region Q1l 9 []) (.cond (.t 16) (.skip) (.exit 0))) (.seq (.block 1 (.seq (.region Q1m 9 []) (.block 2 (.loop [47] (.seq (.seq (.region Q1n 9 []) (.cond (.t 23) (.skip) (.exit 2))) (.seq (.block 3 (.seq (.region Q1o 0 []) (.seq (.region Q1p 9 []) (.cond (.t 44) (.region Qy4 9 []) (.skip))))) (.region Qy5 9 []))))))) (.region Qy6 9 [])))))) (.seq (.region Qy7 9 []) (.ret)))))⟩
def Qcq (Qbn:(List Int)→Int→Option Bool) (Qbc:Qa→Int→Int→Option Int) (fuel:Nat) (a1:Qa):Option ((List Int)) :=
  (((if (a1.zM > 0) then ((appO [] [0]).bind fun x3=>some x3) else some [])).bind fun (out5:List Int)=>((Qcv (fun k8 ((out6,i7):(List Int)×Int)=>(if (i7 < (out6.length:Int)) then ((Qcv (fun k12 ((out10,k11):(List Int)×Int)=>(if (k11 < (a1.zJ.length:Int)) then ((((getO out10 i7).bind fun x14=>((getO a1.zJ k11).bind fun x16=>((Qbc a1 x14 x16).bind fun x19=>(((if (x19≥0) then ((Qbn out10 x19).bind fun x22=>some (!x22)) else some false)).bind fun (x23:Bool)=>(if x23 then ((appO out10 [x19]).bind fun x25=>some x25) else some out10)))))).bind fun (out27:List Int)=>k12 (out27,(IntKind.wrap .i64 (k11+1)))) else some out10)) fuel (out6,0)).bind fun (out28:List Int)=>k8 (out28,(IntKind.wrap .i64 (i7+1)))) else some out6)) fuel (out5,0)).bind fun (out29:List Int)=>some out29))
def Qjw (P:Program) (c:Nat) (f:(List Int)→Int→Option Int):Prop:=∀ l1 n2 r,f l1 n2=some r→∀ M nb,ACalls P c [(l_ l1),(i_ n2)] M nb (i_ r) M nb
def Q1q:List COp:=[oo 4 .mov [cI 0]]
def Q1r:List COp:=[oo 5 .mov [cI 0]]
def Q1s:List COp:=[oM 6 5,oM 7 0,oo 8 .len [.t 7],oo 9 (.bin .lss false) [.t 6,.t 8]]
def Q1t:List COp:=[oM 12 0,oM 13 5,oo 14 (.idx 1) [.t 12,.t 13],oL 15 14,oM 16 1,oo 17 (.bin .eql false) [.t 15,.t 16]]
def Q1u:List COp:=[oM 18 5,oM 4 18]
def Q1v:List COp:=[oM 10 5,oo 11 (.bin .add false) [.t 10,cI 1],oM 5 11]
def Q1w:List COp:=[oo 4 .mov [cI (-1)]]
def Qjx:CFn:=⟨2,19,[.t 4],.seq (.region Q1q 9 []) (.seq (.seq (.region Q1r 9 []) (.block 0 (.loop [] (.seq (.seq (.region Q1s 9 []) (.cond (.t 9) (.skip) (.exit 0))) (.seq (.block 1 (.seq (.region Q1t 9 []) (.cond (.t 17) (.seq (.region Q1u 9 []) (.ret)) (.skip)))) (.region Q1v 9 [])))))) (.seq (.region Q1w 9 []) (.ret)))⟩
def Qcr (fuel:Nat) (l1:(List Int)) (n2:Int):Option Int :=
  Qcv (fun k4 (i3:Int)=>(if (i3 < (l1.length:Int)) then ((getO l1 i3).bind fun x6=>(if (x6 == n2) then some i3 else k4 (IntKind.wrap .i64 (i3+1)))) else some (-1))) fuel 0
def Qgo (P:Program) (c:Nat) (f:Qa→Option Qa):Prop:=∀ a1 r,f a1=some r→∀ M nb,ACalls P c [(Qb a1)] M nb (Qb r) M nb
def Qt5:List COp:=[oo 1 (.box 4) [.t 0],oo 2 (.alloc [.nils 1,.d (.int .i64 0),.nils 1,.nils 3]) []]
def Qt6:List COp:=[oo 8 (.load true 4) [.t 1],oo 9 (.call 82) [.t 8],ot 3 .mov [.t 9]]
def Qt7:List COp:=[oF 10 0 1,oL 11 10,oo 12 (.call 57) [.t 11],oo 4 (.alloc [.nils 1,.d (.int .i64 0),.nils 1,.nils 3]) [],⟨none,.store 4,[.t 4,.t 12],true,none⟩]
def Qt8:List COp:=[oM 13 3,oo 14 .len [.t 13],oF 15 1 4,⟨none,.store 1,[.t 15,.t 14],false,none⟩]
def Qt9:List COp:=[oo 5 .mov [cI 0]]
def Qua:List COp:=[oM 16 5,oM 17 3,oo 18 .len [.t 17],oo 19 (.bin .lss false) [.t 16,.t 18]]
def Qub:List COp:=[oF 22 2 1,oL 23 22,oM 24 3,oM 25 5,oo 26 (.idx 1) [.t 24,.t 25],oL 27 26,oo 28 (.call 83) [.t 23,.t 27]]
def Quc:List COp:=[oF 29 2 4,oo 30 .loadT [.t 29],oM 31 5,oo 32 (.bslice 1 1 [.d (.int .i64 0)] [0]) [.t 31],ot 33 (.append 1 8) [.t 30,.t 32],oF 34 2 4,⟨none,.store 1,[.t 34,.t 33],true,none⟩]
def Qud:List COp:=[oo 6 .mov [cI 0]]
def Que:List COp:=[oM 35 6,oF 36 0 1,oL 37 36,oo 38 .len [.t 37],oo 39 (.bin .lss false) [.t 35,.t 38]]
def Qr3:List COp:=[oo 42 (.load true 4) [.t 1],oM 43 3,oM 44 5,oo 45 (.idx 1) [.t 43,.t 44],oL 46 45,oF 47 0 1,oL 48 47,oM 49 6,oo 50 (.idx 1) [.t 48,.t 49],oL 51 50,oo 52 (.call 84) [.t 42,.t 46,.t 51],oM 7 52]
def Qr4:List COp:=[oM 53 7,oo 54 (.bin .geq false) [.t 53,cI 0]]
def Qr5:List COp:=[oF 55 3 4,oo 56 .loadT [.t 55],oM 57 5,oF 58 0 1,oL 59 58,oM 60 6,oo 61 (.idx 1) [.t 59,.t 60],oL 62 61,oM 63 3,oM 64 7,oo 65 (.call 85) [.t 63,.t 64],oo 66 (.build [.d (.int .i64 0),.d (.int .i64 0),.d (.int .i64 0)] [(0,1),(1,1),(2,1)]) [.t 57,.t 62,.t 65],oo 67 (.bslice 3 1 [.d (.int .i64 0),.d (.int .i64 0),.d (.int .i64 0)] [0]) [.t 66],ot 68 (.append 3 24) [.t 56,.t 67],oF 69 3 4,⟨none,.store 1,[.t 69,.t 68],true,none⟩]
def Qr6:List COp:=[oM 40 6,oo 41 (.bin .add false) [.t 40,cI 1],oM 6 41]
def Qr7:List COp:=[oM 20 5,oo 21 (.bin .add false) [.t 20,cI 1],oM 5 21]
def Qr8:List COp:=[oo 70 (.load true 4) [.t 4],⟨none,.store 4,[.t 2,.t 70],true,none⟩]
def Qgp:CFn:=⟨1,71,[.cell 2 true 4],.seq (.region Qt5 9 []) (.seq (.region Qt6 9 []) (.seq (.region Qt7 9 []) (.seq (.region Qt8 9 []) (.seq (.seq (.region Qt9 9 []) (.block 0 (.loop [32,67] (.seq (.seq (.region Qua 9 []) (.cond (.t 19) (.skip) (.exit 0))) (.seq (.block 1 (.seq (.seq (.region Qub 0 []) (.cond (.t 28) (.region Quc 9 []) (.skip))) (.seq (.region Qud 9 []) (.block 2 (.loop [67] (.seq (.seq (.region Que 9 []) (.cond (.t 39) (.skip) (.exit 2))) (.seq (.block 3 (.seq (.region Qr3 0 []) (.seq (.region Qr4 9 []) (.cond (.t 54) (.region Qr5 2 []) (.skip))))) (.region Qr6 9 [])))))))) (.region Qr7 9 [])))))) (.seq (.region Qr8 9 []) (.ret))))))⟩
def Qbw (Q1:(List Int)→Option Qa) (Qcq:Qa→Option ((List Int))) (Qbn:(List Int)→Int→Option Bool) (Qbc:Qa→Int→Int→Option Int) (Qcr:(List Int)→Int→Option Int) (fuel:Nat) (a1:Qa):Option Qa :=
  ((Qcq a1).bind fun x3=>((Q1 a1.zJ).bind fun x5=>((Qcv (fun k12 ((i6,c7,c8,c9,out10,out11):Int×(List Int)×(List Int)×(List Qc)×(List Int)×(List Qc))=>(if (i6 < (x3.length:Int)) then ((((((getO x3 i6).bind fun x14=>((Qbn a1.zK x14).bind fun x17=>(if x17 then ((appO out10 [i6]).bind fun x19=>some x19) else some out10)))).bind fun (out21:List Int)=>Qcv (fun k24 ((k22,out23):Int×(List Qc))=>(if (k22 < (a1.zJ.length:Int)) then ((((getO x3 i6).bind fun x26=>((getO a1.zJ k22).bind fun x28=>((Qbc a1 x26 x28).bind fun x31=>(if (x31≥0) then ((getO a1.zJ k22).bind fun x33=>((Qcr x3 x31).bind fun x36=>((appO out23 [(Qc.mk i6 x33 x36)]).bind fun x37=>some x37))) else some out23))))).bind fun (out39:List Qc)=>k24 ((IntKind.wrap .i64 (k22+1)),out39)) else some (out21,out23))) fuel (0,out11))).bind fun ((out40,out41):(List Int)×(List Qc))=>k12 ((IntKind.wrap .i64 (i6+1)),c7,c8,c9,out40,out41)) else some (c7,c8,c9,out10,out11))) fuel (0,[],[],[],[],[])).bind fun ((c42,c43,c44,out45,out46):(List Int)×(List Int)×(List Qc)×(List Int)×(List Qc))=>some (Qa.mk x5.zJ (x3.length:Int) out45 out46))))
def Qkf (P:Program) (c:Nat) (f:(List Int)→Qbs→Option Qa):Prop:=∀ alphabet1 g2 r,f alphabet1 g2=some r→∀ M nb,ACalls P c [(l_ alphabet1),(Qgc g2)] M nb (Qb r) M nb
def Q3h:List COp:=[oo 3 (.box 27) [.t 1],oo 4 (.alloc [.nils 1,.d (.int .i64 0),.nils 1,.nils 3]) []]
def Q3i:List COp:=[oF 9 0 3,oL 10 9,oo 11 (.bin .geq false) [.t 10,.c (.d (.int .u8 250))]]
def Q3j:List COp:=[oM 12 0,oo 13 (.call 57) [.t 12],⟨none,.store 4,[.t 4,.t 13],true,none⟩]
def Q3k:List COp:=[oM 14 0,oo 15 (.call 57) [.t 14],oo 5 (.alloc [.nils 1,.d (.int .i64 0),.nils 1,.nils 3]) [],⟨none,.store 4,[.t 5,.t 15],true,none⟩]
def Q3l:List COp:=[oF 16 0 3,oL 17 16,oo 18 (.bin .rem false) [.t 17,.c (.d (.int .u8 5))],oo 19 (.conv .i64) [.t 18],oo 20 (.bin .add false) [cI 1,.t 19],oF 21 1 5,⟨none,.store 1,[.t 21,.t 20],false,none⟩]
def Q3m:List COp:=[oo 6 .mov [cI 0]]
def Q3n:List COp:=[oM 22 6,oF 23 1 5,oL 24 23,oo 25 (.bin .lss false) [.t 22,.t 24]]
def Q3o:List COp:=[oF 28 1 3,oL 29 28,oM 30 6,oo 31 (.bin .shr false) [.t 29,.t 30],oo 32 (.bin .and false) [.t 31,.c (.d (.int .u8 1))],oo 33 (.bin .eql false) [.t 32,.c (.d (.int .u8 1))]]
def Q3p:List COp:=[oF 34 2 5,oo 35 .loadT [.t 34],oM 36 6,oo 37 (.bslice 1 1 [.d (.int .i64 0)] [0]) [.t 36],ot 38 (.append 1 8) [.t 35,.t 37],oF 39 2 5,⟨none,.store 1,[.t 39,.t 38],true,none⟩]
def Q3q:List COp:=[oo 7 .mov [cI 0]]
def Q1x:List COp:=[oM 40 7,oM 41 0,oo 42 .len [.t 41],oo 43 (.bin .lss false) [.t 40,.t 42],oM 44 43,⟨some 45,.mov,[.t 7],false,some (44,true)⟩,⟨some 46,.bin .lss false,[.t 45,cI 5],false,some (44,true)⟩,oo 47 .pick [.t 44,.t 46,.c (.d (.bool false))]]
def Q1y:List COp:=[oM 50 6,oM 51 7,oF 52 2 3,oo 53 (.idxarr 5 5) [.t 52,.t 50],oo 54 (.idxarr 1 5) [.t 53,.t 51],oL 55 54,oo 56 (.conv .i64) [.t 55],oF 57 1 5,oL 58 57,oo 59 (.bin .add false) [.t 58,cI 2],oo 60 (.bin .rem false) [.t 56,.t 59],oM 8 60]
def Q1z:List COp:=[oM 61 8,oF 62 1 5,oL 63 62,oo 64 (.bin .lss false) [.t 61,.t 63]]
def Q10:List COp:=[oF 65 3 5,oo 66 .loadT [.t 65],oM 67 6,oM 68 0,oM 69 7,oo 70 (.idx 1) [.t 68,.t 69],oL 71 70,oM 72 8,oo 73 (.build [.d (.int .i64 0),.d (.int .i64 0),.d (.int .i64 0)] [(0,1),(1,1),(2,1)]) [.t 67,.t 71,.t 72],oo 74 (.bslice 3 1 [.d (.int .i64 0),.d (.int .i64 0),.d (.int .i64 0)] [0]) [.t 73],ot 75 (.append 3 24) [.t 66,.t 74],oF 76 3 5,⟨none,.store 1,[.t 76,.t 75],true,none⟩]
def Q11:List COp:=[oM 48 7,oo 49 (.bin .add false) [.t 48,cI 1],oM 7 49]
def Q12:List COp:=[oM 26 6,oo 27 (.bin .add false) [.t 26,cI 1],oM 6 27]
def Q13:List COp:=[oo 77 (.load true 4) [.t 5],oo 78 (.call 58) [.t 77],⟨none,.store 4,[.t 4,.t 78],true,none⟩]
def Qkg:CFn:=⟨2,79,[.cell 4 true 4],.seq (.region Q3h 9 []) (.seq (.seq (.region Q3i 9 []) (.cond (.t 11) (.seq (.region Q3j 9 []) (.ret)) (.skip))) (.seq (.region Q3k 9 []) (.seq (.region Q3l 9 []) (.seq (.seq (.region Q3m 9 []) (.block 0 (.loop [37,74] (.seq (.seq (.region Q3n 9 []) (.cond (.t 25) (.skip) (.exit 0))) (.seq (.block 1 (.seq (.seq (.region Q3o 9 []) (.cond (.t 33) (.region Q3p 9 []) (.skip))) (.seq (.region Q3q 9 []) (.block 2 (.loop [74] (.seq (.seq (.region Q1x 9 []) (.cond (.t 47) (.skip) (.exit 2))) (.seq (.block 3 (.seq (.region Q1y 0 []) (.seq (.region Q1z 9 []) (.cond (.t 64) (.region Q10 0 []) (.skip))))) (.region Q11 9 [])))))))) (.region Q12 9 [])))))) (.seq (.region Q13 9 []) (.ret))))))⟩
def Qcz (Q1:(List Int)→Option Qa) (Qbw:Qa→Option Qa) (fuel:Nat) (alphabet1:(List Int)) (g2:Qbs):Option Qa :=
  (if (g2.zM≥250) then ((Q1 alphabet1).bind fun x5=>some (Qa.mk x5.zJ x5.zM [] [])) else ((Q1 alphabet1).bind fun x7=>((Qcv (fun k15 ((i8,c9,c10,c11,a12,a13,a14):Int×(List Int)×(List Int)×(List Qc)×Int×(List Int)×(List Qc))=>(if (i8 < a12) then ((((((shrO .u8 g2.Marks i8).bind fun s17=>(if ((andI .u8 s17 1) == 1) then ((appO a13 [i8]).bind fun x20=>some x20) else some a13))).bind fun (a22:List Int)=>Qcv (fun k25 ((k23,a24):Int×(List Qc))=>(((if (k23 < (alphabet1.length:Int)) then some (decide (k23 < 5)) else some false)).bind fun (x27:Bool)=>(if x27 then ((((inO 5 i8).bind fun _=>((inO 5 k23).bind fun _=>((rowO [g2.To.1.1,g2.To.1.2.1,g2.To.1.2.2.1,g2.To.1.2.2.2.1,g2.To.1.2.2.2.2,g2.To.2.1.1,g2.To.2.1.2.1,g2.To.2.1.2.2.1,g2.To.2.1.2.2.2.1,g2.To.2.1.2.2.2.2,g2.To.2.2.1.1,g2.To.2.2.1.2.1,g2.To.2.2.1.2.2.1,g2.To.2.2.1.2.2.2.1,g2.To.2.2.1.2.2.2.2,g2.To.2.2.2.1.1,g2.To.2.2.2.1.2.1,g2.To.2.2.2.1.2.2.1,g2.To.2.2.2.1.2.2.2.1,g2.To.2.2.2.1.2.2.2.2,g2.To.2.2.2.2.1,g2.To.2.2.2.2.2.1,g2.To.2.2.2.2.2.2.1,g2.To.2.2.2.2.2.2.2.1,g2.To.2.2.2.2.2.2.2.2] (Int.toNat i8 * 5+Int.toNat k23 * 1)).bind fun x31=>((remO .i64 (IntKind.wrap .i64 x31) (IntKind.wrap .i64 (a12+2))).bind fun s33=>(if (s33 < a12) then ((getO alphabet1 k23).bind fun x36=>((appO a24 [(Qc.mk i8 x36 s33)]).bind fun x38=>some x38)) else some a24)))))).bind fun (a40:List Qc)=>k25 ((IntKind.wrap .i64 (k23+1)),a40)) else some (a22,a24)))) fuel (0,a14))).bind fun ((a41,a42):(List Int)×(List Qc))=>k15 ((IntKind.wrap .i64 (i8+1)),c9,c10,c11,a12,a41,a42)) else some (c9,c10,c11,a12,a13,a14))) fuel (0,[],[],[],(IntKind.wrap .i64 (1+(IntKind.wrap .i64 (Int.tmod g2.zM 5)))),[],[])).bind fun ((c43,c44,c45,a46,a47,a48):(List Int)×(List Int)×(List Qc)×Int×(List Int)×(List Qc))=>((Qbw (Qa.mk x7.zJ a46 a47 a48)).bind fun x50=>some x50))))
def Qkh (P:Program) (c:Nat) (f:(List Q4)→Option ((List Qa))):Prop:=∀ l1 r,f l1=some r→∀ M nb,ACalls P c [(Qbu l1)] M nb (Qda r) M nb
def Q3r:List COp:=[ot 2 .mov [.c (.nils 4)]]
def Q3s:List COp:=[ot 3 .mov [.c (.nils 4)]]
def Q3t:List COp:=[oo 4 .mov [cI 0]]
def Q3u:List COp:=[oM 5 4,oM 6 0,oo 7 .len [.t 6],oo 8 (.bin .lss false) [.t 5,.t 7],oM 9 8,⟨some 10,.mov,[.t 4],false,some (9,true)⟩,⟨some 11,.bin .lss false,[.t 10,cI 3],false,some (9,true)⟩,oo 12 .pick [.t 9,.t 11,.c (.d (.bool false))]]
def Q3v:List COp:=[ot 15 .mov [.t 3],oM 16 0,oM 17 4,oo 18 (.idx 28) [.t 16,.t 17],oF 19 0 18,oL 20 19,oo 21 (.call 25) [.t 20],oM 22 0,oM 23 4,oo 24 (.idx 28) [.t 22,.t 23],oF 25 1 24,oo 26 (.load true 27) [.t 25],oo 27 (.call 24) [.t 21,.t 26],oo 28 (.bslice 4 1 [.nils 1,.d (.int .i64 0),.nils 1,.nils 3] [0]) [.t 27],ot 29 (.append 4 80) [.t 15,.t 28],ot 3 .mov [.t 29]]
def Q3w:List COp:=[oM 13 4,oo 14 (.bin .add false) [.t 13,cI 1],oM 4 14]
def Q3x:List COp:=[ot 30 .mov [.t 3],ot 2 .mov [.t 30]]
def Qki:CFn:=⟨1,31,[.t 2],.seq (.region Q3r 9 []) (.seq (.region Q3s 9 []) (.seq (.seq (.region Q3t 9 []) (.block 0 (.loop [28] (.seq (.seq (.region Q3u 9 []) (.cond (.t 12) (.skip) (.exit 0))) (.seq (.block 1 (.region Q3v 134217738 [])) (.region Q3w 9 [])))))) (.seq (.region Q3x 9 []) (.ret))))⟩
def Qc0 (Qcz:(List Int)→Qbs→Option Qa) (Qb9:Int→Option ((List Int))) (fuel:Nat) (l1:(List Q4)):Option ((List Qa)) :=
  ((Qcv (fun k4 ((out2,i3):(List Qa)×Int)=>(((if (i3 < (l1.length:Int)) then some (decide (i3 < 3)) else some false)).bind fun (x6:Bool)=>(if x6 then ((getO l1 i3).bind fun x8=>((Qb9 x8.Events).bind fun x11=>((getO l1 i3).bind fun x12=>((Qcz x11 (Qbs.mk x12.Graph.zM x12.Graph.Marks ((x12.Graph.To.1.1,x12.Graph.To.1.2.1,x12.Graph.To.1.2.2.1,x12.Graph.To.1.2.2.2.1,x12.Graph.To.1.2.2.2.2),(x12.Graph.To.2.1.1,x12.Graph.To.2.1.2.1,x12.Graph.To.2.1.2.2.1,x12.Graph.To.2.1.2.2.2.1,x12.Graph.To.2.1.2.2.2.2),(x12.Graph.To.2.2.1.1,x12.Graph.To.2.2.1.2.1,x12.Graph.To.2.2.1.2.2.1,x12.Graph.To.2.2.1.2.2.2.1,x12.Graph.To.2.2.1.2.2.2.2),(x12.Graph.To.2.2.2.1.1,x12.Graph.To.2.2.2.1.2.1,x12.Graph.To.2.2.2.1.2.2.1,x12.Graph.To.2.2.2.1.2.2.2.1,x12.Graph.To.2.2.2.1.2.2.2.2),(x12.Graph.To.2.2.2.2.1,x12.Graph.To.2.2.2.2.2.1,x12.Graph.To.2.2.2.2.2.2.1,x12.Graph.To.2.2.2.2.2.2.2.1,x12.Graph.To.2.2.2.2.2.2.2.2)))).bind fun x15=>((appO out2 [x15]).bind fun x16=>k4 (x16,(IntKind.wrap .i64 (i3+1)))))))) else some out2))) fuel ([],0)).bind fun (out18:List Qa)=>some out18)
def Qmz (P:Program) (c:Nat) (f:(List Qa)→Option Int):Prop:=∀ l1 r,f l1=some r→∀ M nb,ACalls P c [(Qf l1)] M nb (i_ r) M nb
def Qbcc:List COp:=[oo 2 .mov [cI 0]]
def Qbcd:List COp:=[oM 6 0,oo 7 .len [.t 6],oo 8 (.bin .gtr false) [.t 7,cI 12]]
def Qbce:List COp:=[oo 2 .mov [cI 3]]
def Qbcf:List COp:=[oM 9 0,oo 10 .len [.t 9],oo 11 .mov [cI 0]]
def Qbcg:List COp:=[oo 12 (.bin .lss false) [.t 11,.t 10]]
def Qbch:List COp:=[oo 13 (.idx 4) [.t 9,.t 11],oo 14 (.load true 4) [.t 13],oo 4 (.alloc [.nils 1,.d (.int .i64 0),.nils 1,.nils 3]) [],⟨none,.store 4,[.t 4,.t 14],true,none⟩]
def Qbci:List COp:=[oo 15 (.load true 4) [.t 4],oo 16 (.call 55) [.t 15],oM 5 16]
def Qbcj:List COp:=[oM 17 5,oo 18 (.bin .neq false) [.t 17,cI 0]]
def Qbck:List COp:=[oM 19 5,oM 2 19]
def Qbcl:List COp:=[oo 20 (.bin .add false) [.t 11,cI 1],oM 11 20]
def Q98:List COp:=[oo 2 .mov [cI 0]]
def Quf:CFn:=⟨1,21,[.t 2],.seq (.region Qbcc 9 []) (.seq (.seq (.region Qbcd 9 []) (.cond (.t 8) (.seq (.region Qbce 9 []) (.ret)) (.skip))) (.seq (.seq (.region Qbcf 9 []) (.block 0 (.loop [4] (.seq (.region Qbcg 9 []) (.seq (.cond (.t 12) (.skip) (.exit 0)) (.seq (.block 1 (.seq (.region Qbch 9 []) (.seq (.region Qbci 9 []) (.seq (.region Qbcj 9 []) (.cond (.t 18) (.seq (.region Qbck 9 []) (.ret)) (.skip)))))) (.region Qbcl 9 []))))))) (.seq (.region Q98 9 []) (.ret))))⟩
def Qcs (Q5:Qa→Option Int) (fuel:Nat) (l1:(List Qa)):Option Int :=
  (if ((l1.length:Int) > 12) then some 3 else Qcv (fun k4 (x3:Int)=>(if (x3 < (l1.length:Int)) then ((getO l1 x3).bind fun x6=>((Q5 x6).bind fun x9=>(if (x9 != 0) then some x9 else k4 (IntKind.wrap .i64 (x3+1))))) else some 0)) fuel 0)
def Qku (P:Program) (c:Nat) (f:(List Int)→(List Int)→(Bool→Bool→Option Bool)→Option ((List Int))):Prop:=∀ a1 b2 keep3 (g4:Nat) (cp5:List V) r,f a1 b2 keep3=some r→∀ M nb,(V.dems cp5=cp5)→(V.ons (There M) cp5)→(∀ a9 a10 r,keep3 a9 a10=some r→∀ M2 nb2,nb≤nb2→Ext M M2→ACalls P g4 ([(b_ a9),(b_ a10)] ++ cp5) M2 nb2 (b_ r) M2 nb2)→ACalls P c [(l_ a1),(l_ b2),.clo g4 cp5] M nb (o_ r) M nb
def Q99:List COp:=[ot 6 .mov [.c (.nils 1)]]
def Qbaa:List COp:=[ot 7 .mov [.c (.nils 1)]]
def Qbab:List COp:=[oM 11 0,oo 12 .len [.t 11],oo 13 (.bin .gtr false) [.t 12,cI 0],oM 14 13,⟨some 15,.mov,[.t 1],false,some (14,false)⟩,⟨some 16,.len,[.t 15],false,some (14,false)⟩,⟨some 17,.bin .gtr false,[.t 16,cI 0],false,some (14,false)⟩,oo 18 .pick [.t 14,.c (.d (.bool true)),.t 17]]
def Qbac:List COp:=[oM 19 0,oo 20 .len [.t 19],oo 21 (.bin .gtr false) [.t 20,cI 0],oM 22 21,⟨some 23,.mov,[.t 1],false,some (22,true)⟩,⟨some 24,.len,[.t 23],false,some (22,true)⟩,⟨some 25,.bin .eql false,[.t 24,cI 0],false,some (22,true)⟩,⟨some 26,.mov,[.t 25],false,some (22,true)⟩,⟨some 27,.mov,[.t 0],false,some (26,false)⟩,⟨some 28,.idx 1,[.t 27,cI 0],false,some (26,false)⟩,⟨some 29,.load false 1,[.t 28],false,some (26,false)⟩,⟨some 30,.mov,[.t 1],false,some (26,false)⟩,⟨some 31,.idx 1,[.t 30,cI 0],false,some (26,false)⟩,⟨some 32,.load false 1,[.t 31],false,some (26,false)⟩,⟨some 33,.bin .leq false,[.t 29,.t 32],false,some (26,false)⟩,⟨some 34,.pick,[.t 26,.c (.d (.bool true)),.t 33],false,some (22,true)⟩,oo 35 .pick [.t 22,.t 34,.c (.d (.bool false))],oM 8 35]
def Qbad:List COp:=[oM 36 1,oo 37 .len [.t 36],oo 38 (.bin .gtr false) [.t 37,cI 0],oM 39 38,⟨some 40,.mov,[.t 0],false,some (39,true)⟩,⟨some 41,.len,[.t 40],false,some (39,true)⟩,⟨some 42,.bin .eql false,[.t 41,cI 0],false,some (39,true)⟩,⟨some 43,.mov,[.t 42],false,some (39,true)⟩,⟨some 44,.mov,[.t 1],false,some (43,false)⟩,⟨some 45,.idx 1,[.t 44,cI 0],false,some (43,false)⟩,⟨some 46,.load false 1,[.t 45],false,some (43,false)⟩,⟨some 47,.mov,[.t 0],false,some (43,false)⟩,⟨some 48,.idx 1,[.t 47,cI 0],false,some (43,false)⟩,⟨some 49,.load false 1,[.t 48],false,some (43,false)⟩,⟨some 50,.bin .leq false,[.t 46,.t 49],false,some (43,false)⟩,⟨some 51,.pick,[.t 43,.c (.d (.bool true)),.t 50],false,some (39,true)⟩,oo 52 .pick [.t 39,.t 51,.c (.d (.bool false))],oM 9 52]
def Qbae:List COp:=[oo 10 .mov [cI 0]]
def Qbaf:List COp:=[oM 53 8]
def Qbag:List COp:=[oM 54 0,oo 55 (.idx 1) [.t 54,cI 0],oL 56 55,ot 57 .mov [.t 0],ot 58 (.slcT 1) [.t 57,cI 1],oM 10 56,ot 0 .mov [.t 58]]
def Qbah:List COp:=[oM 59 9]
def Qbai:List COp:=[oM 60 1,oo 61 (.idx 1) [.t 60,cI 0],oL 62 61,ot 63 .mov [.t 1],ot 64 (.slcT 1) [.t 63,cI 1],oM 10 62,ot 1 .mov [.t 64]]
def Q8y:List COp:=[oM 65 2,oM 66 8,oM 67 9,oo 68 .callv [.t 65,.t 66,.t 67]]
def Q8z:List COp:=[ot 69 .mov [.t 7],oM 70 10,oo 71 (.bslice 1 1 [.d (.int .i64 0)] [0]) [.t 70],ot 72 (.append 1 8) [.t 69,.t 71],ot 7 .mov [.t 72]]
def Q80:List COp:=[ot 73 .mov [.t 7],ot 6 .mov [.t 73]]
def Qq5:CFn:=⟨3,74,[.t 6],.seq (.region Q99 9 []) (.seq (.region Qbaa 9 []) (.seq (.block 0 (.loop [71] (.seq (.seq (.region Qbab 9 []) (.cond (.t 18) (.skip) (.exit 0))) (.block 1 (.seq (.region Qbac 0 []) (.seq (.region Qbad 0 []) (.seq (.region Qbae 9 []) (.seq (.seq (.region Qbaf 9 []) (.cond (.t 53) (.region Qbag 0 []) (.skip))) (.seq (.seq (.region Qbah 9 []) (.cond (.t 59) (.region Qbai 0 []) (.skip))) (.seq (.region Q8y 9 []) (.cond (.t 68) (.region Q8z 9 []) (.skip)))))))))))) (.seq (.region Q80 9 []) (.ret))))⟩
def Qb8 (fuel:Nat) (a1:(List Int)) (b2:(List Int)) (keep3:(Bool→Bool→Option Bool)):Option ((List Int)) :=
  ((Qcv (fun k14 ((a11,b12,out13):(List Int)×(List Int)×(List Int))=>(((if ((a11.length:Int) > 0) then some true else some (decide ((b12.length:Int) > 0)))).bind fun (x16:Bool)=>(if x16 then (((if ((a11.length:Int) > 0) then (if ((b12.length:Int) == 0) then some true else ((getO a11 0).bind fun x20=>((getO b12 0).bind fun x22=>some (decide (x20≤x22))))) else some false)).bind fun (inA24:Bool)=>(((if ((b12.length:Int) > 0) then (if ((a11.length:Int) == 0) then some true else ((getO b12 0).bind fun x27=>((getO a11 0).bind fun x29=>some (decide (x27≤x29))))) else some false)).bind fun (inB31:Bool)=>(((if inA24 then ((getO a11 0).bind fun x33=>((slcO a11 1 (a11.length:Int)).bind fun x35=>some (x35,x33))) else some (a11,0))).bind fun ((a37,x38):(List Int)×Int)=>(((if inB31 then ((getO b12 0).bind fun x40=>((slcO b12 1 (b12.length:Int)).bind fun x42=>some (x42,x40))) else some (b12,x38))).bind fun ((b44,x45):(List Int)×Int)=>((keep3 inA24 inB31).bind fun x47=>(if x47 then ((appO out13 [x45]).bind fun x49=>k14 (a37,b44,x49)) else k14 (a37,b44,out13))))))) else some out13))) fuel (a1,b2,[])).bind fun (out51:List Int)=>some out51)
def Qm0 (P:Program) (c:Nat) (f:Bool→Bool→Option Bool):Prop:=∀ inA1 inB2 r,f inA1 inB2=some r→∀ M nb,ACalls P c [(b_ inA1),(b_ inB2)] M nb (b_ r) M nb
def Q7q:List COp:=[oo 4 .mov [.c (.d (.bool false))]]
def Q7r:List COp:=[oM 5 0,oM 6 5,⟨some 7,.mov,[.t 1],false,some (6,true)⟩,⟨some 8,.un .not,[.t 7],false,some (6,true)⟩,oo 9 .pick [.t 6,.t 8,.c (.d (.bool false))],oM 4 9]
def Qm1:CFn:=⟨2,10,[.t 4],.seq (.region Q7q 9 []) (.seq (.region Q7r 9 []) (.ret))⟩
def Qdw (inA1:Bool) (inB2:Bool):Option Bool :=
  (if inA1 then some (!inB2) else some false)
def Qq6 (P:Program) (c:Nat) (f:(List Int)→(List Int)→Option ((List Int))):Prop:=∀ a1 b2 r,f a1 b2=some r→∀ M nb,ACalls P c [(l_ a1),(l_ b2)] M nb (o_ r) M nb
def Qbaj:List COp:=[ot 4 .mov [.c (.nils 1)]]
def Qbak:List COp:=[oM 5 0,oM 6 1,oo 7 (.call 53) [.t 5,.t 6,.c (.clo 60 [])],ot 4 .mov [.t 7]]
def Qq7:CFn:=⟨2,8,[.t 4],.seq (.region Qbaj 9 []) (.seq (.region Qbak 9 []) (.ret))⟩
def Qd2 (Qb8:(List Int)→(List Int)→(Bool→Bool→Option Bool)→Option ((List Int))) (Qdw:Bool→Bool→Option Bool) (a1:(List Int)) (b2:(List Int)):Option ((List Int)) :=
  ((Qb8 a1 b2 Qdw).bind fun x8=>some x8)
def Qj6 (P:Program) (c:Nat) (f:(List Int)→(List Int)→Option Bool):Prop:=∀ a1 b2 r,f a1 b2=some r→∀ M nb,ACalls P c [(l_ a1),(l_ b2)] M nb (b_ r) M nb
def Q81:List COp:=[oo 4 .mov [.c (.d (.bool false))]]
def Q82:List COp:=[oM 5 0,oM 6 1,oo 7 (.call 30) [.t 5,.t 6],oo 8 .len [.t 7],oo 9 (.bin .eql false) [.t 8,cI 0],oM 4 9]
def Qn0:CFn:=⟨2,10,[.t 4],.seq (.region Q81 9 []) (.seq (.region Q82 9 []) (.ret))⟩
def Qb4 (Qd2:(List Int)→(List Int)→Option ((List Int))) (a1:(List Int)) (b2:(List Int)):Option Bool :=
  ((Qd2 a1 b2).bind fun x4=>some ((x4.length:Int) == 0))
def Qm2 (P:Program) (c:Nat) (f:Bool→Bool→Option Bool):Prop:=∀ inA1 inB2 r,f inA1 inB2=some r→∀ M nb,ACalls P c [(b_ inA1),(b_ inB2)] M nb (b_ r) M nb
def Q7s:List COp:=[oo 4 .mov [.c (.d (.bool false))]]
def Q7t:List COp:=[oM 5 0,oM 6 5,⟨some 7,.mov,[.t 1],false,some (6,false)⟩,oo 8 .pick [.t 6,.c (.d (.bool true)),.t 7],oM 4 8]
def Qm3:CFn:=⟨2,9,[.t 4],.seq (.region Q7s 9 []) (.seq (.region Q7t 9 []) (.ret))⟩
def Qdx (inA1:Bool) (inB2:Bool):Option Bool :=
  (if inA1 then some true else some inB2)
def Qq8 (P:Program) (c:Nat) (f:(List Int)→(List Int)→Option ((List Int))):Prop:=∀ a1 b2 r,f a1 b2=some r→∀ M nb,ACalls P c [(l_ a1),(l_ b2)] M nb (o_ r) M nb
def Qbal:List COp:=[ot 4 .mov [.c (.nils 1)]]
def Qbam:List COp:=[oM 5 0,oM 6 1,oo 7 (.call 53) [.t 5,.t 6,.c (.clo 99 [])],ot 4 .mov [.t 7]]
def Qq9:CFn:=⟨2,8,[.t 4],.seq (.region Qbal 9 []) (.seq (.region Qbam 9 []) (.ret))⟩
def Qd3 (Qb8:(List Int)→(List Int)→(Bool→Bool→Option Bool)→Option ((List Int))) (Qdx:Bool→Bool→Option Bool) (a1:(List Int)) (b2:(List Int)):Option ((List Int)) :=
  ((Qb8 a1 b2 Qdx).bind fun x8=>some x8)
def Qra (P:Program) (c:Nat) (f:(List Qa)→Option ((List Int))):Prop:=∀ l1 r,f l1=some r→∀ M nb,ACalls P c [(Qf l1)] M nb (o_ r) M nb
def Qban:List COp:=[ot 2 .mov [.c (.nils 1)]]
def Qbao:List COp:=[ot 3 .mov [.c (.nils 1)]]
def Qbap:List COp:=[oM 6 0,oo 7 .len [.t 6],oo 8 .mov [cI 0]]
def Qbaq:List COp:=[oo 9 (.bin .lss false) [.t 8,.t 7]]
def Qbar:List COp:=[oo 10 (.idx 4) [.t 6,.t 8],oo 11 (.load true 4) [.t 10],oo 5 (.alloc [.nils 1,.d (.int .i64 0),.nils 1,.nils 3]) [],⟨none,.store 4,[.t 5,.t 11],true,none⟩]
def Qbas:List COp:=[oM 12 3,oF 13 0 5,oL 14 13,oo 15 (.call 88) [.t 12,.t 14],ot 3 .mov [.t 15]]
def Qbat:List COp:=[oo 16 (.bin .add false) [.t 8,cI 1],oM 8 16]
def Qbau:List COp:=[ot 17 .mov [.t 3],ot 2 .mov [.t 17]]
def Qrb:CFn:=⟨1,18,[.t 2],.seq (.region Qban 9 []) (.seq (.region Qbao 9 []) (.seq (.seq (.region Qbap 9 []) (.block 0 (.loop [5] (.seq (.region Qbaq 9 []) (.seq (.cond (.t 9) (.skip) (.exit 0)) (.seq (.block 1 (.seq (.region Qbar 9 []) (.region Qbas 9 []))) (.region Qbat 9 []))))))) (.seq (.region Qbau 9 []) (.ret))))⟩
def Qd4 (Qd3:(List Int)→(List Int)→Option ((List Int))) (fuel:Nat) (l1:(List Qa)):Option ((List Int)) :=
  ((Qcv (fun k4 ((out2,x3):(List Int)×Int)=>(if (x3 < (l1.length:Int)) then ((getO l1 x3).bind fun x6=>((Qd3 out2 x6.zJ).bind fun x9=>k4 (x9,(IntKind.wrap .i64 (x3+1))))) else some out2)) fuel ([],0)).bind fun (out10:List Int)=>some out10)
def Qxb (P:Program) (c:Nat) (f:(List Qa)→Option Qbf):Prop:=∀ l1 r,f l1=some r→∀ M nb,ACalls P c [(Qf l1)] M nb (Qbg r) M nb
def Qbdr:List COp:=[oo 2 (.alloc [.nils 4,.nils 1,.nils 1]) []]
def Qbds:List COp:=[oM 9 0,oM 10 0,oo 11 (.call 61) [.t 10],ot 12 (.build [.nils 4,.nils 1,.nils 1] [(0,1),(1,1)]) [.t 9,.t 11],oo 3 (.alloc [.nils 4,.nils 1,.nils 1]) [],⟨none,.store 3,[.t 3,.t 12],true,none⟩]
def Qbdt:List COp:=[oM 13 0,oo 14 .len [.t 13],oo 15 .mov [cI 0]]
def Qbdu:List COp:=[oo 16 (.bin .lss false) [.t 15,.t 14]]
def Qbdv:List COp:=[oo 17 (.idx 4) [.t 13,.t 15],oo 18 (.load true 4) [.t 17],oo 5 (.alloc [.nils 1,.d (.int .i64 0),.nils 1,.nils 3]) [],⟨none,.store 4,[.t 5,.t 18],true,none⟩]
def Qbdw:List COp:=[oo 19 .mkmap [],oM 6 19]
def Qbdx:List COp:=[oF 20 3 5,oL 21 20,oo 22 .len [.t 21],oo 23 .mov [cI 0]]
def Qbdy:List COp:=[oo 24 (.bin .lss false) [.t 23,.t 22]]
def Qbdz:List COp:=[oo 25 (.idx 3) [.t 21,.t 23],oo 26 (.load true 3) [.t 25],oo 8 (.alloc [.d (.int .i64 0),.d (.int .i64 0),.d (.int .i64 0)]) [],⟨none,.store 3,[.t 8,.t 26],false,none⟩]
def Qbd0:List COp:=[oM 27 6,oF 28 0 8,oL 29 28,oF 30 1 8,oL 31 30,oo 32 (.build [.d (.int .i64 0),.d (.int .i64 0)] [(0,1),(1,1)]) [.t 29,.t 31],oF 33 2 8,oL 34 33,⟨none,.mapset (.st [.int .i64,.int .i64]),[.t 27,.t 32,.t 34],false,none⟩]
def Qbcm:List COp:=[oo 35 (.bin .add false) [.t 23,cI 1],oM 23 35]
def Qbcn:List COp:=[oF 36 2 3,oo 37 .loadT [.t 36],oM 38 6,oo 39 (.bslice 1 1 [.und] [0]) [.t 38],ot 40 (.append 1 8) [.t 37,.t 39],oF 41 2 3,⟨none,.store 1,[.t 41,.t 40],true,none⟩]
def Qbco:List COp:=[oo 42 (.bin .add false) [.t 15,cI 1],oM 15 42]
def Qbcp:List COp:=[oo 43 (.load true 3) [.t 3],⟨none,.store 3,[.t 2,.t 43],true,none⟩]
def Qxc:CFn:=⟨1,44,[.cell 2 true 3],.seq (.region Qbdr 9 []) (.seq (.region Qbds 9 []) (.seq (.seq (.region Qbdt 9 []) (.block 0 (.loop [5,19,8,39] (.seq (.region Qbdu 9 []) (.seq (.cond (.t 16) (.skip) (.exit 0)) (.seq (.block 1 (.seq (.region Qbdv 9 []) (.seq (.region Qbdw 9 []) (.seq (.seq (.region Qbdx 9 []) (.block 2 (.loop [8] (.seq (.region Qbdy 9 []) (.seq (.cond (.t 24) (.skip) (.exit 2)) (.seq (.block 3 (.seq (.region Qbdz 9 []) (.region Qbd0 9 []))) (.region Qbcm 9 []))))))) (.region Qbcn 9 []))))) (.region Qbco 9 []))))))) (.seq (.region Qbcp 9 []) (.ret))))⟩
def Qes (Qd4:(List Qa)→Option ((List Int))) (fuel:Nat) (l1:(List Qa)):Option Qbf :=
  ((Qd4 l1).bind fun x3=>((Qcv (fun k9 ((x4,c5,c6,c7,m8):Int×(List Qa)×(List Int)×(List (List ((Int×Int)×Int)))×(List (List ((Int×Int)×Int))))=>(if (x4 < (l1.length:Int)) then ((((getO l1 x4).bind fun x11=>((Qcv (fun k15 ((x13,c14):Int×(List ((Int×Int)×Int)))=>(if (x13 < (x11.zL.length:Int)) then ((getO x11.zL x13).bind fun x17=>k15 ((IntKind.wrap .i64 (x13+1)),(setM c14 (x17.From,x17.Event) x17.To))) else some c14)) fuel (0,[])).bind fun (c19:List ((Int×Int)×Int))=>((appO m8 [c19]).bind fun x20=>some (x20,x11.zJ,x11.zM,x11.zK,x11.zL,c19))))).bind fun ((m22,a23,a24,a25,a26,c27):(List (List ((Int×Int)×Int)))×(List Int)×Int×(List Int)×(List Qc)×(List ((Int×Int)×Int)))=>k9 ((IntKind.wrap .i64 (x4+1)),c5,c6,c7,m22)) else some (c5,c6,c7,m8))) fuel (0,[],[],[],[])).bind fun ((c28,c29,c30,m31):(List Qa)×(List Int)×(List (List ((Int×Int)×Int)))×(List (List ((Int×Int)×Int))))=>some (Qbf.mk l1 x3 m31)))
def Qgq (P:Program) (c:Nat) (f:Qbf→Option ((List Int)×Bool)):Prop:=∀ m1 r,f m1=some r→∀ M nb,ACalls P c [(Qbg m1)] M nb (.tup [(l_ r.1),(b_ r.2)]) M nb
def Qug:List COp:=[oo 1 (.box 3) [.t 0],ot 2 .mov [.c (.nils 1)],oo 3 .mov [.c (.d (.bool false))]]
def Quh:List COp:=[oF 6 0 1,oL 7 6,oo 8 .len [.t 7],oo 9 .mov [cI 0]]
def Qui:List COp:=[oo 10 (.bin .lss false) [.t 9,.t 8]]
def Quj:List COp:=[oo 11 (.idx 4) [.t 7,.t 9],oo 12 (.load true 4) [.t 11],oo 5 (.alloc [.nils 1,.d (.int .i64 0),.nils 1,.nils 3]) [],⟨none,.store 4,[.t 5,.t 12],true,none⟩]
def Quk:List COp:=[oF 13 1 5,oL 14 13,oo 15 (.bin .eql false) [.t 14,cI 0]]
def Qul:List COp:=[ot 2 .mov [.c (.nils 1)],oo 3 .mov [.c (.d (.bool false))]]
def Qum:List COp:=[oo 16 (.bin .add false) [.t 9,cI 1],oM 9 16]
def Qun:List COp:=[oF 17 0 1,oL 18 17,oo 19 .len [.t 18],oo 20 (.makes 1 8 [.d (.int .i64 0)]) [.t 19,.t 19],ot 2 .mov [.t 20],oo 3 .mov [.c (.d (.bool true))]]
def Qgr:CFn:=⟨1,21,[.t 2,.t 3],.seq (.region Qug 9 []) (.seq (.seq (.region Quh 9 []) (.block 0 (.loop [5] (.seq (.region Qui 9 []) (.seq (.cond (.t 10) (.skip) (.exit 0)) (.seq (.block 1 (.seq (.region Quj 9 []) (.seq (.region Quk 9 []) (.cond (.t 15) (.seq (.region Qul 9 []) (.ret)) (.skip))))) (.region Qum 9 []))))))) (.seq (.region Qun 9 []) (.ret)))⟩
def Qbx (fuel:Nat) (m1:Qbf):Option ((List Int)×Bool) :=
  Qcv (fun k3 (x2:Int)=>(if (x2 < (m1.list_.length:Int)) then ((getO m1.list_ x2).bind fun x5=>(if (x5.zM == 0) then some ([],false) else k3 (IntKind.wrap .i64 (x2+1)))) else ((mkO (m1.list_.length:Int) 0).bind fun x8=>((lenO x8 (Int.toNat (m1.list_.length:Int))).bind fun _=>some (x8,true))))) fuel 0
def K_product_key (P:Program) (c:Nat) (f:(List Int)→Option ByteArray):Prop:=∀ tuple1 r,f tuple1=some r→∀ M nb,ACalls P c [(l_ tuple1)] M nb (.d (.str r)) M nb
def Qhb (P:Program) (c:Nat) (f:Qbf→(List Int)→Option Bool):Prop:=∀ m1 tuple2 r,f m1 tuple2=some r→∀ M nb,ACalls P c [(Qbg m1),(l_ tuple2)] M nb (b_ r) M nb
def Qvb:List COp:=[oo 2 (.box 3) [.t 0],oo 4 .mov [.c (.d (.bool false))]]
def Qvc:List COp:=[oF 7 0 2,oL 8 7,oo 9 .len [.t 8],oo 10 .mov [cI 0]]
def Qvd:List COp:=[oo 11 (.bin .lss false) [.t 10,.t 9]]
def Qve:List COp:=[oM 12 10,oo 13 (.idx 4) [.t 8,.t 10],oo 14 (.load true 4) [.t 13],oo 6 (.alloc [.nils 1,.d (.int .i64 0),.nils 1,.nils 3]) [],oM 5 12,⟨none,.store 4,[.t 6,.t 14],true,none⟩]
def Qvf:List COp:=[oF 15 2 6,oL 16 15,oM 17 1,oM 18 5,oo 19 (.idx 1) [.t 17,.t 18],oL 20 19,oo 21 (.call 29) [.t 16,.t 20],oo 22 (.un .not) [.t 21]]
def Qvg:List COp:=[oo 4 .mov [.c (.d (.bool false))]]
def Qvh:List COp:=[oo 23 (.bin .add false) [.t 10,cI 1],oM 10 23]
def Qvi:List COp:=[oo 4 .mov [.c (.d (.bool true))]]
def Qhc:CFn:=⟨2,24,[.t 4],.seq (.region Qvb 9 []) (.seq (.seq (.region Qvc 9 []) (.block 0 (.loop [6] (.seq (.region Qvd 9 []) (.seq (.cond (.t 11) (.skip) (.exit 0)) (.seq (.block 1 (.seq (.region Qve 9 []) (.seq (.region Qvf 0 []) (.cond (.t 22) (.seq (.region Qvg 9 []) (.ret)) (.skip))))) (.region Qvh 9 []))))))) (.seq (.region Qvi 9 []) (.ret)))⟩
def Qb5 (Qi:(List Int)→Int→Option Bool) (fuel:Nat) (m1:Qbf) (tuple2:(List Int)):Option Bool :=
  Qcv (fun k4 (x3:Int)=>(if (x3 < (m1.list_.length:Int)) then ((getO m1.list_ x3).bind fun x6=>((getO tuple2 x3).bind fun x8=>((Qi x6.zK x8).bind fun x11=>(if x11 then k4 (IntKind.wrap .i64 (x3+1)) else some false)))) else some true)) fuel 0
def Qiy (P:Program) (c:Nat) (f:Qbf→(List Int)→Int→Option ((List Int)×Bool)):Prop:=∀ m1 tuple2 event3 r,f m1 tuple2 event3=some r→∀ M nb,ACalls P c [(Qbg m1),(l_ tuple2),(i_ event3)] M nb (.tup [(l_ r.1),(b_ r.2)]) M nb
def Qy8:List COp:=[oo 3 (.box 3) [.t 0],ot 6 .mov [.c (.nils 1)],oo 7 .mov [.c (.d (.bool false))]]
def Qy9:List COp:=[oM 13 1,oo 14 (.call 56) [.t 13],ot 8 .mov [.t 14]]
def Qza:List COp:=[oF 15 0 3,oL 16 15,oo 17 .len [.t 16],oo 18 .mov [cI 0]]
def Qzb:List COp:=[oo 19 (.bin .lss false) [.t 18,.t 17]]
def Qzc:List COp:=[oM 20 18,oo 21 (.idx 4) [.t 16,.t 18],oo 22 (.load true 4) [.t 21],oo 10 (.alloc [.nils 1,.d (.int .i64 0),.nils 1,.nils 3]) [],oM 9 20,⟨none,.store 4,[.t 10,.t 22],true,none⟩]
def Qzd:List COp:=[oF 23 0 10,oL 24 23,oM 25 2,oo 26 (.call 29) [.t 24,.t 25],oo 27 (.un .not) [.t 26]]
def Qze:List COp:=[oF 29 2 3,oL 30 29,oM 31 9,oo 32 (.idx 1) [.t 30,.t 31],oL 33 32,oM 34 1,oM 35 9,oo 36 (.idx 1) [.t 34,.t 35],oL 37 36,oM 38 2,oo 39 (.build [.d (.int .i64 0),.d (.int .i64 0)] [(0,1),(1,1)]) [.t 37,.t 38],oo 40 (.lookup (.st [.int .i64,.int .i64]) true (.d (.int .i64 0))) [.t 33,.t 39],oM 28 40,oo 41 (.extract 0) [.t 28],oo 42 (.extract 1) [.t 28],oM 11 41,oM 12 42]
def Qzf:List COp:=[oM 43 12,oo 44 (.un .not) [.t 43]]
def Qzg:List COp:=[ot 6 .mov [.c (.nils 1)],oo 7 .mov [.c (.d (.bool false))]]
def Qzh:List COp:=[oM 45 8,oM 46 9,oM 47 11,oo 48 (.idx 1) [.t 45,.t 46],⟨none,.store 1,[.t 48,.t 47],false,none⟩]
def Qxd:List COp:=[oo 49 (.bin .add false) [.t 18,cI 1],oM 18 49]
def Qxe:List COp:=[ot 50 .mov [.t 8],ot 6 .mov [.t 50],oo 7 .mov [.c (.d (.bool true))]]
def Qiz:CFn:=⟨3,51,[.t 6,.t 7],.seq (.region Qy8 9 []) (.seq (.region Qy9 9 []) (.seq (.seq (.region Qza 9 []) (.block 0 (.loop [10] (.seq (.region Qzb 9 []) (.seq (.cond (.t 19) (.skip) (.exit 0)) (.seq (.block 1 (.seq (.region Qzc 9 []) (.seq (.seq (.region Qzd 9 []) (.cond (.t 27) (.exit 1) (.skip))) (.seq (.region Qze 0 []) (.seq (.seq (.region Qzf 9 []) (.cond (.t 44) (.seq (.region Qzg 9 []) (.ret)) (.skip))) (.region Qzh 9 [])))))) (.region Qxd 9 []))))))) (.seq (.region Qxe 9 []) (.ret))))⟩
def Qci (Qi:(List Int)→Int→Option Bool) (Qbr:(List Int)→Option ((List Int))) (fuel:Nat) (m1:Qbf) (tuple2:(List Int)) (event3:Int):Option ((List Int)×Bool) :=
  ((Qbr tuple2).bind fun x5=>((neO x5).bind fun _=>Qcv (fun k12 ((x10,next11):Int×(List Int))=>(if (x10 < (m1.list_.length:Int)) then letJ (fun ((next28,a29,a30,a31,a32):(List Int)×(List Int)×Int×(List Int)×(List Qc))=>k12 ((IntKind.wrap .i64 (x10+1)),next28)) fun J33=>((getO m1.list_ x10).bind fun x14=>((Qi x14.zJ event3).bind fun x17=>(if x17 then ((getO m1.edges_ x10).bind fun x19=>((getO tuple2 x10).bind fun x21=>(if (hasM x19 (x21,event3)) then ((inO x5.length x10).bind fun u24=>((setO next11 x10 (getM x19 (x21,event3) 0)).bind fun next26=>J33 (next26,x14.zJ,x14.zM,x14.zK,x14.zL))) else some ([],false)))) else J33 (next11,x14.zJ,x14.zM,x14.zK,x14.zL)))) else ((lenO next11 x5.length).bind fun _=>some (next11,true)))) fuel (0,x5)))
def Qgf (P:Program) (c:Nat) (f:(List Qa)→Option (Qa×(List (List Int))×Int)):Prop:=∀ l1 r,f l1=some r→∀ M nb,ACalls P c [(Qf l1)] M nb (.tup [(Qb r.1),.own 1 (List.map (eL 1 (eI .i64)) r.2.1),(i_ r.2.2)]) M nb
def Q14:List COp:=[oo 2 (.alloc [.nils 1,.d (.int .i64 0),.nils 1,.nils 3]) [],ot 3 .mov [.c (.nils 1)],oo 4 .mov [cI 0]]
def Q15:List COp:=[oM 17 0,oo 18 (.call 26) [.t 17],oM 5 18]
def Q16:List COp:=[oM 19 5,oo 20 (.bin .neq false) [.t 19,cI 0]]
def Q17:List COp:=[oo 21 (.build [.nils 1,.d (.int .i64 0),.nils 1,.nils 3] []) [],oM 22 5,⟨none,.store 4,[.t 2,.t 21],true,none⟩,ot 3 .mov [.c (.nils 1)],oM 4 22]
def Q18:List COp:=[oM 23 0,oo 24 (.call 31) [.t 23],oo 6 (.alloc [.nils 4,.nils 1,.nils 1]) [],⟨none,.store 3,[.t 6,.t 24],true,none⟩]
def Q19:List COp:=[oF 25 1 6,oL 26 25,oF 27 0 2,⟨none,.store 1,[.t 27,.t 26],true,none⟩]
def Q2a:List COp:=[oo 29 (.load true 3) [.t 6],oo 30 (.call 32) [.t 29],oM 28 30,ot 31 (.extract 0) [.t 28],oo 32 (.extract 1) [.t 28],ot 7 .mov [.t 31],oM 8 32]
def Q2b:List COp:=[oM 33 8,oo 34 (.un .not) [.t 33]]
def Q2c:List COp:=[oo 35 (.load true 4) [.t 2],⟨none,.store 4,[.t 2,.t 35],true,none⟩,ot 3 .mov [.c (.nils 1)],oo 4 .mov [cI 0]]
def Q2d:List COp:=[oM 36 7,oo 37 (.bslice 1 1 [.nils 1] [0]) [.t 36],ot 3 .mov [.t 37]]
def Qzi:List COp:=[oo 38 .mkmap [],oM 39 7,oo 40 (.call 33) [.t 39],⟨none,.mapset .str,[.t 38,.t 40,cI 0],false,none⟩,oM 41 38,oM 9 41]
def Qzj:List COp:=[oo 10 .mov [cI 0]]
def Qzk:List COp:=[oM 42 10,oM 43 3,oo 44 .len [.t 43],oo 45 (.bin .lss false) [.t 42,.t 44]]
def Qzl:List COp:=[oo 48 (.load true 3) [.t 6],oM 49 3,oM 50 10,oo 51 (.idx 1) [.t 49,.t 50],oL 52 51,oo 53 (.call 34) [.t 48,.t 52]]
def Qzm:List COp:=[oF 54 2 2,oo 55 .loadT [.t 54],oM 56 10,oo 57 (.bslice 1 1 [.d (.int .i64 0)] [0]) [.t 56],ot 58 (.append 1 8) [.t 55,.t 57],oF 59 2 2,⟨none,.store 1,[.t 59,.t 58],true,none⟩]
def Qzn:List COp:=[oF 60 1 6,oL 61 60,oo 62 .len [.t 61],oo 63 .mov [cI 0]]
def Qzo:List COp:=[oo 64 (.bin .lss false) [.t 63,.t 62]]
def Qzp:List COp:=[oo 65 (.idx 1) [.t 61,.t 63],oL 66 65,oM 12 66]
def Qzq:List COp:=[oo 68 (.load true 3) [.t 6],oM 69 3,oM 70 10,oo 71 (.idx 1) [.t 69,.t 70],oL 72 71,oM 73 12,oo 74 (.call 35) [.t 68,.t 72,.t 73],oM 67 74,ot 75 (.extract 0) [.t 67],oo 76 (.extract 1) [.t 67],ot 13 .mov [.t 75],oM 14 76]
def Qzr:List COp:=[oM 77 14,oo 78 (.un .not) [.t 77]]
def Qzs:List COp:=[oM 80 9,oM 81 13,oo 82 (.call 33) [.t 81],oo 83 (.lookup .str true (.d (.int .i64 0))) [.t 80,.t 82],oM 79 83,oo 84 (.extract 0) [.t 79],oo 85 (.extract 1) [.t 79],oM 15 84,oM 16 85]
def Qzt:List COp:=[oM 86 16,oo 87 (.un .not) [.t 86]]
def Qzu:List COp:=[oM 88 3,oo 89 .len [.t 88],oo 90 (.bin .eql false) [.t 89,cI 4096]]
def Qzv:List COp:=[oo 91 (.build [.nils 1,.d (.int .i64 0),.nils 1,.nils 3] []) [],⟨none,.store 4,[.t 2,.t 91],true,none⟩,ot 3 .mov [.c (.nils 1)],oo 4 .mov [cI 3]]
def Qzw:List COp:=[oM 92 3,oo 93 .len [.t 92],oM 15 93]
def Qzx:List COp:=[oM 94 9,oM 95 13,oo 96 (.call 33) [.t 95],oM 97 15,⟨none,.mapset .str,[.t 94,.t 96,.t 97],false,none⟩]
def Qzy:List COp:=[ot 98 .mov [.t 3],oM 99 13,oo 100 (.bslice 1 1 [.nils 1] [0]) [.t 99],ot 101 (.append 1 24) [.t 98,.t 100],ot 3 .mov [.t 101]]
def Qzz:List COp:=[oF 102 3 2,oo 103 .loadT [.t 102],oM 104 10,oM 105 12,oM 106 15,oo 107 (.build [.d (.int .i64 0),.d (.int .i64 0),.d (.int .i64 0)] [(0,1),(1,1),(2,1)]) [.t 104,.t 105,.t 106],oo 108 (.bslice 3 1 [.d (.int .i64 0),.d (.int .i64 0),.d (.int .i64 0)] [0]) [.t 107],ot 109 (.append 3 24) [.t 103,.t 108],oF 110 3 2,⟨none,.store 1,[.t 110,.t 109],true,none⟩]
def Qz0:List COp:=[oo 111 (.bin .add false) [.t 63,cI 1],oM 63 111]
def Qz1:List COp:=[oM 46 10,oo 47 (.bin .add false) [.t 46,cI 1],oM 10 47]
def Qz2:List COp:=[oM 112 3,oo 113 .len [.t 112],oF 114 1 2,⟨none,.store 1,[.t 114,.t 113],false,none⟩]
def Qz3:List COp:=[oo 115 (.load true 4) [.t 2],ot 116 .mov [.t 3],⟨none,.store 4,[.t 2,.t 115],true,none⟩,ot 3 .mov [.t 116],oo 4 .mov [cI 0]]
def Qjy:CFn:=⟨1,117,[.cell 2 true 4,.t 3,.t 4],.seq (.region Q14 9 []) (.seq (.seq (.region Q15 9 []) (.seq (.region Q16 9 []) (.cond (.t 20) (.seq (.region Q17 9 []) (.ret)) (.skip)))) (.seq (.region Q18 9 []) (.seq (.region Q19 9 []) (.seq (.region Q2a 9 []) (.seq (.seq (.region Q2b 9 []) (.cond (.t 34) (.seq (.region Q2c 9 []) (.ret)) (.skip))) (.seq (.region Q2d 9 []) (.seq (.region Qzi 9 []) (.seq (.seq (.region Qzj 9 []) (.block 0 (.loop [57,100,108] (.seq (.seq (.region Qzk 9 []) (.cond (.t 45) (.skip) (.exit 0))) (.seq (.block 1 (.seq (.seq (.region Qzl 0 []) (.cond (.t 53) (.region Qzm 9 []) (.skip))) (.seq (.region Qzn 9 []) (.block 2 (.loop [100,108] (.seq (.region Qzo 9 []) (.seq (.cond (.t 64) (.skip) (.exit 2)) (.seq (.block 3 (.seq (.region Qzp 9 []) (.seq (.region Qzq 0 []) (.seq (.seq (.region Qzr 9 []) (.cond (.t 78) (.exit 3) (.skip))) (.seq (.region Qzs 9 []) (.seq (.seq (.region Qzt 9 []) (.cond (.t 87) (.seq (.seq (.region Qzu 9 []) (.cond (.t 90) (.seq (.region Qzv 9 []) (.ret)) (.skip))) (.seq (.region Qzw 9 []) (.seq (.region Qzx 9 []) (.region Qzy 9 [])))) (.skip))) (.region Qzz 9 []))))))) (.region Qz0 9 []))))))))) (.region Qz1 9 [])))))) (.seq (.region Qz2 9 []) (.seq (.region Qz3 9 []) (.ret)))))))))))⟩
def Q2 (Qcs:(List Qa)→Option Int) (Qes:(List Qa)→Option Qbf) (Qbx:Qbf→Option ((List Int)×Bool)) (f_product_key:(List Int)→Option ByteArray) (Qb5:Qbf→(List Int)→Option Bool) (Qci:Qbf→(List Int)→Int→Option ((List Int)×Bool)) (fuel:Nat) (l1:(List Qa)):Option (Qa×(List (List Int))×Int) :=
  ((Qcs l1).bind fun x3=>(if (x3 != 0) then some ((Qa.mk [] 0 [] []),[],x3) else ((Qes l1).bind fun x6=>((Qbx x6).bind fun (r8,r9)=>(if r9 then ((f_product_key r8).bind fun x12=>Qcv (fun k18 ((tuples13,i14,a15,a16,c17):(List (List Int))×Int×(List Int)×(List Qc)×(List (ByteArray×Int)))=>(if (i14 < (tuples13.length:Int)) then ((((getO tuples13 i14).bind fun x20=>((Qb5 x6 x20).bind fun x23=>(if x23 then ((appO a15 [i14]).bind fun x25=>some x25) else some a15)))).bind fun (a27:List Int)=>Qcv (fun k32 ((tuples28,x29,a30,c31):(List (List Int))×Int×(List Qc)×(List (ByteArray×Int)))=>(if (x29 < (x6.events_.length:Int)) then letJ (fun ((tuples56,a57,c58):(List (List Int))×(List Qc)×(List (ByteArray×Int)))=>k32 (tuples56,(IntKind.wrap .i64 (x29+1)),a57,c58)) fun J59=>((getO x6.events_ x29).bind fun x34=>((getO tuples28 i14).bind fun x36=>((Qci x6 x36 x34).bind fun (r39,r40)=>(if r40 then ((f_product_key r39).bind fun x43=>letJ (fun ((tuples50,to51,c52):(List (List Int))×Int×(List (ByteArray×Int)))=>((appO a30 [(Qc.mk i14 x34 to51)]).bind fun x53=>J59 (tuples50,x53,c52))) fun J55=>(if (hasM c31 x43) then J55 (tuples28,(getM c31 x43 0),c31) else (if ((tuples28.length:Int) == 4096) then some ((Qa.mk [] 0 [] []),[],3) else ((f_product_key r39).bind fun x47=>((appO tuples28 [r39]).bind fun x48=>J55 (x48,(tuples28.length:Int),(setM c31 x47 (tuples28.length:Int)))))))) else J59 (tuples28,a30,c31))))) else k18 (tuples28,(IntKind.wrap .i64 (i14+1)),a27,a30,c31))) fuel (tuples13,0,a16,c17)) else some ((Qa.mk x6.events_ (tuples13.length:Int) a15 a16),tuples13,0))) fuel ([r8],0,[],[],(setM ([]:List (ByteArray×Int)) x12 0))) else some ((Qa.mk x6.events_ 0 [] []),[],0))))))
def Qi0 (P:Program) (c:Nat) (f:Qa→Option ((List ((Int×Int)×Int)))):Prop:=∀ a1 r,f a1=some r→∀ M nb,ACalls P c [(Qb a1)] M nb (.d (mq0 r)) M nb
def Qz4:List COp:=[oo 1 (.box 4) [.t 0],oo 2 .mov [.c (.und)]]
def Qz5:List COp:=[oo 6 .mkmap [],oM 3 6]
def Qz6:List COp:=[oF 7 3 1,oL 8 7,oo 9 .len [.t 8],oo 10 .mov [cI 0]]
def Qz7:List COp:=[oo 11 (.bin .lss false) [.t 10,.t 9]]
def Qz8:List COp:=[oo 12 (.idx 3) [.t 8,.t 10],oo 13 (.load true 3) [.t 12],oo 5 (.alloc [.d (.int .i64 0),.d (.int .i64 0),.d (.int .i64 0)]) [],⟨none,.store 3,[.t 5,.t 13],false,none⟩]
def Qz9:List COp:=[oM 14 3,oF 15 0 5,oL 16 15,oF 17 1 5,oL 18 17,oo 19 (.build [.d (.int .i64 0),.d (.int .i64 0)] [(0,1),(1,1)]) [.t 16,.t 18],oF 20 2 5,oL 21 20,⟨none,.mapset (.st [.int .i64,.int .i64]),[.t 14,.t 19,.t 21],false,none⟩]
def Q0a:List COp:=[oo 22 (.bin .add false) [.t 10,cI 1],oM 10 22]
def Q0b:List COp:=[oM 23 3,oM 2 23]
def Qi1:CFn:=⟨1,24,[.t 2],.seq (.region Qz4 9 []) (.seq (.region Qz5 9 []) (.seq (.seq (.region Qz6 9 []) (.block 0 (.loop [5] (.seq (.region Qz7 9 []) (.seq (.cond (.t 11) (.skip) (.exit 0)) (.seq (.block 1 (.seq (.region Qz8 9 []) (.region Qz9 9 []))) (.region Q0a 9 []))))))) (.seq (.region Q0b 9 []) (.ret))))⟩
def Qb7 (fuel:Nat) (a1:Qa):Option ((List ((Int×Int)×Int))) :=
  ((Qcv (fun k4 ((x2,c3):Int×(List ((Int×Int)×Int)))=>(if (x2 < (a1.zL.length:Int)) then ((getO a1.zL x2).bind fun x6=>k4 ((IntKind.wrap .i64 (x2+1)),(setM c3 (x6.From,x6.Event) x6.To))) else some c3)) fuel (0,[])).bind fun (c8:List ((Int×Int)×Int))=>some c8)
def Qgs (P:Program) (c:Nat) (f:Qa→(List Qa)→(List Int)→Int→Option (Qa×(List Int)×Int)):Prop:=∀ plant1 requirements2 uncontrollable3 tick4 r,f plant1 requirements2 uncontrollable3 tick4=some r→∀ M nb,ACalls P c [(Qb plant1),(Qf requirements2),(l_ uncontrollable3),(i_ tick4)] M nb (.tup [(Qb r.1),(l_ r.2.1),(i_ r.2.2)]) M nb
def Quo:List COp:=[oo 4 (.box 4) [.t 0],oo 8 (.alloc [.nils 1,.d (.int .i64 0),.nils 1,.nils 3]) [],ot 9 .mov [.c (.nils 1)],oo 10 .mov [cI 0]]
def Qup:List COp:=[oo 28 (.load true 4) [.t 4],oo 29 (.bslice 4 1 [.nils 1,.d (.int .i64 0),.nils 1,.nils 3] [0]) [.t 28],oM 30 1,ot 31 (.append 4 80) [.t 29,.t 30],ot 11 .mov [.t 31]]
def Quq:List COp:=[oM 32 11,oo 33 (.call 26) [.t 32],oM 12 33]
def Qur:List COp:=[oM 34 12,oo 35 (.bin .neq false) [.t 34,cI 0]]
def Qus:List COp:=[oo 36 (.build [.nils 1,.d (.int .i64 0),.nils 1,.nils 3] []) [],oM 37 12,⟨none,.store 4,[.t 8,.t 36],true,none⟩,ot 9 .mov [.c (.nils 1)],oM 10 37]
def Qut:List COp:=[oM 38 1,oo 39 .len [.t 38],oo 40 .mov [cI 0]]
def Quu:List COp:=[oo 41 (.bin .lss false) [.t 40,.t 39]]
def Quv:List COp:=[oo 42 (.idx 4) [.t 38,.t 40],oo 43 (.load true 4) [.t 42],oo 14 (.alloc [.nils 1,.d (.int .i64 0),.nils 1,.nils 3]) [],⟨none,.store 4,[.t 14,.t 43],true,none⟩]
def Quw:List COp:=[oF 44 0 14,oL 45 44,oF 46 0 4,oL 47 46,oo 48 (.call 8) [.t 45,.t 47],oo 49 (.un .not) [.t 48]]
def Qux:List COp:=[oo 50 (.build [.nils 1,.d (.int .i64 0),.nils 1,.nils 3] []) [],⟨none,.store 4,[.t 8,.t 50],true,none⟩,ot 9 .mov [.c (.nils 1)],oo 10 .mov [cI 9]]
def Qr9:List COp:=[oo 51 (.bin .add false) [.t 40,cI 1],oM 40 51]
def Qsa:List COp:=[oM 52 2,oo 53 (.call 9) [.t 52,cI 32],oM 15 53]
def Qsb:List COp:=[oM 54 15,oo 55 (.bin .neq false) [.t 54,cI 0]]
def Qsc:List COp:=[oo 56 (.build [.nils 1,.d (.int .i64 0),.nils 1,.nils 3] []) [],oM 57 15,⟨none,.store 4,[.t 8,.t 56],true,none⟩,ot 9 .mov [.c (.nils 1)],oM 10 57]
def Qsd:List COp:=[oM 58 3,oo 59 (.call 27) [.t 58],oo 60 (.un .not) [.t 59]]
def Qse:List COp:=[oo 61 (.build [.nils 1,.d (.int .i64 0),.nils 1,.nils 3] []) [],⟨none,.store 4,[.t 8,.t 61],true,none⟩,ot 9 .mov [.c (.nils 1)],oo 10 .mov [cI 2]]
def Qsf:List COp:=[oM 63 11,oo 64 (.call 11) [.t 63],oM 62 64,oo 65 (.extract 0) [.t 62],ot 66 (.extract 1) [.t 62],oo 67 (.extract 2) [.t 62],⟨none,.store 4,[.t 8,.t 65],true,none⟩,ot 16 .mov [.t 66],oM 10 67]
def Qsg:List COp:=[oM 68 10,oo 69 (.bin .neq false) [.t 68,cI 0],oM 70 69,⟨some 71,.fld 1,[.t 8],false,some (70,false)⟩,⟨some 72,.load false 1,[.t 71],false,some (70,false)⟩,⟨some 73,.bin .eql false,[.t 72,cI 4096],false,some (70,false)⟩,oo 74 .pick [.t 70,.c (.d (.bool true)),.t 73]]
def Qsh:List COp:=[oo 75 (.build [.nils 1,.d (.int .i64 0),.nils 1,.nils 3] []) [],⟨none,.store 4,[.t 8,.t 75],true,none⟩,ot 9 .mov [.c (.nils 1)],oo 10 .mov [cI 3]]
def Qsi:List COp:=[oo 76 (.load true 4) [.t 4],oo 77 (.call 28) [.t 76],oo 78 (.load true 4) [.t 8],oo 79 (.call 28) [.t 78],oM 17 77,oM 18 79]
def Qsj:List COp:=[oF 80 1 8,oL 81 80,oM 19 81]
def Qsk:List COp:=[oF 82 1 8,oL 83 82,oo 84 (.bin .add false) [.t 83,cI 1],oF 85 1 8,⟨none,.store 1,[.t 85,.t 84],false,none⟩]
def Qsl:List COp:=[oF 86 3 8,⟨none,.store 1,[.t 86,.c (.nils 3)],false,none⟩]
def Qsm:List COp:=[oM 87 16,oo 88 .len [.t 87],oo 89 .mov [cI 0]]
def Qsn:List COp:=[oo 90 (.bin .lss false) [.t 89,.t 88]]
def Qso:List COp:=[oM 91 89,oo 92 (.idx 1) [.t 87,.t 89],oL 93 92,oM 20 91,ot 21 .mov [.t 93]]
def Qsp:List COp:=[oF 94 0 8,oL 95 94,oo 96 .len [.t 95],oo 97 .mov [cI 0]]
def Qsq:List COp:=[oo 98 (.bin .lss false) [.t 97,.t 96]]
def Qsr:List COp:=[oo 99 (.idx 1) [.t 95,.t 97],oL 100 99,oM 23 100]
def Qss:List COp:=[oM 102 18,oM 103 20,oM 104 23,oo 105 (.build [.d (.int .i64 0),.d (.int .i64 0)] [(0,1),(1,1)]) [.t 103,.t 104],oo 106 (.lookup (.st [.int .i64,.int .i64]) true (.d (.int .i64 0))) [.t 102,.t 105],oM 101 106,oo 107 (.extract 0) [.t 101],oo 108 (.extract 1) [.t 101],oM 24 107,oM 25 108]
def Qst:List COp:=[oM 109 25]
def Qsu:List COp:=[oF 110 3 8,oo 111 .loadT [.t 110],oM 112 20,oM 113 23,oM 114 24,oo 115 (.build [.d (.int .i64 0),.d (.int .i64 0),.d (.int .i64 0)] [(0,1),(1,1),(2,1)]) [.t 112,.t 113,.t 114],oo 116 (.bslice 3 1 [.d (.int .i64 0),.d (.int .i64 0),.d (.int .i64 0)] [0]) [.t 115],ot 117 (.append 3 24) [.t 111,.t 116],oF 118 3 8,⟨none,.store 1,[.t 118,.t 117],true,none⟩]
def Qsv:List COp:=[oM 120 17,oM 121 21,oo 122 (.idx 1) [.t 121,cI 0],oL 123 122,oM 124 23,oo 125 (.build [.d (.int .i64 0),.d (.int .i64 0)] [(0,1),(1,1)]) [.t 123,.t 124],oo 126 (.lookup (.st [.int .i64,.int .i64]) true (.d (.int .i64 0))) [.t 120,.t 125],oM 119 126,oo 127 (.extract 0) [.t 119],oo 128 (.extract 1) [.t 119],oM 26 127,oM 27 128]
def Qsw:List COp:=[oM 129 27,oM 130 129,⟨some 131,.mov,[.t 23],false,some (130,true)⟩,⟨some 132,.mov,[.t 3],false,some (130,true)⟩,⟨some 133,.bin .eql false,[.t 131,.t 132],false,some (130,true)⟩,⟨some 134,.mov,[.t 133],false,some (130,true)⟩,⟨some 135,.mov,[.t 2],false,some (134,false)⟩,⟨some 136,.mov,[.t 23],false,some (134,false)⟩,⟨some 137,.call 29,[.t 135,.t 136],false,some (134,false)⟩,⟨some 138,.pick,[.t 134,.c (.d (.bool true)),.t 137],false,some (130,true)⟩,oo 139 .pick [.t 130,.t 138,.c (.d (.bool false))]]
def Qsx:List COp:=[oF 140 3 8,oo 141 .loadT [.t 140],oM 142 20,oM 143 23,oM 144 19,oo 145 (.build [.d (.int .i64 0),.d (.int .i64 0),.d (.int .i64 0)] [(0,1),(1,1),(2,1)]) [.t 142,.t 143,.t 144],oo 146 (.bslice 3 1 [.d (.int .i64 0),.d (.int .i64 0),.d (.int .i64 0)] [0]) [.t 145],ot 147 (.append 3 24) [.t 141,.t 146],oF 148 3 8,⟨none,.store 1,[.t 148,.t 147],true,none⟩]
def Qsy:List COp:=[oo 149 (.bin .add false) [.t 97,cI 1],oM 97 149]
def Qsz:List COp:=[oo 150 (.bin .add false) [.t 89,cI 1],oM 89 150]
def Qs0:List COp:=[oo 151 (.load true 4) [.t 8],oM 152 19,oo 153 (.bslice 1 1 [.d (.int .i64 0)] [0]) [.t 152],⟨none,.store 4,[.t 8,.t 151],true,none⟩,ot 9 .mov [.t 153],oo 10 .mov [cI 0]]
def Qgt:CFn:=⟨4,154,[.cell 8 true 4,.t 9,.t 10],.seq (.region Quo 9 []) (.seq (.region Qup 9 []) (.seq (.seq (.region Quq 9 []) (.seq (.region Qur 9 []) (.cond (.t 35) (.seq (.region Qus 9 []) (.ret)) (.skip)))) (.seq (.seq (.region Qut 9 []) (.block 0 (.loop [14] (.seq (.region Quu 9 []) (.seq (.cond (.t 41) (.skip) (.exit 0)) (.seq (.block 1 (.seq (.region Quv 9 []) (.seq (.region Quw 9 []) (.cond (.t 49) (.seq (.region Qux 9 []) (.ret)) (.skip))))) (.region Qr9 9 []))))))) (.seq (.seq (.region Qsa 9 []) (.seq (.region Qsb 9 []) (.cond (.t 55) (.seq (.region Qsc 9 []) (.ret)) (.skip)))) (.seq (.seq (.region Qsd 9 []) (.cond (.t 60) (.seq (.region Qse 9 []) (.ret)) (.skip))) (.seq (.region Qsf 9 []) (.seq (.seq (.region Qsg 9 []) (.cond (.t 74) (.seq (.region Qsh 9 []) (.ret)) (.skip))) (.seq (.region Qsi 604462909807314587353098 []) (.seq (.region Qsj 9 []) (.seq (.region Qsk 9 []) (.seq (.region Qsl 9 []) (.seq (.seq (.region Qsm 9 []) (.block 2 (.loop [116,146] (.seq (.region Qsn 9 []) (.seq (.cond (.t 90) (.skip) (.exit 2)) (.seq (.block 3 (.seq (.region Qso 9 []) (.seq (.region Qsp 9 []) (.block 4 (.loop [116,146] (.seq (.region Qsq 9 []) (.seq (.cond (.t 98) (.skip) (.exit 4)) (.seq (.block 5 (.seq (.region Qsr 9 []) (.seq (.region Qss 9 []) (.seq (.region Qst 9 []) (.cond (.t 109) (.region Qsu 9 []) (.seq (.region Qsv 9 []) (.seq (.region Qsw 9 []) (.cond (.t 139) (.region Qsx 9 []) (.skip))))))))) (.region Qsy 9 []))))))))) (.region Qsz 9 []))))))) (.seq (.region Qs0 9 []) (.ret))))))))))))))⟩
def Qby (Qb4:(List Int)→(List Int)→Option Bool) (Qy:(List Int)→Int→Option Int) (Q2:(List Qa)→Option (Qa×(List (List Int))×Int)) (Qcs:(List Qa)→Option Int) (Qt:Int→Option Bool) (Qb7:Qa→Option ((List ((Int×Int)×Int)))) (Qi:(List Int)→Int→Option Bool) (fuel:Nat) (plant1:Qa) (requirements2:(List Qa)) (uncontrollable3:(List Int)) (tick4:Int):Option (Qa×(List Int)×Int) :=
  ((appO [plant1] requirements2).bind fun x5=>((Qcs x5).bind fun x8=>(if (x8 != 0) then some ((Qa.mk [] 0 [] []),[],x8) else Qcv (fun k11 (x10:Int)=>(if (x10 < (requirements2.length:Int)) then ((getO requirements2 x10).bind fun x13=>((Qb4 x13.zJ plant1.zJ).bind fun x16=>(if x16 then k11 (IntKind.wrap .i64 (x10+1)) else some ((Qa.mk [] 0 [] []),[],9)))) else ((Qy uncontrollable3 32).bind fun x19=>(if (x19 != 0) then some ((Qa.mk [] 0 [] []),[],x19) else ((Qt tick4).bind fun x22=>(if x22 then ((Q2 x5).bind fun (r25,r26,r27)=>(((if (r27 != 0) then some true else some (r25.zM == 4096))).bind fun (x29:Bool)=>(if x29 then some ((Qa.mk [] 0 [] []),[],3) else ((Qb7 plant1).bind fun x32=>((Qb7 r25).bind fun x34=>((Qcv (fun k38 ((x35,a36,a37):Int×Int×(List Qc))=>(if (x35 < (r26.length:Int)) then ((((getO r26 x35).bind fun x40=>Qcv (fun k44 ((x42,a43):Int×(List Qc))=>(if (x42 < (r25.zJ.length:Int)) then ((((getO r25.zJ x42).bind fun x46=>(if (hasM x34 (x35,x46)) then ((appO a43 [(Qc.mk x35 x46 (getM x34 (x35,x46) 0))]).bind fun x49=>some x49) else ((getO x40 0).bind fun x51=>(((if (hasM x32 (x51,x46)) then (if (x46 == tick4) then some true else ((Qi uncontrollable3 x46).bind fun x56=>some x56)) else some false)).bind fun (x57:Bool)=>(if x57 then ((appO a43 [(Qc.mk x35 x46 r25.zM)]).bind fun x59=>some x59) else some a43)))))).bind fun (a61:List Qc)=>k44 ((IntKind.wrap .i64 (x42+1)),a61)) else some a43)) fuel (0,a37))).bind fun (a62:List Qc)=>k38 ((IntKind.wrap .i64 (x35+1)),a36,a62)) else some (a36,a37))) fuel (0,(IntKind.wrap .i64 (r25.zM+1)),[])).bind fun ((a63,a64):Int×(List Qc))=>some ((Qa.mk r25.zJ a63 r25.zK a64),[r25.zM],0))))))) else some ((Qa.mk [] 0 [] []),[],2))))))) fuel 0)))
def Qli (P:Program) (c:Nat) (f:(List Qc)→(List Qc)→Option Bool):Prop:=∀ s1 s2 r,f s1 s2=some r→∀ M nb,ACalls P c [(Qe s1),(Qe s2)] M nb (b_ r) M nb
def Q5i:List COp:=[oo 4 .mov [.c (.d (.bool false))]]
def Q5j:List COp:=[oM 6 0,oo 7 .len [.t 6],oM 8 1,oo 9 .len [.t 8],oo 10 (.bin .neq false) [.t 7,.t 9]]
def Q5k:List COp:=[oo 4 .mov [.c (.d (.bool false))]]
def Q5l:List COp:=[oM 11 0,oo 12 .len [.t 11],oo 13 .mov [cI 0]]
def Q5m:List COp:=[oo 14 (.bin .lss false) [.t 13,.t 12]]
def Q5n:List COp:=[oM 15 13,oM 5 15]
def Q5o:List COp:=[oM 16 0,oM 17 5,oo 18 (.idx 3) [.t 16,.t 17],oo 19 (.load true 3) [.t 18],oM 20 1,oM 21 5,oo 22 (.idx 3) [.t 20,.t 21],oo 23 (.load true 3) [.t 22],oo 24 (.eqa true [0,0,0]) [.t 19,.t 23]]
def Q5p:List COp:=[oo 4 .mov [.c (.d (.bool false))]]
def Q5q:List COp:=[oo 25 (.bin .add false) [.t 13,cI 1],oM 13 25]
def Q5r:List COp:=[oo 4 .mov [.c (.d (.bool true))]]
def Qlj:CFn:=⟨2,26,[.t 4],.seq (.region Q5i 9 []) (.seq (.seq (.region Q5j 9 []) (.cond (.t 10) (.seq (.region Q5k 9 []) (.ret)) (.skip))) (.seq (.seq (.region Q5l 9 []) (.block 0 (.loop [] (.seq (.region Q5m 9 []) (.seq (.cond (.t 14) (.skip) (.exit 0)) (.seq (.block 1 (.seq (.region Q5n 9 []) (.seq (.region Q5o 0 []) (.cond (.t 24) (.seq (.region Q5p 9 []) (.ret)) (.skip))))) (.region Q5q 9 []))))))) (.seq (.region Q5r 9 []) (.ret))))⟩
def Qc7 (fuel:Nat) (s1:(List Qc)) (s2:(List Qc)):Option Bool :=
  (if ((s1.length:Int) != (s2.length:Int)) then some false else Qcv (fun k5 (x4:Int)=>(if (x4 < (s1.length:Int)) then ((getO s1 x4).bind fun x7=>((getO s2 x4).bind fun x9=>(if ((x7.From == x9.From) && ((x7.Event == x9.Event) && ((x7.To == x9.To) && true))) then k5 (IntKind.wrap .i64 (x4+1)) else some false))) else some true)) fuel 0)
def Qj7 (P:Program) (c:Nat) (f:Qa→Qa→Option Bool):Prop:=∀ a1 b2 r,f a1 b2=some r→∀ M nb,ACalls P c [(Qb a1),(Qb b2)] M nb (b_ r) M nb
def Q83:List COp:=[oo 2 (.box 4) [.t 0],oo 3 (.box 4) [.t 1],oo 4 .mov [.c (.d (.bool false))]]
def Q84:List COp:=[oF 5 1 2,oL 6 5,oF 7 1 3,oL 8 7,oo 9 (.bin .eql false) [.t 6,.t 8],oM 10 9,⟨some 11,.fld 0,[.t 2],false,some (10,true)⟩,⟨some 12,.load false 1,[.t 11],false,some (10,true)⟩,⟨some 13,.fld 0,[.t 3],false,some (10,true)⟩,⟨some 14,.load false 1,[.t 13],false,some (10,true)⟩,⟨some 15,.call 36,[.t 12,.t 14],false,some (10,true)⟩,oo 16 .pick [.t 10,.t 15,.c (.d (.bool false))],oM 17 16,⟨some 18,.fld 2,[.t 2],false,some (17,true)⟩,⟨some 19,.load false 1,[.t 18],false,some (17,true)⟩,⟨some 20,.fld 2,[.t 3],false,some (17,true)⟩,⟨some 21,.load false 1,[.t 20],false,some (17,true)⟩,⟨some 22,.call 36,[.t 19,.t 21],false,some (17,true)⟩,oo 23 .pick [.t 17,.t 22,.c (.d (.bool false))],oM 24 23,⟨some 25,.fld 3,[.t 2],false,some (24,true)⟩,⟨some 26,.load false 1,[.t 25],false,some (24,true)⟩,⟨some 27,.fld 3,[.t 3],false,some (24,true)⟩,⟨some 28,.load false 1,[.t 27],false,some (24,true)⟩,⟨some 29,.call 40,[.t 26,.t 28],false,some (24,true)⟩,oo 30 .pick [.t 24,.t 29,.c (.d (.bool false))],oM 4 30]
def Qn1:CFn:=⟨2,31,[.t 4],.seq (.region Q83 9 []) (.seq (.region Q84 9 []) (.ret))⟩
def Qb6 (Qbm:(List Int)→(List Int)→Option Bool) (Qc7:(List Qc)→(List Qc)→Option Bool) (a1:Qa) (b2:Qa):Option Bool :=
  (if (a1.zM == b2.zM) then ((Qbm a1.zJ b2.zJ).bind fun x5=>(if x5 then ((Qbm a1.zK b2.zK).bind fun x8=>(if x8 then ((Qc7 a1.zL b2.zL).bind fun x11=>some x11) else some false)) else some false)) else some false)
def Qkj (P:Program) (c:Nat) (f:Qa→Option Bool):Prop:=∀ a1 r,f a1=some r→∀ M nb,ACalls P c [(Qb a1)] M nb (b_ r) M nb
def Q3y:List COp:=[oo 1 (.box 4) [.t 0],oo 2 .mov [.c (.d (.bool false))]]
def Q3z:List COp:=[oo 3 (.load true 4) [.t 1],oo 4 (.build [.nils 1,.d (.int .i64 0),.nils 1,.nils 3] []) [],oo 5 (.call 15) [.t 3,.t 4],oM 2 5]
def Qkk:CFn:=⟨1,6,[.t 2],.seq (.region Q3y 9 []) (.seq (.region Q3z 9 []) (.ret))⟩
def Qc1 (Qb6:Qa→Qa→Option Bool) (a1:Qa):Option Bool :=
  ((Qb6 a1 (Qa.mk [] 0 [] [])).bind fun x3=>some x3)
def Qi2 (P:Program) (c:Nat) (f:Qa→Int→Option Int):Prop:=∀ a1 state2 r,f a1 state2=some r→∀ M nb,ACalls P c [(Qb a1),(i_ state2)] M nb (i_ r) M nb
def Q0c:List COp:=[oo 2 (.box 4) [.t 0],oo 4 .mov [cI 0]]
def Q0d:List COp:=[oo 6 (.load true 4) [.t 2],oo 7 (.call 55) [.t 6],oM 5 7]
def Q0e:List COp:=[oM 8 5,oo 9 (.bin .neq false) [.t 8,cI 0]]
def Q0f:List COp:=[oM 10 5,oM 4 10]
def Q0g:List COp:=[oM 11 1,oo 12 (.bin .lss false) [.t 11,cI 0],oM 13 12,⟨some 14,.mov,[.t 1],false,some (13,false)⟩,⟨some 15,.fld 1,[.t 2],false,some (13,false)⟩,⟨some 16,.load false 1,[.t 15],false,some (13,false)⟩,⟨some 17,.bin .geq false,[.t 14,.t 16],false,some (13,false)⟩,oo 18 .pick [.t 13,.c (.d (.bool true)),.t 17]]
def Q0h:List COp:=[oo 4 .mov [cI 2]]
def Q0i:List COp:=[oo 4 .mov [cI 0]]
def Qi3:CFn:=⟨2,19,[.t 4],.seq (.region Q0c 9 []) (.seq (.seq (.region Q0d 9 []) (.seq (.region Q0e 9 []) (.cond (.t 9) (.seq (.region Q0f 9 []) (.ret)) (.skip)))) (.seq (.seq (.region Q0g 9 []) (.cond (.t 18) (.seq (.region Q0h 9 []) (.ret)) (.skip))) (.seq (.region Q0i 9 []) (.ret))))⟩
def Qcj (Q5:Qa→Option Int) (a1:Qa) (state2:Int):Option Int :=
  ((Q5 a1).bind fun x4=>(if (x4 != 0) then some x4 else (((if (state2 < 0) then some true else some (decide (state2≥a1.zM)))).bind fun (x7:Bool)=>(if x7 then some 2 else some 0))))
def Qfb (P:Program) (c:Nat) (f:(List Qc)→Int→(Qc→Int→Option Int)→Option (Int×Bool)):Prop:=∀ x1 target2 cmp3 (g4:Nat) (cp5:List V) r,f x1 target2 cmp3=some r→∀ M nb,(V.dems cp5=cp5)→(V.ons (There M) cp5)→(∀ a9 a10 r,cmp3 a9 a10=some r→∀ M2 nb2,nb≤nb2→Ext M M2→ACalls P g4 ([(Qbh a9),(i_ a10)] ++ cp5) M2 nb2 (i_ r) M2 nb2)→ACalls P c [(Qe x1),(i_ target2),.clo g4 cp5] M nb (.tup [(i_ r.1),(b_ r.2)]) M nb
def Qn2:List COp:=[oo 6 .mov [cI 0],oo 7 .mov [.c (.d (.bool false))]]
def Qn3:List COp:=[oM 12 0,oo 13 .len [.t 12],oM 8 13]
def Qn4:List COp:=[oM 14 8,oo 9 .mov [cI 0],oM 10 14]
def Qn5:List COp:=[oM 15 9,oM 16 10,oo 17 (.bin .lss false) [.t 15,.t 16]]
def Qn6:List COp:=[oM 18 9,oM 19 10,oo 20 (.bin .add false) [.t 18,.t 19],oo 21 (.conv .u64) [.t 20],oo 22 (.bin .shr false) [.t 21,.c (.d (.int .u64 1))],oo 23 (.conv .i64) [.t 22],oM 11 23]
def Qn7:List COp:=[oM 24 2,oM 25 0,oM 26 11,oo 27 (.idx 3) [.t 25,.t 26],oo 28 (.load true 3) [.t 27],oM 29 1,oo 30 .callv [.t 24,.t 28,.t 29],oo 31 (.bin .lss false) [.t 30,cI 0]]
def Qn8:List COp:=[oM 32 11,oo 33 (.bin .add false) [.t 32,cI 1],oM 9 33]
def Qn9:List COp:=[oM 34 11,oM 10 34]
def Qoa:List COp:=[oM 35 9,oM 36 9,oM 37 8,oo 38 (.bin .lss false) [.t 36,.t 37],oM 39 38,⟨some 40,.mov,[.t 2],false,some (39,true)⟩,⟨some 41,.mov,[.t 0],false,some (39,true)⟩,⟨some 42,.mov,[.t 9],false,some (39,true)⟩,⟨some 43,.idx 3,[.t 41,.t 42],false,some (39,true)⟩,⟨some 44,.load true 3,[.t 43],false,some (39,true)⟩,⟨some 45,.mov,[.t 1],false,some (39,true)⟩,⟨some 46,.callv,[.t 40,.t 44,.t 45],false,some (39,true)⟩,⟨some 47,.bin .eql false,[.t 46,cI 0],false,some (39,true)⟩,oo 48 .pick [.t 39,.t 47,.c (.d (.bool false))],oM 6 35,oM 7 48]
def Qfc:CFn:=⟨3,49,[.t 6,.t 7],.seq (.region Qn2 9 []) (.seq (.region Qn3 9 []) (.seq (.region Qn4 9 []) (.seq (.block 0 (.loop [] (.seq (.seq (.region Qn5 9 []) (.cond (.t 17) (.skip) (.exit 0))) (.block 1 (.seq (.region Qn6 9 []) (.seq (.region Qn7 9 []) (.cond (.t 31) (.region Qn8 9 []) (.region Qn9 9 [])))))))) (.seq (.region Qoa 9 []) (.ret)))))⟩
def Q3 (fuel:Nat) (x1:(List Qc)) (target2:Int) (cmp3:(Qc→Int→Option Int)):Option (Int×Bool) :=
  ((Qcv (fun k13 ((i11,j12):Int×Int)=>(if (i11 < j12) then ((getO x1 (IntKind.wrap .i64 (Int.fdiv (IntKind.wrap .u64 (IntKind.wrap .i64 (i11+j12))) (2 ^ (min (Int.toNat 1) (IntKind.bits .u64)))))).bind fun x15=>((cmp3 x15 target2).bind fun x18=>(if (x18 < 0) then k13 ((IntKind.wrap .i64 ((IntKind.wrap .i64 (Int.fdiv (IntKind.wrap .u64 (IntKind.wrap .i64 (i11+j12))) (2 ^ (min (Int.toNat 1) (IntKind.bits .u64)))))+1)),j12) else k13 (i11,(IntKind.wrap .i64 (Int.fdiv (IntKind.wrap .u64 (IntKind.wrap .i64 (i11+j12))) (2 ^ (min (Int.toNat 1) (IntKind.bits .u64))))))))) else some i11)) fuel (0,(x1.length:Int))).bind fun (i20:Int)=>(if (i20 < (x1.length:Int)) then ((getO x1 i20).bind fun x22=>((cmp3 x22 target2).bind fun x25=>some (i20,(x25 == 0)))) else some (i20,false)))
def Qob (P:Program) (c:Nat) (f:Qc→Int→Option Int):Prop:=∀ x1 s2 r,f x1 s2=some r→∀ M nb,ACalls P c [(Qbh x1),(i_ s2)] M nb (i_ r) M nb
def Q85:List COp:=[oo 2 (.box 3) [.t 0],oo 4 .mov [cI 0]]
def Q86:List COp:=[oF 5 0 2,oL 6 5,oM 7 1,oo 8 (.bin .sub false) [.t 6,.t 7],oM 4 8]
def Qoc:CFn:=⟨2,9,[.t 4],.seq (.region Q85 9 []) (.seq (.region Q86 9 []) (.ret))⟩
def Qdn (x1:Qc) (s2:Int):Option Int :=
  some (IntKind.wrap .i64 (x1.From - s2))
def Qod (P:Program) (c:Nat) (f:Qc→Int→Option Int):Prop:=∀ x1 s2 r,f x1 s2=some r→∀ M nb,ACalls P c [(Qbh x1),(i_ s2)] M nb (i_ r) M nb
def Q87:List COp:=[oo 2 (.box 3) [.t 0],oo 4 .mov [cI 0]]
def Q88:List COp:=[oF 5 0 2,oL 6 5,oM 7 1,oo 8 (.bin .sub false) [.t 6,.t 7],oM 4 8]
def Qoe:CFn:=⟨2,9,[.t 4],.seq (.region Q87 9 []) (.seq (.region Q88 9 []) (.ret))⟩
def Qdo (x1:Qc) (s2:Int):Option Int :=
  some (IntKind.wrap .i64 (x1.From - s2))
def Quy (P:Program) (c:Nat) (f:Qa→Int→Option ((List Qc))):Prop:=∀ a1 state2 r,f a1 state2=some r→∀ M nb,ACalls P c [(Qb a1),(i_ state2)] M nb (Qe r) M nb
def Qbcq:List COp:=[oo 2 (.box 4) [.t 0],ot 4 .mov [.c (.nils 3)]]
def Qbcr:List COp:=[oF 10 3 2,oL 11 10,oM 12 1,oo 13 (.call 77) [.t 11,.t 12,.c (.clo 78 [])],oM 9 13,oo 14 (.extract 0) [.t 9],oo 15 (.extract 1) [.t 9],oM 5 14,oM 6 15]
def Qbcs:List COp:=[oF 17 3 2,oL 18 17,oM 19 1,oo 20 (.bin .add false) [.t 19,cI 1],oo 21 (.call 77) [.t 18,.t 20,.c (.clo 79 [])],oM 16 21,oo 22 (.extract 0) [.t 16],oo 23 (.extract 1) [.t 16],oM 7 22,oM 8 23]
def Qbct:List COp:=[oF 24 3 2,oL 25 24,oM 26 5,oM 27 7,oo 28 (.slice 3 true true) [.t 25,.t 26,.t 27],ot 4 .mov [.t 28]]
def Quz:CFn:=⟨2,29,[.t 4],.seq (.region Qbcq 9 []) (.seq (.region Qbcr 9 []) (.seq (.region Qbcs 9 []) (.seq (.region Qbct 9 []) (.ret))))⟩
def Qed (Q3:(List Qc)→Int→(Qc→Int→Option Int)→Option (Int×Bool)) (Qdn:Qc→Int→Option Int) (Qdo:Qc→Int→Option Int) (a1:Qa) (state2:Int):Option ((List Qc)) :=
  ((Q3 a1.zL state2 Qdn).bind fun (r8,r9)=>((Q3 a1.zL (IntKind.wrap .i64 (state2+1)) Qdo).bind fun (r15,r16)=>((slcO a1.zL r8 r15).bind fun x17=>some x17)))
def Qm4 (P:Program) (c:Nat) (f:Qc→Int→Option Bool):Prop:=∀ x1 x2 (k3:Nat) r,f x1 x2=some r→∀ M nb,(M k3=some (.cells [(i_ x2)]))→ACalls P c [(Qbh x1),.ptr k3 0] M nb (b_ r) M nb
def Q7u:List COp:=[oo 2 (.box 3) [.t 0],oo 3 .mov [.c (.d (.bool false))]]
def Q7v:List COp:=[oF 4 1 2,oL 5 4,oL 6 1,oo 7 (.bin .eql false) [.t 5,.t 6],oM 3 7]
def Qm5:CFn:=⟨2,8,[.t 3],.seq (.region Q7u 9 []) (.seq (.region Q7v 9 []) (.ret))⟩
def Qdd (x1:Qc) (x2:Int):Option Bool :=
  some (x1.Event == x2)
def Qrc (P:Program) (c:Nat) (f:Qa→Int→Int→Option Int):Prop:=∀ a1 state2 event3 r,f a1 state2 event3=some r→∀ M nb,ACalls P c [(Qb a1),(i_ state2),(i_ event3)] M nb (i_ r) M nb
def Qbav:List COp:=[oo 3 (.box 4) [.t 0],oo 5 (.box 1) [.t 2],oo 6 .mov [cI 0]]
def Qbaw:List COp:=[oo 9 (.load true 4) [.t 3],oM 10 1,oo 11 (.call 52) [.t 9,.t 10],ot 7 .mov [.t 11]]
def Qbax:List COp:=[oM 12 7,oo 13 (.func 68) [.t 5],oo 14 (.call 67) [.t 12,.t 13],oM 8 14]
def Qbay:List COp:=[oM 15 8,oo 16 (.bin .lss false) [.t 15,cI 0]]
def Qbaz:List COp:=[oo 6 .mov [cI (-1)]]
def Qba0:List COp:=[oM 17 7,oM 18 8,oo 19 (.idx 3) [.t 17,.t 18],oF 20 2 19,oL 21 20,oM 6 21]
def Qrd:CFn:=⟨3,22,[.t 6],.seq (.region Qbav 9 []) (.seq (.region Qbaw 9 []) (.seq (.region Qbax 9 []) (.seq (.seq (.region Qbay 9 []) (.cond (.t 16) (.seq (.region Qbaz 9 []) (.ret)) (.skip))) (.seq (.region Qba0 9 []) (.ret)))))⟩
def Qd5 (Qed:Qa→Int→Option ((List Qc))) (Qz:(List Qc)→(Qc→Option Bool)→Option Int) (Qdd:Qc→Int→Option Bool) (a1:Qa) (state2:Int) (event3:Int):Option Int :=
  ((Qed a1 state2).bind fun x5=>((Qz x5 (fun a6=>Qdd a6 event3)).bind fun x10=>(if (x10 < 0) then some (-1) else ((getO x5 x10).bind fun x12=>some x12.To))))
def Qre (P:Program) (c:Nat) (f:Qa→Int→Int→Option (Int×Bool×Int)):Prop:=∀ a1 state2 event3 r,f a1 state2 event3=some r→∀ M nb,ACalls P c [(Qb a1),(i_ state2),(i_ event3)] M nb (.tup [(i_ r.1),(b_ r.2.1),(i_ r.2.2)]) M nb
def Qba1:List COp:=[oo 3 (.box 4) [.t 0],oo 6 .mov [cI 0],oo 7 .mov [.c (.d (.bool false))],oo 8 .mov [cI 0]]
def Qba2:List COp:=[oo 10 (.load true 4) [.t 3],oM 11 1,oo 12 (.call 37) [.t 10,.t 11],oM 8 12]
def Qba3:List COp:=[oM 13 8,oo 14 (.bin .neq false) [.t 13,cI 0]]
def Qba4:List COp:=[oM 15 8,oo 6 .mov [cI 0],oo 7 .mov [.c (.d (.bool false))],oM 8 15]
def Qba5:List COp:=[oF 16 0 3,oL 17 16,oM 18 2,oo 19 (.call 38) [.t 17,.t 18],oo 20 (.un .not) [.t 19]]
def Qba6:List COp:=[oo 6 .mov [cI 0],oo 7 .mov [.c (.d (.bool false))],oo 8 .mov [cI 9]]
def Qba7:List COp:=[oo 21 (.load true 4) [.t 3],oM 22 1,oM 23 2,oo 24 (.call 39) [.t 21,.t 22,.t 23],oM 9 24]
def Qba8:List COp:=[oM 25 9,oo 26 (.bin .geq false) [.t 25,cI 0]]
def Qba9:List COp:=[oM 27 9,oM 6 27,oo 7 .mov [.c (.d (.bool true))],oo 8 .mov [cI 0]]
def Qbba:List COp:=[oo 6 .mov [cI 0],oo 7 .mov [.c (.d (.bool false))],oo 8 .mov [cI 0]]
def Qrf:CFn:=⟨3,28,[.t 6,.t 7,.t 8],.seq (.region Qba1 9 []) (.seq (.seq (.region Qba2 9 []) (.seq (.region Qba3 9 []) (.cond (.t 14) (.seq (.region Qba4 9 []) (.ret)) (.skip)))) (.seq (.seq (.region Qba5 9 []) (.cond (.t 20) (.seq (.region Qba6 9 []) (.ret)) (.skip))) (.seq (.seq (.region Qba7 9 []) (.seq (.region Qba8 9 []) (.cond (.t 26) (.seq (.region Qba9 9 []) (.ret)) (.skip)))) (.seq (.region Qbba 9 []) (.ret)))))⟩
def Qdi (Qcj:Qa→Int→Option Int) (Q8:(List Int)→Int→Option Bool) (Qd5:Qa→Int→Int→Option Int) (a1:Qa) (state2:Int) (event3:Int):Option (Int×Bool×Int) :=
  ((Qcj a1 state2).bind fun x5=>(if (x5 != 0) then some (0,false,x5) else ((Q8 a1.zJ event3).bind fun x8=>(if x8 then ((Qd5 a1 state2 event3).bind fun x11=>(if (x11≥0) then some (x11,true,0) else some (0,false,0))) else some (0,false,9)))))
def Qlk (P:Program) (c:Nat) (f:(List Int)→Int→Option Bool):Prop:=∀ l1 n2 r,f l1 n2=some r→∀ M nb,ACalls P c [(l_ l1),(i_ n2)] M nb (b_ r) M nb
def Q5s:List COp:=[oo 4 .mov [.c (.d (.bool false))]]
def Q5t:List COp:=[oo 5 .mov [cI 0]]
def Q5u:List COp:=[oM 6 5,oM 7 0,oo 8 .len [.t 7],oo 9 (.bin .lss false) [.t 6,.t 8]]
def Q5v:List COp:=[oM 12 0,oM 13 5,oo 14 (.idx 1) [.t 12,.t 13],oL 15 14,oM 16 1,oo 17 (.bin .eql false) [.t 15,.t 16]]
def Q5w:List COp:=[oo 4 .mov [.c (.d (.bool true))]]
def Q5x:List COp:=[oM 10 5,oo 11 (.bin .add false) [.t 10,cI 1],oM 5 11]
def Q5y:List COp:=[oo 4 .mov [.c (.d (.bool false))]]
def Qll:CFn:=⟨2,18,[.t 4],.seq (.region Q5s 9 []) (.seq (.seq (.region Q5t 9 []) (.block 0 (.loop [] (.seq (.seq (.region Q5u 9 []) (.cond (.t 9) (.skip) (.exit 0))) (.seq (.block 1 (.seq (.region Q5v 9 []) (.cond (.t 17) (.seq (.region Q5w 9 []) (.ret)) (.skip)))) (.region Q5x 9 [])))))) (.seq (.region Q5y 9 []) (.ret)))⟩
def Qc8 (fuel:Nat) (l1:(List Int)) (n2:Int):Option Bool :=
  Qcv (fun k4 (i3:Int)=>(if (i3 < (l1.length:Int)) then ((getO l1 i3).bind fun x6=>(if (x6 == n2) then some true else k4 (IntKind.wrap .i64 (i3+1)))) else some false)) fuel 0
end Go.Abs
end
section
namespace Go.Abs
open Go
set_option maxRecDepth 10000
set_option maxHeartbeats 4000000
def Qe2 (P:Program) (c:Nat) (f:(List Q4)→(List Int)→Int→Option Bool):Prop:=∀ l1 uncontrollable2 tick3 r,f l1 uncontrollable2 tick3=some r→∀ M nb,ACalls P c [(Qbu l1),(l_ uncontrollable2),(i_ tick3)] M nb (b_ r) M nb
def Qi4:List COp:=[oo 6 .mov [.c (.d (.bool false))]]
def Qi5:List COp:=[oo 26 (.call 5) [],oo 27 (.un .not) [.t 26],oM 28 27,⟨some 29,.mov,[.t 1],false,some (28,false)⟩,⟨some 30,.len,[.t 29],false,some (28,false)⟩,⟨some 31,.bin .gtr false,[.t 30,cI 8],false,some (28,false)⟩,oo 32 .pick [.t 28,.c (.d (.bool true)),.t 31]]
def Qi6:List COp:=[oo 33 (.call 5) [],oM 6 33]
def Qi7:List COp:=[oM 34 0,oo 35 (.call 6) [.t 34],ot 7 .mov [.t 35]]
def Qi8:List COp:=[oM 36 7,oo 37 .len [.t 36],oo 38 (.bin .eql false) [.t 37,cI 0]]
def Qi9:List COp:=[oo 39 (.bslice 1 1 [.d (.int .i64 0)] [0]) [cI 0],ot 40 (.build [.nils 1,.d (.int .i64 0),.nils 1,.nils 3] [(0,1)]) [.t 39],oo 41 (.bslice 4 1 [.nils 1,.d (.int .i64 0),.nils 1,.nils 3] [0]) [.t 40],ot 7 .mov [.t 41]]
def Qja:List COp:=[oM 43 7,oo 44 (.idx 4) [.t 43,cI 0],oo 45 (.load true 4) [.t 44],oM 46 7,oo 47 (.slice 4 true false) [.t 46,cI 1],oM 48 1,oM 49 2,oo 50 (.call 7) [.t 45,.t 47,.t 48,.t 49],oM 42 50,oo 51 (.extract 0) [.t 42],ot 52 (.extract 1) [.t 42],oo 53 (.extract 2) [.t 42],oo 8 (.alloc [.nils 1,.d (.int .i64 0),.nils 1,.nils 3]) [],⟨none,.store 4,[.t 8,.t 51],true,none⟩,ot 9 .mov [.t 52],oM 10 53]
def Qjb:List COp:=[oo 11 .mov [cI 0]]
def Qjc:List COp:=[oo 12 .mov [cI 1]]
def Qjd:List COp:=[oM 54 12,oM 55 7,oo 56 .len [.t 55],oo 57 (.bin .lss false) [.t 54,.t 56],oM 58 57,⟨some 59,.mov,[.t 11],false,some (58,true)⟩,⟨some 60,.bin .eql false,[.t 59,cI 0],false,some (58,true)⟩,oo 61 .pick [.t 58,.t 60,.c (.d (.bool false))]]
def Qhq:List COp:=[oM 64 7,oM 65 12,oo 66 (.idx 4) [.t 64,.t 65],oF 67 0 66,oL 68 67,oM 69 7,oo 70 (.idx 4) [.t 69,cI 0],oF 71 0 70,oL 72 71,oo 73 (.call 8) [.t 68,.t 72],oo 74 (.un .not) [.t 73]]
def Qhr:List COp:=[oo 11 .mov [cI 9]]
def Qhs:List COp:=[oM 62 12,oo 63 (.bin .add false) [.t 62,cI 1],oM 12 63]
def Qht:List COp:=[oM 75 11,oo 76 (.bin .eql false) [.t 75,cI 0]]
def Qhu:List COp:=[oM 77 1,oo 78 (.call 9) [.t 77,cI 32],oM 11 78]
def Qhv:List COp:=[oM 79 11,oo 80 (.bin .eql false) [.t 79,cI 0],oM 81 80,⟨some 82,.mov,[.t 2],false,some (81,true)⟩,⟨some 83,.bin .lss false,[.t 82,cI 0],false,some (81,true)⟩,⟨some 84,.mov,[.t 83],false,some (81,true)⟩,⟨some 85,.mov,[.t 2],false,some (84,false)⟩,⟨some 86,.bin .geq false,[.t 85,cI 32],false,some (84,false)⟩,⟨some 87,.pick,[.t 84,.c (.d (.bool true)),.t 86],false,some (81,true)⟩,oo 88 .pick [.t 81,.t 87,.c (.d (.bool false))]]
def Qhw:List COp:=[oo 11 .mov [cI 2]]
def Qhx:List COp:=[oM 89 11,oo 90 (.bin .neq false) [.t 89,cI 0]]
def Qhy:List COp:=[oo 91 (.load true 4) [.t 8],oo 92 (.call 10) [.t 91],oM 93 92,⟨some 94,.mov,[.t 9],false,some (93,true)⟩,⟨some 95,.len,[.t 94],false,some (93,true)⟩,⟨some 96,.bin .eql false,[.t 95,cI 0],false,some (93,true)⟩,oo 97 .pick [.t 93,.t 96,.c (.d (.bool false))],oM 98 97,⟨some 99,.mov,[.t 10],false,some (98,true)⟩,⟨some 100,.mov,[.t 11],false,some (98,true)⟩,⟨some 101,.bin .eql false,[.t 99,.t 100],false,some (98,true)⟩,oo 102 .pick [.t 98,.t 101,.c (.d (.bool false))],oM 6 102]
def Qhz:List COp:=[oM 104 7,oo 105 (.call 11) [.t 104],oM 103 105,oo 106 (.extract 0) [.t 103],ot 107 (.extract 1) [.t 103],oo 108 (.extract 2) [.t 103],oo 13 (.alloc [.nils 1,.d (.int .i64 0),.nils 1,.nils 3]) [],⟨none,.store 4,[.t 13,.t 106],true,none⟩,ot 14 .mov [.t 107],oM 15 108]
def Qh0:List COp:=[oM 109 15,oo 110 (.bin .neq false) [.t 109,cI 0],oM 111 110,⟨some 112,.mov,[.t 10],false,some (111,false)⟩,⟨some 113,.bin .neq false,[.t 112,cI 0],false,some (111,false)⟩,oo 114 .pick [.t 111,.c (.d (.bool true)),.t 113],oM 115 114,⟨some 116,.mov,[.t 9],false,some (115,false)⟩,⟨some 117,.fld 1,[.t 13],false,some (115,false)⟩,⟨some 118,.load false 1,[.t 117],false,some (115,false)⟩,⟨some 119,.bslice 1 1 [.d (.int .i64 0)] [0],[.t 118],false,some (115,false)⟩,⟨some 120,.call 12,[.t 116,.t 119],false,some (115,false)⟩,⟨some 121,.un .not,[.t 120],false,some (115,false)⟩,oo 122 .pick [.t 115,.c (.d (.bool true)),.t 121]]
def Qh1:List COp:=[oo 6 .mov [.c (.d (.bool false))]]
def Qh2:List COp:=[oF 123 0 13,oL 124 123,oF 125 1 13,oL 126 125,oo 127 (.bin .add false) [.t 126,cI 1],oF 128 2 13,oL 129 128,ot 130 (.build [.nils 1,.d (.int .i64 0),.nils 1,.nils 3] [(0,1),(1,1),(2,1)]) [.t 124,.t 127,.t 129],oo 16 (.alloc [.nils 1,.d (.int .i64 0),.nils 1,.nils 3]) [],⟨none,.store 4,[.t 16,.t 130],true,none⟩]
def Qh3:List COp:=[oo 17 .mov [cI 0]]
def Qh4:List COp:=[oM 131 17,oF 132 1 13,oL 133 132,oo 134 (.bin .lss false) [.t 131,.t 133]]
def Qh5:List COp:=[oF 137 0 13,oL 138 137,oo 139 .len [.t 138],oo 140 .mov [cI 0]]
def Qh6:List COp:=[oo 141 (.bin .lss false) [.t 140,.t 139]]
def Qh7:List COp:=[oo 142 (.idx 1) [.t 138,.t 140],oL 143 142,oM 19 143]
def Qh8:List COp:=[oo 145 (.load true 4) [.t 13],oM 146 17,oM 147 19,oo 148 (.call 13) [.t 145,.t 146,.t 147],oM 144 148,oo 149 (.extract 0) [.t 144],oo 150 (.extract 1) [.t 144],oo 151 (.extract 2) [.t 144],oM 20 149,oM 21 150,oM 22 151]
def Qh9:List COp:=[oM 153 7,oo 154 (.idx 4) [.t 153,cI 0],oo 155 (.load true 4) [.t 154],oM 156 14,oM 157 17,oo 158 (.idx 1) [.t 156,.t 157],oL 159 158,oo 160 (.idx 1) [.t 159,cI 0],oL 161 160,oM 162 19,oo 163 (.call 13) [.t 155,.t 161,.t 162],oM 152 163,oo 164 (.extract 0) [.t 152],oo 165 (.extract 1) [.t 152],oo 166 (.extract 2) [.t 152],oM 23 164,oM 24 165,oM 25 166]
def Qia:List COp:=[oM 167 21]
def Qib:List COp:=[oF 168 3 16,oo 169 .loadT [.t 168],oM 170 17,oM 171 19,oM 172 20,oo 173 (.build [.d (.int .i64 0),.d (.int .i64 0),.d (.int .i64 0)] [(0,1),(1,1),(2,1)]) [.t 170,.t 171,.t 172],oo 174 (.bslice 3 1 [.d (.int .i64 0),.d (.int .i64 0),.d (.int .i64 0)] [0]) [.t 173],ot 175 (.append 3 24) [.t 169,.t 174],oF 176 3 16,⟨none,.store 1,[.t 176,.t 175],true,none⟩]
def Qic:List COp:=[oM 177 24,oM 178 177,⟨some 179,.mov,[.t 1],false,some (178,true)⟩,⟨some 180,.mov,[.t 19],false,some (178,true)⟩,⟨some 181,.call 14,[.t 179,.t 180],false,some (178,true)⟩,⟨some 182,.mov,[.t 181],false,some (178,true)⟩,⟨some 183,.mov,[.t 19],false,some (182,false)⟩,⟨some 184,.mov,[.t 2],false,some (182,false)⟩,⟨some 185,.bin .eql false,[.t 183,.t 184],false,some (182,false)⟩,⟨some 186,.pick,[.t 182,.c (.d (.bool true)),.t 185],false,some (178,true)⟩,oo 187 .pick [.t 178,.t 186,.c (.d (.bool false))]]
def Qid:List COp:=[oF 188 3 16,oo 189 .loadT [.t 188],oM 190 17,oM 191 19,oF 192 1 13,oL 193 192,oo 194 (.build [.d (.int .i64 0),.d (.int .i64 0),.d (.int .i64 0)] [(0,1),(1,1),(2,1)]) [.t 190,.t 191,.t 193],oo 195 (.bslice 3 1 [.d (.int .i64 0),.d (.int .i64 0),.d (.int .i64 0)] [0]) [.t 194],ot 196 (.append 3 24) [.t 189,.t 195],oF 197 3 16,⟨none,.store 1,[.t 197,.t 196],true,none⟩]
def Qie:List COp:=[oo 198 (.bin .add false) [.t 140,cI 1],oM 140 198]
def Qif:List COp:=[oM 135 17,oo 136 (.bin .add false) [.t 135,cI 1],oM 17 136]
def Qig:List COp:=[oo 199 (.load true 4) [.t 8],oo 200 (.load true 4) [.t 16],oo 201 (.call 15) [.t 199,.t 200],oM 6 201]
def Qdf:CFn:=⟨3,202,[.t 6],.seq (.region Qi4 9 []) (.seq (.seq (.region Qi5 9 []) (.cond (.t 32) (.seq (.region Qi6 9 []) (.ret)) (.skip))) (.seq (.region Qi7 9 []) (.seq (.seq (.region Qi8 9 []) (.cond (.t 38) (.region Qi9 9 []) (.skip))) (.seq (.region Qja 1125899906842634 []) (.seq (.region Qjb 9 []) (.seq (.seq (.region Qjc 9 []) (.block 0 (.loop [] (.seq (.seq (.region Qjd 9 []) (.cond (.t 61) (.skip) (.exit 0))) (.seq (.block 1 (.seq (.region Qhq 0 []) (.cond (.t 74) (.region Qhr 9 []) (.skip)))) (.region Qhs 9 [])))))) (.seq (.seq (.region Qht 9 []) (.cond (.t 76) (.region Qhu 9 []) (.skip))) (.seq (.seq (.region Qhv 9 []) (.cond (.t 88) (.region Qhw 9 []) (.skip))) (.seq (.seq (.region Qhx 9 []) (.cond (.t 90) (.seq (.region Qhy 9 []) (.ret)) (.skip))) (.seq (.region Qhz 9 []) (.seq (.seq (.region Qh0 9 []) (.cond (.t 122) (.seq (.region Qh1 9 []) (.ret)) (.skip))) (.seq (.region Qh2 9 []) (.seq (.seq (.region Qh3 9 []) (.block 2 (.loop [174,195] (.seq (.seq (.region Qh4 9 []) (.cond (.t 134) (.skip) (.exit 2))) (.seq (.block 3 (.seq (.region Qh5 9 []) (.block 4 (.loop [174,195] (.seq (.region Qh6 9 []) (.seq (.cond (.t 141) (.skip) (.exit 4)) (.seq (.block 5 (.seq (.region Qh7 9 []) (.seq (.region Qh8 9 []) (.seq (.region Qh9 0 []) (.seq (.region Qia 9 []) (.cond (.t 167) (.region Qib 9 []) (.seq (.region Qic 9 []) (.cond (.t 187) (.region Qid 9 []) (.skip))))))))) (.region Qie 9 [])))))))) (.region Qif 9 [])))))) (.seq (.region Qig 9 []) (.ret)))))))))))))))⟩
def Qct (Qcp:Option Bool) (Qc0:(List Q4)→Option ((List Qa))) (Qby:Qa→(List Qa)→(List Int)→Int→Option (Qa×(List Int)×Int)) (Qb4:(List Int)→(List Int)→Option Bool) (Qy:(List Int)→Int→Option Int) (Qc1:Qa→Option Bool) (Q2:(List Qa)→Option (Qa×(List (List Int))×Int)) (Qdv:(List Int)→(List Int)→Option Bool) (Qdi:Qa→Int→Int→Option (Int×Bool×Int)) (Qc8:(List Int)→Int→Option Bool) (Qb6:Qa→Qa→Option Bool) (fuel:Nat) (l1:(List Q4)) (uncontrollable2:(List Int)) (tick3:Int):Option Bool :=
  (((Qcp.bind fun x5=>(if x5 then some (decide ((uncontrollable2.length:Int) > 8)) else some true))).bind fun (x7:Bool)=>(if x7 then (Qcp.bind fun x10=>some x10) else ((Qc0 l1).bind fun x12=>(((if ((x12.length:Int) == 0) then some ([(Qa.mk [0] 0 [] [])]) else some x12)).bind fun (all14:List Qa)=>((getO all14 0).bind fun x15=>((slcO all14 1 (all14.length:Int)).bind fun x17=>((Qby x15 x17 uncontrollable2 tick3).bind fun (r20,r21,r22)=>((Qcv (fun k25 ((want23,i24):Int×Int)=>(((if (i24 < (all14.length:Int)) then some (want23 == 0) else some false)).bind fun (x27:Bool)=>(if x27 then ((((getO all14 i24).bind fun x29=>((getO all14 0).bind fun x31=>((Qb4 x29.zJ x31.zJ).bind fun x34=>(if x34 then some want23 else some 9))))).bind fun (want36:Int)=>k25 (want36,(IntKind.wrap .i64 (i24+1)))) else some want23))) fuel (0,1)).bind fun (want37:Int)=>(((if (want37 == 0) then ((Qy uncontrollable2 32).bind fun x40=>some x40) else some want37)).bind fun (want41:Int)=>(((((if (want41 == 0) then (if (tick3 < 0) then some true else some (decide (tick3≥32))) else some false)).bind fun (x44:Bool)=>(if x44 then some 2 else some want41))).bind fun (want46:Int)=>(if (want46 != 0) then ((Qc1 r20).bind fun x49=>(if x49 then (if ((r21.length:Int) == 0) then some (r22 == want46) else some false) else some false)) else ((Q2 all14).bind fun (r53,r54,r55)=>(((if (r55 != 0) then some true else (if (r22 != 0) then some true else ((Qdv r21 [r53.zM]).bind fun x59=>some (!x59))))).bind fun (x60:Bool)=>(if x60 then some false else ((Qcv (fun k64 ((i62,out63):Int×(List Qc))=>(if (i62 < r53.zM) then ((Qcv (fun k68 ((x66,out67):Int×(List Qc))=>(if (x66 < (r53.zJ.length:Int)) then ((((getO r53.zJ x66).bind fun x70=>((Qdi r53 i62 x70).bind fun (r73,r74,r75)=>((getO all14 0).bind fun x76=>((getO r54 i62).bind fun x78=>((getO x78 0).bind fun x80=>((Qdi x76 x80 x70).bind fun (r83,r84,r85)=>(if r74 then ((appO out67 [(Qc.mk i62 x70 r73)]).bind fun x87=>some x87) else (((if r84 then ((Qc8 uncontrollable2 x70).bind fun x91=>(if x91 then some true else some (x70 == tick3))) else some false)).bind fun (x93:Bool)=>(if x93 then ((appO out67 [(Qc.mk i62 x70 r53.zM)]).bind fun x95=>some x95) else some out67)))))))))).bind fun (out97:List Qc)=>k68 ((IntKind.wrap .i64 (x66+1)),out97)) else some out67)) fuel (0,out63)).bind fun (out98:List Qc)=>k64 ((IntKind.wrap .i64 (i62+1)),out98)) else some ((IntKind.wrap .i64 (r53.zM+1)),out63))) fuel (0,[])).bind fun ((out99,out100):Int×(List Qc))=>((Qb6 r20 (Qa.mk r53.zJ out99 r53.zK out100)).bind fun x102=>some x102))))))))))))))))
end Go.Abs
end
