/-
  Part 4 of the proof: see the last text.
-/
import Derived.Test.YthlopjpofmcdmaaP3
set_option linter.unusedVariables false
set_option linter.unusedSimpArgs false
set_option linter.unusedSectionVars false
namespace Go.Abs
open Go
set_option maxRecDepth 10000
set_option maxHeartbeats 4000000
def Qii (P:Program) (c:Nat) (f:(List Int)→Option Qa):Prop:=∀ fv1 r,f fv1=some r→∀ M nb,ACalls P c [(l_ fv1)] M nb (.agg [(l_ r.zA.zK),(i_ r.zA.zN),(l_ r.zA.zL),(Qd r.zA.zM),(l_ r.zC),.nils 1,(l_ r.zD),(i_ r.Tick)]) M nb
def Qzl:List COp:=[oo 2 (.alloc [.nils 1,.d (.int .i64 0),.nils 1,.nils 3,.nils 1,.nils 1,.nils 1,.d (.int .i64 0)]) []]
def Qzm:List COp:=[oo 3 (.bslice 1 2 [.d (.int .i64 0)] [0,1]) [cI 0,cI 2],oo 4 (.bslice 1 1 [.d (.int .i64 0)] [0]) [cI 0],oo 5 (.build [.d (.int .i64 0),.d (.int .i64 0),.d (.int .i64 0)] [(0,1),(1,1),(2,1)]) [cI 0,cI 0,cI 0],oo 6 (.build [.d (.int .i64 0),.d (.int .i64 0),.d (.int .i64 0)] [(0,1),(1,1),(2,1)]) [cI 0,cI 2,cI 1],oo 7 (.bslice 3 2 [.d (.int .i64 0),.d (.int .i64 0),.d (.int .i64 0)] [0,1]) [.t 5,.t 6],ot 8 (.build [.nils 1,.d (.int .i64 0),.nils 1,.nils 3] [(0,1),(1,1),(2,1),(3,1)]) [.t 3,cI 2,.t 4,.t 7],oo 9 (.bslice 1 1 [.d (.int .i64 0)] [0]) [cI 1],oM 10 0,ot 11 (.build [.nils 1,.d (.int .i64 0),.nils 1,.nils 3,.nils 1,.nils 1,.nils 1,.d (.int .i64 0)] [(0,4),(4,1),(6,1),(7,1)]) [.t 8,.t 9,.t 10,cI 2],⟨none,.store 8,[.t 2,.t 11],true,none⟩]
def Qij:CFn:=⟨1,12,[.cell 2 true 8],.seq (.region Qzl 9 []) (.seq (.region Qzm 9 []) (.ret))⟩
def Qcj (fv1:(List Int)):Option Qa :=
  some (Qa.mk (Qe.mk [0,2] 2 [0] [(Qc.mk 0 0 0),(Qc.mk 0 2 1)]) [1] [] fv1 2)
def Qi3 (P:Program) (c:Nat) (f:(List Int)→Int→Option Int):Prop:=∀ l1 n2 r,f l1 n2=some r→∀ M nb,ACalls P c [(l_ l1),(i_ n2)] M nb (i_ r) M nb
def Q03:List COp:=[oo 4 .mov [cI 0]]
def Q04:List COp:=[oM 7 0,oo 8 .len [.t 7],oo 9 .mov [cI 0]]
def Q05:List COp:=[oo 10 (.bin .lss false) [.t 9,.t 8]]
def Q06:List COp:=[oM 11 9,oo 12 (.idx 1) [.t 7,.t 9],oL 13 12,oM 5 11,oM 6 13]
def Q07:List COp:=[oM 15 6,oo 16 (.bin .lss false) [.t 15,cI 0],oM 17 16,⟨some 18,.mov,[.t 6],false,some (17,false)⟩,⟨some 19,.mov,[.t 1],false,some (17,false)⟩,⟨some 20,.bin .geq false,[.t 18,.t 19],false,some (17,false)⟩,oo 21 .pick [.t 17,.c (.d (.bool true)),.t 20],oM 14 21]
def Q08:List COp:=[oo 4 .mov [cI 2]]
def Q09:List COp:=[oM 23 5,oo 24 (.bin .gtr false) [.t 23,cI 0],oM 25 24,⟨some 26,.mov,[.t 6],false,some (25,true)⟩,⟨some 27,.mov,[.t 0],false,some (25,true)⟩,⟨some 28,.mov,[.t 5],false,some (25,true)⟩,⟨some 29,.bin .sub false,[.t 28,cI 1],false,some (25,true)⟩,⟨some 30,.idx 1,[.t 27,.t 29],false,some (25,true)⟩,⟨some 31,.load false 1,[.t 30],false,some (25,true)⟩,⟨some 32,.bin .leq false,[.t 26,.t 31],false,some (25,true)⟩,oo 33 .pick [.t 25,.t 32,.c (.d (.bool false))],oM 22 33]
def Q1a:List COp:=[oo 4 .mov [cI 5]]
def Q1b:List COp:=[oo 34 (.bin .add false) [.t 9,cI 1],oM 9 34]
def Q1c:List COp:=[oo 4 .mov [cI 0]]
def Qi4:CFn:=⟨2,35,[.t 4],.seq (.region Q03 9 []) (.seq (.seq (.region Q04 9 []) (.block 0 (.loop [] (.seq (.region Q05 9 []) (.seq (.cond (.t 10) (.skip) (.exit 0)) (.seq (.block 1 (.seq (.region Q06 9 []) (.block 2 (.seq (.region Q07 9 []) (.cond (.t 14) (.seq (.region Q08 9 []) (.ret)) (.seq (.region Q09 9 []) (.cond (.t 22) (.seq (.region Q1a 9 []) (.ret)) (.skip)))))))) (.region Q1b 9 []))))))) (.seq (.region Q1c 9 []) (.ret)))⟩
def Qcf (fuel:Nat) (l1:(List Int)) (n2:Int):Option Int :=
  Qcm (fun k4 (x3:Int)=>(if (x3<(l1.length:Int)) then ((getO l1 x3).bind fun x6=>(((if (x6<0) then some true else some (decide (x6≥n2)))).bind fun (x9:Bool)=>(if x9 then some 2 else (((if (x3>0) then ((getO l1 (IntKind.wrap .i64 (x3-1))).bind fun x12=>some (decide (x6≤x12))) else some false)).bind fun (x14:Bool)=>(if x14 then some 5 else k4 (IntKind.wrap .i64 (x3+1))))))) else some 0)) fuel 0
def Qll (P:Program) (c:Nat) (f:(List Int)→Int→Option Int):Prop:=∀ s1 v2 r,f s1 v2=some r→∀ M nb,ACalls P c [(l_ s1),(i_ v2)] M nb (i_ r) M nb
def Q44:List COp:=[oo 4 .mov [cI 0]]
def Q45:List COp:=[oM 6 0,oo 7 .len [.t 6],oo 8 .mov [cI 0]]
def Q46:List COp:=[oo 9 (.bin .lss false) [.t 8,.t 7]]
def Q47:List COp:=[oM 10 8,oM 5 10]
def Q48:List COp:=[oM 11 1,oM 12 0,oM 13 5,oo 14 (.idx 1) [.t 12,.t 13],oL 15 14,oo 16 (.bin .eql false) [.t 11,.t 15]]
def Q49:List COp:=[oM 17 5,oM 4 17]
def Q5a:List COp:=[oo 18 (.bin .add false) [.t 8,cI 1],oM 8 18]
def Q5b:List COp:=[oo 4 .mov [cI (-1)]]
def Qlm:CFn:=⟨2,19,[.t 4],.seq (.region Q44 9 []) (.seq (.seq (.region Q45 9 []) (.block 0 (.loop [] (.seq (.region Q46 9 []) (.seq (.cond (.t 9) (.skip) (.exit 0)) (.seq (.block 1 (.seq (.region Q47 9 []) (.seq (.region Q48 9 []) (.cond (.t 16) (.seq (.region Q49 9 []) (.ret)) (.skip))))) (.region Q5a 9 []))))))) (.seq (.region Q5b 9 []) (.ret)))⟩
def Qc9 (fuel:Nat) (s1:(List Int)) (v2:Int):Option Int :=
  Qcm (fun k4 (x3:Int)=>(if (x3<(s1.length:Int)) then ((getO s1 x3).bind fun x6=>(if (v2==x6) then some x3 else k4 (IntKind.wrap .i64 (x3+1)))) else some (-1))) fuel 0
def Qeu (P:Program) (c:Nat) (f:(List Int)→Int→Option Bool):Prop:=∀ s1 v2 r,f s1 v2=some r→∀ M nb,ACalls P c [(l_ s1),(i_ v2)] M nb (b_ r) M nb
def Qzn:List COp:=[oo 4 .mov [.c (.d (.bool false))]]
def Qzo:List COp:=[oM 5 0,oM 6 1,oo 7 (.call 116) [.t 5,.t 6],oo 8 (.bin .geq false) [.t 7,cI 0],oM 4 8]
def Qik:CFn:=⟨2,9,[.t 4],.seq (.region Qzn 9 []) (.seq (.region Qzo 9 []) (.ret))⟩
def Q4 (Qc9:(List Int)→Int→Option Int) (s1:(List Int)) (v2:Int):Option Bool :=
  ((Qc9 s1 v2).bind fun x4=>some (decide (x4≥0)))
def Qhv (P:Program) (c:Nat) (f:Qe→Option Int):Prop:=∀ a1 r,f a1=some r→∀ M nb,ACalls P c [(Qh a1)] M nb (i_ r) M nb
def Qxb:List COp:=[oo 1 (.box 4) [.t 0],oo 2 .mov [cI 0]]
def Qxc:List COp:=[oF 6 3 1,oL 7 6,oo 8 .len [.t 7],oo 9 .mov [cI 0]]
def Qxd:List COp:=[oo 10 (.bin .lss false) [.t 9,.t 8]]
def Qxe:List COp:=[oM 11 9,oo 12 (.idx 3) [.t 7,.t 9],oo 13 (.load true 3) [.t 12],oo 4 (.alloc [.d (.int .i64 0),.d (.int .i64 0),.d (.int .i64 0)]) [],oM 3 11,⟨none,.store 3,[.t 4,.t 13],false,none⟩]
def Qxf:List COp:=[oF 15 0 4,oL 16 15,oo 17 (.bin .lss false) [.t 16,cI 0],oM 18 17,⟨some 19,.fld 0,[.t 4],false,some (18,false)⟩,⟨some 20,.load false 1,[.t 19],false,some (18,false)⟩,⟨some 21,.fld 1,[.t 1],false,some (18,false)⟩,⟨some 22,.load false 1,[.t 21],false,some (18,false)⟩,⟨some 23,.bin .geq false,[.t 20,.t 22],false,some (18,false)⟩,oo 24 .pick [.t 18,.c (.d (.bool true)),.t 23],oM 25 24,⟨some 26,.fld 2,[.t 4],false,some (25,false)⟩,⟨some 27,.load false 1,[.t 26],false,some (25,false)⟩,⟨some 28,.bin .lss false,[.t 27,cI 0],false,some (25,false)⟩,oo 29 .pick [.t 25,.c (.d (.bool true)),.t 28],oM 30 29,⟨some 31,.fld 2,[.t 4],false,some (30,false)⟩,⟨some 32,.load false 1,[.t 31],false,some (30,false)⟩,⟨some 33,.fld 1,[.t 1],false,some (30,false)⟩,⟨some 34,.load false 1,[.t 33],false,some (30,false)⟩,⟨some 35,.bin .geq false,[.t 32,.t 34],false,some (30,false)⟩,oo 36 .pick [.t 30,.c (.d (.bool true)),.t 35],oM 14 36]
def Qxg:List COp:=[oo 2 .mov [cI 2]]
def Qxh:List COp:=[oF 38 0 1,oL 39 38,oF 40 1 4,oL 41 40,oo 42 (.call 98) [.t 39,.t 41],oo 43 (.un .not) [.t 42],oM 37 43]
def Qxi:List COp:=[oo 2 .mov [cI 9]]
def Qxj:List COp:=[oM 44 3,oo 45 (.bin .eql false) [.t 44,cI 0]]
def Qxk:List COp:=[oF 46 3 1,oL 47 46,oM 48 3,oo 49 (.bin .sub false) [.t 48,cI 1],oo 50 (.idx 3) [.t 47,.t 49],oo 51 (.load true 3) [.t 50],oo 5 (.alloc [.d (.int .i64 0),.d (.int .i64 0),.d (.int .i64 0)]) [],⟨none,.store 3,[.t 5,.t 51],false,none⟩]
def Qvp:List COp:=[oF 52 0 4,oL 53 52,oF 54 0 5,oL 55 54,oo 56 (.bin .lss false) [.t 53,.t 55],oM 57 56,⟨some 58,.fld 0,[.t 4],false,some (57,false)⟩,⟨some 59,.load false 1,[.t 58],false,some (57,false)⟩,⟨some 60,.fld 0,[.t 5],false,some (57,false)⟩,⟨some 61,.load false 1,[.t 60],false,some (57,false)⟩,⟨some 62,.bin .eql false,[.t 59,.t 61],false,some (57,false)⟩,⟨some 63,.mov,[.t 62],false,some (57,false)⟩,⟨some 64,.fld 1,[.t 4],false,some (63,true)⟩,⟨some 65,.load false 1,[.t 64],false,some (63,true)⟩,⟨some 66,.fld 1,[.t 5],false,some (63,true)⟩,⟨some 67,.load false 1,[.t 66],false,some (63,true)⟩,⟨some 68,.bin .leq false,[.t 65,.t 67],false,some (63,true)⟩,⟨some 69,.pick,[.t 63,.t 68,.c (.d (.bool false))],false,some (57,false)⟩,oo 70 .pick [.t 57,.c (.d (.bool true)),.t 69]]
def Qvq:List COp:=[oo 2 .mov [cI 5]]
def Qvr:List COp:=[oo 71 (.bin .add false) [.t 9,cI 1],oM 9 71]
def Qvs:List COp:=[oo 2 .mov [cI 0]]
def Qhw:CFn:=⟨1,72,[.t 2],.seq (.region Qxb 9 []) (.seq (.seq (.region Qxc 9 []) (.block 0 (.loop [4,5] (.seq (.region Qxd 9 []) (.seq (.cond (.t 10) (.skip) (.exit 0)) (.seq (.block 1 (.seq (.region Qxe 9 []) (.seq (.block 2 (.seq (.region Qxf 9 []) (.cond (.t 14) (.seq (.region Qxg 9 []) (.ret)) (.seq (.region Qxh 9 []) (.cond (.t 37) (.seq (.region Qxi 9 []) (.ret)) (.skip)))))) (.seq (.seq (.region Qxj 9 []) (.cond (.t 45) (.exit 1) (.skip))) (.seq (.region Qxk 9 []) (.seq (.region Qvp 9 []) (.cond (.t 70) (.seq (.region Qvq 9 []) (.ret)) (.skip)))))))) (.region Qvr 9 []))))))) (.seq (.region Qvs 9 []) (.ret)))⟩
def Qca (Q4:(List Int)→Int→Option Bool) (fuel:Nat) (a1:Qe):Option Int :=
  Qcm (fun k3 (x2:Int)=>(if (x2<(a1.zM.length:Int)) then letJ (fun ((c22,c23,c24):Int×Int×Int)=>k3 (IntKind.wrap .i64 (x2+1))) fun J25=>((getO a1.zM x2).bind fun x5=>(((if (x5.From<0) then some true else (if (x5.From≥a1.zN) then some true else (if (x5.To<0) then some true else some (decide (x5.To≥a1.zN)))))).bind fun (x10:Bool)=>(if x10 then some 2 else ((Q4 a1.zK x5.Event).bind fun x13=>(if x13 then (if (x2==0) then J25 (x5.From,x5.Event,x5.To) else ((getO a1.zM (IntKind.wrap .i64 (x2-1))).bind fun x16=>(((if (x5.From<x16.From) then some true else (if (x5.From==x16.From) then some (decide (x5.Event≤x16.Event)) else some false))).bind fun (x20:Bool)=>(if x20 then some 5 else J25 (x5.From,x5.Event,x5.To))))) else some 9))))) else some 0)) fuel 0
def Qiw (P:Program) (c:Nat) (f:Qe→Option Int):Prop:=∀ a1 r,f a1=some r→∀ M nb,ACalls P c [(Qh a1)] M nb (i_ r) M nb
def Q67:List COp:=[oo 1 (.box 4) [.t 0],oo 2 .mov [cI 0]]
def Q68:List COp:=[oF 5 0 1,oL 6 5,oo 7 (.call 85) [.t 6,cI 32],oM 3 7]
def Q69:List COp:=[oM 8 3,oo 9 (.bin .neq false) [.t 8,cI 0]]
def Q7a:List COp:=[oM 10 3,oM 2 10]
def Q7b:List COp:=[oF 12 1 1,oL 13 12,oo 14 (.bin .lss false) [.t 13,cI 0],oM 11 14]
def Q7c:List COp:=[oo 2 .mov [cI 2]]
def Q7d:List COp:=[oF 16 1 1,oL 17 16,oo 18 (.bin .gtr false) [.t 17,cI 4096],oM 15 18]
def Q7e:List COp:=[oo 2 .mov [cI 3]]
def Q7f:List COp:=[oF 19 2 1,oL 20 19,oF 21 1 1,oL 22 21,oo 23 (.call 85) [.t 20,.t 22],oM 4 23]
def Q7g:List COp:=[oM 24 4,oo 25 (.bin .neq false) [.t 24,cI 0]]
def Q5c:List COp:=[oM 26 4,oM 2 26]
def Q5d:List COp:=[oo 27 (.load true 4) [.t 1],oo 28 (.call 86) [.t 27],oM 2 28]
def Qob:CFn:=⟨1,29,[.t 2],.seq (.region Q67 9 []) (.seq (.seq (.region Q68 9 []) (.seq (.region Q69 9 []) (.cond (.t 9) (.seq (.region Q7a 9 []) (.ret)) (.skip)))) (.seq (.block 0 (.seq (.region Q7b 9 []) (.cond (.t 11) (.seq (.region Q7c 9 []) (.ret)) (.seq (.region Q7d 9 []) (.cond (.t 15) (.seq (.region Q7e 9 []) (.ret)) (.skip)))))) (.seq (.seq (.region Q7f 9 []) (.seq (.region Q7g 9 []) (.cond (.t 25) (.seq (.region Q5c 9 []) (.ret)) (.skip)))) (.seq (.region Q5d 9 []) (.ret)))))⟩
def Qb0 (Qcf:(List Int)→Int→Option Int) (Qca:Qe→Option Int) (a1:Qe):Option Int :=
  ((Qcf a1.zK 32).bind fun x3=>(if (x3 != 0) then some x3 else (if (a1.zN<0) then some 2 else (if (a1.zN>4096) then some 3 else ((Qcf a1.zL a1.zN).bind fun x8=>(if (x8 != 0) then some x8 else ((Qca a1).bind fun x11=>some x11)))))))
def Qhj (P:Program) (c:Nat) (f:(List Int)→Int→Option Int):Prop:=∀ xv1 n2 r,f xv1 n2=some r→∀ M nb,ACalls P c [(l_ xv1),(i_ n2)] M nb (i_ r) M nb
def Q2y:List COp:=[oo 4 .mov [cI 0]]
def Q2z:List COp:=[oM 7 0,oo 8 .len [.t 7],oo 9 .mov [cI 0]]
def Q20:List COp:=[oo 10 (.bin .lss false) [.t 9,.t 8]]
def Q21:List COp:=[oM 11 9,oo 12 (.idx 1) [.t 7,.t 9],oL 13 12,oM 5 11,oM 6 13]
def Q22:List COp:=[oM 14 6,oo 15 (.bin .lss false) [.t 14,cI 0],oM 16 15,⟨some 17,.mov,[.t 6],false,some (16,false)⟩,⟨some 18,.mov,[.t 1],false,some (16,false)⟩,⟨some 19,.bin .geq false,[.t 17,.t 18],false,some (16,false)⟩,oo 20 .pick [.t 16,.c (.d (.bool true)),.t 19]]
def Q23:List COp:=[oo 4 .mov [cI 2]]
def Q24:List COp:=[oM 21 5,oo 22 (.bin .gtr false) [.t 21,cI 0],oM 23 22,⟨some 24,.mov,[.t 6],false,some (23,true)⟩,⟨some 25,.mov,[.t 0],false,some (23,true)⟩,⟨some 26,.mov,[.t 5],false,some (23,true)⟩,⟨some 27,.bin .sub false,[.t 26,cI 1],false,some (23,true)⟩,⟨some 28,.idx 1,[.t 25,.t 27],false,some (23,true)⟩,⟨some 29,.load false 1,[.t 28],false,some (23,true)⟩,⟨some 30,.bin .leq false,[.t 24,.t 29],false,some (23,true)⟩,oo 31 .pick [.t 23,.t 30,.c (.d (.bool false))]]
def Q25:List COp:=[oo 4 .mov [cI 5]]
def Q26:List COp:=[oo 32 (.bin .add false) [.t 9,cI 1],oM 9 32]
def Q27:List COp:=[oo 4 .mov [cI 0]]
def Qj9:CFn:=⟨2,33,[.t 4],.seq (.region Q2y 9 []) (.seq (.seq (.region Q2z 9 []) (.block 0 (.loop [] (.seq (.region Q20 9 []) (.seq (.cond (.t 10) (.skip) (.exit 0)) (.seq (.block 1 (.seq (.region Q21 9 []) (.seq (.seq (.region Q22 9 []) (.cond (.t 20) (.seq (.region Q23 9 []) (.ret)) (.skip))) (.seq (.region Q24 9 []) (.cond (.t 31) (.seq (.region Q25 9 []) (.ret)) (.skip)))))) (.region Q26 9 []))))))) (.seq (.region Q27 9 []) (.ret)))⟩
def Qba (fuel:Nat) (xv1:(List Int)) (n2:Int):Option Int :=
  Qcm (fun k4 (x3:Int)=>(if (x3<(xv1.length:Int)) then ((getO xv1 x3).bind fun x6=>(((if (x6<0) then some true else some (decide (x6≥n2)))).bind fun (x9:Bool)=>(if x9 then some 2 else (((if (x3>0) then ((getO xv1 (IntKind.wrap .i64 (x3-1))).bind fun x12=>some (decide (x6≤x12))) else some false)).bind fun (x14:Bool)=>(if x14 then some 5 else k4 (IntKind.wrap .i64 (x3+1))))))) else some 0)) fuel 0
def Qf1 (P:Program) (c:Nat) (f:Int→Option Bool):Prop:=∀ n1 r,f n1=some r→∀ M nb,ACalls P c [(i_ n1)] M nb (b_ r) M nb
def Qxl:List COp:=[oo 2 .mov [.c (.d (.bool false))]]
def Qxm:List COp:=[oM 3 0,oo 4 (.bin .geq false) [.t 3,cI 0],oM 5 4,⟨some 6,.mov,[.t 0],false,some (5,true)⟩,⟨some 7,.bin .lss false,[.t 6,cI 32],false,some (5,true)⟩,oo 8 .pick [.t 5,.t 7,.c (.d (.bool false))],oM 2 8]
def Qhx:CFn:=⟨1,9,[.t 2],.seq (.region Qxl 9 []) (.seq (.region Qxm 9 []) (.ret))⟩
def Q6 (n1:Int):Option Bool :=
  (if (n1≥0) then some (decide (n1<32)) else some false)
def Qtt (P:Program) (c:Nat) (f:Int→Option Bool):Prop:=∀ x1 r,f x1=some r→∀ M nb,ACalls P c [(i_ x1)] M nb (b_ r) M nb
def Qbap:List COp:=[oo 2 .mov [.c (.d (.bool false))]]
def Qbaq:List COp:=[oM 3 0,oM 4 0,oo 5 (.bin .neq false) [.t 3,.t 4],oM 2 5]
def Qtu:CFn:=⟨1,6,[.t 2],.seq (.region Qbap 9 []) (.seq (.region Qbaq 9 []) (.ret))⟩
def Qdx (x1:Int):Option Bool :=
  some (x1 != x1)
def Qvt (P:Program) (c:Nat) (f:Int→Int→Option Bool):Prop:=∀ x1 y2 r,f x1 y2=some r→∀ M nb,ACalls P c [(i_ x1),(i_ y2)] M nb (b_ r) M nb
def Qbbk:List COp:=[oo 4 .mov [.c (.d (.bool false))]]
def Qbbl:List COp:=[oM 5 0,oo 6 (.call 115) [.t 5],oM 7 6,⟨some 8,.mov,[.t 1],false,some (7,true)⟩,⟨some 9,.call 115,[.t 8],false,some (7,true)⟩,⟨some 10,.un .not,[.t 9],false,some (7,true)⟩,oo 11 .pick [.t 7,.t 10,.c (.d (.bool false))],oM 12 11,⟨some 13,.mov,[.t 0],false,some (12,false)⟩,⟨some 14,.mov,[.t 1],false,some (12,false)⟩,⟨some 15,.bin .lss false,[.t 13,.t 14],false,some (12,false)⟩,oo 16 .pick [.t 12,.c (.d (.bool true)),.t 15],oM 4 16]
def Qvu:CFn:=⟨2,17,[.t 4],.seq (.region Qbbk 9 []) (.seq (.region Qbbl 9 []) (.ret))⟩
def Qep (Qdx:Int→Option Bool) (x1:Int) (y2:Int):Option Bool :=
  ((Qdx x1).bind fun x4=>(if x4 then ((Qdx y2).bind fun x7=>(if x7 then some (decide (x1<y2)) else some true)) else some (decide (x1<y2))))
def Qln (P:Program) (c:Nat) (f:Int→Option Bool):Prop:=∀ x1 r,f x1=some r→∀ M nb,ACalls P c [(i_ x1)] M nb (b_ r) M nb
def Q5e:List COp:=[oo 2 .mov [.c (.d (.bool false))]]
def Q5f:List COp:=[oM 3 0,oM 4 0,oo 5 (.bin .neq false) [.t 3,.t 4],oM 2 5]
def Qlo:CFn:=⟨1,6,[.t 2],.seq (.region Q5e 9 []) (.seq (.region Q5f 9 []) (.ret))⟩
def Qcw (x1:Int):Option Bool :=
  some (x1 != x1)
def Qgp (P:Program) (c:Nat) (f:(List Int)→Int→Option (Int×Bool)):Prop:=∀ x1 tv2 r,f x1 tv2=some r→∀ M nb,ACalls P c [(l_ x1),(i_ tv2)] M nb (.tup [(i_ r.1),(b_ r.2)]) M nb
def Qtv:List COp:=[oo 4 .mov [cI 0],oo 5 .mov [.c (.d (.bool false))]]
def Qtw:List COp:=[oM 10 0,oo 11 .len [.t 10],oM 6 11]
def Qtx:List COp:=[oM 12 6,oo 7 .mov [cI 0],oM 8 12]
def Qty:List COp:=[oM 13 7,oM 14 8,oo 15 (.bin .lss false) [.t 13,.t 14]]
def Qtz:List COp:=[oM 16 7,oM 17 8,oo 18 (.bin .add false) [.t 16,.t 17],oo 19 (.conv .u64) [.t 18],oo 20 (.bin .shr false) [.t 19,.c (.d (.int .u64 1))],oo 21 (.conv .i64) [.t 20],oM 9 21]
def Qt0:List COp:=[oM 22 0,oM 23 9,oo 24 (.idx 1) [.t 22,.t 23],oL 25 24,oM 26 1,oo 27 (.call 95) [.t 25,.t 26]]
def Qt1:List COp:=[oM 28 9,oo 29 (.bin .add false) [.t 28,cI 1],oM 7 29]
def Qt2:List COp:=[oM 30 9,oM 8 30]
def Qt3:List COp:=[oM 31 7,oM 32 7,oM 33 6,oo 34 (.bin .lss false) [.t 32,.t 33],oM 35 34,⟨some 36,.mov,[.t 0],false,some (35,true)⟩,⟨some 37,.mov,[.t 7],false,some (35,true)⟩,⟨some 38,.idx 1,[.t 36,.t 37],false,some (35,true)⟩,⟨some 39,.load false 1,[.t 38],false,some (35,true)⟩,⟨some 40,.mov,[.t 1],false,some (35,true)⟩,⟨some 41,.bin .eql false,[.t 39,.t 40],false,some (35,true)⟩,⟨some 42,.mov,[.t 41],false,some (35,true)⟩,⟨some 43,.mov,[.t 0],false,some (42,false)⟩,⟨some 44,.mov,[.t 7],false,some (42,false)⟩,⟨some 45,.idx 1,[.t 43,.t 44],false,some (42,false)⟩,⟨some 46,.load false 1,[.t 45],false,some (42,false)⟩,⟨some 47,.call 96,[.t 46],false,some (42,false)⟩,⟨some 48,.mov,[.t 47],false,some (42,false)⟩,⟨some 49,.mov,[.t 1],false,some (48,true)⟩,⟨some 50,.call 96,[.t 49],false,some (48,true)⟩,⟨some 51,.pick,[.t 48,.t 50,.c (.d (.bool false))],false,some (42,false)⟩,⟨some 52,.pick,[.t 42,.c (.d (.bool true)),.t 51],false,some (35,true)⟩,oo 53 .pick [.t 35,.t 52,.c (.d (.bool false))],oM 4 31,oM 5 53]
def Qgq:CFn:=⟨2,54,[.t 4,.t 5],.seq (.region Qtv 9 []) (.seq (.region Qtw 9 []) (.seq (.region Qtx 9 []) (.seq (.block 0 (.loop [] (.seq (.seq (.region Qty 9 []) (.cond (.t 15) (.skip) (.exit 0))) (.block 1 (.seq (.region Qtz 9 []) (.seq (.region Qt0 9 []) (.cond (.t 27) (.region Qt1 9 []) (.region Qt2 9 [])))))))) (.seq (.region Qt3 9 []) (.ret)))))⟩
def Qbv (Qep:Int→Int→Option Bool) (Qcw:Int→Option Bool) (fuel:Nat) (x1:(List Int)) (tv2:Int):Option (Int×Bool) :=
  ((Qcm (fun k5 ((i3,j4):Int×Int)=>(if (i3<j4) then ((getO x1 (IntKind.wrap .i64 (Int.fdiv (IntKind.wrap .u64 (IntKind.wrap .i64 (i3+j4))) (2 ^ (min (Int.toNat 1) (IntKind.bits .u64)))))).bind fun x7=>((Qep x7 tv2).bind fun x10=>(if x10 then k5 ((IntKind.wrap .i64 ((IntKind.wrap .i64 (Int.fdiv (IntKind.wrap .u64 (IntKind.wrap .i64 (i3+j4))) (2 ^ (min (Int.toNat 1) (IntKind.bits .u64)))))+1)),j4) else k5 (i3,(IntKind.wrap .i64 (Int.fdiv (IntKind.wrap .u64 (IntKind.wrap .i64 (i3+j4))) (2 ^ (min (Int.toNat 1) (IntKind.bits .u64))))))))) else some i3)) fuel (0,(x1.length:Int))).bind fun (i12:Int)=>(if (i12<(x1.length:Int)) then ((getO x1 i12).bind fun x14=>(if (x14==tv2) then some (i12,true) else ((getO x1 i12).bind fun x17=>((Qcw x17).bind fun x20=>(if x20 then ((Qcw tv2).bind fun x23=>some (i12,x23)) else some (i12,false)))))) else some (i12,false)))
def Qde (P:Program) (c:Nat) (f:(List Int)→Int→Option Bool):Prop:=∀ xv1 x2 r,f xv1 x2=some r→∀ M nb,ACalls P c [(l_ xv1),(i_ x2)] M nb (b_ r) M nb
def Q28:List COp:=[oo 4 .mov [.c (.d (.bool false))]]
def Q29:List COp:=[oM 8 0,oM 9 1,oo 10 (.call 74) [.t 8,.t 9],oM 7 10,oo 11 (.extract 0) [.t 7],oo 12 (.extract 1) [.t 7],oM 5 11,oM 6 12]
def Q3a:List COp:=[oM 13 6,oM 4 13]
def Qka:CFn:=⟨2,14,[.t 4],.seq (.region Q28 9 []) (.seq (.region Q29 9 []) (.seq (.region Q3a 9 []) (.ret)))⟩
def Qr (Qbv:(List Int)→Int→Option (Int×Bool)) (xv1:(List Int)) (x2:Int):Option Bool :=
  ((Qbv xv1 x2).bind fun (r4,r5)=>some r5)
def Qhy (P:Program) (c:Nat) (f:Qa→Option Int):Prop:=∀ p1 r,f p1=some r→∀ M nb,ACalls P c [(Qq p1)] M nb (i_ r) M nb
def Qxn:List COp:=[oo 1 (.box 8) [.t 0],oo 2 .mov [cI 0]]
def Qxo:List COp:=[oF 8 0 1,oo 9 (.load true 4) [.t 8],oo 10 (.call 64) [.t 9],oM 3 10]
def Qxp:List COp:=[oM 11 3,oo 12 (.bin .neq false) [.t 11,cI 0]]
def Qxq:List COp:=[oM 13 3,oM 2 13]
def Qxr:List COp:=[oF 14 4 1,oL 15 14,oF 16 0 1,oF 17 1 16,oL 18 17,oo 19 (.call 31) [.t 15,.t 18],oM 4 19]
def Qxs:List COp:=[oM 20 4,oo 21 (.bin .neq false) [.t 20,cI 0]]
def Qxt:List COp:=[oM 22 4,oM 2 22]
def Qxu:List COp:=[oF 23 5 1,oL 24 23,oF 25 6 1,oL 26 25,oo 27 (.bslice 1 2 [.nils 1] [0,1]) [.t 24,.t 26],oo 28 .len [.t 27],oo 29 .mov [cI 0]]
def Qxv:List COp:=[oo 30 (.bin .lss false) [.t 29,.t 28]]
def Qxw:List COp:=[oo 31 (.idx 1) [.t 27,.t 29],oL 32 31,ot 6 .mov [.t 32]]
def Qvv:List COp:=[oM 33 6,oo 34 (.call 31) [.t 33,cI 32],oM 7 34]
def Qvw:List COp:=[oM 35 7,oo 36 (.bin .neq false) [.t 35,cI 0]]
def Qvx:List COp:=[oM 37 7,oM 2 37]
def Qvy:List COp:=[oo 38 (.bin .add false) [.t 29,cI 1],oM 29 38]
def Qvz:List COp:=[oF 40 7 1,oL 41 40,oo 42 (.call 65) [.t 41],oo 43 (.un .not) [.t 42],oM 39 43]
def Qv0:List COp:=[oo 2 .mov [cI 2]]
def Qv1:List COp:=[oF 45 5 1,oL 46 45,oF 47 7 1,oL 48 47,oo 49 (.call 50) [.t 46,.t 48],oM 50 49,⟨some 51,.fld 6,[.t 1],false,some (50,false)⟩,⟨some 52,.load false 1,[.t 51],false,some (50,false)⟩,⟨some 53,.fld 7,[.t 1],false,some (50,false)⟩,⟨some 54,.load false 1,[.t 53],false,some (50,false)⟩,⟨some 55,.call 50,[.t 52,.t 54],false,some (50,false)⟩,oo 56 .pick [.t 50,.c (.d (.bool true)),.t 55],oM 44 56]
def Qv2:List COp:=[oo 2 .mov [cI 13]]
def Qv3:List COp:=[oo 2 .mov [cI 0]]
def Qhz:CFn:=⟨1,57,[.t 2],.seq (.region Qxn 9 []) (.seq (.seq (.region Qxo 9 []) (.seq (.region Qxp 9 []) (.cond (.t 12) (.seq (.region Qxq 9 []) (.ret)) (.skip)))) (.seq (.seq (.region Qxr 9 []) (.seq (.region Qxs 9 []) (.cond (.t 21) (.seq (.region Qxt 9 []) (.ret)) (.skip)))) (.seq (.seq (.region Qxu 9 []) (.block 0 (.loop [] (.seq (.region Qxv 9 []) (.seq (.cond (.t 30) (.skip) (.exit 0)) (.seq (.block 1 (.seq (.region Qxw 9 []) (.seq (.region Qvv 9 []) (.seq (.region Qvw 9 []) (.cond (.t 36) (.seq (.region Qvx 9 []) (.ret)) (.skip)))))) (.region Qvy 9 []))))))) (.seq (.block 2 (.seq (.region Qvz 9 []) (.cond (.t 39) (.seq (.region Qv0 9 []) (.ret)) (.seq (.region Qv1 9 []) (.cond (.t 44) (.seq (.region Qv2 9 []) (.ret)) (.skip)))))) (.seq (.region Qv3 9 []) (.ret))))))⟩
def Qcb (Qba:(List Int)→Int→Option Int) (Qr:(List Int)→Int→Option Bool) (Qb0:Qe→Option Int) (Q6:Int→Option Bool) (fuel:Nat) (p1:Qa):Option Int :=
  ((Qb0 p1.zA).bind fun x3=>(if (x3 != 0) then some x3 else ((Qba p1.zC p1.zA.zN).bind fun x6=>(if (x6 != 0) then some x6 else Qcm (fun k9 (x8:Int)=>(if (x8<2) then ((getO [p1.zB,p1.zD] x8).bind fun x11=>((Qba x11 32).bind fun x14=>(if (x14 != 0) then some x14 else k9 (IntKind.wrap .i64 (x8+1))))) else ((Q6 p1.Tick).bind fun x17=>(if x17 then ((((Qr p1.zB p1.Tick).bind fun x20=>(if x20 then some true else ((Qr p1.zD p1.Tick).bind fun x23=>some x23)))).bind fun (x24:Bool)=>(if x24 then some 13 else some 0)) else some 2)))) fuel 0))))
def Qh0 (P:Program) (c:Nat) (f:Qa→Option Qp):Prop:=∀ p1 r,f p1=some r→∀ M nb,ACalls P c [(Qq p1)] M nb (.ptr (nb+17) 0) (Qo nb [(17,.cells [(l_ r.zO.zA.zK),(i_ r.zO.zA.zN),(l_ r.zO.zA.zL),(Qd r.zO.zA.zM),(l_ r.zO.zC),(l_ r.zO.zB),(l_ r.zO.zD),(i_ r.zO.Tick),.sl 1 (nb+11) 0 r.from_.length r.from_.length,.sl 1 (nb+15) 0 r.left_.length r.left_.length]),(11,.cells (Q3 (fun (x:List Qc)=>[(Qd x)]) r.from_)),(15,.cells (Q3 (fun (x:Bool)=>[V.d (.bool x)]) r.left_))] M) (nb+66)
def Qxx:List COp:=[oo 1 (.box 8) [.t 0],oo 2 .mov [.c (.nilp)]]
def Qxy:List COp:=[oo 7 (.load true 8) [.t 1],oF 8 0 1,oF 9 1 8,oL 10 9,oo 11 (.makes 1 24 [.nils 3]) [.t 10,.t 10],oF 12 0 1,oF 13 1 12,oL 14 13,oo 15 (.makes 1 1 [.d (.bool false)]) [.t 14,.t 14],ot 16 (.build [.nils 1,.d (.int .i64 0),.nils 1,.nils 3,.nils 1,.nils 1,.nils 1,.d (.int .i64 0),.nils 1,.nils 1] [(0,8),(8,1),(9,1)]) [.t 7,.t 11,.t 15],oo 17 (.box 10) [.t 16],oM 3 17]
def Qxz:List COp:=[oF 18 0 1,oF 19 3 18,oL 20 19,oo 21 .len [.t 20],oo 22 .mov [cI 0]]
def Qx0:List COp:=[oo 23 (.bin .lss false) [.t 22,.t 21]]
def Qx1:List COp:=[oo 24 (.idx 3) [.t 20,.t 22],oo 25 (.load true 3) [.t 24],oo 5 (.alloc [.d (.int .i64 0),.d (.int .i64 0),.d (.int .i64 0)]) [],⟨none,.store 3,[.t 5,.t 25],false,none⟩]
def Qx2:List COp:=[oM 26 3,oo 27 .nilchk [.t 26],oF 28 8 27,oL 29 28,oF 30 0 5,oL 31 30,oM 32 3,oo 33 .nilchk [.t 32],oF 34 8 33,oL 35 34,oF 36 0 5,oL 37 36,oo 38 (.idx 1) [.t 35,.t 37],oo 39 .loadT [.t 38],oo 40 (.load true 3) [.t 5],oo 41 (.bslice 3 1 [.d (.int .i64 0),.d (.int .i64 0),.d (.int .i64 0)] [0]) [.t 40],ot 42 (.append 3 24) [.t 39,.t 41],oo 43 (.idx 1) [.t 29,.t 31],⟨none,.store 1,[.t 43,.t 42],true,none⟩]
def Qx3:List COp:=[oo 44 (.bin .add false) [.t 22,cI 1],oM 22 44]
def Qx4:List COp:=[oM 45 3,oo 46 .nilchk [.t 45],oF 47 9 46,oL 48 47,oo 49 .len [.t 48],oo 50 .mov [cI 0]]
def Qx5:List COp:=[oo 51 (.bin .lss false) [.t 50,.t 49]]
def Qx6:List COp:=[oM 52 50,oM 6 52]
def Qv4:List COp:=[oM 53 3,oo 54 .nilchk [.t 53],oF 55 9 54,oL 56 55,oM 57 6,oF 58 4 1,oL 59 58,oM 60 6,oo 61 (.call 50) [.t 59,.t 60],oo 62 (.un .not) [.t 61],oo 63 (.idx 1) [.t 56,.t 57],⟨none,.store 1,[.t 63,.t 62],false,none⟩]
def Qv5:List COp:=[oo 64 (.bin .add false) [.t 50,cI 1],oM 50 64]
def Qv6:List COp:=[oM 65 3,oM 2 65]
def Qh1:CFn:=⟨1,66,[.t 2],.seq (.region Qxx 9 []) (.seq (.region Qxy 0 []) (.seq (.seq (.region Qxz 9 []) (.block 0 (.loop [5,41] (.seq (.region Qx0 9 []) (.seq (.cond (.t 23) (.skip) (.exit 0)) (.seq (.block 1 (.seq (.region Qx1 9 []) (.region Qx2 0 []))) (.region Qx3 9 []))))))) (.seq (.seq (.region Qx4 9 []) (.block 2 (.loop [] (.seq (.region Qx5 9 []) (.seq (.cond (.t 51) (.skip) (.exit 2)) (.seq (.block 3 (.seq (.region Qx6 9 []) (.region Qv4 1 []))) (.region Qv5 9 []))))))) (.seq (.region Qv6 9 []) (.ret)))))⟩
def Qcc (Qr:(List Int)→Int→Option Bool) (fuel:Nat) (p1:Qa):Option Qp :=
  ((mkO p1.zA.zN ([]:List Qc)).bind fun x2=>((mkO p1.zA.zN false).bind fun x4=>((Qcm (fun k8 ((x6,c7):Int×(List (List Qc)))=>(if (x6<(p1.zA.zM.length:Int)) then ((getO p1.zA.zM x6).bind fun x10=>((inO (Int.toNat p1.zA.zN) x10.From).bind fun u12=>((getO c7 x10.From).bind fun x14=>((appO x14 [x10]).bind fun x16=>((inO (Int.toNat p1.zA.zN) x10.From).bind fun u18=>((setO c7 x10.From x16).bind fun x20=>k8 ((IntKind.wrap .i64 (x6+1)),x20))))))) else some c7)) fuel (0,x2)).bind fun (c22:List (List Qc))=>((Qcm (fun k25 ((x23,c24):Int×(List Bool))=>(if (x23<((Int.toNat p1.zA.zN):Int)) then ((Qr p1.zC x23).bind fun x28=>((inO (Int.toNat p1.zA.zN) x23).bind fun u29=>((setO c24 x23 (!x28)).bind fun x31=>k25 ((IntKind.wrap .i64 (x23+1)),x31)))) else some c24)) fuel (0,x4)).bind fun (c33:List Bool)=>(lenO c22 (Int.toNat p1.zA.zN)).bind fun _=>(lenO c33 (Int.toNat p1.zA.zN)).bind fun _=>some (Qp.mk p1 c22 c33)))))
def Qev (P:Program) (c:Nat) (f:Qc→Qp→Option Bool):Prop:=∀ x1 x2 (k3:Nat) (k5:Nat) (k7:Nat) (k9:Nat) r,f x1 x2=some r→∀ M nb,(M k3=some (.cells [.ptr k5 0]))→(M k5=some (.cells [(l_ x2.zO.zA.zK),(i_ x2.zO.zA.zN),(l_ x2.zO.zA.zL),(Qd x2.zO.zA.zM),(l_ x2.zO.zC),(l_ x2.zO.zB),(l_ x2.zO.zD),(i_ x2.zO.Tick),.sl 1 k7 0 x2.from_.length x2.from_.length,.sl 1 k9 0 x2.left_.length x2.left_.length]))→(M k7=some (.cells (Q3 (fun (x:List Qc)=>[(Qd x)]) x2.from_)))→(M k9=some (.cells (Q3 (fun (x:Bool)=>[V.d (.bool x)]) x2.left_)))→ACalls P c [(Qce x1),.ptr k3 0] M nb (b_ r) M nb
def Qm5:List COp:=[oo 2 (.box 3) [.t 0],oo 3 .mov [.c (.d (.bool false))]]
def Qm6:List COp:=[oF 4 1 2,oL 5 4,oL 6 1,oo 7 .nilchk [.t 6],oF 8 0 7,oF 9 7 8,oL 10 9,oo 11 (.bin .eql false) [.t 5,.t 10],oM 12 11,⟨some 13,.load false 1,[.t 1],false,some (12,true)⟩,⟨some 14,.nilchk,[.t 13],false,some (12,true)⟩,⟨some 15,.fld 9,[.t 14],false,some (12,true)⟩,⟨some 16,.load false 1,[.t 15],false,some (12,true)⟩,⟨some 17,.fld 2,[.t 2],false,some (12,true)⟩,⟨some 18,.load false 1,[.t 17],false,some (12,true)⟩,⟨some 19,.idx 1,[.t 16,.t 18],false,some (12,true)⟩,⟨some 20,.load false 1,[.t 19],false,some (12,true)⟩,⟨some 21,.un .not,[.t 20],false,some (12,true)⟩,oo 22 .pick [.t 12,.t 21,.c (.d (.bool false))],oM 3 22]
def Qew:CFn:=⟨2,23,[.t 3],.seq (.region Qm5 9 []) (.seq (.region Qm6 0 []) (.ret))⟩
def Qbc (x1:Qc) (x2:Qp):Option Bool :=
  (if (x1.Event==x2.zO.Tick) then ((inO x2.left_.length x1.To).bind fun u12=>((getO x2.left_ x1.To).bind fun x14=>some (!x14))) else some false)
def Qhk (P:Program) (c:Nat) (f:(List Qc)→(Qc→Option Bool)→Option Int):Prop:=∀ s1 f2 (g3:Nat) (cp4:List V) r,f s1 f2=some r→∀ M nb,(V.dems cp4=cp4)→(V.ons (There M) cp4)→(∀ a8 r,f2 a8=some r→∀ M2 nb2,nb≤nb2→Ext M M2→ACalls P g3 ([(Qce a8)]++cp4) M2 nb2 (b_ r) M2 nb2)→ACalls P c [(Qd s1),.clo g3 cp4] M nb (i_ r) M nb
def Qv7:List COp:=[oo 4 .mov [cI 0]]
def Qv8:List COp:=[oM 6 0,oo 7 .len [.t 6],oo 8 .mov [cI 0]]
def Qv9:List COp:=[oo 9 (.bin .lss false) [.t 8,.t 7]]
def Qwa:List COp:=[oM 10 8,oM 5 10]
def Qwb:List COp:=[oM 11 1,oM 12 0,oM 13 5,oo 14 (.idx 3) [.t 12,.t 13],oo 15 (.load true 3) [.t 14],oo 16 .callv [.t 11,.t 15]]
def Qwc:List COp:=[oM 17 5,oM 4 17]
def Qwd:List COp:=[oo 18 (.bin .add false) [.t 8,cI 1],oM 8 18]
def Qwe:List COp:=[oo 4 .mov [cI (-1)]]
def Qhl:CFn:=⟨2,19,[.t 4],.seq (.region Qv7 9 []) (.seq (.seq (.region Qv8 9 []) (.block 0 (.loop [] (.seq (.region Qv9 9 []) (.seq (.cond (.t 9) (.skip) (.exit 0)) (.seq (.block 1 (.seq (.region Qwa 9 []) (.seq (.region Qwb 9 []) (.cond (.t 16) (.seq (.region Qwc 9 []) (.ret)) (.skip))))) (.region Qwd 9 []))))))) (.seq (.region Qwe 9 []) (.ret)))⟩
def Qb5 (fuel:Nat) (s1:(List Qc)) (f2:(Qc→Option Bool)):Option Int :=
  Qcm (fun k10 (x9:Int)=>(if (x9<(s1.length:Int)) then ((getO s1 x9).bind fun x12=>((f2 x12).bind fun x15=>(if x15 then some x9 else k10 (IntKind.wrap .i64 (x9+1))))) else some (-1))) fuel 0
def Qdq (P:Program) (c:Nat) (f:(List Qc)→(Qc→Option Bool)→Option Bool):Prop:=∀ s1 f2 (g3:Nat) (cp4:List V) r,f s1 f2=some r→∀ M nb,(V.dems cp4=cp4)→(V.ons (There M) cp4)→(∀ a8 r,f2 a8=some r→∀ M2 nb2,nb≤nb2→Ext M M2→ACalls P g3 ([(Qce a8)]++cp4) M2 nb2 (b_ r) M2 nb2)→ACalls P c [(Qd s1),.clo g3 cp4] M nb (b_ r) M nb
def Qsj:List COp:=[oo 4 .mov [.c (.d (.bool false))]]
def Qsk:List COp:=[oM 5 0,oM 6 1,oo 7 (.call 71) [.t 5,.t 6],oo 8 (.bin .geq false) [.t 7,cI 0],oM 4 8]
def Qf9:CFn:=⟨2,9,[.t 4],.seq (.region Qsj 9 []) (.seq (.region Qsk 9 []) (.ret))⟩
def Qu (Qb5:(List Qc)→(Qc→Option Bool)→Option Int) (s1:(List Qc)) (f2:(Qc→Option Bool)):Option Bool :=
  ((Qb5 s1 f2).bind fun x13=>some (decide (x13≥0)))
def Qex (P:Program) (c:Nat) (f:Qc→Qp→Option Bool):Prop:=∀ x1 x2 (k3:Nat) (k5:Nat) (k7:Nat) (k9:Nat) r,f x1 x2=some r→∀ M nb,(M k3=some (.cells [.ptr k5 0]))→(M k5=some (.cells [(l_ x2.zO.zA.zK),(i_ x2.zO.zA.zN),(l_ x2.zO.zA.zL),(Qd x2.zO.zA.zM),(l_ x2.zO.zC),(l_ x2.zO.zB),(l_ x2.zO.zD),(i_ x2.zO.Tick),.sl 1 k7 0 x2.from_.length x2.from_.length,.sl 1 k9 0 x2.left_.length x2.left_.length]))→(M k7=some (.cells (Q3 (fun (x:List Qc)=>[(Qd x)]) x2.from_)))→(M k9=some (.cells (Q3 (fun (x:Bool)=>[V.d (.bool x)]) x2.left_)))→ACalls P c [(Qce x1),.ptr k3 0] M nb (b_ r) M nb
def Qm7:List COp:=[oo 2 (.box 3) [.t 0],oo 3 .mov [.c (.d (.bool false))]]
def Qm8:List COp:=[oL 4 1,oo 5 .nilchk [.t 4],oF 6 9 5,oL 7 6,oF 8 2 2,oL 9 8,oo 10 (.idx 1) [.t 7,.t 9],oL 11 10,oM 12 11,⟨some 13,.load false 1,[.t 1],false,some (12,true)⟩,⟨some 14,.nilchk,[.t 13],false,some (12,true)⟩,⟨some 15,.fld 0,[.t 14],false,some (12,true)⟩,⟨some 16,.fld 6,[.t 15],false,some (12,true)⟩,⟨some 17,.load false 1,[.t 16],false,some (12,true)⟩,⟨some 18,.fld 1,[.t 2],false,some (12,true)⟩,⟨some 19,.load false 1,[.t 18],false,some (12,true)⟩,⟨some 20,.call 50,[.t 17,.t 19],false,some (12,true)⟩,oo 21 .pick [.t 12,.t 20,.c (.d (.bool false))],oM 3 21]
def Qey:CFn:=⟨2,22,[.t 3],.seq (.region Qm7 9 []) (.seq (.region Qm8 0 []) (.ret))⟩
def Qbd (Qr:(List Int)→Int→Option Bool) (x1:Qc) (x2:Qp):Option Bool :=
  ((inO x2.left_.length x1.To).bind fun u11=>((getO x2.left_ x1.To).bind fun x13=>(if x13 then ((Qr x2.zO.zD x1.Event).bind fun x17=>some x17) else some false)))
def Qfh (P:Program) (c:Nat) (f:Qp→Int→Option Bool):Prop:=∀ t1 sv8 (k2:Nat) (k4:Nat) (k6:Nat) r,f t1 sv8=some r→∀ M nb,(M k2=some (.cells [(l_ t1.zO.zA.zK),(i_ t1.zO.zA.zN),(l_ t1.zO.zA.zL),(Qd t1.zO.zA.zM),(l_ t1.zO.zC),(l_ t1.zO.zB),(l_ t1.zO.zD),(i_ t1.zO.Tick),.sl 1 k4 0 t1.from_.length t1.from_.length,.sl 1 k6 0 t1.left_.length t1.left_.length]))→(M k4=some (.cells (Q3 (fun (x:List Qc)=>[(Qd x)]) t1.from_)))→(M k6=some (.cells (Q3 (fun (x:Bool)=>[V.d (.bool x)]) t1.left_)))→ACalls P c [.ptr k2 0,(i_ sv8)] M nb (b_ r) M nb
def Qpb:List COp:=[oo 2 (.box 1) [.t 0],oo 4 .mov [.c (.d (.bool false))]]
def Qpc:List COp:=[oL 5 2,oo 6 .nilchk [.t 5],oF 7 8 6,oL 8 7,oM 9 1,oo 10 (.idx 1) [.t 8,.t 9],oL 11 10,oo 12 (.func 97) [.t 2],oo 13 (.call 40) [.t 11,.t 12],oM 4 13]
def Qfi:CFn:=⟨2,14,[.t 4],.seq (.region Qpb 9 []) (.seq (.region Qpc 9 []) (.ret))⟩
def Qbl (Qu:(List Qc)→(Qc→Option Bool)→Option Bool) (Qbd:Qc→Qp→Option Bool) (t1:Qp) (sv8:Int):Option Bool :=
  ((inO t1.from_.length sv8).bind fun u9=>((getO t1.from_ sv8).bind fun x11=>((Qu x11 (fun a13=>Qbd a13 t1)).bind fun x17=>some x17)))
def Qfj (P:Program) (c:Nat) (f:Qp→Int→Option (Int×Int)):Prop:=∀ t1 sv8 (k2:Nat) (k4:Nat) (k6:Nat) r,f t1 sv8=some r→∀ M nb,(M k2=some (.cells [(l_ t1.zO.zA.zK),(i_ t1.zO.zA.zN),(l_ t1.zO.zA.zL),(Qd t1.zO.zA.zM),(l_ t1.zO.zC),(l_ t1.zO.zB),(l_ t1.zO.zD),(i_ t1.zO.Tick),.sl 1 k4 0 t1.from_.length t1.from_.length,.sl 1 k6 0 t1.left_.length t1.left_.length]))→(M k4=some (.cells (Q3 (fun (x:List Qc)=>[(Qd x)]) t1.from_)))→(M k6=some (.cells (Q3 (fun (x:Bool)=>[V.d (.bool x)]) t1.left_)))→ACalls P c [.ptr k2 0,(i_ sv8)] M nb (.tup [(i_ r.1),(i_ r.2)]) M nb
def Qpd:List COp:=[oo 2 (.box 1) [.t 0],oo 4 .mov [cI 0],oo 5 .mov [cI 0]]
def Qpe:List COp:=[oL 9 2,oo 10 .nilchk [.t 9],oF 11 8 10,oL 12 11,oM 13 1,oo 14 (.idx 1) [.t 12,.t 13],oL 15 14,oo 16 .len [.t 15],oo 17 .mov [cI 0]]
def Qpf:List COp:=[oo 18 (.bin .lss false) [.t 17,.t 16]]
def Qpg:List COp:=[oo 19 (.idx 3) [.t 15,.t 17],oo 20 (.load true 3) [.t 19],oo 7 (.alloc [.d (.int .i64 0),.d (.int .i64 0),.d (.int .i64 0)]) [],⟨none,.store 3,[.t 7,.t 20],false,none⟩]
def Qph:List COp:=[oL 21 2,oo 22 .nilchk [.t 21],oF 23 9 22,oL 24 23,oF 25 2 7,oL 26 25,oo 27 (.idx 1) [.t 24,.t 26],oL 28 27,oo 29 (.un .not) [.t 28],oM 30 29,⟨some 31,.load false 1,[.t 2],false,some (30,true)⟩,⟨some 32,.nilchk,[.t 31],false,some (30,true)⟩,⟨some 33,.fld 0,[.t 32],false,some (30,true)⟩,⟨some 34,.fld 5,[.t 33],false,some (30,true)⟩,⟨some 35,.load false 1,[.t 34],false,some (30,true)⟩,⟨some 36,.fld 1,[.t 7],false,some (30,true)⟩,⟨some 37,.load false 1,[.t 36],false,some (30,true)⟩,⟨some 38,.call 50,[.t 35,.t 37],false,some (30,true)⟩,oo 39 .pick [.t 30,.t 38,.c (.d (.bool false))]]
def Qpi:List COp:=[oF 40 1 7,oL 41 40,oo 4 .mov [cI 2],oM 5 41]
def Qpj:List COp:=[oo 42 (.bin .add false) [.t 17,cI 1],oM 17 42]
def Qpk:List COp:=[oL 43 2,oo 44 .nilchk [.t 43],oF 45 8 44,oL 46 45,oM 47 1,oo 48 (.idx 1) [.t 46,.t 47],oL 49 48,oo 50 (.func 76) [.t 2],oo 51 (.call 40) [.t 49,.t 50],oM 8 51]
def Qpl:List COp:=[oM 52 8,oM 53 52,⟨some 54,.load false 1,[.t 2],false,some (53,true)⟩,⟨some 55,.mov,[.t 1],false,some (53,true)⟩,⟨some 56,.call 77,[.t 54,.t 55],false,some (53,true)⟩,⟨some 57,.un .not,[.t 56],false,some (53,true)⟩,oo 58 .pick [.t 53,.t 57,.c (.d (.bool false))]]
def Qpm:List COp:=[oL 59 2,oo 60 .nilchk [.t 59],oF 61 0 60,oF 62 7 61,oL 63 62,oo 4 .mov [cI 4],oM 5 63]
def Qoc:List COp:=[oo 4 .mov [cI 0],oo 5 .mov [cI (-1)]]
def Qfk:CFn:=⟨2,64,[.t 4,.t 5],.seq (.region Qpd 9 []) (.seq (.seq (.region Qpe 9 []) (.block 0 (.loop [7] (.seq (.region Qpf 9 []) (.seq (.cond (.t 18) (.skip) (.exit 0)) (.seq (.block 1 (.seq (.region Qpg 9 []) (.seq (.region Qph 0 []) (.cond (.t 39) (.seq (.region Qpi 0 []) (.ret)) (.skip))))) (.region Qpj 9 []))))))) (.seq (.region Qpk 9 []) (.seq (.seq (.region Qpl 9 []) (.cond (.t 58) (.seq (.region Qpm 0 []) (.ret)) (.skip))) (.seq (.region Qoc 9 []) (.ret)))))⟩
def Qbm (Qu:(List Qc)→(Qc→Option Bool)→Option Bool) (Qr:(List Int)→Int→Option Bool) (Qbc:Qc→Qp→Option Bool) (Qbl:Qp→Int→Option Bool) (fuel:Nat) (t1:Qp) (sv8:Int):Option (Int×Int) :=
  ((inO t1.from_.length sv8).bind fun u9=>((getO t1.from_ sv8).bind fun x11=>Qcm (fun k14 (x13:Int)=>(if (x13<(x11.length:Int)) then ((getO x11 x13).bind fun x16=>((((inO t1.left_.length x16.To).bind fun u18=>((getO t1.left_ x16.To).bind fun x20=>(if x20 then some false else ((Qr t1.zO.zB x16.Event).bind fun x24=>some x24))))).bind fun (x25:Bool)=>(if x25 then some (2,x16.Event) else k14 (IntKind.wrap .i64 (x13+1))))) else ((inO t1.from_.length sv8).bind fun u27=>((getO t1.from_ sv8).bind fun x29=>((Qu x29 (fun a31=>Qbc a31 t1)).bind fun x35=>(((if x35 then ((Qbl t1 sv8).bind fun x38=>some (!x38)) else some false)).bind fun (x39:Bool)=>(if x39 then some (4,t1.zO.Tick) else some (0,(-1))))))))) fuel 0))
def Qdm (P:Program) (c:Nat) (f:Qp→Option ((List Int))):Prop:=∀ t1 (k2:Nat) (k4:Nat) (k6:Nat) r,f t1=some r→∀ M nb,(M k2=some (.cells [(l_ t1.zO.zA.zK),(i_ t1.zO.zA.zN),(l_ t1.zO.zA.zL),(Qd t1.zO.zA.zM),(l_ t1.zO.zC),(l_ t1.zO.zB),(l_ t1.zO.zD),(i_ t1.zO.Tick),.sl 1 k4 0 t1.from_.length t1.from_.length,.sl 1 k6 0 t1.left_.length t1.left_.length]))→(M k4=some (.cells (Q3 (fun (x:List Qc)=>[(Qd x)]) t1.from_)))→(M k6=some (.cells (Q3 (fun (x:Bool)=>[V.d (.bool x)]) t1.left_)))→ACalls P c [.ptr k2 0] M nb (l_ r) M nb
def Qlp:List COp:=[ot 2 .mov [.c (.nils 1)]]
def Qlq:List COp:=[oM 9 0,oo 10 .nilchk [.t 9],oF 11 0 10,oF 12 0 11,oF 13 1 12,oL 14 13,oo 15 (.makes 1 8 [.d (.int .i64 0)]) [.t 14,.t 14],ot 3 .mov [.t 15]]
def Qlr:List COp:=[oM 16 3,oo 17 .len [.t 16],oo 18 .mov [cI 0]]
def Qls:List COp:=[oo 19 (.bin .lss false) [.t 18,.t 17]]
def Qlt:List COp:=[oM 20 18,oM 4 20]
def Qlu:List COp:=[oM 21 3,oM 22 4,oo 23 (.idx 1) [.t 21,.t 22],⟨none,.store 1,[.t 23,cI (-1)],false,none⟩]
def Qlv:List COp:=[oM 24 0,oo 25 .nilchk [.t 24],oF 26 9 25,oL 27 26,oM 28 4,oo 29 (.idx 1) [.t 27,.t 28],oL 30 29,oM 31 30,⟨some 32,.mov,[.t 0],false,some (31,true)⟩,⟨some 33,.nilchk,[.t 32],false,some (31,true)⟩,⟨some 34,.fld 0,[.t 33],false,some (31,true)⟩,⟨some 35,.fld 0,[.t 34],false,some (31,true)⟩,⟨some 36,.fld 2,[.t 35],false,some (31,true)⟩,⟨some 37,.load false 1,[.t 36],false,some (31,true)⟩,⟨some 38,.mov,[.t 4],false,some (31,true)⟩,⟨some 39,.call 50,[.t 37,.t 38],false,some (31,true)⟩,oo 40 .pick [.t 31,.t 39,.c (.d (.bool false))]]
def Qlw:List COp:=[oM 41 3,oM 42 4,oo 43 (.idx 1) [.t 41,.t 42],⟨none,.store 1,[.t 43,cI 0],false,none⟩]
def Qlx:List COp:=[oo 44 (.bin .add false) [.t 18,cI 1],oM 18 44]
def Qly:List COp:=[oo 5 .mov [cI 1],oo 6 .mov [.c (.d (.bool true))]]
def Qkx:List COp:=[oM 45 6]
def Qky:List COp:=[oo 6 .mov [.c (.d (.bool false))]]
def Qkz:List COp:=[oM 48 0,oo 49 .nilchk [.t 48],oF 50 0 49,oF 51 0 50,oF 52 3 51,oL 53 52,oo 54 .len [.t 53],oo 55 .mov [cI 0]]
def Qk0:List COp:=[oo 56 (.bin .lss false) [.t 55,.t 54]]
def Qk1:List COp:=[oo 57 (.idx 3) [.t 53,.t 55],oo 58 (.load true 3) [.t 57],oo 8 (.alloc [.d (.int .i64 0),.d (.int .i64 0),.d (.int .i64 0)]) [],⟨none,.store 3,[.t 8,.t 58],false,none⟩]
def Qk2:List COp:=[oM 59 0,oo 60 .nilchk [.t 59],oF 61 9 60,oL 62 61,oF 63 0 8,oL 64 63,oo 65 (.idx 1) [.t 62,.t 64],oL 66 65,oM 67 66,⟨some 68,.mov,[.t 0],false,some (67,true)⟩,⟨some 69,.nilchk,[.t 68],false,some (67,true)⟩,⟨some 70,.fld 9,[.t 69],false,some (67,true)⟩,⟨some 71,.load false 1,[.t 70],false,some (67,true)⟩,⟨some 72,.fld 2,[.t 8],false,some (67,true)⟩,⟨some 73,.load false 1,[.t 72],false,some (67,true)⟩,⟨some 74,.idx 1,[.t 71,.t 73],false,some (67,true)⟩,⟨some 75,.load false 1,[.t 74],false,some (67,true)⟩,oo 76 .pick [.t 67,.t 75,.c (.d (.bool false))],oM 77 76,⟨some 78,.mov,[.t 3],false,some (77,true)⟩,⟨some 79,.fld 0,[.t 8],false,some (77,true)⟩,⟨some 80,.load false 1,[.t 79],false,some (77,true)⟩,⟨some 81,.idx 1,[.t 78,.t 80],false,some (77,true)⟩,⟨some 82,.load false 1,[.t 81],false,some (77,true)⟩,⟨some 83,.bin .lss false,[.t 82,cI 0],false,some (77,true)⟩,oo 84 .pick [.t 77,.t 83,.c (.d (.bool false))],oM 85 84,⟨some 86,.mov,[.t 3],false,some (85,true)⟩,⟨some 87,.fld 2,[.t 8],false,some (85,true)⟩,⟨some 88,.load false 1,[.t 87],false,some (85,true)⟩,⟨some 89,.idx 1,[.t 86,.t 88],false,some (85,true)⟩,⟨some 90,.load false 1,[.t 89],false,some (85,true)⟩,⟨some 91,.mov,[.t 5],false,some (85,true)⟩,⟨some 92,.bin .sub false,[.t 91,cI 1],false,some (85,true)⟩,⟨some 93,.bin .eql false,[.t 90,.t 92],false,some (85,true)⟩,oo 94 .pick [.t 85,.t 93,.c (.d (.bool false))]]
def Qk3:List COp:=[oM 95 3,oF 96 0 8,oL 97 96,oM 98 5,oo 99 (.idx 1) [.t 95,.t 97],⟨none,.store 1,[.t 99,.t 98],false,none⟩,oo 6 .mov [.c (.d (.bool true))]]
def Qk4:List COp:=[oo 100 (.bin .add false) [.t 55,cI 1],oM 55 100]
def Qk5:List COp:=[oM 46 5,oo 47 (.bin .add false) [.t 46,cI 1],oM 5 47]
def Qk6:List COp:=[ot 101 .mov [.t 3],ot 2 .mov [.t 101]]
def Qeo:CFn:=⟨1,102,[.t 2],.seq (.region Qlp 9 []) (.seq (.region Qlq 9 []) (.seq (.seq (.region Qlr 9 []) (.block 0 (.loop [] (.seq (.region Qls 9 []) (.seq (.cond (.t 19) (.skip) (.exit 0)) (.seq (.block 1 (.seq (.region Qlt 9 []) (.seq (.region Qlu 9 []) (.seq (.region Qlv 9 []) (.cond (.t 40) (.region Qlw 9 []) (.skip)))))) (.region Qlx 9 []))))))) (.seq (.seq (.region Qly 9 []) (.block 2 (.loop [8] (.seq (.seq (.region Qkx 9 []) (.cond (.t 45) (.skip) (.exit 2))) (.seq (.block 3 (.seq (.region Qky 9 []) (.seq (.region Qkz 9 []) (.block 4 (.loop [8] (.seq (.region Qk0 9 []) (.seq (.cond (.t 56) (.skip) (.exit 4)) (.seq (.block 5 (.seq (.region Qk1 9 []) (.seq (.region Qk2 0 []) (.cond (.t 94) (.region Qk3 9 []) (.skip))))) (.region Qk4 9 []))))))))) (.region Qk5 9 [])))))) (.seq (.region Qk6 9 []) (.ret)))))⟩
def Qx (Qr:(List Int)→Int→Option Bool) (fuel:Nat) (t1:Qp):Option ((List Int)) :=
  ((mkO t1.zO.zA.zN 0).bind fun x8=>((Qcm (fun k12 ((x10,c11):Int×(List Int))=>(if (x10<((Int.toNat t1.zO.zA.zN):Int)) then ((((inO (Int.toNat t1.zO.zA.zN) x10).bind fun u14=>((setO c11 x10 (-1)).bind fun x16=>((((inO t1.left_.length x10).bind fun u18=>((getO t1.left_ x10).bind fun x20=>(if x20 then ((Qr t1.zO.zA.zL x10).bind fun x24=>some x24) else some false)))).bind fun (x25:Bool)=>(if x25 then ((inO (Int.toNat t1.zO.zA.zN) x10).bind fun u27=>((setO x16 x10 0).bind fun x29=>some x29)) else some x16))))).bind fun (c31:List Int)=>k12 ((IntKind.wrap .i64 (x10+1)),c31)) else some c11)) fuel (0,x8)).bind fun (c32:List Int)=>((Qcm (fun k36 ((rv33,mv34,c35):Int×Bool×(List Int))=>(if mv34 then ((Qcm (fun k41 ((mv38,x39,c40):Bool×Int×(List Int))=>(if (x39<(t1.zO.zA.zM.length:Int)) then ((((getO t1.zO.zA.zM x39).bind fun x43=>((((inO t1.left_.length x43.From).bind fun u45=>((getO t1.left_ x43.From).bind fun x47=>(if x47 then ((inO t1.left_.length x43.To).bind fun u50=>((getO t1.left_ x43.To).bind fun x52=>(if x52 then ((inO (Int.toNat t1.zO.zA.zN) x43.From).bind fun u55=>((getO c40 x43.From).bind fun x57=>(if (x57<0) then ((inO (Int.toNat t1.zO.zA.zN) x43.To).bind fun u60=>((getO c40 x43.To).bind fun x62=>some (x62==(IntKind.wrap .i64 (rv33-1))))) else some false))) else some false))) else some false)))).bind fun (x64:Bool)=>(if x64 then ((inO (Int.toNat t1.zO.zA.zN) x43.From).bind fun u66=>((setO c40 x43.From rv33).bind fun x68=>some (true,x68,x43.From,x43.Event,x43.To))) else some (mv38,c40,x43.From,x43.Event,x43.To))))).bind fun ((mv70,c71,c72,c73,c74):Bool×(List Int)×Int×Int×Int)=>k41 (mv70,(IntKind.wrap .i64 (x39+1)),c71)) else some (mv38,c40))) fuel (false,0,c35)).bind fun ((mv75,c76):Bool×(List Int))=>k36 ((IntKind.wrap .i64 (rv33+1)),mv75,c76)) else some c35)) fuel (1,true,c32)).bind fun (c77:List Int)=>((lenO c77 (Int.toNat t1.zO.zA.zN)).bind fun _=>some c77))))
def Qfr (P:Program) (c:Nat) (f:Qp→Int→Option ((List Qb))):Prop:=∀ t1 rv8 (k2:Nat) (k4:Nat) (k6:Nat) r,f t1 rv8=some r→∀ M nb,(M k2=some (.cells [(l_ t1.zO.zA.zK),(i_ t1.zO.zA.zN),(l_ t1.zO.zA.zL),(Qd t1.zO.zA.zM),(l_ t1.zO.zC),(l_ t1.zO.zB),(l_ t1.zO.zD),(i_ t1.zO.Tick),.sl 1 k4 0 t1.from_.length t1.from_.length,.sl 1 k6 0 t1.left_.length t1.left_.length]))→(M k4=some (.cells (Q3 (fun (x:List Qc)=>[(Qd x)]) t1.from_)))→(M k6=some (.cells (Q3 (fun (x:Bool)=>[V.d (.bool x)]) t1.left_)))→ACalls P c [.ptr k2 0,(i_ rv8)] M nb (Qm r) M nb
def Qqv:List COp:=[ot 4 .mov [.c (.nils 4)]]
def Qqw:List COp:=[ot 5 .mov [.c (.nils 4)]]
def Qqx:List COp:=[oM 12 0,oo 13 .nilchk [.t 12],oF 14 9 13,oL 15 14,oo 16 .len [.t 15],oo 17 .mov [cI 0]]
def Qqy:List COp:=[oo 18 (.bin .lss false) [.t 17,.t 16]]
def Qqz:List COp:=[oM 19 17,oo 20 (.idx 1) [.t 15,.t 17],oL 21 20,oM 6 19,oM 7 21]
def Qq0:List COp:=[oM 23 0,oM 24 6,oo 25 (.call 53) [.t 23,.t 24],oM 22 25,oo 26 (.extract 0) [.t 22],oo 27 (.extract 1) [.t 22],oM 8 26,oM 9 27]
def Qq1:List COp:=[oM 28 7,oM 29 28,⟨some 30,.mov,[.t 8],false,some (29,true)⟩,⟨some 31,.bin .neq false,[.t 30,cI 0],false,some (29,true)⟩,oo 32 .pick [.t 29,.t 31,.c (.d (.bool false))]]
def Qq2:List COp:=[ot 33 .mov [.t 5],oM 34 6,oM 35 1,oM 36 8,oM 37 9,oo 38 (.build [.d (.int .i64 0),.d (.int .i64 0),.d (.int .i64 0),.d (.int .i64 0)] [(0,1),(1,1),(2,1),(3,1)]) [.t 34,.t 35,.t 36,.t 37],oo 39 (.bslice 4 1 [.d (.int .i64 0),.d (.int .i64 0),.d (.int .i64 0),.d (.int .i64 0)] [0]) [.t 38],ot 40 (.append 4 32) [.t 33,.t 39],ot 5 .mov [.t 40]]
def Qq3:List COp:=[oo 41 (.bin .add false) [.t 17,cI 1],oM 17 41]
def Qq4:List COp:=[oM 42 5,oo 43 .len [.t 42],oo 44 (.bin .gtr false) [.t 43,cI 0]]
def Qpn:List COp:=[ot 45 .mov [.t 5],ot 4 .mov [.t 45]]
def Qpo:List COp:=[oM 46 0,oo 47 (.call 39) [.t 46],oo 48 .len [.t 47],oo 49 .mov [cI 0]]
def Qpp:List COp:=[oo 50 (.bin .lss false) [.t 49,.t 48]]
def Qpq:List COp:=[oM 51 49,oo 52 (.idx 1) [.t 47,.t 49],oL 53 52,oM 10 51,oM 11 53]
def Qpr:List COp:=[oM 54 0,oo 55 .nilchk [.t 54],oF 56 9 55,oL 57 56,oM 58 10,oo 59 (.idx 1) [.t 57,.t 58],oL 60 59,oM 61 60,⟨some 62,.mov,[.t 11],false,some (61,true)⟩,⟨some 63,.bin .lss false,[.t 62,cI 0],false,some (61,true)⟩,oo 64 .pick [.t 61,.t 63,.c (.d (.bool false))]]
def Qps:List COp:=[ot 65 .mov [.t 5],oM 66 10,oM 67 1,oo 68 (.build [.d (.int .i64 0),.d (.int .i64 0),.d (.int .i64 0),.d (.int .i64 0)] [(0,1),(1,1),(2,1),(3,1)]) [.t 66,.t 67,cI 3,cI (-1)],oo 69 (.bslice 4 1 [.d (.int .i64 0),.d (.int .i64 0),.d (.int .i64 0),.d (.int .i64 0)] [0]) [.t 68],ot 70 (.append 4 32) [.t 65,.t 69],ot 5 .mov [.t 70]]
def Qpt:List COp:=[oo 71 (.bin .add false) [.t 49,cI 1],oM 49 71]
def Qpu:List COp:=[ot 72 .mov [.t 5],ot 4 .mov [.t 72]]
def Qfs:CFn:=⟨2,73,[.t 4],.seq (.region Qqv 9 []) (.seq (.region Qqw 9 []) (.seq (.seq (.region Qqx 9 []) (.block 0 (.loop [39] (.seq (.region Qqy 9 []) (.seq (.cond (.t 18) (.skip) (.exit 0)) (.seq (.block 1 (.seq (.region Qqz 9 []) (.seq (.region Qq0 9 []) (.seq (.region Qq1 9 []) (.cond (.t 32) (.region Qq2 9 []) (.skip)))))) (.region Qq3 9 []))))))) (.seq (.seq (.region Qq4 9 []) (.cond (.t 44) (.seq (.region Qpn 9 []) (.ret)) (.skip))) (.seq (.seq (.region Qpo 9 []) (.block 2 (.loop [69] (.seq (.region Qpp 9 []) (.seq (.cond (.t 50) (.skip) (.exit 2)) (.seq (.block 3 (.seq (.region Qpq 9 []) (.seq (.region Qpr 9 []) (.cond (.t 64) (.region Qps 9 []) (.skip))))) (.region Qpt 9 []))))))) (.seq (.region Qpu 9 []) (.ret))))))⟩
def Qbo (Qx:Qp→Option ((List Int))) (Qbm:Qp→Int→Option (Int×Int)) (fuel:Nat) (t1:Qp) (rv8:Int):Option ((List Qb)) :=
  ((Qcm (fun k11 ((ov9,x10):(List Qb)×Int)=>(if (x10<(t1.left_.length:Int)) then ((((inO t1.left_.length x10).bind fun u13=>((getO t1.left_ x10).bind fun x15=>((Qbm t1 x10).bind fun (r18,r19)=>(((if x15 then some (r18 != 0) else some false)).bind fun (x21:Bool)=>(if x21 then ((appO ov9 [(Qb.mk x10 rv8 r18 r19)]).bind fun x23=>some x23) else some ov9)))))).bind fun (ov25:List Qb)=>k11 (ov25,(IntKind.wrap .i64 (x10+1)))) else some ov9)) fuel ([],0)).bind fun (ov26:List Qb)=>(if ((ov26.length:Int)>0) then some ov26 else ((((Qx t1).bind fun x29=>Qcm (fun k32 ((ov30,x31):(List Qb)×Int)=>(if (x31<(x29.length:Int)) then ((((getO x29 x31).bind fun x34=>((((inO t1.left_.length x31).bind fun u36=>((getO t1.left_ x31).bind fun x38=>(if x38 then some (decide (x34<0)) else some false)))).bind fun (x41:Bool)=>(if x41 then ((appO ov30 [(Qb.mk x31 rv8 3 (-1))]).bind fun x43=>some x43) else some ov30)))).bind fun (ov45:List Qb)=>k32 (ov45,(IntKind.wrap .i64 (x31+1)))) else some ov30)) fuel (ov26,0))).bind fun (ov46:List Qb)=>some ov46)))
def Qfa (P:Program) (c:Nat) (f:Qc→Qa→Qp→Option Bool):Prop:=∀ x1 x2 x5 (k3:Nat) (k6:Nat) (k8:Nat) (k10:Nat) (k12:Nat) r,f x1 x2 x5=some r→∀ M nb,(M k3=some (.cells (Ql x2)))→(M k6=some (.cells [.ptr k8 0]))→(M k8=some (.cells [(l_ x5.zO.zA.zK),(i_ x5.zO.zA.zN),(l_ x5.zO.zA.zL),(Qd x5.zO.zA.zM),(l_ x5.zO.zC),(l_ x5.zO.zB),(l_ x5.zO.zD),(i_ x5.zO.Tick),.sl 1 k10 0 x5.from_.length x5.from_.length,.sl 1 k12 0 x5.left_.length x5.left_.length]))→(M k10=some (.cells (Q3 (fun (x:List Qc)=>[(Qd x)]) x5.from_)))→(M k12=some (.cells (Q3 (fun (x:Bool)=>[V.d (.bool x)]) x5.left_)))→ACalls P c [(Qce x1),.ptr k3 0,.ptr k6 0] M nb (b_ r) M nb
def Qod:List COp:=[oo 3 (.box 3) [.t 0],oo 4 .mov [.c (.d (.bool false))]]
def Qoe:List COp:=[oF 5 1 3,oL 6 5,oF 7 7 1,oL 8 7,oo 9 (.bin .eql false) [.t 6,.t 8],oM 10 9,⟨some 11,.load false 1,[.t 2],false,some (10,true)⟩,⟨some 12,.nilchk,[.t 11],false,some (10,true)⟩,⟨some 13,.fld 9,[.t 12],false,some (10,true)⟩,⟨some 14,.load false 1,[.t 13],false,some (10,true)⟩,⟨some 15,.fld 2,[.t 3],false,some (10,true)⟩,⟨some 16,.load false 1,[.t 15],false,some (10,true)⟩,⟨some 17,.idx 1,[.t 14,.t 16],false,some (10,true)⟩,⟨some 18,.load false 1,[.t 17],false,some (10,true)⟩,⟨some 19,.un .not,[.t 18],false,some (10,true)⟩,oo 20 .pick [.t 10,.t 19,.c (.d (.bool false))],oM 4 20]
def Qfb:CFn:=⟨3,21,[.t 4],.seq (.region Qod 9 []) (.seq (.region Qoe 0 []) (.ret))⟩
def Qbh (x1:Qc) (x2:Qa) (x5:Qp):Option Bool :=
  (if (x1.Event==x2.Tick) then ((inO x5.left_.length x1.To).bind fun u15=>((getO x5.left_ x1.To).bind fun x17=>some (!x17))) else some false)
def Qic (P:Program) (c:Nat) (f:(List Int)→Option ((List Int))):Prop:=∀ s1 r,f s1=some r→∀ M nb,ACalls P c [(l_ s1)] M nb (o_ r) M nb
def Q5g:List COp:=[ot 2 .mov [.c (.nils 1)]]
def Q5h:List COp:=[oM 3 0,oo 4 (.isnil false) [.t 3]]
def Q5i:List COp:=[ot 2 .mov [.c (.nils 1)]]
def Q5j:List COp:=[oo 5 (.bslice 1 0 [.d (.int .i64 0)] []) [],oM 6 0,ot 7 (.append 1 8) [.t 5,.t 6],ot 2 .mov [.t 7]]
def Qlz:CFn:=⟨1,8,[.t 2],.seq (.region Q5g 9 []) (.seq (.seq (.region Q5h 9 []) (.cond (.t 4) (.seq (.region Q5i 9 []) (.ret)) (.skip))) (.seq (.region Q5j 9 []) (.ret)))⟩
def Qbs (s1:(List Int)):Option ((List Int)) :=
  (nilO s1 fun b2=>(if b2 then some [] else ((appO [] s1).bind fun x4=>some x4)))
def Qek (P:Program) (c:Nat) (f:Qp→Option (Qe×(List Int))):Prop:=∀ t1 (k2:Nat) (k4:Nat) (k6:Nat) r,f t1=some r→∀ M nb,(M k2=some (.cells [(l_ t1.zO.zA.zK),(i_ t1.zO.zA.zN),(l_ t1.zO.zA.zL),(Qd t1.zO.zA.zM),(l_ t1.zO.zC),(l_ t1.zO.zB),(l_ t1.zO.zD),(i_ t1.zO.Tick),.sl 1 k4 0 t1.from_.length t1.from_.length,.sl 1 k6 0 t1.left_.length t1.left_.length]))→(M k4=some (.cells (Q3 (fun (x:List Qc)=>[(Qd x)]) t1.from_)))→(M k6=some (.cells (Q3 (fun (x:Bool)=>[V.d (.bool x)]) t1.left_)))→ACalls P c [.ptr k2 0] M nb (.tup [(Qh r.1),(o_ r.2)]) M nb
def Qk7:List COp:=[oo 2 (.alloc [.nils 1,.d (.int .i64 0),.nils 1,.nils 3]) [],ot 3 .mov [.c (.nils 1)]]
def Qk8:List COp:=[oM 12 0,oo 13 .nilchk [.t 12],oF 14 0 13,oF 15 0 14,oF 16 0 15,oL 17 16,oo 18 (.call 72) [.t 17],ot 19 (.build [.nils 1,.d (.int .i64 0),.nils 1,.nils 3] [(0,1)]) [.t 18],oo 4 (.alloc [.nils 1,.d (.int .i64 0),.nils 1,.nils 3]) [],⟨none,.store 4,[.t 4,.t 19],true,none⟩]
def Qk9:List COp:=[ot 5 .mov [.c (.nils 1)]]
def Qla:List COp:=[oo 20 .mkmap [],oM 6 20]
def Qlb:List COp:=[oM 21 0,oo 22 .nilchk [.t 21],oF 23 9 22,oL 24 23,oo 25 .len [.t 24],oo 26 (.bin .gtr false) [.t 25,cI 0],oM 27 26,⟨some 28,.mov,[.t 0],false,some (27,true)⟩,⟨some 29,.nilchk,[.t 28],false,some (27,true)⟩,⟨some 30,.fld 9,[.t 29],false,some (27,true)⟩,⟨some 31,.load false 1,[.t 30],false,some (27,true)⟩,⟨some 32,.idx 1,[.t 31,cI 0],false,some (27,true)⟩,⟨some 33,.load false 1,[.t 32],false,some (27,true)⟩,oo 34 .pick [.t 27,.t 33,.c (.d (.bool false))]]
def Qlc:List COp:=[ot 35 .mov [.t 5],oo 36 (.bslice 1 1 [.d (.int .i64 0)] [0]) [cI 0],ot 37 (.append 1 8) [.t 35,.t 36],ot 5 .mov [.t 37]]
def Qld:List COp:=[oM 38 6,⟨none,.mapset (.int .i64),[.t 38,cI 0,cI 0],false,none⟩]
def Qle:List COp:=[oo 7 .mov [cI 0]]
def Qlf:List COp:=[oM 39 7,oM 40 5,oo 41 .len [.t 40],oo 42 (.bin .lss false) [.t 39,.t 41]]
def Qlg:List COp:=[oM 45 0,oo 46 .nilchk [.t 45],oF 47 0 46,oF 48 0 47,oF 49 2 48,oL 50 49,oM 51 5,oM 52 7,oo 53 (.idx 1) [.t 51,.t 52],oL 54 53,oo 55 (.call 50) [.t 50,.t 54]]
def Qkb:List COp:=[oF 56 2 4,oo 57 .loadT [.t 56],oM 58 7,oo 59 (.bslice 1 1 [.d (.int .i64 0)] [0]) [.t 58],ot 60 (.append 1 8) [.t 57,.t 59],oF 61 2 4,⟨none,.store 1,[.t 61,.t 60],true,none⟩]
def Qkc:List COp:=[oM 62 0,oo 63 .nilchk [.t 62],oF 64 8 63,oL 65 64,oM 66 5,oM 67 7,oo 68 (.idx 1) [.t 66,.t 67],oL 69 68,oo 70 (.idx 1) [.t 65,.t 69],oL 71 70,oo 72 .len [.t 71],oo 73 .mov [cI 0]]
def Qkd:List COp:=[oo 74 (.bin .lss false) [.t 73,.t 72]]
def Qke:List COp:=[oo 75 (.idx 3) [.t 71,.t 73],oo 76 (.load true 3) [.t 75],oo 9 (.alloc [.d (.int .i64 0),.d (.int .i64 0),.d (.int .i64 0)]) [],⟨none,.store 3,[.t 9,.t 76],false,none⟩]
def Qkf:List COp:=[oM 77 0,oo 78 .nilchk [.t 77],oF 79 9 78,oL 80 79,oF 81 2 9,oL 82 81,oo 83 (.idx 1) [.t 80,.t 82],oL 84 83,oo 85 (.un .not) [.t 84]]
def Qkg:List COp:=[oM 87 6,oF 88 2 9,oL 89 88,oo 90 (.lookup (.int .i64) true (.d (.int .i64 0))) [.t 87,.t 89],oM 86 90,oo 91 (.extract 0) [.t 86],oo 92 (.extract 1) [.t 86],oM 10 91,oM 11 92]
def Qkh:List COp:=[oM 93 11,oo 94 (.un .not) [.t 93]]
def Qki:List COp:=[oM 95 6,oF 96 2 9,oL 97 96,oM 98 5,oo 99 .len [.t 98],⟨none,.mapset (.int .i64),[.t 95,.t 97,.t 99],false,none⟩]
def Qkj:List COp:=[ot 100 .mov [.t 5],oF 101 2 9,oL 102 101,oo 103 (.bslice 1 1 [.d (.int .i64 0)] [0]) [.t 102],ot 104 (.append 1 8) [.t 100,.t 103],ot 5 .mov [.t 104]]
def Qkk:List COp:=[oF 105 3 4,oo 106 .loadT [.t 105],oM 107 7,oF 108 1 9,oL 109 108,oM 110 6,oF 111 2 9,oL 112 111,oo 113 (.lookup (.int .i64) false (.d (.int .i64 0))) [.t 110,.t 112],oo 114 (.build [.d (.int .i64 0),.d (.int .i64 0),.d (.int .i64 0)] [(0,1),(1,1),(2,1)]) [.t 107,.t 109,.t 113],oo 115 (.bslice 3 1 [.d (.int .i64 0),.d (.int .i64 0),.d (.int .i64 0)] [0]) [.t 114],ot 116 (.append 3 24) [.t 106,.t 115],oF 117 3 4,⟨none,.store 1,[.t 117,.t 116],true,none⟩]
def Qkl:List COp:=[oo 118 (.bin .add false) [.t 73,cI 1],oM 73 118]
def Qkm:List COp:=[oM 43 7,oo 44 (.bin .add false) [.t 43,cI 1],oM 7 44]
def Qkn:List COp:=[oM 119 5,oo 120 .len [.t 119],oF 121 1 4,⟨none,.store 1,[.t 121,.t 120],false,none⟩]
def Qko:List COp:=[oo 122 (.load true 4) [.t 4],ot 123 .mov [.t 5],⟨none,.store 4,[.t 2,.t 122],true,none⟩,ot 3 .mov [.t 123]]
def Qel:CFn:=⟨1,124,[.cell 2 true 4,.t 3],.seq (.region Qk7 9 []) (.seq (.region Qk8 9 []) (.seq (.region Qk9 9 []) (.seq (.region Qla 9 []) (.seq (.seq (.region Qlb 9 []) (.cond (.t 34) (.seq (.region Qlc 9 []) (.region Qld 9 [])) (.skip))) (.seq (.seq (.region Qle 9 []) (.block 0 (.loop [59,9,103,115] (.seq (.seq (.region Qlf 9 []) (.cond (.t 42) (.skip) (.exit 0))) (.seq (.block 1 (.seq (.seq (.region Qlg 0 []) (.cond (.t 55) (.region Qkb 9 []) (.skip))) (.seq (.region Qkc 0 []) (.block 2 (.loop [9,103,115] (.seq (.region Qkd 9 []) (.seq (.cond (.t 74) (.skip) (.exit 2)) (.seq (.block 3 (.seq (.region Qke 9 []) (.seq (.seq (.region Qkf 0 []) (.cond (.t 85) (.exit 3) (.skip))) (.seq (.seq (.region Qkg 9 []) (.seq (.region Qkh 9 []) (.cond (.t 94) (.seq (.region Qki 9 []) (.region Qkj 9 [])) (.skip)))) (.region Qkk 9 []))))) (.region Qkl 9 []))))))))) (.region Qkm 9 [])))))) (.seq (.region Qkn 9 []) (.seq (.region Qko 9 []) (.ret))))))))⟩
def Q8 (Qr:(List Int)→Int→Option Bool) (Qbs:(List Int)→Option ((List Int))) (fuel:Nat) (t1:Qp):Option (Qe×(List Int)) :=
  ((Qbs t1.zO.zA.zK).bind fun x9=>(((((if ((t1.left_.length:Int)>0) then ((inO t1.left_.length 0).bind fun u11=>((getO t1.left_ 0).bind fun x13=>some x13)) else some false)).bind fun (x15:Bool)=>(if x15 then ((appO [] [0]).bind fun x17=>some (x17,(setM ([]:List (Int×Int)) 0 0))) else some ([],[])))).bind fun ((ov19,c20):(List Int)×(List (Int×Int)))=>((Qcm (fun k29 ((ov21,i22,c23,c24,c25,a26,a27,c28):(List Int)×Int×(List Int)×(List Int)×(List Qc)×(List Int)×(List Qc)×(List (Int×Int)))=>(if (i22<(ov21.length:Int)) then ((((((getO ov21 i22).bind fun x31=>((Qr t1.zO.zA.zL x31).bind fun x34=>(if x34 then ((appO a26 [i22]).bind fun x36=>some x36) else some a26)))).bind fun (a38:List Int)=>((getO ov21 i22).bind fun x39=>((inO t1.from_.length x39).bind fun u41=>((getO t1.from_ x39).bind fun x43=>Qcm (fun k49 ((ov45,x46,a47,c48):(List Int)×Int×(List Qc)×(List (Int×Int)))=>(if (x46<(x43.length:Int)) then ((((getO x43 x46).bind fun x51=>((inO t1.left_.length x51.To).bind fun u53=>((getO t1.left_ x51.To).bind fun x55=>(if x55 then (((if (hasM c48 x51.To) then some (ov45,c48) else ((appO ov45 [x51.To]).bind fun x59=>some (x59,(setM c48 x51.To (ov45.length:Int)))))).bind fun ((ov61,c62):(List Int)×(List (Int×Int)))=>((appO a47 [(Qc.mk i22 x51.Event (getM c62 x51.To 0))]).bind fun x63=>some (ov61,x63,c62,x51.From,x51.Event,x51.To))) else some (ov45,a47,c48,x51.From,x51.Event,x51.To)))))).bind fun ((ov65,a66,c67,c68,c69,c70):(List Int)×(List Qc)×(List (Int×Int))×Int×Int×Int)=>k49 (ov65,(IntKind.wrap .i64 (x46+1)),a66,c67)) else some (ov45,a38,a47,c48))) fuel (ov21,0,a27,c28)))))).bind fun ((ov71,a72,a73,c74):(List Int)×(List Int)×(List Qc)×(List (Int×Int)))=>k29 (ov71,(IntKind.wrap .i64 (i22+1)),c23,c24,c25,a72,a73,c74)) else some (ov21,c23,c24,c25,a26,a27,c28))) fuel (ov19,0,[],[],[],[],[],c20)).bind fun ((ov75,c76,c77,c78,a79,a80,c81):(List Int)×(List Int)×(List Int)×(List Qc)×(List Int)×(List Qc)×(List (Int×Int)))=>some ((Qe.mk x9 (ov75.length:Int) a79 a80),ov75))))
def Qef (P:Program) (c:Nat) (f:Qa→Option (Qb6×Int)):Prop:=∀ p1 r,f p1=some r→∀ M nb,ACalls P c [(Qq p1)] M nb (.tup [(Qj r.1),(i_ r.2)]) M nb
def Qq5:List COp:=[oo 1 (.box 8) [.t 0],oo 2 (.alloc [.nils 1,.nils 1,.nils 4,.d (.int .i64 0),.nils 1,.d (.int .i64 0),.nils 1,.nils 3,.nils 1,.nils 1]) [],oo 3 .mov [cI 0]]
def Qq6:List COp:=[oo 17 (.load true 8) [.t 1],oo 18 (.call 30) [.t 17],oM 4 18]
def Qq7:List COp:=[oM 19 4,oo 20 (.bin .neq false) [.t 19,cI 0]]
def Qq8:List COp:=[oo 21 (.build [.nils 1,.nils 1,.nils 4,.d (.int .i64 0),.nils 1,.d (.int .i64 0),.nils 1,.nils 3,.nils 1,.nils 1] []) [],oM 22 4,⟨none,.store 10,[.t 2,.t 21],true,none⟩,oM 3 22]
def Qq9:List COp:=[oo 23 (.load true 8) [.t 1],oo 24 (.call 37) [.t 23],oo 5 (.alloc [.nilp]) [],⟨none,.store 1,[.t 5,.t 24],false,none⟩]
def Qra:List COp:=[oo 6 (.alloc [.nils 1,.nils 1,.nils 4,.d (.int .i64 0),.nils 1,.d (.int .i64 0),.nils 1,.nils 3,.nils 1,.nils 1]) []]
def Qrb:List COp:=[oL 25 5,oo 26 .nilchk [.t 25],oF 27 9 26,oL 28 27,oo 29 .len [.t 28],oo 30 (.makes 4 32 [.d (.int .i64 0),.d (.int .i64 0),.d (.int .i64 0),.d (.int .i64 0)]) [.t 29,.t 29],ot 7 .mov [.t 30]]
def Qrc:List COp:=[oF 31 4 1,oL 32 31,oo 33 .len [.t 32],oo 34 .mov [cI 0]]
def Qrd:List COp:=[oo 35 (.bin .lss false) [.t 34,.t 33]]
def Qre:List COp:=[oo 36 (.idx 1) [.t 32,.t 34],oL 37 36,oM 9 37]
def Qpv:List COp:=[oM 38 7,oM 39 9,oM 40 9,oo 41 (.build [.d (.int .i64 0),.d (.int .i64 0),.d (.int .i64 0),.d (.int .i64 0)] [(0,1),(1,1),(2,1),(3,1)]) [.t 40,cI 1,cI 1,cI (-1)],oo 42 (.idx 4) [.t 38,.t 39],⟨none,.store 4,[.t 42,.t 41],false,none⟩,oF 43 3 6,⟨none,.store 1,[.t 43,cI 1],false,none⟩]
def Qpw:List COp:=[oo 44 (.bin .add false) [.t 34,cI 1],oM 34 44]
def Qpx:List COp:=[oo 10 .mov [cI 2]]
def Qpy:List COp:=[oL 47 5,oM 48 10,oo 49 (.call 38) [.t 47,.t 48],ot 11 .mov [.t 49]]
def Qpz:List COp:=[oM 50 11,oo 51 .len [.t 50],oo 52 (.bin .eql false) [.t 51,cI 0]]
def Qp0:List COp:=[oM 53 11,oo 54 .len [.t 53],oo 55 .mov [cI 0]]
def Qp1:List COp:=[oo 56 (.bin .lss false) [.t 55,.t 54]]
def Qp2:List COp:=[oo 57 (.idx 4) [.t 53,.t 55],oo 58 (.load true 4) [.t 57],oo 13 (.alloc [.d (.int .i64 0),.d (.int .i64 0),.d (.int .i64 0),.d (.int .i64 0)]) [],⟨none,.store 4,[.t 13,.t 58],false,none⟩]
def Qp3:List COp:=[oL 59 5,oo 60 .nilchk [.t 59],oF 61 9 60,oL 62 61,oF 63 0 13,oL 64 63,oM 65 7,oF 66 0 13,oL 67 66,oo 68 (.load true 4) [.t 13],oo 69 (.idx 1) [.t 62,.t 64],⟨none,.store 1,[.t 69,.c (.d (.bool false))],false,none⟩,oo 70 (.idx 4) [.t 65,.t 67],⟨none,.store 4,[.t 70,.t 68],false,none⟩]
def Qp4:List COp:=[oo 71 (.bin .add false) [.t 55,cI 1],oM 55 71]
def Qp5:List COp:=[oM 72 10,oF 73 3 6,⟨none,.store 1,[.t 73,.t 72],false,none⟩]
def Qp6:List COp:=[oM 45 10,oo 46 (.bin .add false) [.t 45,cI 1],oM 10 46]
def Qp7:List COp:=[oF 74 0 6,oM 14 74]
def Qp8:List COp:=[oL 75 5,oo 76 (.call 39) [.t 75],oo 77 .len [.t 76],oo 78 .mov [cI 0]]
def Qp9:List COp:=[oo 79 (.bin .lss false) [.t 78,.t 77]]
def Qqa:List COp:=[oM 80 78,oo 81 (.idx 1) [.t 76,.t 78],oL 82 81,oM 15 80,oM 16 82]
def Qqb:List COp:=[oL 83 5,oo 84 .nilchk [.t 83],oF 85 9 84,oL 86 85,oM 87 15,oo 88 (.idx 1) [.t 86,.t 87],oL 89 88,oo 90 (.un .not) [.t 89]]
def Qqc:List COp:=[oM 91 14,oM 92 14,oo 93 .nilchk [.t 92],oF 94 2 93,oo 95 .loadT [.t 94],oM 96 7,oM 97 15,oo 98 (.idx 4) [.t 96,.t 97],oo 99 (.load true 4) [.t 98],oo 100 (.bslice 4 1 [.d (.int .i64 0),.d (.int .i64 0),.d (.int .i64 0),.d (.int .i64 0)] [0]) [.t 99],ot 101 (.append 4 32) [.t 95,.t 100],oo 102 .nilchk [.t 91],oF 103 2 102,⟨none,.store 1,[.t 103,.t 101],true,none⟩]
def Qqd:List COp:=[oM 104 14,oM 105 14,oM 106 14,oo 107 .nilchk [.t 106],oF 108 0 107,oo 109 .loadT [.t 108],oM 110 15,oo 111 (.bslice 1 1 [.d (.int .i64 0)] [0]) [.t 110],ot 112 (.append 1 8) [.t 109,.t 111],oM 113 14,oo 114 .nilchk [.t 113],oF 115 1 114,oo 116 .loadT [.t 115],oM 117 16,oo 118 (.bslice 1 1 [.d (.int .i64 0)] [0]) [.t 117],ot 119 (.append 1 8) [.t 116,.t 118],oo 120 .nilchk [.t 104],oF 121 0 120,⟨none,.store 1,[.t 121,.t 112],true,none⟩,oo 122 .nilchk [.t 105],oF 123 1 122,⟨none,.store 1,[.t 123,.t 119],true,none⟩]
def Qqe:List COp:=[oL 124 5,oo 125 .nilchk [.t 124],oF 126 8 125,oL 127 126,oM 128 15,oo 129 (.idx 1) [.t 127,.t 128],oL 130 129,oo 131 (.func 41) [.t 1,.t 5],oo 132 (.call 40) [.t 130,.t 131]]
def Qqf:List COp:=[oF 133 9 6,oo 134 .loadT [.t 133],oM 135 15,oo 136 (.bslice 1 1 [.d (.int .i64 0)] [0]) [.t 135],ot 137 (.append 1 8) [.t 134,.t 136],oF 138 9 6,⟨none,.store 1,[.t 138,.t 137],true,none⟩]
def Qqg:List COp:=[oo 139 (.bin .add false) [.t 78,cI 1],oM 78 139]
def Qqh:List COp:=[oL 141 5,oo 142 (.call 42) [.t 141],oM 140 142,oo 143 (.extract 0) [.t 140],ot 144 (.extract 1) [.t 140],oF 145 4 6,⟨none,.store 4,[.t 145,.t 143],true,none⟩,oF 146 8 6,⟨none,.store 1,[.t 146,.t 144],true,none⟩]
def Qqi:List COp:=[oo 147 (.load true 10) [.t 6],⟨none,.store 10,[.t 2,.t 147],true,none⟩,oo 3 .mov [cI 0]]
def Qft:CFn:=⟨1,148,[.cell 2 true 10,.t 3],.seq (.region Qq5 9 []) (.seq (.seq (.region Qq6 9 []) (.seq (.region Qq7 9 []) (.cond (.t 20) (.seq (.region Qq8 9 []) (.ret)) (.skip)))) (.seq (.region Qq9 9 []) (.seq (.region Qra 9 []) (.seq (.region Qrb 9 []) (.seq (.seq (.region Qrc 9 []) (.block 0 (.loop [] (.seq (.region Qrd 9 []) (.seq (.cond (.t 35) (.skip) (.exit 0)) (.seq (.block 1 (.seq (.region Qre 9 []) (.region Qpv 9 []))) (.region Qpw 9 []))))))) (.seq (.seq (.region Qpx 9 []) (.block 2 (.loop [13] (.seq (.block 3 (.seq (.region Qpy 9 []) (.seq (.seq (.region Qpz 9 []) (.cond (.t 52) (.exit 2) (.skip))) (.seq (.seq (.region Qp0 9 []) (.block 4 (.loop [13] (.seq (.region Qp1 9 []) (.seq (.cond (.t 56) (.skip) (.exit 4)) (.seq (.block 5 (.seq (.region Qp2 9 []) (.region Qp3 0 [⟨66,1,69,1⟩,⟨13,4,69,1⟩]))) (.region Qp4 9 []))))))) (.region Qp5 9 []))))) (.region Qp6 9 []))))) (.seq (.region Qp7 9 []) (.seq (.seq (.region Qp8 9 []) (.block 6 (.loop [100,111,118,136] (.seq (.region Qp9 9 []) (.seq (.cond (.t 79) (.skip) (.exit 6)) (.seq (.block 7 (.seq (.region Qqa 9 []) (.seq (.seq (.region Qqb 9 []) (.cond (.t 90) (.seq (.region Qqc 0 []) (.exit 7)) (.skip))) (.seq (.region Qqd 0 [⟨108,1,115,1⟩]) (.seq (.region Qqe 9 []) (.cond (.t 132) (.region Qqf 9 []) (.skip))))))) (.region Qqg 9 []))))))) (.seq (.region Qqh 9 []) (.seq (.region Qqi 9 []) (.ret)))))))))))⟩
def Qv (Qcb:Qa→Option Int) (Qcc:Qa→Option Qp) (Qbo:Qp→Int→Option ((List Qb))) (Qx:Qp→Option ((List Int))) (Qu:(List Qc)→(Qc→Option Bool)→Option Bool) (Qbh:Qc→Qa→Qp→Option Bool) (Q8:Qp→Option (Qe×(List Int))) (fuel:Nat) (p1:Qa):Option (Qb6×Int) :=
  ((Qcb p1).bind fun x3=>(if (x3 != 0) then some ((Qb6.mk (Qee.mk [] [] []) 0 (Qe.mk [] 0 [] []) [] []),x3) else ((Qcc p1).bind fun x5=>((mkO (x5.left_.length:Int) (Qb.mk 0 0 0 0)).bind fun x7=>((Qcm (fun k12 ((x9,r10,c11):Int×Int×(List Qb))=>(if (x9<(p1.zC.length:Int)) then ((getO p1.zC x9).bind fun x14=>((inO (Int.toNat (x5.left_.length:Int)) x14).bind fun u16=>((setO c11 x14 (Qb.mk x14 1 1 (-1))).bind fun x18=>k12 ((IntKind.wrap .i64 (x9+1)),1,x18)))) else some (r10,c11))) fuel (0,0,x7)).bind fun ((r20,c21):Int×(List Qb))=>((Qcm (fun k26 ((rv22,r23,c24,c25):Int×Int×(List Qb)×(List Bool))=>((lenO c25 x5.left_.length).bind fun _=>((Qbo (Qp.mk x5.zO x5.from_ c25) rv22).bind fun x29=>(if ((x29.length:Int)==0) then some (r23,c24,c25) else ((Qcm (fun k34 ((x31,c32,c33):Int×(List Qb)×(List Bool))=>(if (x31<(x29.length:Int)) then ((getO x29 x31).bind fun x36=>((inO x5.left_.length x36.State).bind fun u38=>((setO c33 x36.State false).bind fun x40=>((inO (Int.toNat (x5.left_.length:Int)) x36.State).bind fun u42=>((setO c32 x36.State x36).bind fun x44=>k34 ((IntKind.wrap .i64 (x31+1)),x44,x40)))))) else some (c32,c33))) fuel (0,c24,c25)).bind fun ((c46,c47):(List Qb)×(List Bool))=>k26 ((IntKind.wrap .i64 (rv22+1)),rv22,c46,c47)))))) fuel (2,r20,c21,x5.left_)).bind fun ((r48,c49,c50):Int×(List Qb)×(List Bool))=>((((lenO c50 x5.left_.length).bind fun _=>((Qx (Qp.mk x5.zO x5.from_ c50)).bind fun x53=>Qcm (fun k71 ((x54,c55,c56,c57,c58,c59,c60,c61,c62,r63,r64,r65,r66,r67,r68,r69,r70):Int×(List Int)×(List Int)×(List Qb)×(List Int)×(List Int)×(List Qc)×(List Int)×(List Int)×(List Int)×(List Int)×(List Qb)×(List Int)×(List Int)×(List Qc)×(List Int)×(List Int))=>(if (x54<(x53.length:Int)) then ((((getO x53 x54).bind fun x73=>((inO x5.left_.length x54).bind fun u75=>((getO c50 x54).bind fun x77=>(if x77 then ((appO r63 [x54]).bind fun x86=>((appO r64 [x73]).bind fun x88=>((inO x5.from_.length x54).bind fun u90=>((getO x5.from_ x54).bind fun x92=>((lenO c50 x5.left_.length).bind fun _=>((Qu x92 (fun a94=>Qbh a94 p1 (Qp.mk x5.zO x5.from_ c50))).bind fun x99=>(if x99 then ((appO r70 [x54]).bind fun x101=>some (x86,x88,r65,x101)) else some (x86,x88,r65,r70)))))))) else ((inO (Int.toNat (x5.left_.length:Int)) x54).bind fun u80=>((getO c49 x54).bind fun x82=>((appO r65 [x82]).bind fun x84=>some (r63,r64,x84,r70))))))))).bind fun ((r103,r104,r105,r106):(List Int)×(List Int)×(List Qb)×(List Int))=>k71 ((IntKind.wrap .i64 (x54+1)),c55,c56,c57,c58,c59,c60,c61,c62,r103,r104,r105,r66,r67,r68,r69,r106)) else some (c55,c56,c57,c58,c59,c60,c61,c62,r63,r64,r65,r66,r67,r68,r69,r70))) fuel (0,[],[],[],[],[],[],[],[],[],[],[],[],[],[],[],[])))).bind fun ((c107,c108,c109,c110,c111,c112,c113,c114,r115,r116,r117,r118,r119,r120,r121,r122):(List Int)×(List Int)×(List Qb)×(List Int)×(List Int)×(List Qc)×(List Int)×(List Int)×(List Int)×(List Int)×(List Qb)×(List Int)×(List Int)×(List Qc)×(List Int)×(List Int))=>((lenO c50 x5.left_.length).bind fun _=>((Q8 (Qp.mk x5.zO x5.from_ c50)).bind fun (r125,r126)=>some ((Qb6.mk (Qee.mk r115 r116 r117) r48 r125 r126 r122),0))))))))))
def Qfu (P:Program) (c:Nat) (f:Int→Int→Int→Int→Int→Option Int):Prop:=∀ sv1 x2 x3 x6 x9 (k4:Nat) (k7:Nat) (k10:Nat) r,f sv1 x2 x3 x6 x9=some r→∀ M nb,(M k4=some (.cells [(i_ x3)]))→(M k7=some (.cells [(i_ x6)]))→(M k10=some (.cells [(i_ x9)]))→ACalls P c [(i_ sv1),(i_ x2),.ptr k4 0,.ptr k7 0,.ptr k10 0] M nb (i_ r) M nb
def Qrf:List COp:=[oo 7 .mov [cI 0]]
def Qrg:List COp:=[oM 9 1,oL 10 2,oo 11 (.bin .eql false) [.t 9,.t 10],oM 8 11]
def Qrh:List COp:=[oM 12 0,oM 7 12]
def Qri:List COp:=[oM 14 1,oL 15 3,oo 16 (.bin .eql false) [.t 14,.t 15],oM 13 16]
def Qrj:List COp:=[oo 7 .mov [cI 0]]
def Qrk:List COp:=[oM 18 0,oL 19 4,oo 20 (.bin .leq false) [.t 18,.t 19],oM 17 20]
def Qrl:List COp:=[oM 21 0,oo 22 (.bin .add false) [.t 21,cI 1],oM 7 22]
def Qrm:List COp:=[oo 7 .mov [cI (-1)]]
def Qfv:CFn:=⟨5,23,[.t 7],.seq (.region Qrf 9 []) (.seq (.block 0 (.seq (.region Qrg 9 []) (.cond (.t 8) (.seq (.region Qrh 9 []) (.ret)) (.seq (.region Qri 9 []) (.cond (.t 13) (.seq (.region Qrj 9 []) (.ret)) (.seq (.region Qrk 9 []) (.cond (.t 17) (.seq (.region Qrl 9 []) (.ret)) (.skip)))))))) (.seq (.region Qrm 9 []) (.ret)))⟩
def Qbx (sv1:Int) (x2:Int) (x3:Int) (x6:Int) (x9:Int):Option Int :=
  (if (x2==x3) then some sv1 else (if (x2==x6) then some 0 else (if (sv1≤x9) then some (IntKind.wrap .i64 (sv1+1)) else some (-1))))
def Qh2 (P:Program) (c:Nat) (f:Int→Int→Int→Int→Bool→(Int→Int→Option Int)→Option (Qe×Int)):Prop:=∀ xv1 to2 tv3 tv4 mv5 lv6 (g7:Nat) (cp8:List V) r,f xv1 to2 tv3 tv4 mv5 lv6=some r→∀ M nb,(V.dems cp8=cp8)→(V.ons (There M) cp8)→(∀ a12 a13 r,lv6 a12 a13=some r→∀ M2 nb2,nb≤nb2→Ext M M2→ACalls P g7 ([(i_ a12),(i_ a13)]++cp8) M2 nb2 (i_ r) M2 nb2)→ACalls P c [(i_ xv1),(i_ to2),(i_ tv3),(i_ tv4),(b_ mv5),.clo g7 cp8] M nb (.tup [(Qh r.1),(i_ r.2)]) M nb
def Qx7:List COp:=[oo 12 (.alloc [.nils 1,.d (.int .i64 0),.nils 1,.nils 3]) [],oo 13 .mov [cI 0]]
def Qx8:List COp:=[oM 20 0,oo 21 (.call 65) [.t 20],oo 22 (.un .not) [.t 21],oM 23 22,⟨some 24,.mov,[.t 1],false,some (23,false)⟩,⟨some 25,.call 65,[.t 24],false,some (23,false)⟩,⟨some 26,.un .not,[.t 25],false,some (23,false)⟩,oo 27 .pick [.t 23,.c (.d (.bool true)),.t 26],oM 28 27,⟨some 29,.mov,[.t 3],false,some (28,false)⟩,⟨some 30,.call 65,[.t 29],false,some (28,false)⟩,⟨some 31,.un .not,[.t 30],false,some (28,false)⟩,oo 32 .pick [.t 28,.c (.d (.bool true)),.t 31],oM 19 32]
def Qx9:List COp:=[oo 33 (.build [.nils 1,.d (.int .i64 0),.nils 1,.nils 3] []) [],⟨none,.store 4,[.t 12,.t 33],true,none⟩,oo 13 .mov [cI 2]]
def Qya:List COp:=[oM 35 0,oM 36 1,oo 37 (.bin .eql false) [.t 35,.t 36],oM 38 37,⟨some 39,.mov,[.t 0],false,some (38,false)⟩,⟨some 40,.mov,[.t 3],false,some (38,false)⟩,⟨some 41,.bin .eql false,[.t 39,.t 40],false,some (38,false)⟩,oo 42 .pick [.t 38,.c (.d (.bool true)),.t 41],oM 43 42,⟨some 44,.mov,[.t 1],false,some (43,false)⟩,⟨some 45,.mov,[.t 3],false,some (43,false)⟩,⟨some 46,.bin .eql false,[.t 44,.t 45],false,some (43,false)⟩,oo 47 .pick [.t 43,.c (.d (.bool true)),.t 46],oM 34 47]
def Qyb:List COp:=[oo 48 (.build [.nils 1,.d (.int .i64 0),.nils 1,.nils 3] []) [],⟨none,.store 4,[.t 12,.t 48],true,none⟩,oo 13 .mov [cI 13]]
def Qyc:List COp:=[oM 50 2,oo 51 (.bin .lss false) [.t 50,cI 0],oM 52 51,⟨some 53,.mov,[.t 2],false,some (52,false)⟩,⟨some 54,.bin .gtr false,[.t 53,cI 16],false,some (52,false)⟩,oo 55 .pick [.t 52,.c (.d (.bool true)),.t 54],oM 49 55]
def Qyd:List COp:=[oo 56 (.build [.nils 1,.d (.int .i64 0),.nils 1,.nils 3] []) [],⟨none,.store 4,[.t 12,.t 56],true,none⟩,oo 13 .mov [cI 2]]
def Qye:List COp:=[oM 57 0,oM 58 1,oM 59 3,oo 60 (.bslice 1 3 [.d (.int .i64 0)] [0,1,2]) [.t 57,.t 58,.t 59],oM 61 2,oo 62 (.bin .add false) [.t 61,cI 2],ot 63 (.build [.nils 1,.d (.int .i64 0),.nils 1,.nils 3] [(0,1),(1,1)]) [.t 60,.t 62],oo 14 (.alloc [.nils 1,.d (.int .i64 0),.nils 1,.nils 3]) [],⟨none,.store 4,[.t 14,.t 63],true,none⟩]
def Qyf:List COp:=[oF 64 0 14,oL 65 64,oo 66 (.call 73) [.t 65]]
def Qyg:List COp:=[oF 67 1 14,oL 68 67,oo 69 .mov [cI 0]]
def Qwf:List COp:=[oo 70 (.bin .lss false) [.t 69,.t 68]]
def Qwg:List COp:=[oM 71 69,oM 15 71]
def Qwh:List COp:=[oM 72 15,oo 73 (.bin .eql false) [.t 72,cI 0],oM 74 73,⟨some 75,.mov,[.t 4],false,some (74,false)⟩,oo 76 .pick [.t 74,.c (.d (.bool true)),.t 75]]
def Qwi:List COp:=[oF 77 2 14,oo 78 .loadT [.t 77],oM 79 15,oo 80 (.bslice 1 1 [.d (.int .i64 0)] [0]) [.t 79],ot 81 (.append 1 8) [.t 78,.t 80],oF 82 2 14,⟨none,.store 1,[.t 82,.t 81],true,none⟩]
def Qwj:List COp:=[oF 83 0 14,oL 84 83,oo 85 .len [.t 84],oo 86 .mov [cI 0]]
def Qwk:List COp:=[oo 87 (.bin .lss false) [.t 86,.t 85]]
def Qwl:List COp:=[oo 88 (.idx 1) [.t 84,.t 86],oL 89 88,oM 17 89]
def Qwm:List COp:=[oM 90 5,oM 91 15,oM 92 17,oo 93 .callv [.t 90,.t 91,.t 92],oM 18 93]
def Qwn:List COp:=[oM 94 15,oo 95 (.bin .eql false) [.t 94,cI 0]]
def Qwo:List COp:=[oo 18 .mov [cI 0]]
def Qwp:List COp:=[oM 96 17,oM 97 0,oo 98 (.bin .eql false) [.t 96,.t 97]]
def Qwq:List COp:=[oo 18 .mov [cI 1]]
def Qwr:List COp:=[oM 99 18,oo 100 (.bin .neq false) [.t 99,cI (-1)]]
def Qws:List COp:=[oF 101 3 14,oo 102 .loadT [.t 101],oM 103 15,oM 104 17,oM 105 18,oo 106 (.build [.d (.int .i64 0),.d (.int .i64 0),.d (.int .i64 0)] [(0,1),(1,1),(2,1)]) [.t 103,.t 104,.t 105],oo 107 (.bslice 3 1 [.d (.int .i64 0),.d (.int .i64 0),.d (.int .i64 0)] [0]) [.t 106],ot 108 (.append 3 24) [.t 102,.t 107],oF 109 3 14,⟨none,.store 1,[.t 109,.t 108],true,none⟩]
def Qwt:List COp:=[oo 110 (.bin .add false) [.t 86,cI 1],oM 86 110]
def Qwu:List COp:=[oo 111 (.bin .add false) [.t 69,cI 1],oM 69 111]
def Qwv:List COp:=[oo 112 (.load true 4) [.t 14],⟨none,.store 4,[.t 12,.t 112],true,none⟩,oo 13 .mov [cI 0]]
def Qh3:CFn:=⟨6,113,[.cell 12 true 4,.t 13],.seq (.region Qx7 9 []) (.seq (.block 0 (.seq (.region Qx8 9 []) (.cond (.t 19) (.seq (.region Qx9 9 []) (.ret)) (.seq (.region Qya 9 []) (.cond (.t 34) (.seq (.region Qyb 9 []) (.ret)) (.seq (.region Qyc 9 []) (.cond (.t 49) (.seq (.region Qyd 9 []) (.ret)) (.skip)))))))) (.seq (.region Qye 9 []) (.seq (.region Qyf 9 []) (.seq (.seq (.region Qyg 9 []) (.block 1 (.loop [80,107] (.seq (.region Qwf 9 []) (.seq (.cond (.t 70) (.skip) (.exit 1)) (.seq (.block 2 (.seq (.region Qwg 9 []) (.seq (.seq (.region Qwh 9 []) (.cond (.t 76) (.region Qwi 9 []) (.skip))) (.seq (.region Qwj 9 []) (.block 3 (.loop [107] (.seq (.region Qwk 9 []) (.seq (.cond (.t 87) (.skip) (.exit 3)) (.seq (.block 4 (.seq (.region Qwl 9 []) (.seq (.region Qwm 9 []) (.seq (.seq (.region Qwn 9 []) (.cond (.t 95) (.seq (.region Qwo 9 []) (.seq (.region Qwp 9 []) (.cond (.t 98) (.region Qwq 9 []) (.skip)))) (.skip))) (.seq (.region Qwr 9 []) (.cond (.t 100) (.region Qws 9 []) (.skip))))))) (.region Qwt 9 [])))))))))) (.region Qwu 9 []))))))) (.seq (.region Qwv 9 []) (.ret))))))⟩
def Qcp (Q6:Int→Option Bool) (f_slices_Sort_int:List Int→Option (List Int)) (fuel:Nat) (xv1:Int) (to2:Int) (tv3:Int) (tv4:Int) (mv5:Bool) (lv6:(Int→Int→Option Int)):Option (Qe×Int) :=
  ((((Q6 xv1).bind fun x15=>(if x15 then ((Q6 to2).bind fun x18=>(if x18 then ((Q6 tv4).bind fun x21=>some (!x21)) else some true)) else some true))).bind fun (x22:Bool)=>(if x22 then some ((Qe.mk [] 0 [] []),2) else (((if (xv1==to2) then some true else (if (xv1==tv4) then some true else some (to2==tv4)))).bind fun (x26:Bool)=>(if x26 then some ((Qe.mk [] 0 [] []),13) else (((if (tv3<0) then some true else some (decide (tv3>16)))).bind fun (x29:Bool)=>(if x29 then some ((Qe.mk [] 0 [] []),2) else ((f_slices_Sort_int [xv1,to2,tv4]).bind fun rv31=>((Qcm (fun k44 ((x36,x37,c38,c39,c40,a41,a42,a43):Int×Int×(List Int)×(List Int)×(List Qc)×Int×(List Int)×(List Qc))=>(if (x37<x36) then (((((((if (x37==0) then some true else some mv5)).bind fun (x47:Bool)=>(if x47 then ((appO a42 [x37]).bind fun x49=>some x49) else some a42))).bind fun (a51:List Int)=>Qcm (fun k54 ((x52,a53):Int×(List Qc))=>(if (x52<(3:Int)) then ((((inO 3 x52).bind fun u56=>((getO rv31 x52).bind fun x58=>((lv6 x37 x58).bind fun x61=>(((if (x37==0) then (if (x58==xv1) then some 1 else some 0) else some x61)).bind fun (nv64:Int)=>(if (nv64 != (-1)) then ((appO a53 [(Qc.mk x37 x58 nv64)]).bind fun x66=>some x66) else some a53)))))).bind fun (a68:List Qc)=>k54 ((IntKind.wrap .i64 (x52+1)),a68)) else some (a51,a53))) fuel (0,a43))).bind fun ((a69,a70):(List Int)×(List Qc))=>k44 (x36,(IntKind.wrap .i64 (x37+1)),c38,c39,c40,a41,a69,a70)) else some (c38,c39,c40,a41,a42,a43))) fuel ((IntKind.wrap .i64 (tv3+2)),0,[],[],[],(IntKind.wrap .i64 (tv3+2)),[],[])).bind fun ((c71,c72,c73,a74,a75,a76):(List Int)×(List Int)×(List Qc)×Int×(List Int)×(List Qc))=>((lenO rv31 3).bind fun _=>some ((Qe.mk rv31 a74 a75 a76),0))))))))))
def Qgr (P:Program) (c:Nat) (f:Int→Int→Int→Int→Option (Qe×Int)):Prop:=∀ xv1 to2 tv3 tv4 r,f xv1 to2 tv3 tv4=some r→∀ M nb,ACalls P c [(i_ xv1),(i_ to2),(i_ tv3),(i_ tv4)] M nb (.tup [(Qh r.1),(i_ r.2)]) M nb
def Qt4:List COp:=[oo 4 (.box 1) [.t 0],oo 5 (.box 1) [.t 1],oo 6 (.box 1) [.t 2],oo 8 (.alloc [.nils 1,.d (.int .i64 0),.nils 1,.nils 3]) [],oo 9 .mov [cI 0]]
def Qt5:List COp:=[oL 10 4,oL 11 5,oL 12 6,oM 13 3,oo 14 (.func 48) [.t 4,.t 5,.t 6],oo 15 (.call 47) [.t 10,.t 11,.t 12,.t 13,.c (.d (.bool false)),.t 14],oo 16 (.extract 0) [.t 15],oo 17 (.extract 1) [.t 15],⟨none,.store 4,[.t 8,.t 16],true,none⟩,oM 9 17]
def Qgs:CFn:=⟨4,18,[.cell 8 true 4,.t 9],.seq (.region Qt4 9 []) (.seq (.region Qt5 9 []) (.ret))⟩
def Qb7 (Qcp:Int→Int→Int→Int→Bool→(Int→Int→Option Int)→Option (Qe×Int)) (Qbx:Int→Int→Int→Int→Int→Option Int) (xv1:Int) (to2:Int) (tv3:Int) (tv4:Int):Option (Qe×Int) :=
  ((Qcp xv1 to2 tv3 tv4 false (fun a5 a6=>Qbx a5 a6 xv1 to2 tv3)).bind fun (r10,r11)=>some (r10,r11))
def Ql0 (P:Program) (c:Nat) (f:(List Int)→(List Int)→Option Bool):Prop:=∀ s1 s2 r,f s1 s2=some r→∀ M nb,ACalls P c [(l_ s1),(l_ s2)] M nb (b_ r) M nb
def Q5k:List COp:=[oo 4 .mov [.c (.d (.bool false))]]
def Q5l:List COp:=[oM 6 0,oo 7 .len [.t 6],oM 8 1,oo 9 .len [.t 8],oo 10 (.bin .neq false) [.t 7,.t 9]]
def Q5m:List COp:=[oo 4 .mov [.c (.d (.bool false))]]
def Q5n:List COp:=[oM 11 0,oo 12 .len [.t 11],oo 13 .mov [cI 0]]
def Q5o:List COp:=[oo 14 (.bin .lss false) [.t 13,.t 12]]
def Q5p:List COp:=[oM 15 13,oM 5 15]
def Q5q:List COp:=[oM 16 0,oM 17 5,oo 18 (.idx 1) [.t 16,.t 17],oL 19 18,oM 20 1,oM 21 5,oo 22 (.idx 1) [.t 20,.t 21],oL 23 22,oo 24 (.bin .neq false) [.t 19,.t 23]]
def Q5r:List COp:=[oo 4 .mov [.c (.d (.bool false))]]
def Q5s:List COp:=[oo 25 (.bin .add false) [.t 13,cI 1],oM 13 25]
def Q5t:List COp:=[oo 4 .mov [.c (.d (.bool true))]]
def Ql1:CFn:=⟨2,26,[.t 4],.seq (.region Q5k 9 []) (.seq (.seq (.region Q5l 9 []) (.cond (.t 10) (.seq (.region Q5m 9 []) (.ret)) (.skip))) (.seq (.seq (.region Q5n 9 []) (.block 0 (.loop [] (.seq (.region Q5o 9 []) (.seq (.cond (.t 14) (.skip) (.exit 0)) (.seq (.block 1 (.seq (.region Q5p 9 []) (.seq (.region Q5q 0 []) (.cond (.t 24) (.seq (.region Q5r 9 []) (.ret)) (.skip))))) (.region Q5s 9 []))))))) (.seq (.region Q5t 9 []) (.ret))))⟩
def Qda (fuel:Nat) (s1:(List Int)) (s2:(List Int)):Option Bool :=
  (if ((s1.length:Int) != (s2.length:Int)) then some false else Qcm (fun k5 (x4:Int)=>(if (x4<(s1.length:Int)) then ((getO s1 x4).bind fun x7=>((getO s2 x4).bind fun x9=>(if (x7 != x9) then some false else k5 (IntKind.wrap .i64 (x4+1))))) else some true)) fuel 0)
def Qvi (P:Program) (c:Nat) (f:(List Int)→(List Int)→Option Bool):Prop:=∀ a1 b2 r,f a1 b2=some r→∀ M nb,ACalls P c [(l_ a1),(l_ b2)] M nb (b_ r) M nb
def Qbdw:List COp:=[oo 4 .mov [.c (.d (.bool false))]]
def Qbdx:List COp:=[oM 5 0,oM 6 1,oo 7 (.call 45) [.t 5,.t 6],oM 4 7]
def Q3b:CFn:=⟨2,8,[.t 4],.seq (.region Qbdw 9 []) (.seq (.region Qbdx 9 []) (.ret))⟩
def Qds (Qda:(List Int)→(List Int)→Option Bool) (a1:(List Int)) (b2:(List Int)):Option Bool :=
  ((Qda a1 b2).bind fun x4=>some x4)
def Qil (P:Program) (c:Nat) (f:Option Bool):Prop:=∀ r,f=some r→∀ M nb,ACalls P c [] M nb (b_ r) M nb
def Qzp:List COp:=[oo 0 .mov [.c (.d (.bool false))]]
def Qzq:List COp:=[oo 8 (.bslice 1 1 [.d (.int .i64 0)] [0]) [cI 0],oo 9 (.call 35) [.t 8],oo 10 (.call 11) [.t 9],oM 7 10,oo 11 (.extract 0) [.t 7],oo 12 (.extract 1) [.t 7],oo 1 (.alloc [.nils 1,.nils 1,.nils 4,.d (.int .i64 0),.nils 1,.d (.int .i64 0),.nils 1,.nils 3,.nils 1,.nils 1]) [],⟨none,.store 10,[.t 1,.t 11],true,none⟩,oM 2 12]
def Qzr:List COp:=[oo 14 (.call 35) [.c (.nils 1)],oo 15 (.call 11) [.t 14],oM 13 15,oo 16 (.extract 0) [.t 13],oo 17 (.extract 1) [.t 13],oo 3 (.alloc [.nils 1,.nils 1,.nils 4,.d (.int .i64 0),.nils 1,.d (.int .i64 0),.nils 1,.nils 3,.nils 1,.nils 1]) [],⟨none,.store 10,[.t 3,.t 16],true,none⟩,oM 4 17]
def Qzs:List COp:=[oo 19 (.call 17) [cI 0,cI 1,cI 1,cI 2],oM 18 19,oo 20 (.extract 0) [.t 18],oo 21 (.extract 1) [.t 18],oo 5 (.alloc [.nils 1,.d (.int .i64 0),.nils 1,.nils 3]) [],⟨none,.store 4,[.t 5,.t 20],true,none⟩,oM 6 21]
def Qzt:List COp:=[oM 22 2,oo 23 (.bin .eql false) [.t 22,cI 0],oM 24 23,⟨some 25,.fld 9,[.t 1],false,some (24,true)⟩,⟨some 26,.load false 1,[.t 25],false,some (24,true)⟩,⟨some 27,.bslice 1 1 [.d (.int .i64 0)] [0],[cI 0],false,some (24,true)⟩,⟨some 28,.call 16,[.t 26,.t 27],false,some (24,true)⟩,oo 29 .pick [.t 24,.t 28,.c (.d (.bool false))],oM 30 29,⟨some 31,.fld 9,[.t 1],false,some (30,true)⟩,⟨some 32,.load false 1,[.t 31],false,some (30,true)⟩,⟨some 33,.len,[.t 32],false,some (30,true)⟩,⟨some 34,.bin .eql false,[.t 33,cI 1],false,some (30,true)⟩,oo 35 .pick [.t 30,.t 34,.c (.d (.bool false))],oM 36 35,⟨some 37,.fld 4,[.t 1],false,some (36,true)⟩,⟨some 38,.fld 1,[.t 37],false,some (36,true)⟩,⟨some 39,.load false 1,[.t 38],false,some (36,true)⟩,⟨some 40,.bin .eql false,[.t 39,cI 1],false,some (36,true)⟩,oo 41 .pick [.t 36,.t 40,.c (.d (.bool false))],oM 42 41,⟨some 43,.mov,[.t 4],false,some (42,true)⟩,⟨some 44,.bin .eql false,[.t 43,cI 0],false,some (42,true)⟩,oo 45 .pick [.t 42,.t 44,.c (.d (.bool false))],oM 46 45,⟨some 47,.fld 0,[.t 3],false,some (46,true)⟩,⟨some 48,.fld 2,[.t 47],false,some (46,true)⟩,⟨some 49,.load false 1,[.t 48],false,some (46,true)⟩,⟨some 50,.len,[.t 49],false,some (46,true)⟩,⟨some 51,.bin .eql false,[.t 50,cI 2],false,some (46,true)⟩,oo 52 .pick [.t 46,.t 51,.c (.d (.bool false))],oM 53 52,⟨some 54,.fld 0,[.t 3],false,some (53,true)⟩,⟨some 55,.fld 2,[.t 54],false,some (53,true)⟩,⟨some 56,.load false 1,[.t 55],false,some (53,true)⟩,⟨some 57,.idx 4,[.t 56,cI 0],false,some (53,true)⟩,⟨some 58,.load true 4,[.t 57],false,some (53,true)⟩,⟨some 59,.build [.d (.int .i64 0),.d (.int .i64 0),.d (.int .i64 0),.d (.int .i64 0)] [(0,1),(1,1),(2,1),(3,1)],[cI 0,cI 2,cI 4,cI 2],false,some (53,true)⟩,⟨some 60,.eqa false [0,0,0,0],[.t 58,.t 59],false,some (53,true)⟩,oo 61 .pick [.t 53,.t 60,.c (.d (.bool false))],oM 62 61,⟨some 63,.mov,[.t 6],false,some (62,true)⟩,⟨some 64,.bin .eql false,[.t 63,cI 0],false,some (62,true)⟩,oo 65 .pick [.t 62,.t 64,.c (.d (.bool false))],oM 66 65,⟨some 67,.fld 1,[.t 5],false,some (66,true)⟩,⟨some 68,.load false 1,[.t 67],false,some (66,true)⟩,⟨some 69,.bin .eql false,[.t 68,cI 3],false,some (66,true)⟩,oo 70 .pick [.t 66,.t 69,.c (.d (.bool false))],oM 71 70,⟨some 72,.fld 3,[.t 5],false,some (71,true)⟩,⟨some 73,.load false 1,[.t 72],false,some (71,true)⟩,⟨some 74,.len,[.t 73],false,some (71,true)⟩,⟨some 75,.bin .eql false,[.t 74,cI 8],false,some (71,true)⟩,oo 76 .pick [.t 71,.t 75,.c (.d (.bool false))],oM 0 76]
def Qim:CFn:=⟨0,77,[.t 0],.seq (.region Qzp 9 []) (.seq (.region Qzq 9 []) (.seq (.region Qzr 9 []) (.seq (.region Qzs 9 []) (.seq (.region Qzt 9 []) (.ret)))))⟩
def Qcy (Qv:Qa→Option (Qb6×Int)) (Qds:(List Int)→(List Int)→Option Bool) (Qb7:Int→Int→Int→Int→Option (Qe×Int)) (Qcj:(List Int)→Option Qa):Option Bool :=
  ((Qcj [0]).bind fun x2=>((Qv (Qa.mk x2.zA x2.zC [] x2.zD x2.Tick)).bind fun (r4,r5)=>((Qcj []).bind fun x7=>((Qv (Qa.mk x7.zA x7.zC [] x7.zD x7.Tick)).bind fun (r9,r10)=>((Qb7 0 1 1 2).bind fun (r12,r13)=>(((if (r5==0) then ((Qds r4.zJ [0]).bind fun x16=>(if x16 then (if ((r4.zJ.length:Int)==1) then (if (r4.zI.zN==1) then (if (r10==0) then (if ((r9.zF.zH.length:Int)==2) then ((getO r9.zF.zH 0).bind fun x22=>(if ((x22.State==0)&&((x22.Rank==2)&&((x22.Reason==4)&&((x22.Event==2)&&true)))) then (if (r13==0) then (if (r12.zN==3) then some ((r12.zM.length:Int)==8) else some false) else some false) else some false)) else some false) else some false) else some false) else some false) else some false)) else some false)).bind fun (x27:Bool)=>some x27))))))
def Qen (P:Program) (c:Nat) (f:Int→Option ((List Int))):Prop:=∀ s1 r,f s1=some r→∀ M nb,ACalls P c [.d (.int .u8 s1)] M nb (o_ r) M nb
def Qsl:List COp:=[ot 2 .mov [.c (.nils 1)]]
def Qsm:List COp:=[ot 3 .mov [.c (.nils 1)]]
def Qsn:List COp:=[oo 4 .mov [cI 0]]
def Qso:List COp:=[oM 5 4,oo 6 (.bin .lss false) [.t 5,cI 5]]
def Qsp:List COp:=[oM 9 0,oM 10 4,oo 11 (.bin .shr false) [.t 9,.t 10],oo 12 (.bin .and false) [.t 11,.c (.d (.int .u8 1))],oo 13 (.bin .eql false) [.t 12,.c (.d (.int .u8 1))]]
def Qsq:List COp:=[ot 14 .mov [.t 3],oM 15 4,oo 16 (.bslice 1 1 [.d (.int .i64 0)] [0]) [.t 15],ot 17 (.append 1 8) [.t 14,.t 16],ot 3 .mov [.t 17]]
def Qsr:List COp:=[oM 7 4,oo 8 (.bin .add false) [.t 7,cI 1],oM 4 8]
def Qss:List COp:=[ot 18 .mov [.t 3],ot 2 .mov [.t 18]]
def Qga:CFn:=⟨1,19,[.t 2],.seq (.region Qsl 9 []) (.seq (.region Qsm 9 []) (.seq (.seq (.region Qsn 9 []) (.block 0 (.loop [16] (.seq (.seq (.region Qso 9 []) (.cond (.t 6) (.skip) (.exit 0))) (.seq (.block 1 (.seq (.region Qsp 9 []) (.cond (.t 13) (.region Qsq 9 []) (.skip)))) (.region Qsr 9 [])))))) (.seq (.region Qss 9 []) (.ret))))⟩
def Q0 (fuel:Nat) (s1:Int):Option ((List Int)) :=
  ((Qcm (fun k4 ((ov2,i3):(List Int)×Int)=>(if (i3<5) then ((((shrO .u8 s1 i3).bind fun s6=>(if ((andI .u8 s6 1)==1) then ((appO ov2 [i3]).bind fun x9=>some x9) else some ov2))).bind fun (ov11:List Int)=>k4 (ov11,(IntKind.wrap .i64 (i3+1)))) else some ov2)) fuel ([],0)).bind fun (ov12:List Int)=>some ov12)
def Qgk (P:Program) (c:Nat) (f:(List Int)→Option Qe):Prop:=∀ av1 r,f av1=some r→∀ M nb,ACalls P c [(l_ av1)] M nb (.agg [(l_ r.zK),(i_ r.zN),.nils 1,.nils 3]) M nb
def Qzu:List COp:=[oo 2 (.alloc [.nils 1,.d (.int .i64 0),.nils 1,.nils 3]) []]
def Qzv:List COp:=[oo 3 (.bslice 1 0 [.d (.int .i64 0)] []) [],oM 4 0,ot 5 (.append 1 8) [.t 3,.t 4],ot 6 (.build [.nils 1,.d (.int .i64 0),.nils 1,.nils 3] [(0,1)]) [.t 5],⟨none,.store 4,[.t 2,.t 6],true,none⟩]
def Qin:CFn:=⟨1,7,[.cell 2 true 4],.seq (.region Qzu 9 []) (.seq (.region Qzv 9 []) (.ret))⟩
def Q9 (av1:(List Int)):Option Qe :=
  ((appO [] av1).bind fun x2=>some (Qe.mk x2 0 [] []))
def Qgx (P:Program) (c:Nat) (f:Qe→Int→Int→Option Int):Prop:=∀ a1 sv2 ev3 r,f a1 sv2 ev3=some r→∀ M nb,ACalls P c [(Qh a1),(i_ sv2),(i_ ev3)] M nb (i_ r) M nb
def Q1d:List COp:=[oo 3 (.box 4) [.t 0],oo 6 .mov [cI 0]]
def Q1e:List COp:=[oo 7 .mov [cI 0]]
def Q1f:List COp:=[oM 8 7,oF 9 3 3,oL 10 9,oo 11 .len [.t 10],oo 12 (.bin .lss false) [.t 8,.t 11]]
def Q1g:List COp:=[oF 15 3 3,oL 16 15,oM 17 7,oo 18 (.idx 3) [.t 16,.t 17],oF 19 0 18,oL 20 19,oM 21 1,oo 22 (.bin .eql false) [.t 20,.t 21],oM 23 22,⟨some 24,.fld 3,[.t 3],false,some (23,true)⟩,⟨some 25,.load false 1,[.t 24],false,some (23,true)⟩,⟨some 26,.mov,[.t 7],false,some (23,true)⟩,⟨some 27,.idx 3,[.t 25,.t 26],false,some (23,true)⟩,⟨some 28,.fld 1,[.t 27],false,some (23,true)⟩,⟨some 29,.load false 1,[.t 28],false,some (23,true)⟩,⟨some 30,.mov,[.t 2],false,some (23,true)⟩,⟨some 31,.bin .eql false,[.t 29,.t 30],false,some (23,true)⟩,oo 32 .pick [.t 23,.t 31,.c (.d (.bool false))]]
def Q1h:List COp:=[oF 33 3 3,oL 34 33,oM 35 7,oo 36 (.idx 3) [.t 34,.t 35],oF 37 2 36,oL 38 37,oM 6 38]
def Q1i:List COp:=[oM 13 7,oo 14 (.bin .add false) [.t 13,cI 1],oM 7 14]
def Q1j:List COp:=[oo 6 .mov [cI (-1)]]
def Qi5:CFn:=⟨3,39,[.t 6],.seq (.region Q1d 9 []) (.seq (.seq (.region Q1e 9 []) (.block 0 (.loop [] (.seq (.seq (.region Q1f 9 []) (.cond (.t 12) (.skip) (.exit 0))) (.seq (.block 1 (.seq (.region Q1g 9 []) (.cond (.t 32) (.seq (.region Q1h 9 []) (.ret)) (.skip)))) (.region Q1i 9 [])))))) (.seq (.region Q1j 9 []) (.ret)))⟩
def Qbk (fuel:Nat) (a1:Qe) (sv2:Int) (ev3:Int):Option Int :=
  Qcm (fun k5 (i4:Int)=>(if (i4<(a1.zM.length:Int)) then ((((getO a1.zM i4).bind fun x7=>(if (x7.From==sv2) then ((getO a1.zM i4).bind fun x10=>some (x10.Event==ev3)) else some false))).bind fun (x12:Bool)=>(if x12 then ((getO a1.zM i4).bind fun x14=>some x14.To) else k5 (IntKind.wrap .i64 (i4+1)))) else some (-1))) fuel 0
def Qhm (P:Program) (c:Nat) (f:(List Int)→Int→Option Bool):Prop:=∀ l1 n2 r,f l1 n2=some r→∀ M nb,ACalls P c [(l_ l1),(i_ n2)] M nb (b_ r) M nb
def Q3c:List COp:=[oo 4 .mov [.c (.d (.bool false))]]
def Q3d:List COp:=[oo 5 .mov [cI 0]]
def Q3e:List COp:=[oM 6 5,oM 7 0,oo 8 .len [.t 7],oo 9 (.bin .lss false) [.t 6,.t 8]]
def Q3f:List COp:=[oM 12 0,oM 13 5,oo 14 (.idx 1) [.t 12,.t 13],oL 15 14,oM 16 1,oo 17 (.bin .eql false) [.t 15,.t 16]]
def Q3g:List COp:=[oo 4 .mov [.c (.d (.bool true))]]
def Q3h:List COp:=[oM 10 5,oo 11 (.bin .add false) [.t 10,cI 1],oM 5 11]
def Q3i:List COp:=[oo 4 .mov [.c (.d (.bool false))]]
def Qkp:CFn:=⟨2,18,[.t 4],.seq (.region Q3c 9 []) (.seq (.seq (.region Q3d 9 []) (.block 0 (.loop [] (.seq (.seq (.region Q3e 9 []) (.cond (.t 9) (.skip) (.exit 0))) (.seq (.block 1 (.seq (.region Q3f 9 []) (.cond (.t 17) (.seq (.region Q3g 9 []) (.ret)) (.skip)))) (.region Q3h 9 [])))))) (.seq (.region Q3i 9 []) (.ret)))⟩
def Qbp (fuel:Nat) (l1:(List Int)) (n2:Int):Option Bool :=
  Qcm (fun k4 (i3:Int)=>(if (i3<(l1.length:Int)) then ((getO l1 i3).bind fun x6=>(if (x6==n2) then some true else k4 (IntKind.wrap .i64 (i3+1)))) else some false)) fuel 0
def Qio (P:Program) (c:Nat) (f:Qe→Option ((List Int))):Prop:=∀ a1 r,f a1=some r→∀ M nb,ACalls P c [(Qh a1)] M nb (o_ r) M nb
def Qzw:List COp:=[oo 1 (.box 4) [.t 0],ot 2 .mov [.c (.nils 1)]]
def Qzx:List COp:=[ot 3 .mov [.c (.nils 1)]]
def Qzy:List COp:=[oF 7 1 1,oL 8 7,oo 9 (.bin .gtr false) [.t 8,cI 0]]
def Qzz:List COp:=[ot 10 .mov [.t 3],oo 11 (.bslice 1 1 [.d (.int .i64 0)] [0]) [cI 0],ot 12 (.append 1 8) [.t 10,.t 11],ot 3 .mov [.t 12]]
def Qz0:List COp:=[oo 4 .mov [cI 0]]
def Qz1:List COp:=[oM 13 4,oM 14 3,oo 15 .len [.t 14],oo 16 (.bin .lss false) [.t 13,.t 15]]
def Qz2:List COp:=[oo 5 .mov [cI 0]]
def Qz3:List COp:=[oM 19 5,oF 20 0 1,oL 21 20,oo 22 .len [.t 21],oo 23 (.bin .lss false) [.t 19,.t 22]]
def Qz4:List COp:=[oo 26 (.load true 4) [.t 1],oM 27 3,oM 28 4,oo 29 (.idx 1) [.t 27,.t 28],oL 30 29,oF 31 0 1,oL 32 31,oM 33 5,oo 34 (.idx 1) [.t 32,.t 33],oL 35 34,oo 36 (.call 91) [.t 26,.t 30,.t 35],oM 6 36]
def Qz5:List COp:=[oM 37 6,oo 38 (.bin .geq false) [.t 37,cI 0],oM 39 38,⟨some 40,.mov,[.t 3],false,some (39,true)⟩,⟨some 41,.mov,[.t 6],false,some (39,true)⟩,⟨some 42,.call 90,[.t 40,.t 41],false,some (39,true)⟩,⟨some 43,.un .not,[.t 42],false,some (39,true)⟩,oo 44 .pick [.t 39,.t 43,.c (.d (.bool false))]]
def Qyh:List COp:=[ot 45 .mov [.t 3],oM 46 6,oo 47 (.bslice 1 1 [.d (.int .i64 0)] [0]) [.t 46],ot 48 (.append 1 8) [.t 45,.t 47],ot 3 .mov [.t 48]]
def Qyi:List COp:=[oM 24 5,oo 25 (.bin .add false) [.t 24,cI 1],oM 5 25]
def Qyj:List COp:=[oM 17 4,oo 18 (.bin .add false) [.t 17,cI 1],oM 4 18]
def Qyk:List COp:=[ot 49 .mov [.t 3],ot 2 .mov [.t 49]]
def Qip:CFn:=⟨1,50,[.t 2],.seq (.region Qzw 9 []) (.seq (.region Qzx 9 []) (.seq (.seq (.region Qzy 9 []) (.cond (.t 9) (.region Qzz 9 []) (.skip))) (.seq (.seq (.region Qz0 9 []) (.block 0 (.loop [47] (.seq (.seq (.region Qz1 9 []) (.cond (.t 16) (.skip) (.exit 0))) (.seq (.block 1 (.seq (.region Qz2 9 []) (.block 2 (.loop [47] (.seq (.seq (.region Qz3 9 []) (.cond (.t 23) (.skip) (.exit 2))) (.seq (.block 3 (.seq (.region Qz4 0 []) (.seq (.region Qz5 9 []) (.cond (.t 44) (.region Qyh 9 []) (.skip))))) (.region Qyi 9 []))))))) (.region Qyj 9 [])))))) (.seq (.region Qyk 9 []) (.ret)))))⟩
def Qck (Qbp:(List Int)→Int→Option Bool) (Qbk:Qe→Int→Int→Option Int) (fuel:Nat) (a1:Qe):Option ((List Int)) :=
  (((if (a1.zN>0) then ((appO [] [0]).bind fun x3=>some x3) else some [])).bind fun (ov5:List Int)=>((Qcm (fun k8 ((ov6,i7):(List Int)×Int)=>(if (i7<(ov6.length:Int)) then ((Qcm (fun k12 ((ov10,k11):(List Int)×Int)=>(if (k11<(a1.zK.length:Int)) then ((((getO ov10 i7).bind fun x14=>((getO a1.zK k11).bind fun x16=>((Qbk a1 x14 x16).bind fun x19=>(((if (x19≥0) then ((Qbp ov10 x19).bind fun x22=>some (!x22)) else some false)).bind fun (x23:Bool)=>(if x23 then ((appO ov10 [x19]).bind fun x25=>some x25) else some ov10)))))).bind fun (ov27:List Int)=>k12 (ov27,(IntKind.wrap .i64 (k11+1)))) else some ov10)) fuel (ov6,0)).bind fun (ov28:List Int)=>k8 (ov28,(IntKind.wrap .i64 (i7+1)))) else some ov6)) fuel (ov5,0)).bind fun (ov29:List Int)=>some ov29))
def Qiq (P:Program) (c:Nat) (f:(List Int)→Int→Option Int):Prop:=∀ l1 n2 r,f l1 n2=some r→∀ M nb,ACalls P c [(l_ l1),(i_ n2)] M nb (i_ r) M nb
def Qz6:List COp:=[oo 4 .mov [cI 0]]
def Qz7:List COp:=[oo 5 .mov [cI 0]]
def Qz8:List COp:=[oM 6 5,oM 7 0,oo 8 .len [.t 7],oo 9 (.bin .lss false) [.t 6,.t 8]]
def Qz9:List COp:=[oM 12 0,oM 13 5,oo 14 (.idx 1) [.t 12,.t 13],oL 15 14,oM 16 1,oo 17 (.bin .eql false) [.t 15,.t 16]]
def Q0a:List COp:=[oM 18 5,oM 4 18]
def Q0b:List COp:=[oM 10 5,oo 11 (.bin .add false) [.t 10,cI 1],oM 5 11]
def Q0c:List COp:=[oo 4 .mov [cI (-1)]]
def Qir:CFn:=⟨2,19,[.t 4],.seq (.region Qz6 9 []) (.seq (.seq (.region Qz7 9 []) (.block 0 (.loop [] (.seq (.seq (.region Qz8 9 []) (.cond (.t 9) (.skip) (.exit 0))) (.seq (.block 1 (.seq (.region Qz9 9 []) (.cond (.t 17) (.seq (.region Q0a 9 []) (.ret)) (.skip)))) (.region Q0b 9 [])))))) (.seq (.region Q0c 9 []) (.ret)))⟩
def Qcl (fuel:Nat) (l1:(List Int)) (n2:Int):Option Int :=
  Qcm (fun k4 (i3:Int)=>(if (i3<(l1.length:Int)) then ((getO l1 i3).bind fun x6=>(if (x6==n2) then some i3 else k4 (IntKind.wrap .i64 (i3+1)))) else some (-1))) fuel 0
def Qgt (P:Program) (c:Nat) (f:Qe→Option Qe):Prop:=∀ a1 r,f a1=some r→∀ M nb,ACalls P c [(Qh a1)] M nb (Qh r) M nb
def Qt6:List COp:=[oo 1 (.box 4) [.t 0],oo 2 (.alloc [.nils 1,.d (.int .i64 0),.nils 1,.nils 3]) []]
def Qt7:List COp:=[oo 8 (.load true 4) [.t 1],oo 9 (.call 89) [.t 8],ot 3 .mov [.t 9]]
def Qt8:List COp:=[oF 10 0 1,oL 11 10,oo 12 (.call 69) [.t 11],oo 4 (.alloc [.nils 1,.d (.int .i64 0),.nils 1,.nils 3]) [],⟨none,.store 4,[.t 4,.t 12],true,none⟩]
def Qt9:List COp:=[oM 13 3,oo 14 .len [.t 13],oF 15 1 4,⟨none,.store 1,[.t 15,.t 14],false,none⟩]
def Qua:List COp:=[oo 5 .mov [cI 0]]
def Qub:List COp:=[oM 16 5,oM 17 3,oo 18 .len [.t 17],oo 19 (.bin .lss false) [.t 16,.t 18]]
def Quc:List COp:=[oF 22 2 1,oL 23 22,oM 24 3,oM 25 5,oo 26 (.idx 1) [.t 24,.t 25],oL 27 26,oo 28 (.call 90) [.t 23,.t 27]]
def Qud:List COp:=[oF 29 2 4,oo 30 .loadT [.t 29],oM 31 5,oo 32 (.bslice 1 1 [.d (.int .i64 0)] [0]) [.t 31],ot 33 (.append 1 8) [.t 30,.t 32],oF 34 2 4,⟨none,.store 1,[.t 34,.t 33],true,none⟩]
def Que:List COp:=[oo 6 .mov [cI 0]]
def Quf:List COp:=[oM 35 6,oF 36 0 1,oL 37 36,oo 38 .len [.t 37],oo 39 (.bin .lss false) [.t 35,.t 38]]
def Qst:List COp:=[oo 42 (.load true 4) [.t 1],oM 43 3,oM 44 5,oo 45 (.idx 1) [.t 43,.t 44],oL 46 45,oF 47 0 1,oL 48 47,oM 49 6,oo 50 (.idx 1) [.t 48,.t 49],oL 51 50,oo 52 (.call 91) [.t 42,.t 46,.t 51],oM 7 52]
def Qsu:List COp:=[oM 53 7,oo 54 (.bin .geq false) [.t 53,cI 0]]
def Qsv:List COp:=[oF 55 3 4,oo 56 .loadT [.t 55],oM 57 5,oF 58 0 1,oL 59 58,oM 60 6,oo 61 (.idx 1) [.t 59,.t 60],oL 62 61,oM 63 3,oM 64 7,oo 65 (.call 92) [.t 63,.t 64],oo 66 (.build [.d (.int .i64 0),.d (.int .i64 0),.d (.int .i64 0)] [(0,1),(1,1),(2,1)]) [.t 57,.t 62,.t 65],oo 67 (.bslice 3 1 [.d (.int .i64 0),.d (.int .i64 0),.d (.int .i64 0)] [0]) [.t 66],ot 68 (.append 3 24) [.t 56,.t 67],oF 69 3 4,⟨none,.store 1,[.t 69,.t 68],true,none⟩]
def Qsw:List COp:=[oM 40 6,oo 41 (.bin .add false) [.t 40,cI 1],oM 6 41]
def Qsx:List COp:=[oM 20 5,oo 21 (.bin .add false) [.t 20,cI 1],oM 5 21]
def Qsy:List COp:=[oo 70 (.load true 4) [.t 4],⟨none,.store 4,[.t 2,.t 70],true,none⟩]
def Qgu:CFn:=⟨1,71,[.cell 2 true 4],.seq (.region Qt6 9 []) (.seq (.region Qt7 9 []) (.seq (.region Qt8 9 []) (.seq (.region Qt9 9 []) (.seq (.seq (.region Qua 9 []) (.block 0 (.loop [32,67] (.seq (.seq (.region Qub 9 []) (.cond (.t 19) (.skip) (.exit 0))) (.seq (.block 1 (.seq (.seq (.region Quc 0 []) (.cond (.t 28) (.region Qud 9 []) (.skip))) (.seq (.region Que 9 []) (.block 2 (.loop [67] (.seq (.seq (.region Quf 9 []) (.cond (.t 39) (.skip) (.exit 2))) (.seq (.block 3 (.seq (.region Qst 0 []) (.seq (.region Qsu 9 []) (.cond (.t 54) (.region Qsv 2 []) (.skip))))) (.region Qsw 9 [])))))))) (.region Qsx 9 [])))))) (.seq (.region Qsy 9 []) (.ret))))))⟩
def Qbw (Q9:(List Int)→Option Qe) (Qck:Qe→Option ((List Int))) (Qbp:(List Int)→Int→Option Bool) (Qbk:Qe→Int→Int→Option Int) (Qcl:(List Int)→Int→Option Int) (fuel:Nat) (a1:Qe):Option Qe :=
  ((Qck a1).bind fun x3=>((Q9 a1.zK).bind fun x5=>((Qcm (fun k12 ((i6,c7,c8,c9,ov10,ov11):Int×(List Int)×(List Int)×(List Qc)×(List Int)×(List Qc))=>(if (i6<(x3.length:Int)) then ((((((getO x3 i6).bind fun x14=>((Qbp a1.zL x14).bind fun x17=>(if x17 then ((appO ov10 [i6]).bind fun x19=>some x19) else some ov10)))).bind fun (ov21:List Int)=>Qcm (fun k24 ((k22,ov23):Int×(List Qc))=>(if (k22<(a1.zK.length:Int)) then ((((getO x3 i6).bind fun x26=>((getO a1.zK k22).bind fun x28=>((Qbk a1 x26 x28).bind fun x31=>(if (x31≥0) then ((getO a1.zK k22).bind fun x33=>((Qcl x3 x31).bind fun x36=>((appO ov23 [(Qc.mk i6 x33 x36)]).bind fun x37=>some x37))) else some ov23))))).bind fun (ov39:List Qc)=>k24 ((IntKind.wrap .i64 (k22+1)),ov39)) else some (ov21,ov23))) fuel (0,ov11))).bind fun ((ov40,ov41):(List Int)×(List Qc))=>k12 ((IntKind.wrap .i64 (i6+1)),c7,c8,c9,ov40,ov41)) else some (c7,c8,c9,ov10,ov11))) fuel (0,[],[],[],[],[])).bind fun ((c42,c43,c44,ov45,ov46):(List Int)×(List Int)×(List Qc)×(List Int)×(List Qc))=>some (Qe.mk x5.zK (x3.length:Int) ov45 ov46))))
def Qi6 (P:Program) (c:Nat) (f:(List Int)→Qb8→Option Qe):Prop:=∀ av1 g2 r,f av1 g2=some r→∀ M nb,ACalls P c [(l_ av1),(Qet g2)] M nb (Qh r) M nb
def Q1k:List COp:=[oo 3 (.box 27) [.t 1],oo 4 (.alloc [.nils 1,.d (.int .i64 0),.nils 1,.nils 3]) []]
def Q1l:List COp:=[oF 9 0 3,oL 10 9,oo 11 (.bin .geq false) [.t 10,.c (.d (.int .u8 250))]]
def Q1m:List COp:=[oM 12 0,oo 13 (.call 69) [.t 12],⟨none,.store 4,[.t 4,.t 13],true,none⟩]
def Q1n:List COp:=[oM 14 0,oo 15 (.call 69) [.t 14],oo 5 (.alloc [.nils 1,.d (.int .i64 0),.nils 1,.nils 3]) [],⟨none,.store 4,[.t 5,.t 15],true,none⟩]
def Q1o:List COp:=[oF 16 0 3,oL 17 16,oo 18 (.bin .rem false) [.t 17,.c (.d (.int .u8 5))],oo 19 (.conv .i64) [.t 18],oo 20 (.bin .add false) [cI 1,.t 19],oF 21 1 5,⟨none,.store 1,[.t 21,.t 20],false,none⟩]
def Q1p:List COp:=[oo 6 .mov [cI 0]]
def Q1q:List COp:=[oM 22 6,oF 23 1 5,oL 24 23,oo 25 (.bin .lss false) [.t 22,.t 24]]
def Q1r:List COp:=[oF 28 1 3,oL 29 28,oM 30 6,oo 31 (.bin .shr false) [.t 29,.t 30],oo 32 (.bin .and false) [.t 31,.c (.d (.int .u8 1))],oo 33 (.bin .eql false) [.t 32,.c (.d (.int .u8 1))]]
def Q1s:List COp:=[oF 34 2 5,oo 35 .loadT [.t 34],oM 36 6,oo 37 (.bslice 1 1 [.d (.int .i64 0)] [0]) [.t 36],ot 38 (.append 1 8) [.t 35,.t 37],oF 39 2 5,⟨none,.store 1,[.t 39,.t 38],true,none⟩]
def Q1t:List COp:=[oo 7 .mov [cI 0]]
def Q0d:List COp:=[oM 40 7,oM 41 0,oo 42 .len [.t 41],oo 43 (.bin .lss false) [.t 40,.t 42],oM 44 43,⟨some 45,.mov,[.t 7],false,some (44,true)⟩,⟨some 46,.bin .lss false,[.t 45,cI 5],false,some (44,true)⟩,oo 47 .pick [.t 44,.t 46,.c (.d (.bool false))]]
def Q0e:List COp:=[oM 50 6,oM 51 7,oF 52 2 3,oo 53 (.idxarr 5 5) [.t 52,.t 50],oo 54 (.idxarr 1 5) [.t 53,.t 51],oL 55 54,oo 56 (.conv .i64) [.t 55],oF 57 1 5,oL 58 57,oo 59 (.bin .add false) [.t 58,cI 2],oo 60 (.bin .rem false) [.t 56,.t 59],oM 8 60]
def Q0f:List COp:=[oM 61 8,oF 62 1 5,oL 63 62,oo 64 (.bin .lss false) [.t 61,.t 63]]
def Q0g:List COp:=[oF 65 3 5,oo 66 .loadT [.t 65],oM 67 6,oM 68 0,oM 69 7,oo 70 (.idx 1) [.t 68,.t 69],oL 71 70,oM 72 8,oo 73 (.build [.d (.int .i64 0),.d (.int .i64 0),.d (.int .i64 0)] [(0,1),(1,1),(2,1)]) [.t 67,.t 71,.t 72],oo 74 (.bslice 3 1 [.d (.int .i64 0),.d (.int .i64 0),.d (.int .i64 0)] [0]) [.t 73],ot 75 (.append 3 24) [.t 66,.t 74],oF 76 3 5,⟨none,.store 1,[.t 76,.t 75],true,none⟩]
def Q0h:List COp:=[oM 48 7,oo 49 (.bin .add false) [.t 48,cI 1],oM 7 49]
def Q0i:List COp:=[oM 26 6,oo 27 (.bin .add false) [.t 26,cI 1],oM 6 27]
def Q0j:List COp:=[oo 77 (.load true 4) [.t 5],oo 78 (.call 70) [.t 77],⟨none,.store 4,[.t 4,.t 78],true,none⟩]
def Qi7:CFn:=⟨2,79,[.cell 4 true 4],.seq (.region Q1k 9 []) (.seq (.seq (.region Q1l 9 []) (.cond (.t 11) (.seq (.region Q1m 9 []) (.ret)) (.skip))) (.seq (.region Q1n 9 []) (.seq (.region Q1o 9 []) (.seq (.seq (.region Q1p 9 []) (.block 0 (.loop [37,74] (.seq (.seq (.region Q1q 9 []) (.cond (.t 25) (.skip) (.exit 0))) (.seq (.block 1 (.seq (.seq (.region Q1r 9 []) (.cond (.t 33) (.region Q1s 9 []) (.skip))) (.seq (.region Q1t 9 []) (.block 2 (.loop [74] (.seq (.seq (.region Q0d 9 []) (.cond (.t 47) (.skip) (.exit 2))) (.seq (.block 3 (.seq (.region Q0e 0 []) (.seq (.region Q0f 9 []) (.cond (.t 64) (.region Q0g 0 []) (.skip))))) (.region Q0h 9 [])))))))) (.region Q0i 9 [])))))) (.seq (.region Q0j 9 []) (.ret))))))⟩
def Qcq (Q9:(List Int)→Option Qe) (Qbw:Qe→Option Qe) (fuel:Nat) (av1:(List Int)) (g2:Qb8):Option Qe :=
  (if (g2.zN≥250) then ((Q9 av1).bind fun x5=>some (Qe.mk x5.zK x5.zN [] [])) else ((Q9 av1).bind fun x7=>((Qcm (fun k15 ((i8,c9,c10,c11,a12,a13,a14):Int×(List Int)×(List Int)×(List Qc)×Int×(List Int)×(List Qc))=>(if (i8<a12) then ((((((shrO .u8 g2.Marks i8).bind fun s17=>(if ((andI .u8 s17 1)==1) then ((appO a13 [i8]).bind fun x20=>some x20) else some a13))).bind fun (a22:List Int)=>Qcm (fun k25 ((k23,a24):Int×(List Qc))=>(((if (k23<(av1.length:Int)) then some (decide (k23<5)) else some false)).bind fun (x27:Bool)=>(if x27 then ((((inO 5 i8).bind fun _=>((inO 5 k23).bind fun _=>((rowO [g2.To.1.1,g2.To.1.2.1,g2.To.1.2.2.1,g2.To.1.2.2.2.1,g2.To.1.2.2.2.2,g2.To.2.1.1,g2.To.2.1.2.1,g2.To.2.1.2.2.1,g2.To.2.1.2.2.2.1,g2.To.2.1.2.2.2.2,g2.To.2.2.1.1,g2.To.2.2.1.2.1,g2.To.2.2.1.2.2.1,g2.To.2.2.1.2.2.2.1,g2.To.2.2.1.2.2.2.2,g2.To.2.2.2.1.1,g2.To.2.2.2.1.2.1,g2.To.2.2.2.1.2.2.1,g2.To.2.2.2.1.2.2.2.1,g2.To.2.2.2.1.2.2.2.2,g2.To.2.2.2.2.1,g2.To.2.2.2.2.2.1,g2.To.2.2.2.2.2.2.1,g2.To.2.2.2.2.2.2.2.1,g2.To.2.2.2.2.2.2.2.2] (Int.toNat i8*5+Int.toNat k23*1)).bind fun x31=>((remO .i64 (IntKind.wrap .i64 x31) (IntKind.wrap .i64 (a12+2))).bind fun s33=>(if (s33<a12) then ((getO av1 k23).bind fun x36=>((appO a24 [(Qc.mk i8 x36 s33)]).bind fun x38=>some x38)) else some a24)))))).bind fun (a40:List Qc)=>k25 ((IntKind.wrap .i64 (k23+1)),a40)) else some (a22,a24)))) fuel (0,a14))).bind fun ((a41,a42):(List Int)×(List Qc))=>k15 ((IntKind.wrap .i64 (i8+1)),c9,c10,c11,a12,a41,a42)) else some (c9,c10,c11,a12,a13,a14))) fuel (0,[],[],[],(IntKind.wrap .i64 (1+(IntKind.wrap .i64 (Int.tmod g2.zN 5)))),[],[])).bind fun ((c43,c44,c45,a46,a47,a48):(List Int)×(List Int)×(List Qc)×Int×(List Int)×(List Qc))=>((Qbw (Qe.mk x7.zK a46 a47 a48)).bind fun x50=>some x50))))
def Qi8 (P:Program) (c:Nat) (f:Qbj→Option Qa):Prop:=∀ k1 r,f k1=some r→∀ M nb,ACalls P c [(Qco k1)] M nb (Qq r) M nb
def Q1u:List COp:=[oo 1 (.box 31) [.t 0],oo 2 (.alloc [.nils 1,.d (.int .i64 0),.nils 1,.nils 3,.nils 1,.nils 1,.nils 1,.d (.int .i64 0)]) []]
def Q1v:List COp:=[oF 5 0 1,oF 6 0 5,oL 7 6,oo 8 (.call 33) [.t 7],oF 9 0 1,oF 10 1 9,oo 11 (.load true 27) [.t 10],oo 12 (.call 36) [.t 8,.t 11],oF 13 29 1,oL 14 13,oo 15 (.bin .and false) [.t 14,.c (.d (.int .u8 15))],oo 16 (.call 33) [.t 15],oF 17 30 1,oL 18 17,oo 19 (.bin .and false) [.t 18,.c (.d (.int .u8 15))],oo 20 (.call 33) [.t 19],ot 21 (.build [.nils 1,.d (.int .i64 0),.nils 1,.nils 3,.nils 1,.nils 1,.nils 1,.d (.int .i64 0)] [(0,4),(5,1),(6,1),(7,1)]) [.t 12,.t 16,.t 20,cI 4],oo 3 (.alloc [.nils 1,.d (.int .i64 0),.nils 1,.nils 3,.nils 1,.nils 1,.nils 1,.d (.int .i64 0)]) [],⟨none,.store 8,[.t 3,.t 21],true,none⟩]
def Q1w:List COp:=[oo 4 .mov [cI 0]]
def Q1x:List COp:=[oM 22 4,oF 23 0 3,oF 24 1 23,oL 25 24,oo 26 (.bin .lss false) [.t 22,.t 25]]
def Q1y:List COp:=[oF 29 28 1,oL 30 29,oM 31 4,oo 32 (.bin .shr false) [.t 30,.t 31],oo 33 (.bin .and false) [.t 32,.c (.d (.int .u8 1))],oo 34 (.bin .eql false) [.t 33,.c (.d (.int .u8 1))]]
def Q1z:List COp:=[oF 35 4 3,oo 36 .loadT [.t 35],oM 37 4,oo 38 (.bslice 1 1 [.d (.int .i64 0)] [0]) [.t 37],ot 39 (.append 1 8) [.t 36,.t 38],oF 40 4 3,⟨none,.store 1,[.t 40,.t 39],true,none⟩]
def Q10:List COp:=[oM 27 4,oo 28 (.bin .add false) [.t 27,cI 1],oM 4 28]
def Q11:List COp:=[oo 41 (.load true 8) [.t 3],⟨none,.store 8,[.t 2,.t 41],true,none⟩]
def Qi9:CFn:=⟨1,42,[.cell 2 true 8],.seq (.region Q1u 9 []) (.seq (.region Q1v 1048586 []) (.seq (.seq (.region Q1w 9 []) (.block 0 (.loop [38] (.seq (.seq (.region Q1x 9 []) (.cond (.t 26) (.skip) (.exit 0))) (.seq (.block 1 (.seq (.region Q1y 9 []) (.cond (.t 34) (.region Q1z 9 []) (.skip)))) (.region Q10 9 [])))))) (.seq (.region Q11 9 []) (.ret))))⟩
def Qcr (Q0:Int→Option ((List Int))) (Qcq:(List Int)→Qb8→Option Qe) (fuel:Nat) (k1:Qbj):Option Qa :=
  ((Q0 k1.Part.Events).bind fun x3=>((Qcq x3 k1.Part.Graph).bind fun x5=>((Q0 (andI .u8 k1.zB 15)).bind fun x7=>((Q0 (andI .u8 k1.zD 15)).bind fun x9=>((Qcm (fun k18 ((i10,c11,c12,c13,c14,c15,c16,p17):Int×(List Int)×(List Int)×(List Qc)×(List Int)×(List Int)×(List Int)×(List Int))=>(if (i10<x5.zN) then ((((shrO .u8 k1.zC i10).bind fun s20=>(if ((andI .u8 s20 1)==1) then ((appO p17 [i10]).bind fun x23=>some x23) else some p17))).bind fun (p25:List Int)=>k18 ((IntKind.wrap .i64 (i10+1)),c11,c12,c13,c14,c15,c16,p25)) else some (c11,c12,c13,c14,c15,c16,p17))) fuel (0,[],[],[],[],[],[],[])).bind fun ((c26,c27,c28,c29,c30,c31,p32):(List Int)×(List Int)×(List Qc)×(List Int)×(List Int)×(List Int)×(List Int))=>some (Qa.mk x5 p32 x7 x9 4))))))
def Qj2 (P:Program) (c:Nat) (f:(List Int)→(List Int)→(Bool→Bool→Option Bool)→Option ((List Int))):Prop:=∀ a1 b2 kv3 (g4:Nat) (cp5:List V) r,f a1 b2 kv3=some r→∀ M nb,(V.dems cp5=cp5)→(V.ons (There M) cp5)→(∀ a9 a10 r,kv3 a9 a10=some r→∀ M2 nb2,nb≤nb2→Ext M M2→ACalls P g4 ([(b_ a9),(b_ a10)]++cp5) M2 nb2 (b_ r) M2 nb2)→ACalls P c [(l_ a1),(l_ b2),.clo g4 cp5] M nb (o_ r) M nb
def Q85:List COp:=[ot 6 .mov [.c (.nils 1)]]
def Q86:List COp:=[ot 7 .mov [.c (.nils 1)]]
def Q87:List COp:=[oM 11 0,oo 12 .len [.t 11],oo 13 (.bin .gtr false) [.t 12,cI 0],oM 14 13,⟨some 15,.mov,[.t 1],false,some (14,false)⟩,⟨some 16,.len,[.t 15],false,some (14,false)⟩,⟨some 17,.bin .gtr false,[.t 16,cI 0],false,some (14,false)⟩,oo 18 .pick [.t 14,.c (.d (.bool true)),.t 17]]
def Q88:List COp:=[oM 19 0,oo 20 .len [.t 19],oo 21 (.bin .gtr false) [.t 20,cI 0],oM 22 21,⟨some 23,.mov,[.t 1],false,some (22,true)⟩,⟨some 24,.len,[.t 23],false,some (22,true)⟩,⟨some 25,.bin .eql false,[.t 24,cI 0],false,some (22,true)⟩,⟨some 26,.mov,[.t 25],false,some (22,true)⟩,⟨some 27,.mov,[.t 0],false,some (26,false)⟩,⟨some 28,.idx 1,[.t 27,cI 0],false,some (26,false)⟩,⟨some 29,.load false 1,[.t 28],false,some (26,false)⟩,⟨some 30,.mov,[.t 1],false,some (26,false)⟩,⟨some 31,.idx 1,[.t 30,cI 0],false,some (26,false)⟩,⟨some 32,.load false 1,[.t 31],false,some (26,false)⟩,⟨some 33,.bin .leq false,[.t 29,.t 32],false,some (26,false)⟩,⟨some 34,.pick,[.t 26,.c (.d (.bool true)),.t 33],false,some (22,true)⟩,oo 35 .pick [.t 22,.t 34,.c (.d (.bool false))],oM 8 35]
def Q89:List COp:=[oM 36 1,oo 37 .len [.t 36],oo 38 (.bin .gtr false) [.t 37,cI 0],oM 39 38,⟨some 40,.mov,[.t 0],false,some (39,true)⟩,⟨some 41,.len,[.t 40],false,some (39,true)⟩,⟨some 42,.bin .eql false,[.t 41,cI 0],false,some (39,true)⟩,⟨some 43,.mov,[.t 42],false,some (39,true)⟩,⟨some 44,.mov,[.t 1],false,some (43,false)⟩,⟨some 45,.idx 1,[.t 44,cI 0],false,some (43,false)⟩,⟨some 46,.load false 1,[.t 45],false,some (43,false)⟩,⟨some 47,.mov,[.t 0],false,some (43,false)⟩,⟨some 48,.idx 1,[.t 47,cI 0],false,some (43,false)⟩,⟨some 49,.load false 1,[.t 48],false,some (43,false)⟩,⟨some 50,.bin .leq false,[.t 46,.t 49],false,some (43,false)⟩,⟨some 51,.pick,[.t 43,.c (.d (.bool true)),.t 50],false,some (39,true)⟩,oo 52 .pick [.t 39,.t 51,.c (.d (.bool false))],oM 9 52]
def Q9a:List COp:=[oo 10 .mov [cI 0]]
def Q9b:List COp:=[oM 53 8]
def Q9c:List COp:=[oM 54 0,oo 55 (.idx 1) [.t 54,cI 0],oL 56 55,ot 57 .mov [.t 0],ot 58 (.slcT 1) [.t 57,cI 1],oM 10 56,ot 0 .mov [.t 58]]
def Q9d:List COp:=[oM 59 9]
def Q9e:List COp:=[oM 60 1,oo 61 (.idx 1) [.t 60,cI 0],oL 62 61,ot 63 .mov [.t 1],ot 64 (.slcT 1) [.t 63,cI 1],oM 10 62,ot 1 .mov [.t 64]]
def Q7h:List COp:=[oM 65 2,oM 66 8,oM 67 9,oo 68 .callv [.t 65,.t 66,.t 67]]
def Q7i:List COp:=[ot 69 .mov [.t 7],oM 70 10,oo 71 (.bslice 1 1 [.d (.int .i64 0)] [0]) [.t 70],ot 72 (.append 1 8) [.t 69,.t 71],ot 7 .mov [.t 72]]
def Q7j:List COp:=[ot 73 .mov [.t 7],ot 6 .mov [.t 73]]
def Qrn:CFn:=⟨3,74,[.t 6],.seq (.region Q85 9 []) (.seq (.region Q86 9 []) (.seq (.block 0 (.loop [71] (.seq (.seq (.region Q87 9 []) (.cond (.t 18) (.skip) (.exit 0))) (.block 1 (.seq (.region Q88 0 []) (.seq (.region Q89 0 []) (.seq (.region Q9a 9 []) (.seq (.seq (.region Q9b 9 []) (.cond (.t 53) (.region Q9c 0 []) (.skip))) (.seq (.seq (.region Q9d 9 []) (.cond (.t 59) (.region Q9e 0 []) (.skip))) (.seq (.region Q7h 9 []) (.cond (.t 68) (.region Q7i 9 []) (.skip)))))))))))) (.seq (.region Q7j 9 []) (.ret))))⟩
def Qb3 (fuel:Nat) (a1:(List Int)) (b2:(List Int)) (kv3:(Bool→Bool→Option Bool)):Option ((List Int)) :=
  ((Qcm (fun k14 ((a11,b12,ov13):(List Int)×(List Int)×(List Int))=>(((if ((a11.length:Int)>0) then some true else some (decide ((b12.length:Int)>0)))).bind fun (x16:Bool)=>(if x16 then (((if ((a11.length:Int)>0) then (if ((b12.length:Int)==0) then some true else ((getO a11 0).bind fun x20=>((getO b12 0).bind fun x22=>some (decide (x20≤x22))))) else some false)).bind fun (iv24:Bool)=>(((if ((b12.length:Int)>0) then (if ((a11.length:Int)==0) then some true else ((getO b12 0).bind fun x27=>((getO a11 0).bind fun x29=>some (decide (x27≤x29))))) else some false)).bind fun (iv31:Bool)=>(((if iv24 then ((getO a11 0).bind fun x33=>((slcO a11 1 (a11.length:Int)).bind fun x35=>some (x35,x33))) else some (a11,0))).bind fun ((a37,x38):(List Int)×Int)=>(((if iv31 then ((getO b12 0).bind fun x40=>((slcO b12 1 (b12.length:Int)).bind fun x42=>some (x42,x40))) else some (b12,x38))).bind fun ((b44,x45):(List Int)×Int)=>((kv3 iv24 iv31).bind fun x47=>(if x47 then ((appO ov13 [x45]).bind fun x49=>k14 (a37,b44,x49)) else k14 (a37,b44,ov13))))))) else some ov13))) fuel (a1,b2,[])).bind fun (ov51:List Int)=>some ov51)
def Ql2 (P:Program) (c:Nat) (f:Bool→Bool→Option Bool):Prop:=∀ iv1 iv2 r,f iv1 iv2=some r→∀ M nb,ACalls P c [(b_ iv1),(b_ iv2)] M nb (b_ r) M nb
def Q5u:List COp:=[oo 4 .mov [.c (.d (.bool false))]]
def Q5v:List COp:=[oM 5 0,oM 6 5,⟨some 7,.mov,[.t 1],false,some (6,false)⟩,oo 8 .pick [.t 6,.c (.d (.bool true)),.t 7],oM 4 8]
def Ql3:CFn:=⟨2,9,[.t 4],.seq (.region Q5u 9 []) (.seq (.region Q5v 9 []) (.ret))⟩
def Qdt (iv1:Bool) (iv2:Bool):Option Bool :=
  (if iv1 then some true else some iv2)
def Qro (P:Program) (c:Nat) (f:(List Int)→(List Int)→Option ((List Int))):Prop:=∀ a1 b2 r,f a1 b2=some r→∀ M nb,ACalls P c [(l_ a1),(l_ b2)] M nb (o_ r) M nb
def Q9f:List COp:=[ot 4 .mov [.c (.nils 1)]]
def Q9g:List COp:=[oM 5 0,oM 6 1,oo 7 (.call 66) [.t 5,.t 6,.c (.clo 67 [])],ot 4 .mov [.t 7]]
def Qrp:CFn:=⟨2,8,[.t 4],.seq (.region Q9f 9 []) (.seq (.region Q9g 9 []) (.ret))⟩
def Qdj (Qb3:(List Int)→(List Int)→(Bool→Bool→Option Bool)→Option ((List Int))) (Qdt:Bool→Bool→Option Bool) (a1:(List Int)) (b2:(List Int)):Option ((List Int)) :=
  ((Qb3 a1 b2 Qdt).bind fun x8=>some x8)
def Qof (P:Program) (c:Nat) (f:Qe→(List Int)→(List Int)→Option Int):Prop:=∀ a1 fv2 uv3 r,f a1 fv2 uv3=some r→∀ M nb,ACalls P c [(Qh a1),(l_ fv2),(l_ uv3)] M nb (i_ r) M nb
def Q7k:List COp:=[oo 3 (.box 4) [.t 0],oo 6 .mov [cI 0]]
def Q7l:List COp:=[oo 9 (.load true 4) [.t 3],oo 10 (.call 64) [.t 9],oM 7 10]
def Q7m:List COp:=[oM 11 7,oo 12 (.bin .neq false) [.t 11,cI 0]]
def Q7n:List COp:=[oM 13 7,oM 6 13]
def Q7o:List COp:=[oM 14 1,oF 15 1 3,oL 16 15,oo 17 (.call 31) [.t 14,.t 16],oM 8 17]
def Q7p:List COp:=[oM 18 8,oo 19 (.bin .neq false) [.t 18,cI 0]]
def Q7q:List COp:=[oM 20 8,oM 6 20]
def Q7r:List COp:=[oM 21 2,oo 22 (.call 31) [.t 21,cI 32],oM 6 22]
def Qog:CFn:=⟨3,23,[.t 6],.seq (.region Q7k 9 []) (.seq (.seq (.region Q7l 9 []) (.seq (.region Q7m 9 []) (.cond (.t 12) (.seq (.region Q7n 9 []) (.ret)) (.skip)))) (.seq (.seq (.region Q7o 9 []) (.seq (.region Q7p 9 []) (.cond (.t 19) (.seq (.region Q7q 9 []) (.ret)) (.skip)))) (.seq (.region Q7r 9 []) (.ret))))⟩
def Qdn (Qba:(List Int)→Int→Option Int) (Qb0:Qe→Option Int) (a1:Qe) (fv2:(List Int)) (uv3:(List Int)):Option Int :=
  ((Qb0 a1).bind fun x5=>(if (x5 != 0) then some x5 else ((Qba fv2 a1.zN).bind fun x8=>(if (x8 != 0) then some x8 else ((Qba uv3 32).bind fun x11=>some x11)))))
def Qoh (P:Program) (c:Nat) (f:Qe→(List Int)→(List Int)→Option Q2):Prop:=∀ a1 rv2 uv3 r,f a1 rv2 uv3=some r→∀ M nb,ACalls P c [.agg [(f_ a1.zK),(i_ a1.zN),(f_ a1.zL),.f (.lst 3 (List.map Qi a1.zM))],(f_ rv2),(f_ uv3)] M nb (.ptr (nb+20) 0) (Qo nb [(20,.cells [(f_ r.zA.zK),(i_ r.zA.zN),(f_ r.zA.zL),.f (.lst 3 (List.map Qi r.zA.zM)),(f_ r.uncontrollable_),.mp (nb+15),.sl 1 (nb+18) 0 r.left_.length r.left_.length]),(15,.mp (mapE (fun (x:Int)=>((i_ x):V)) (ownE 1 (eI .i64)) 0 r.back_) (r.back_).length),(18,.cells (Q3 (fun (x:Bool)=>[V.d (.bool x)]) r.left_))] M) (nb+75)
def Q7s:List COp:=[oo 3 (.box 4) [.t 0],oo 6 .mov [.c (.nilp)]]
def Q7t:List COp:=[oo 13 (.load true 4) [.t 3],oM 14 2,oo 15 .mkmap [],oF 16 1 3,oL 17 16,oo 18 (.makes 1 1 [.d (.bool false)]) [.t 17,.t 17],ot 19 (.build [.nils 1,.d (.int .i64 0),.nils 1,.nils 3,.nils 1,.und,.nils 1] [(0,4),(4,1),(5,1),(6,1)]) [.t 13,.t 14,.t 15,.t 18],oo 20 (.box 7) [.t 19],oM 7 20]
def Q7u:List COp:=[oM 21 7,oo 22 .nilchk [.t 21],oF 23 6 22,oL 24 23,oo 25 .len [.t 24],oo 26 .mov [cI 0]]
def Q7v:List COp:=[oo 27 (.bin .lss false) [.t 26,.t 25]]
def Q7w:List COp:=[oM 28 26,oM 8 28]
def Q7x:List COp:=[oM 29 7,oo 30 .nilchk [.t 29],oF 31 6 30,oL 32 31,oM 33 8,oo 34 (.idx 1) [.t 32,.t 33],⟨none,.store 1,[.t 34,.c (.d (.bool true))],false,none⟩]
def Q7y:List COp:=[oo 35 (.bin .add false) [.t 26,cI 1],oM 26 35]
def Q7z:List COp:=[oM 36 1,oo 37 .len [.t 36],oo 38 .mov [cI 0]]
def Q70:List COp:=[oo 39 (.bin .lss false) [.t 38,.t 37]]
def Q71:List COp:=[oo 40 (.idx 1) [.t 36,.t 38],oL 41 40,oM 10 41]
def Q5w:List COp:=[oM 42 7,oo 43 .nilchk [.t 42],oF 44 6 43,oL 45 44,oM 46 10,oo 47 (.idx 1) [.t 45,.t 46],⟨none,.store 1,[.t 47,.c (.d (.bool false))],false,none⟩]
def Q5x:List COp:=[oo 48 (.bin .add false) [.t 38,cI 1],oM 38 48]
def Q5y:List COp:=[oF 49 3 3,oL 50 49,oo 51 .len [.t 50],oo 52 .mov [cI 0]]
def Q5z:List COp:=[oo 53 (.bin .lss false) [.t 52,.t 51]]
def Q50:List COp:=[oo 54 (.idx 3) [.t 50,.t 52],oo 55 (.load true 3) [.t 54],oo 12 (.alloc [.d (.int .i64 0),.d (.int .i64 0),.d (.int .i64 0)]) [],⟨none,.store 3,[.t 12,.t 55],false,none⟩]
def Q51:List COp:=[oM 56 7,oo 57 .nilchk [.t 56],oF 58 5 57,oL 59 58,oF 60 2 12,oL 61 60,oM 62 7,oo 63 .nilchk [.t 62],oF 64 5 63,oL 65 64,oF 66 2 12,oL 67 66,oo 68 (.lookupT (.int .i64) (.nils 1)) [.t 65,.t 67],oF 69 0 12,oL 70 69,oo 71 (.bslice 1 1 [.d (.int .i64 0)] [0]) [.t 70],ot 72 (.append 1 8) [.t 68,.t 71],⟨none,.mapsetT (.int .i64),[.t 59,.t 61,.t 72],true,none⟩]
def Q52:List COp:=[oo 73 (.bin .add false) [.t 52,cI 1],oM 52 73]
def Q53:List COp:=[oM 74 7,oM 6 74]
def Qoi:CFn:=⟨3,75,[.t 6],.seq (.region Q7s 9 []) (.seq (.region Q7t 0 []) (.seq (.seq (.region Q7u 9 []) (.block 0 (.loop [] (.seq (.region Q7v 9 []) (.seq (.cond (.t 27) (.skip) (.exit 0)) (.seq (.block 1 (.seq (.region Q7w 9 []) (.region Q7x 9 []))) (.region Q7y 9 []))))))) (.seq (.seq (.region Q7z 9 []) (.block 2 (.loop [] (.seq (.region Q70 9 []) (.seq (.cond (.t 39) (.skip) (.exit 2)) (.seq (.block 3 (.seq (.region Q71 9 []) (.region Q5w 9 []))) (.region Q5x 9 []))))))) (.seq (.seq (.region Q5y 9 []) (.block 4 (.loop [12,71] (.seq (.region Q5z 9 []) (.seq (.cond (.t 53) (.skip) (.exit 4)) (.seq (.block 5 (.seq (.region Q50 9 []) (.region Q51 0 []))) (.region Q52 9 []))))))) (.seq (.region Q53 9 []) (.ret))))))⟩
def Qdo (fuel:Nat) (a1:Qe) (rv2:(List Int)) (uv3:(List Int)):Option Q2 :=
  ((mkO a1.zN false).bind fun x4=>((Qcm (fun k8 ((x6,c7):Int×(List Bool))=>(if (x6<((Int.toNat a1.zN):Int)) then ((inO (Int.toNat a1.zN) x6).bind fun u10=>((setO c7 x6 true).bind fun x12=>k8 ((IntKind.wrap .i64 (x6+1)),x12))) else some c7)) fuel (0,x4)).bind fun (c14:List Bool)=>((Qcm (fun k17 ((x15,c16):Int×(List Bool))=>(if (x15<(rv2.length:Int)) then ((getO rv2 x15).bind fun x19=>((inO (Int.toNat a1.zN) x19).bind fun u21=>((setO c16 x19 false).bind fun x23=>k17 ((IntKind.wrap .i64 (x15+1)),x23)))) else some c16)) fuel (0,c14)).bind fun (c25:List Bool)=>((Qcm (fun k28 ((x26,c27):Int×(List (Int×(List Int))))=>(if (x26<(a1.zM.length:Int)) then ((getO a1.zM x26).bind fun x30=>((appO (getM c27 x30.To []) [x30.From]).bind fun l32=>k28 ((IntKind.wrap .i64 (x26+1)),(setM c27 x30.To l32)))) else some c27)) fuel (0,[])).bind fun (c34:List (Int×(List Int)))=>(lenO c25 (Int.toNat a1.zN)).bind fun _=>some (Q2.mk a1 uv3 c34 c25)))))
def Qg7 (P:Program) (c:Nat) (f:Q2→Int→Option ((List Qb))):Prop:=∀ p1 rv8 (k2:Nat) (k4:Nat) (k6:Nat) r,f p1 rv8=some r→∀ M nb,(M k2=some (.cells [(f_ p1.zA.zK),(i_ p1.zA.zN),(f_ p1.zA.zL),.f (.lst 3 (List.map Qi p1.zA.zM)),(f_ p1.uncontrollable_),.mp k4,.sl 1 k6 0 p1.left_.length p1.left_.length]))→(M k4=some (.mp (mapE (fun (x:Int)=>((i_ x):V)) (ownE 1 (eI .i64)) 0 p1.back_) (p1.back_).length))→(M k6=some (.cells (Q3 (fun (x:Bool)=>[V.d (.bool x)]) p1.left_)))→ACalls P c [.ptr k2 0,(i_ rv8)] M nb (Qm r) M nb
def Quu:List COp:=[ot 4 .mov [.c (.nils 4)]]
def Quv:List COp:=[ot 5 .mov [.c (.nils 4)]]
def Quw:List COp:=[oM 9 0,oo 10 .nilchk [.t 9],oF 11 0 10,oF 12 3 11,oL 13 12,oo 14 .len [.t 13],oo 15 .mov [cI 0]]
def Qux:List COp:=[oo 16 (.bin .lss false) [.t 15,.t 14]]
def Quy:List COp:=[oo 17 (.idx 3) [.t 13,.t 15],oo 18 (.load true 3) [.t 17],oo 7 (.alloc [.d (.int .i64 0),.d (.int .i64 0),.d (.int .i64 0)]) [],⟨none,.store 3,[.t 7,.t 18],false,none⟩]
def Quz:List COp:=[oM 19 0,oo 20 .nilchk [.t 19],oF 21 6 20,oL 22 21,oF 23 0 7,oL 24 23,oo 25 (.idx 1) [.t 22,.t 24],oL 26 25,oo 27 (.un .not) [.t 26],oM 28 27,⟨some 29,.mov,[.t 0],false,some (28,false)⟩,⟨some 30,.nilchk,[.t 29],false,some (28,false)⟩,⟨some 31,.fld 6,[.t 30],false,some (28,false)⟩,⟨some 32,.load false 1,[.t 31],false,some (28,false)⟩,⟨some 33,.fld 2,[.t 7],false,some (28,false)⟩,⟨some 34,.load false 1,[.t 33],false,some (28,false)⟩,⟨some 35,.idx 1,[.t 32,.t 34],false,some (28,false)⟩,⟨some 36,.load false 1,[.t 35],false,some (28,false)⟩,oo 37 .pick [.t 28,.c (.d (.bool true)),.t 36],oM 38 37,⟨some 39,.mov,[.t 0],false,some (38,false)⟩,⟨some 40,.nilchk,[.t 39],false,some (38,false)⟩,⟨some 41,.fld 4,[.t 40],false,some (38,false)⟩,⟨some 42,.load false 1,[.t 41],false,some (38,false)⟩,⟨some 43,.fld 1,[.t 7],false,some (38,false)⟩,⟨some 44,.load false 1,[.t 43],false,some (38,false)⟩,⟨some 45,.call 98,[.t 42,.t 44],false,some (38,false)⟩,⟨some 46,.un .not,[.t 45],false,some (38,false)⟩,oo 47 .pick [.t 38,.c (.d (.bool true)),.t 46]]
def Qu0:List COp:=[oM 48 5,oo 49 .len [.t 48],oM 8 49]
def Qu1:List COp:=[oM 50 8,oo 51 (.bin .gtr false) [.t 50,cI 0],oM 52 51,⟨some 53,.mov,[.t 5],false,some (52,true)⟩,⟨some 54,.mov,[.t 8],false,some (52,true)⟩,⟨some 55,.bin .sub false,[.t 54,cI 1],false,some (52,true)⟩,⟨some 56,.idx 4,[.t 53,.t 55],false,some (52,true)⟩,⟨some 57,.fld 0,[.t 56],false,some (52,true)⟩,⟨some 58,.load false 1,[.t 57],false,some (52,true)⟩,⟨some 59,.fld 0,[.t 7],false,some (52,true)⟩,⟨some 60,.load false 1,[.t 59],false,some (52,true)⟩,⟨some 61,.bin .eql false,[.t 58,.t 60],false,some (52,true)⟩,oo 62 .pick [.t 52,.t 61,.c (.d (.bool false))]]
def Qu2:List COp:=[ot 63 .mov [.t 5],oF 64 0 7,oL 65 64,oM 66 1,oF 67 1 7,oL 68 67,oo 69 (.build [.d (.int .i64 0),.d (.int .i64 0),.d (.int .i64 0),.d (.int .i64 0)] [(0,1),(1,1),(2,1),(3,1)]) [.t 65,.t 66,cI 2,.t 68],oo 70 (.bslice 4 1 [.d (.int .i64 0),.d (.int .i64 0),.d (.int .i64 0),.d (.int .i64 0)] [0]) [.t 69],ot 71 (.append 4 32) [.t 63,.t 70],ot 5 .mov [.t 71]]
def Qu3:List COp:=[oo 72 (.bin .add false) [.t 15,cI 1],oM 15 72]
def Qug:List COp:=[ot 73 .mov [.t 5],ot 4 .mov [.t 73]]
def Qg8:CFn:=⟨2,74,[.t 4],.seq (.region Quu 9 []) (.seq (.region Quv 9 []) (.seq (.seq (.region Quw 9 []) (.block 0 (.loop [7,70] (.seq (.region Qux 9 []) (.seq (.cond (.t 16) (.skip) (.exit 0)) (.seq (.block 1 (.seq (.region Quy 9 []) (.seq (.seq (.region Quz 0 []) (.cond (.t 47) (.exit 1) (.skip))) (.seq (.seq (.region Qu0 9 []) (.seq (.region Qu1 0 []) (.cond (.t 62) (.exit 1) (.skip)))) (.region Qu2 9 []))))) (.region Qu3 9 []))))))) (.seq (.region Qug 9 []) (.ret))))⟩
def Qb1 (Q4:(List Int)→Int→Option Bool) (fuel:Nat) (p1:Q2) (rv8:Int):Option ((List Qb)) :=
  ((Qcm (fun k11 ((ov9,x10):(List Qb)×Int)=>(if (x10<(p1.zA.zM.length:Int)) then ((((getO p1.zA.zM x10).bind fun x13=>((((inO p1.left_.length x13.From).bind fun u15=>((getO p1.left_ x13.From).bind fun x17=>(if x17 then ((inO p1.left_.length x13.To).bind fun u20=>((getO p1.left_ x13.To).bind fun x22=>(if x22 then some true else ((Q4 p1.uncontrollable_ x13.Event).bind fun x26=>some (!x26))))) else some true)))).bind fun (x27:Bool)=>(if x27 then some (ov9,x13.From,x13.Event,x13.To) else (((if ((ov9.length:Int)>0) then ((getO ov9 (IntKind.wrap .i64 ((ov9.length:Int)-1))).bind fun x30=>some (x30.State==x13.From)) else some false)).bind fun (x32:Bool)=>(if x32 then some (ov9,x13.From,x13.Event,x13.To) else ((appO ov9 [(Qb.mk x13.From rv8 2 x13.Event)]).bind fun x34=>some (x34,x13.From,x13.Event,x13.To)))))))).bind fun ((ov36,c37,c38,c39):(List Qb)×Int×Int×Int)=>k11 (ov36,(IntKind.wrap .i64 (x10+1)))) else some ov9)) fuel ([],0)).bind fun (ov40:List Qb)=>some ov40)
def Qdz (P:Program) (c:Nat) (f:Q2→Option ((List Int))):Prop:=∀ p1 (k2:Nat) (k4:Nat) (k6:Nat) r,f p1=some r→∀ M nb,(M k2=some (.cells [(f_ p1.zA.zK),(i_ p1.zA.zN),(f_ p1.zA.zL),.f (.lst 3 (List.map Qi p1.zA.zM)),(f_ p1.uncontrollable_),.mp k4,.sl 1 k6 0 p1.left_.length p1.left_.length]))→(M k4=some (.mp (mapE (fun (x:Int)=>((i_ x):V)) (ownE 1 (eI .i64)) 0 p1.back_) (p1.back_).length))→(M k6=some (.cells (Q3 (fun (x:Bool)=>[V.d (.bool x)]) p1.left_)))→ACalls P c [.ptr k2 0] M nb (l_ r) M nb
def Qoj:List COp:=[ot 2 .mov [.c (.nils 1)]]
def Qok:List COp:=[oM 11 0,oo 12 .nilchk [.t 11],oF 13 0 12,oF 14 1 13,oL 15 14,oo 16 (.makes 1 8 [.d (.int .i64 0)]) [.t 15,.t 15],ot 3 .mov [.t 16]]
def Qol:List COp:=[oM 17 3,oo 18 .len [.t 17],oo 19 .mov [cI 0]]
def Qom:List COp:=[oo 20 (.bin .lss false) [.t 19,.t 18]]
def Qon:List COp:=[oM 21 19,oM 4 21]
def Qoo:List COp:=[oM 22 3,oM 23 4,oo 24 (.idx 1) [.t 22,.t 23],⟨none,.store 1,[.t 24,cI (-1)],false,none⟩]
def Qop:List COp:=[oo 25 (.bin .add false) [.t 19,cI 1],oM 19 25]
def Qoq:List COp:=[ot 5 .mov [.c (.nils 1)]]
def Qor:List COp:=[oM 26 0,oo 27 .nilchk [.t 26],oF 28 0 27,oF 29 2 28,oL 30 29,oo 31 .len [.t 30],oo 32 .mov [cI 0]]
def Qos:List COp:=[oo 33 (.bin .lss false) [.t 32,.t 31]]
def Qm9:List COp:=[oo 34 (.idx 1) [.t 30,.t 32],oL 35 34,oM 7 35]
def Qna:List COp:=[oM 36 0,oo 37 .nilchk [.t 36],oF 38 6 37,oL 39 38,oM 40 7,oo 41 (.idx 1) [.t 39,.t 40],oL 42 41]
def Qnb:List COp:=[oM 43 3,oM 44 7,oo 45 (.idx 1) [.t 43,.t 44],⟨none,.store 1,[.t 45,cI 0],false,none⟩]
def Qnc:List COp:=[ot 46 .mov [.t 5],oM 47 7,oo 48 (.bslice 1 1 [.d (.int .i64 0)] [0]) [.t 47],ot 49 (.append 1 8) [.t 46,.t 48],ot 5 .mov [.t 49]]
def Qnd:List COp:=[oo 50 (.bin .add false) [.t 32,cI 1],oM 32 50]
def Qne:List COp:=[oo 8 .mov [cI 0]]
def Qnf:List COp:=[oM 51 8,oM 52 5,oo 53 .len [.t 52],oo 54 (.bin .lss false) [.t 51,.t 53]]
def Qng:List COp:=[oM 57 0,oo 58 .nilchk [.t 57],oF 59 5 58,oL 60 59,oM 61 5,oM 62 8,oo 63 (.idx 1) [.t 61,.t 62],oL 64 63,oo 65 (.lookup (.int .i64) false (.d (.lst 1 []))) [.t 60,.t 64],oo 66 .len [.t 65],oo 67 .mov [cI 0]]
def Qnh:List COp:=[oo 68 (.bin .lss false) [.t 67,.t 66]]
def Qni:List COp:=[oo 69 (.idx 1) [.t 65,.t 67],oL 70 69,oM 10 70]
def Qnj:List COp:=[oM 71 0,oo 72 .nilchk [.t 71],oF 73 6 72,oL 74 73,oM 75 10,oo 76 (.idx 1) [.t 74,.t 75],oL 77 76,oM 78 77,⟨some 79,.mov,[.t 3],false,some (78,true)⟩,⟨some 80,.mov,[.t 10],false,some (78,true)⟩,⟨some 81,.idx 1,[.t 79,.t 80],false,some (78,true)⟩,⟨some 82,.load false 1,[.t 81],false,some (78,true)⟩,⟨some 83,.bin .lss false,[.t 82,cI 0],false,some (78,true)⟩,oo 84 .pick [.t 78,.t 83,.c (.d (.bool false))]]
def Qnk:List COp:=[oM 85 3,oM 86 10,oM 87 3,oM 88 5,oM 89 8,oo 90 (.idx 1) [.t 88,.t 89],oL 91 90,oo 92 (.idx 1) [.t 87,.t 91],oL 93 92,oo 94 (.bin .add false) [.t 93,cI 1],oo 95 (.idx 1) [.t 85,.t 86],⟨none,.store 1,[.t 95,.t 94],false,none⟩]
def Qnl:List COp:=[ot 96 .mov [.t 5],oM 97 10,oo 98 (.bslice 1 1 [.d (.int .i64 0)] [0]) [.t 97],ot 99 (.append 1 8) [.t 96,.t 98],ot 5 .mov [.t 99]]
def Qnm:List COp:=[oo 100 (.bin .add false) [.t 67,cI 1],oM 67 100]
def Qnn:List COp:=[oM 55 8,oo 56 (.bin .add false) [.t 55,cI 1],oM 8 56]
def Qno:List COp:=[ot 101 .mov [.t 3],ot 2 .mov [.t 101]]
def Qfc:CFn:=⟨1,102,[.t 2],.seq (.region Qoj 9 []) (.seq (.region Qok 9 []) (.seq (.seq (.region Qol 9 []) (.block 0 (.loop [] (.seq (.region Qom 9 []) (.seq (.cond (.t 20) (.skip) (.exit 0)) (.seq (.block 1 (.seq (.region Qon 9 []) (.region Qoo 9 []))) (.region Qop 9 []))))))) (.seq (.region Qoq 9 []) (.seq (.seq (.region Qor 9 []) (.block 2 (.loop [48] (.seq (.region Qos 9 []) (.seq (.cond (.t 33) (.skip) (.exit 2)) (.seq (.block 3 (.seq (.region Qm9 9 []) (.seq (.region Qna 9 []) (.cond (.t 42) (.seq (.region Qnb 9 []) (.region Qnc 9 [])) (.skip))))) (.region Qnd 9 []))))))) (.seq (.seq (.region Qne 9 []) (.block 4 (.loop [98] (.seq (.seq (.region Qnf 9 []) (.cond (.t 54) (.skip) (.exit 4))) (.seq (.block 5 (.seq (.region Qng 0 []) (.block 6 (.loop [98] (.seq (.region Qnh 9 []) (.seq (.cond (.t 68) (.skip) (.exit 6)) (.seq (.block 7 (.seq (.region Qni 9 []) (.seq (.region Qnj 9 []) (.cond (.t 84) (.seq (.region Qnk 9 []) (.region Qnl 9 [])) (.skip))))) (.region Qnm 9 [])))))))) (.region Qnn 9 [])))))) (.seq (.region Qno 9 []) (.ret)))))))⟩
def Q1 (fuel:Nat) (p1:Q2):Option ((List Int)) :=
  ((mkO p1.zA.zN 0).bind fun x8=>((Qcm (fun k12 ((x10,c11):Int×(List Int))=>(if (x10<((Int.toNat p1.zA.zN):Int)) then ((inO (Int.toNat p1.zA.zN) x10).bind fun u14=>((setO c11 x10 (-1)).bind fun x16=>k12 ((IntKind.wrap .i64 (x10+1)),x16))) else some c11)) fuel (0,x8)).bind fun (c18:List Int)=>((Qcm (fun k22 ((l19,x20,c21):(List Int)×Int×(List Int))=>(if (x20<(p1.zA.zL.length:Int)) then ((((getO p1.zA.zL x20).bind fun x24=>((inO p1.left_.length x24).bind fun u26=>((getO p1.left_ x24).bind fun x28=>(if x28 then ((inO (Int.toNat p1.zA.zN) x24).bind fun u31=>((setO c21 x24 0).bind fun x33=>((appO l19 [x24]).bind fun x35=>some (x35,x33)))) else some (l19,c21)))))).bind fun ((l37,c38):(List Int)×(List Int))=>k22 (l37,(IntKind.wrap .i64 (x20+1)),c38)) else some (l19,c21))) fuel ([],0,c18)).bind fun ((l39,c40):(List Int)×(List Int))=>((Qcm (fun k44 ((l41,i42,c43):(List Int)×Int×(List Int))=>(if (i42<(l41.length:Int)) then ((((getO l41 i42).bind fun x46=>Qcm (fun k51 ((l48,x49,c50):(List Int)×Int×(List Int))=>(if (x49<((getM p1.back_ x46 []).length:Int)) then ((((getO (getM p1.back_ x46 []) x49).bind fun x53=>((((inO p1.left_.length x53).bind fun u55=>((getO p1.left_ x53).bind fun x57=>(if x57 then ((inO (Int.toNat p1.zA.zN) x53).bind fun u60=>((getO c50 x53).bind fun x62=>some (decide (x62<0)))) else some false)))).bind fun (x64:Bool)=>(if x64 then ((getO l48 i42).bind fun x66=>((inO (Int.toNat p1.zA.zN) x66).bind fun u68=>((getO c50 x66).bind fun x70=>((inO (Int.toNat p1.zA.zN) x53).bind fun u72=>((setO c50 x53 (IntKind.wrap .i64 (x70+1))).bind fun x74=>((appO l48 [x53]).bind fun x76=>some (x76,x74))))))) else some (l48,c50))))).bind fun ((l78,c79):(List Int)×(List Int))=>k51 (l78,(IntKind.wrap .i64 (x49+1)),c79)) else some (l48,c50))) fuel (l41,0,c43))).bind fun ((l80,c81):(List Int)×(List Int))=>k44 (l80,(IntKind.wrap .i64 (i42+1)),c81)) else some c43)) fuel (l39,0,c40)).bind fun (c82:List Int)=>((lenO c82 (Int.toNat p1.zA.zN)).bind fun _=>some c82)))))
def Qfw (P:Program) (c:Nat) (f:Q2→Int→Option ((List Qb))):Prop:=∀ p1 rv8 (k2:Nat) (k4:Nat) (k6:Nat) r,f p1 rv8=some r→∀ M nb,(M k2=some (.cells [(f_ p1.zA.zK),(i_ p1.zA.zN),(f_ p1.zA.zL),.f (.lst 3 (List.map Qi p1.zA.zM)),(f_ p1.uncontrollable_),.mp k4,.sl 1 k6 0 p1.left_.length p1.left_.length]))→(M k4=some (.mp (mapE (fun (x:Int)=>((i_ x):V)) (ownE 1 (eI .i64)) 0 p1.back_) (p1.back_).length))→(M k6=some (.cells (Q3 (fun (x:Bool)=>[V.d (.bool x)]) p1.left_)))→ACalls P c [.ptr k2 0,(i_ rv8)] M nb (Qm r) M nb
def Qrq:List COp:=[ot 4 .mov [.c (.nils 4)]]
def Qrr:List COp:=[ot 5 .mov [.c (.nils 4)]]
def Qrs:List COp:=[oM 8 0,oo 9 (.call 103) [.t 8],oo 10 .len [.t 9],oo 11 .mov [cI 0]]
def Qrt:List COp:=[oo 12 (.bin .lss false) [.t 11,.t 10]]
def Qru:List COp:=[oM 13 11,oo 14 (.idx 1) [.t 9,.t 11],oL 15 14,oM 6 13,oM 7 15]
def Qrv:List COp:=[oM 16 0,oo 17 .nilchk [.t 16],oF 18 6 17,oL 19 18,oM 20 6,oo 21 (.idx 1) [.t 19,.t 20],oL 22 21,oM 23 22,⟨some 24,.mov,[.t 7],false,some (23,true)⟩,⟨some 25,.bin .lss false,[.t 24,cI 0],false,some (23,true)⟩,oo 26 .pick [.t 23,.t 25,.c (.d (.bool false))]]
def Qrw:List COp:=[ot 27 .mov [.t 5],oM 28 6,oM 29 1,oo 30 (.build [.d (.int .i64 0),.d (.int .i64 0),.d (.int .i64 0),.d (.int .i64 0)] [(0,1),(1,1),(2,1),(3,1)]) [.t 28,.t 29,cI 3,cI (-1)],oo 31 (.bslice 4 1 [.d (.int .i64 0),.d (.int .i64 0),.d (.int .i64 0),.d (.int .i64 0)] [0]) [.t 30],ot 32 (.append 4 32) [.t 27,.t 31],ot 5 .mov [.t 32]]
def Qrx:List COp:=[oo 33 (.bin .add false) [.t 11,cI 1],oM 11 33]
def Qry:List COp:=[ot 34 .mov [.t 5],ot 4 .mov [.t 34]]
def Qfx:CFn:=⟨2,35,[.t 4],.seq (.region Qrq 9 []) (.seq (.region Qrr 9 []) (.seq (.seq (.region Qrs 9 []) (.block 0 (.loop [31] (.seq (.region Qrt 9 []) (.seq (.cond (.t 12) (.skip) (.exit 0)) (.seq (.block 1 (.seq (.region Qru 9 []) (.seq (.region Qrv 9 []) (.cond (.t 26) (.region Qrw 9 []) (.skip))))) (.region Qrx 9 []))))))) (.seq (.region Qry 9 []) (.ret))))⟩
def Qbq (Q1:Q2→Option ((List Int))) (fuel:Nat) (p1:Q2) (rv8:Int):Option ((List Qb)) :=
  ((((Q1 p1).bind fun x10=>Qcm (fun k13 ((ov11,x12):(List Qb)×Int)=>(if (x12<(x10.length:Int)) then ((((getO x10 x12).bind fun x15=>((((inO p1.left_.length x12).bind fun u17=>((getO p1.left_ x12).bind fun x19=>(if x19 then some (decide (x15<0)) else some false)))).bind fun (x22:Bool)=>(if x22 then ((appO ov11 [(Qb.mk x12 rv8 3 (-1))]).bind fun x24=>some x24) else some ov11)))).bind fun (ov26:List Qb)=>k13 (ov26,(IntKind.wrap .i64 (x12+1)))) else some ov11)) fuel ([],0))).bind fun (ov27:List Qb)=>some ov27)
def Qg9 (P:Program) (c:Nat) (f:Q2→Int→Bool→Option ((List Qb))):Prop:=∀ p1 rv8 av9 (k2:Nat) (k4:Nat) (k6:Nat) r,f p1 rv8 av9=some r→∀ M nb,(M k2=some (.cells [(f_ p1.zA.zK),(i_ p1.zA.zN),(f_ p1.zA.zL),.f (.lst 3 (List.map Qi p1.zA.zM)),(f_ p1.uncontrollable_),.mp k4,.sl 1 k6 0 p1.left_.length p1.left_.length]))→(M k4=some (.mp (mapE (fun (x:Int)=>((i_ x):V)) (ownE 1 (eI .i64)) 0 p1.back_) (p1.back_).length))→(M k6=some (.cells (Q3 (fun (x:Bool)=>[V.d (.bool x)]) p1.left_)))→ACalls P c [.ptr k2 0,(i_ rv8),(b_ av9)] M nb (Qm r) M nb
def Qu4:List COp:=[ot 6 .mov [.c (.nils 4)]]
def Qu5:List COp:=[oM 8 0,oM 9 1,oo 10 (.call 117) [.t 8,.t 9],ot 7 .mov [.t 10]]
def Qu6:List COp:=[oM 11 7,oo 12 .len [.t 11],oo 13 (.bin .gtr false) [.t 12,cI 0],oM 14 13,⟨some 15,.mov,[.t 2],false,some (14,false)⟩,⟨some 16,.un .not,[.t 15],false,some (14,false)⟩,oo 17 .pick [.t 14,.c (.d (.bool true)),.t 16]]
def Qu7:List COp:=[ot 18 .mov [.t 7],ot 6 .mov [.t 18]]
def Qu8:List COp:=[oM 19 0,oM 20 1,oo 21 (.call 118) [.t 19,.t 20],ot 6 .mov [.t 21]]
def Qha:CFn:=⟨3,22,[.t 6],.seq (.region Qu4 9 []) (.seq (.seq (.region Qu5 9 []) (.seq (.region Qu6 9 []) (.cond (.t 17) (.seq (.region Qu7 9 []) (.ret)) (.skip)))) (.seq (.region Qu8 9 []) (.ret)))⟩
def Qb2 (Qb1:Q2→Int→Option ((List Qb))) (Qbq:Q2→Int→Option ((List Qb))) (p1:Q2) (rv8:Int) (av9:Bool):Option ((List Qb)) :=
  ((Qb1 p1 rv8).bind fun x11=>(((if ((x11.length:Int)>0) then some true else some (!av9))).bind fun (x13:Bool)=>(if x13 then some x11 else ((Qbq p1 rv8).bind fun x16=>some x16))))
def Qsb (P:Program) (c:Nat) (f:Qb→Qb→Option Int):Prop:=∀ x1 y2 r,f x1 y2=some r→∀ M nb,ACalls P c [(Qdy x1),(Qdy y2)] M nb (i_ r) M nb
def Q12:List COp:=[oo 2 (.box 4) [.t 0],oo 3 (.box 4) [.t 1],oo 4 .mov [cI 0]]
def Q13:List COp:=[oF 5 0 2,oL 6 5,oF 7 0 3,oL 8 7,oo 9 (.bin .sub false) [.t 6,.t 8],oM 4 9]
def Qja:CFn:=⟨2,10,[.t 4],.seq (.region Q12 9 []) (.seq (.region Q13 9 []) (.ret))⟩
def Qjb (x1:Qb) (y2:Qb):Option Int :=
  some (IntKind.wrap .i64 (x1.State-y2.State))
def Qez (P:Program) (c:Nat) (f:Q2→Option (Qe×(List Int))):Prop:=∀ p1 (k2:Nat) (k4:Nat) (k6:Nat) r,f p1=some r→∀ M nb,(M k2=some (.cells [(f_ p1.zA.zK),(i_ p1.zA.zN),(f_ p1.zA.zL),.f (.lst 3 (List.map Qi p1.zA.zM)),(f_ p1.uncontrollable_),.mp k4,.sl 1 k6 0 p1.left_.length p1.left_.length]))→(M k4=some (.mp (mapE (fun (x:Int)=>((i_ x):V)) (ownE 1 (eI .i64)) 0 p1.back_) (p1.back_).length))→(M k6=some (.cells (Q3 (fun (x:Bool)=>[V.d (.bool x)]) p1.left_)))→ACalls P c [.ptr k2 0] M nb (.tup [(Qh r.1),(o_ r.2)]) M nb
def Qnp:List COp:=[oo 2 (.alloc [.nils 1,.d (.int .i64 0),.nils 1,.nils 3]) [],ot 3 .mov [.c (.nils 1)]]
def Qnq:List COp:=[oM 15 0,oo 16 .nilchk [.t 15],oF 17 0 16,oF 18 0 17,oL 19 18,oo 20 (.call 72) [.t 19],ot 21 (.build [.nils 1,.d (.int .i64 0),.nils 1,.nils 3] [(0,1)]) [.t 20],oo 4 (.alloc [.nils 1,.d (.int .i64 0),.nils 1,.nils 3]) [],⟨none,.store 4,[.t 4,.t 21],true,none⟩]
def Qnr:List COp:=[oM 22 0,oo 23 .nilchk [.t 22],oF 24 0 23,oF 25 1 24,oL 26 25,oo 27 (.bin .eql false) [.t 26,cI 0],oM 28 27,⟨some 29,.mov,[.t 0],false,some (28,false)⟩,⟨some 30,.nilchk,[.t 29],false,some (28,false)⟩,⟨some 31,.fld 6,[.t 30],false,some (28,false)⟩,⟨some 32,.load false 1,[.t 31],false,some (28,false)⟩,⟨some 33,.idx 1,[.t 32,cI 0],false,some (28,false)⟩,⟨some 34,.load false 1,[.t 33],false,some (28,false)⟩,⟨some 35,.un .not,[.t 34],false,some (28,false)⟩,oo 36 .pick [.t 28,.c (.d (.bool true)),.t 35]]
def Qns:List COp:=[oo 37 (.load true 4) [.t 4],⟨none,.store 4,[.t 2,.t 37],true,none⟩,ot 3 .mov [.c (.nils 1)]]
def Qnt:List COp:=[oM 38 0,oo 39 .nilchk [.t 38],oF 40 0 39,oF 41 1 40,oL 42 41,oo 43 (.makes 1 24 [.nils 3]) [.t 42,.t 42],ot 5 .mov [.t 43]]
def Qnu:List COp:=[oM 44 0,oo 45 .nilchk [.t 44],oF 46 0 45,oF 47 3 46,oL 48 47,oo 49 .len [.t 48],oo 50 .mov [cI 0]]
def Qnv:List COp:=[oo 51 (.bin .lss false) [.t 50,.t 49]]
def Qnw:List COp:=[oo 52 (.idx 3) [.t 48,.t 50],oo 53 (.load true 3) [.t 52],oo 7 (.alloc [.d (.int .i64 0),.d (.int .i64 0),.d (.int .i64 0)]) [],⟨none,.store 3,[.t 7,.t 53],false,none⟩]
def Qnx:List COp:=[oM 54 0,oo 55 .nilchk [.t 54],oF 56 6 55,oL 57 56,oF 58 2 7,oL 59 58,oo 60 (.idx 1) [.t 57,.t 59],oL 61 60]
def Qny:List COp:=[oM 62 5,oF 63 0 7,oL 64 63,oM 65 5,oF 66 0 7,oL 67 66,oo 68 (.idx 1) [.t 65,.t 67],oo 69 .loadT [.t 68],oo 70 (.load true 3) [.t 7],oo 71 (.bslice 3 1 [.d (.int .i64 0),.d (.int .i64 0),.d (.int .i64 0)] [0]) [.t 70],ot 72 (.append 3 24) [.t 69,.t 71],oo 73 (.idx 1) [.t 62,.t 64],⟨none,.store 1,[.t 73,.t 72],true,none⟩]
def Ql4:List COp:=[oo 74 (.bin .add false) [.t 50,cI 1],oM 50 74]
def Ql5:List COp:=[oo 75 .mkmap [],⟨none,.mapset (.int .i64),[.t 75,cI 0,cI 0],false,none⟩,oM 76 75,oM 8 76]
def Ql6:List COp:=[oo 77 (.bslice 1 1 [.d (.int .i64 0)] [0]) [cI 0],ot 9 .mov [.t 77]]
def Ql7:List COp:=[oo 10 .mov [cI 0]]
def Ql8:List COp:=[oM 78 10,oM 79 9,oo 80 .len [.t 79],oo 81 (.bin .lss false) [.t 78,.t 80]]
def Ql9:List COp:=[oM 84 5,oM 85 9,oM 86 10,oo 87 (.idx 1) [.t 85,.t 86],oL 88 87,oo 89 (.idx 1) [.t 84,.t 88],oL 90 89,oo 91 .len [.t 90],oo 92 .mov [cI 0]]
def Qma:List COp:=[oo 93 (.bin .lss false) [.t 92,.t 91]]
def Qmb:List COp:=[oo 94 (.idx 3) [.t 90,.t 92],oo 95 (.load true 3) [.t 94],oo 12 (.alloc [.d (.int .i64 0),.d (.int .i64 0),.d (.int .i64 0)]) [],⟨none,.store 3,[.t 12,.t 95],false,none⟩]
def Qmc:List COp:=[oM 97 8,oF 98 2 12,oL 99 98,oo 100 (.lookup (.int .i64) true (.d (.int .i64 0))) [.t 97,.t 99],oM 96 100,oo 101 (.extract 0) [.t 96],oo 102 (.extract 1) [.t 96],oM 13 101,oM 14 102]
def Qmd:List COp:=[oM 103 14,oo 104 (.un .not) [.t 103]]
def Qme:List COp:=[oM 105 9,oo 106 .len [.t 105],oM 13 106]
def Qmf:List COp:=[oM 107 8,oF 108 2 12,oL 109 108,oM 110 13,⟨none,.mapset (.int .i64),[.t 107,.t 109,.t 110],false,none⟩]
def Qmg:List COp:=[ot 111 .mov [.t 9],oF 112 2 12,oL 113 112,oo 114 (.bslice 1 1 [.d (.int .i64 0)] [0]) [.t 113],ot 115 (.append 1 8) [.t 111,.t 114],ot 9 .mov [.t 115]]
def Qmh:List COp:=[oF 116 3 4,oo 117 .loadT [.t 116],oM 118 10,oF 119 1 12,oL 120 119,oM 121 13,oo 122 (.build [.d (.int .i64 0),.d (.int .i64 0),.d (.int .i64 0)] [(0,1),(1,1),(2,1)]) [.t 118,.t 120,.t 121],oo 123 (.bslice 3 1 [.d (.int .i64 0),.d (.int .i64 0),.d (.int .i64 0)] [0]) [.t 122],ot 124 (.append 3 24) [.t 117,.t 123],oF 125 3 4,⟨none,.store 1,[.t 125,.t 124],true,none⟩]
def Qmi:List COp:=[oo 126 (.bin .add false) [.t 92,cI 1],oM 92 126]
def Qmj:List COp:=[oM 127 0,oo 128 .nilchk [.t 127],oF 129 0 128,oF 130 2 129,oL 131 130,oM 132 9,oM 133 10,oo 134 (.idx 1) [.t 132,.t 133],oL 135 134,oo 136 (.call 98) [.t 131,.t 135]]
def Qmk:List COp:=[oF 137 2 4,oo 138 .loadT [.t 137],oM 139 10,oo 140 (.bslice 1 1 [.d (.int .i64 0)] [0]) [.t 139],ot 141 (.append 1 8) [.t 138,.t 140],oF 142 2 4,⟨none,.store 1,[.t 142,.t 141],true,none⟩]
def Qml:List COp:=[oM 82 10,oo 83 (.bin .add false) [.t 82,cI 1],oM 10 83]
def Qmm:List COp:=[oM 143 9,oo 144 .len [.t 143],oF 145 1 4,⟨none,.store 1,[.t 145,.t 144],false,none⟩]
def Qmn:List COp:=[oo 146 (.load true 4) [.t 4],ot 147 .mov [.t 9],⟨none,.store 4,[.t 2,.t 146],true,none⟩,ot 3 .mov [.t 147]]
def Qe0:CFn:=⟨1,148,[.cell 2 true 4,.t 3],.seq (.region Qnp 9 []) (.seq (.region Qnq 9 []) (.seq (.seq (.region Qnr 9 []) (.cond (.t 36) (.seq (.region Qns 9 []) (.ret)) (.skip))) (.seq (.region Qnt 9 []) (.seq (.seq (.region Qnu 9 []) (.block 0 (.loop [7,71] (.seq (.region Qnv 9 []) (.seq (.cond (.t 51) (.skip) (.exit 0)) (.seq (.block 1 (.seq (.region Qnw 9 []) (.seq (.region Qnx 0 []) (.cond (.t 61) (.region Qny 0 []) (.skip))))) (.region Ql4 9 []))))))) (.seq (.region Ql5 9 []) (.seq (.region Ql6 9 []) (.seq (.seq (.region Ql7 9 []) (.block 2 (.loop [12,114,123,140] (.seq (.seq (.region Ql8 9 []) (.cond (.t 81) (.skip) (.exit 2))) (.seq (.block 3 (.seq (.seq (.region Ql9 9 []) (.block 4 (.loop [12,114,123] (.seq (.region Qma 9 []) (.seq (.cond (.t 93) (.skip) (.exit 4)) (.seq (.block 5 (.seq (.region Qmb 9 []) (.seq (.region Qmc 9 []) (.seq (.seq (.region Qmd 9 []) (.cond (.t 104) (.seq (.region Qme 9 []) (.seq (.region Qmf 9 []) (.region Qmg 9 []))) (.skip))) (.region Qmh 9 []))))) (.region Qmi 9 []))))))) (.seq (.region Qmj 0 []) (.cond (.t 136) (.region Qmk 9 []) (.skip))))) (.region Qml 9 [])))))) (.seq (.region Qmm 9 []) (.seq (.region Qmn 9 []) (.ret))))))))))⟩
def Qbe (Qbs:(List Int)→Option ((List Int))) (Q4:(List Int)→Int→Option Bool) (fuel:Nat) (p1:Q2):Option (Qe×(List Int)) :=
  ((Qbs p1.zA.zK).bind fun x9=>(((if (p1.zA.zN==0) then some true else ((inO p1.left_.length 0).bind fun u11=>((getO p1.left_ 0).bind fun x13=>some (!x13))))).bind fun (x15:Bool)=>(if x15 then some ((Qe.mk x9 0 [] []),[]) else ((mkO p1.zA.zN ([]:List Qc)).bind fun x17=>((Qcm (fun k21 ((x19,c20):Int×(List (List Qc)))=>(if (x19<(p1.zA.zM.length:Int)) then ((((getO p1.zA.zM x19).bind fun x23=>((inO p1.left_.length x23.To).bind fun u25=>((getO p1.left_ x23.To).bind fun x27=>(if x27 then ((inO (Int.toNat p1.zA.zN) x23.From).bind fun u30=>((getO c20 x23.From).bind fun x32=>((appO x32 [x23]).bind fun x34=>((inO (Int.toNat p1.zA.zN) x23.From).bind fun u36=>((setO c20 x23.From x34).bind fun x38=>some (x38,x23.From,x23.Event,x23.To)))))) else some (c20,x23.From,x23.Event,x23.To)))))).bind fun ((c40,c41,c42,c43):(List (List Qc))×Int×Int×Int)=>k21 ((IntKind.wrap .i64 (x19+1)),c40)) else some c20)) fuel (0,x17)).bind fun (c44:List (List Qc))=>((Qcm (fun k53 ((ov45,i46,c47,c48,c49,a50,a51,c52):(List Int)×Int×(List Int)×(List Int)×(List Qc)×(List Int)×(List Qc)×(List (Int×Int)))=>(if (i46<(ov45.length:Int)) then ((((((getO ov45 i46).bind fun x55=>((inO (Int.toNat p1.zA.zN) x55).bind fun u57=>((getO c44 x55).bind fun x59=>Qcm (fun k65 ((ov61,x62,a63,c64):(List Int)×Int×(List Qc)×(List (Int×Int)))=>(if (x62<(x59.length:Int)) then ((getO x59 x62).bind fun x67=>(((if (hasM c64 x67.To) then some (ov61,(getM c64 x67.To 0),c64) else ((appO ov61 [x67.To]).bind fun x70=>some (x70,(ov61.length:Int),(setM c64 x67.To (ov61.length:Int)))))).bind fun ((ov72,to73,c74):(List Int)×Int×(List (Int×Int)))=>((appO a63 [(Qc.mk i46 x67.Event to73)]).bind fun x75=>k65 (ov72,(IntKind.wrap .i64 (x62+1)),x75,c74)))) else some (ov61,a63,c64))) fuel (ov45,0,a51,c52))))).bind fun ((ov77,a78,c79):(List Int)×(List Qc)×(List (Int×Int)))=>((getO ov77 i46).bind fun x80=>((Q4 p1.zA.zL x80).bind fun x83=>(if x83 then ((appO a50 [i46]).bind fun x85=>some (ov77,x85,a78,c79)) else some (ov77,a50,a78,c79)))))).bind fun ((ov87,a88,a89,c90):(List Int)×(List Int)×(List Qc)×(List (Int×Int)))=>k53 (ov87,(IntKind.wrap .i64 (i46+1)),c47,c48,c49,a88,a89,c90)) else some (ov45,c47,c48,c49,a50,a51,c52))) fuel ([0],0,[],[],[],[],[],(setM ([]:List (Int×Int)) 0 0))).bind fun ((ov91,c92,c93,c94,a95,a96,c97):(List Int)×(List Int)×(List Int)×(List Qc)×(List Int)×(List Qc)×(List (Int×Int)))=>some ((Qe.mk x9 (ov91.length:Int) a95 a96),ov91)))))))
def Qmo (P:Program) (c:Nat) (f:Qe→(List Int)→(List Int)→Bool→Option Qc2):Prop:=∀ a1 fv2 uv3 av4 r,f a1 fv2 uv3 av4=some r→∀ M nb,ACalls P c [(Qh a1),(l_ fv2),(l_ uv3),(b_ av4)] M nb (Qc8 r) M nb
def Q54:List COp:=[oo 4 (.box 4) [.t 0],oo 8 (.alloc [.nils 1,.nils 1,.nils 4,.d (.int .i64 0),.nils 1,.d (.int .i64 0),.nils 1,.nils 3,.nils 1]) []]
def Q55:List COp:=[oo 19 (.load true 4) [.t 4],oM 20 1,oM 21 2,oo 22 (.call 99) [.t 19,.t 20,.t 21],oM 9 22]
def Q56:List COp:=[oo 10 (.alloc [.nils 1,.nils 1,.nils 4,.d (.int .i64 0),.nils 1,.d (.int .i64 0),.nils 1,.nils 3,.nils 1]) []]
def Q57:List COp:=[oM 23 1,oo 24 .len [.t 23],oo 25 .mov [cI 0]]
def Q58:List COp:=[oo 26 (.bin .lss false) [.t 25,.t 24]]
def Q59:List COp:=[oo 27 (.idx 1) [.t 23,.t 25],oL 28 27,oM 12 28]
def Q6a:List COp:=[oF 29 0 10,oF 30 2 29,oo 31 .loadT [.t 30],oM 32 12,oo 33 (.build [.d (.int .i64 0),.d (.int .i64 0),.d (.int .i64 0),.d (.int .i64 0)] [(0,1),(1,1),(2,1),(3,1)]) [.t 32,cI 1,cI 1,cI (-1)],oo 34 (.bslice 4 1 [.d (.int .i64 0),.d (.int .i64 0),.d (.int .i64 0),.d (.int .i64 0)] [0]) [.t 33],ot 35 (.append 4 32) [.t 31,.t 34],oF 36 0 10,oF 37 2 36,⟨none,.store 1,[.t 37,.t 35],true,none⟩]
def Q6b:List COp:=[oF 38 3 10,⟨none,.store 1,[.t 38,cI 1],false,none⟩]
def Q6c:List COp:=[oo 39 (.bin .add false) [.t 25,cI 1],oM 25 39]
def Q6d:List COp:=[oo 13 .mov [cI 2]]
def Q3j:List COp:=[oM 42 9,oM 43 13,oM 44 3,oo 45 (.call 100) [.t 42,.t 43,.t 44],ot 14 .mov [.t 45]]
def Q3k:List COp:=[oM 46 14,oo 47 .len [.t 46],oo 48 (.bin .eql false) [.t 47,cI 0]]
def Q3l:List COp:=[oM 49 14,oo 50 .len [.t 49],oo 51 .mov [cI 0]]
def Q3m:List COp:=[oo 52 (.bin .lss false) [.t 51,.t 50]]
def Q3n:List COp:=[oo 53 (.idx 4) [.t 49,.t 51],oo 54 (.load true 4) [.t 53],oo 16 (.alloc [.d (.int .i64 0),.d (.int .i64 0),.d (.int .i64 0),.d (.int .i64 0)]) [],⟨none,.store 4,[.t 16,.t 54],false,none⟩]
def Q3o:List COp:=[oM 55 9,oo 56 .nilchk [.t 55],oF 57 6 56,oL 58 57,oF 59 0 16,oL 60 59,oo 61 (.idx 1) [.t 58,.t 60],⟨none,.store 1,[.t 61,.c (.d (.bool false))],false,none⟩]
def Q3p:List COp:=[oo 62 (.bin .add false) [.t 51,cI 1],oM 51 62]
def Q3q:List COp:=[oF 63 0 10,oF 64 2 63,oo 65 .loadT [.t 64],oM 66 14,ot 67 (.append 4 32) [.t 65,.t 66],oF 68 0 10,oF 69 2 68,⟨none,.store 1,[.t 69,.t 67],true,none⟩]
def Q3r:List COp:=[oM 70 13,oF 71 3 10,⟨none,.store 1,[.t 71,.t 70],false,none⟩]
def Q3s:List COp:=[oM 40 13,oo 41 (.bin .add false) [.t 40,cI 1],oM 13 41]
def Q3t:List COp:=[oF 72 0 10,oF 73 2 72,oL 74 73,oo 75 (.call 101) [.t 74,.c (.clo 102 [])]]
def Q3u:List COp:=[oM 76 9,oo 77 (.call 103) [.t 76],oo 78 .len [.t 77],oo 79 .mov [cI 0]]
def Q3v:List COp:=[oo 80 (.bin .lss false) [.t 79,.t 78]]
def Q3w:List COp:=[oM 81 79,oo 82 (.idx 1) [.t 77,.t 79],oL 83 82,oM 17 81,oM 18 83]
def Q3x:List COp:=[oM 84 9,oo 85 .nilchk [.t 84],oF 86 6 85,oL 87 86,oM 88 17,oo 89 (.idx 1) [.t 87,.t 88],oL 90 89]
def Q3y:List COp:=[oF 91 0 10,oF 92 0 91,oo 93 .loadT [.t 92],oM 94 17,oo 95 (.bslice 1 1 [.d (.int .i64 0)] [0]) [.t 94],ot 96 (.append 1 8) [.t 93,.t 95],oF 97 0 10,oF 98 0 97,⟨none,.store 1,[.t 98,.t 96],true,none⟩]
def Q3z:List COp:=[oF 99 0 10,oF 100 1 99,oo 101 .loadT [.t 100],oM 102 18,oo 103 (.bslice 1 1 [.d (.int .i64 0)] [0]) [.t 102],ot 104 (.append 1 8) [.t 101,.t 103],oF 105 0 10,oF 106 1 105,⟨none,.store 1,[.t 106,.t 104],true,none⟩]
def Q30:List COp:=[oo 107 (.bin .add false) [.t 79,cI 1],oM 79 107]
def Q31:List COp:=[oM 109 9,oo 110 (.call 104) [.t 109],oM 108 110,oo 111 (.extract 0) [.t 108],ot 112 (.extract 1) [.t 108],oF 113 4 10,⟨none,.store 4,[.t 113,.t 111],true,none⟩,oF 114 8 10,⟨none,.store 1,[.t 114,.t 112],true,none⟩]
def Q32:List COp:=[oo 115 (.load true 9) [.t 10],⟨none,.store 9,[.t 8,.t 115],true,none⟩]
def Qmp:CFn:=⟨4,116,[.cell 8 true 9],.seq (.region Q54 9 []) (.seq (.region Q55 9 []) (.seq (.region Q56 9 []) (.seq (.seq (.region Q57 9 []) (.block 0 (.loop [34] (.seq (.region Q58 9 []) (.seq (.cond (.t 26) (.skip) (.exit 0)) (.seq (.block 1 (.seq (.region Q59 9 []) (.seq (.region Q6a 9 []) (.region Q6b 9 [])))) (.region Q6c 9 []))))))) (.seq (.seq (.region Q6d 9 []) (.block 2 (.loop [16] (.seq (.block 3 (.seq (.region Q3j 9 []) (.seq (.seq (.region Q3k 9 []) (.cond (.t 48) (.exit 2) (.skip))) (.seq (.seq (.region Q3l 9 []) (.block 4 (.loop [16] (.seq (.region Q3m 9 []) (.seq (.cond (.t 52) (.skip) (.exit 4)) (.seq (.block 5 (.seq (.region Q3n 9 []) (.region Q3o 0 []))) (.region Q3p 9 []))))))) (.seq (.region Q3q 9 []) (.region Q3r 9 [])))))) (.region Q3s 9 []))))) (.seq (.region Q3t 9 []) (.seq (.seq (.region Q3u 9 []) (.block 6 (.loop [95,103] (.seq (.region Q3v 9 []) (.seq (.cond (.t 80) (.skip) (.exit 6)) (.seq (.block 7 (.seq (.region Q3w 9 []) (.seq (.region Q3x 9 []) (.cond (.t 90) (.seq (.region Q3y 9 []) (.region Q3z 9 [])) (.skip))))) (.region Q30 9 []))))))) (.seq (.region Q31 9 []) (.seq (.region Q32 9 []) (.ret)))))))))⟩
def Qdb (Qdo:Qe→(List Int)→(List Int)→Option Q2) (Qb2:Q2→Int→Bool→Option ((List Qb))) (f_slices_SortFunc_Removal:List Qb→Option (List Qb)) (Q1:Q2→Option ((List Int))) (Qbe:Q2→Option (Qe×(List Int))) (fuel:Nat) (a1:Qe) (fv2:(List Int)) (uv3:(List Int)) (av4:Bool):Option Qc2 :=
  ((Qdo a1 fv2 uv3).bind fun x5=>((Qcm (fun k23 ((x7,c8,c9,c10,c11,c12,c13,c14,r15,r16,r17,r18,r19,r20,r21,r22):Int×(List Int)×(List Int)×(List Qb)×(List Int)×(List Int)×(List Qc)×(List Int)×(List Int)×(List Int)×(List Qb)×Int×(List Int)×(List Int)×(List Qc)×(List Int))=>(if (x7<(fv2.length:Int)) then ((getO fv2 x7).bind fun x25=>((appO r17 [(Qb.mk x25 1 1 (-1))]).bind fun x27=>k23 ((IntKind.wrap .i64 (x7+1)),c8,c9,c10,c11,c12,c13,c14,r15,r16,x27,1,r19,r20,r21,r22))) else some (c8,c9,c10,c11,c12,c13,c14,r15,r16,r17,r18,r19,r20,r21,r22))) fuel (0,[],[],[],[],[],[],[],[],[],[],0,[],[],[],[])).bind fun ((c29,c30,c31,c32,c33,c34,c35,r36,r37,r38,r39,r40,r41,r42,r43):(List Int)×(List Int)×(List Qb)×(List Int)×(List Int)×(List Qc)×(List Int)×(List Int)×(List Int)×(List Qb)×Int×(List Int)×(List Int)×(List Qc)×(List Int))=>((Qcm (fun k48 ((rv44,r45,r46,c47):Int×(List Qb)×Int×(List Bool))=>((lenO c47 x5.left_.length).bind fun _=>((Qb2 (Q2.mk x5.zA x5.uncontrollable_ x5.back_ c47) rv44 av4).bind fun x51=>(if ((x51.length:Int)==0) then some (r45,r46,c47) else ((Qcm (fun k55 ((x53,c54):Int×(List Bool))=>(if (x53<(x51.length:Int)) then ((getO x51 x53).bind fun x57=>((inO x5.left_.length x57.State).bind fun u59=>((setO c54 x57.State false).bind fun x61=>k55 ((IntKind.wrap .i64 (x53+1)),x61)))) else some c54)) fuel (0,c47)).bind fun (c63:List Bool)=>((appO r45 x51).bind fun x64=>k48 ((IntKind.wrap .i64 (rv44+1)),x64,rv44,c63))))))) fuel (2,r38,r39,x5.left_)).bind fun ((r66,r67,c68):(List Qb)×Int×(List Bool))=>((f_slices_SortFunc_Removal r66).bind fun rv69=>((((lenO c68 x5.left_.length).bind fun _=>((Q1 (Q2.mk x5.zA x5.uncontrollable_ x5.back_ c68)).bind fun x80=>Qcm (fun k84 ((x81,r82,r83):Int×(List Int)×(List Int))=>(if (x81<(x80.length:Int)) then ((((getO x80 x81).bind fun x86=>((inO x5.left_.length x81).bind fun u88=>((getO c68 x81).bind fun x90=>(if x90 then ((appO r82 [x81]).bind fun x93=>((appO r83 [x86]).bind fun x95=>some (x93,x95))) else some (r82,r83)))))).bind fun ((r97,r98):(List Int)×(List Int))=>k84 ((IntKind.wrap .i64 (x81+1)),r97,r98)) else some (r82,r83))) fuel (0,r36,r37)))).bind fun ((r99,r100):(List Int)×(List Int))=>((lenO c68 x5.left_.length).bind fun _=>((Qbe (Q2.mk x5.zA x5.uncontrollable_ x5.back_ c68)).bind fun (r103,r104)=>some (Qc2.mk (Qee.mk r99 r100 rv69) r67 r103 r104))))))))
def Qh4 (P:Program) (c:Nat) (f:Qe→(List Int)→(List Int)→Option (Qc2×Int)):Prop:=∀ a1 fv2 uv3 r,f a1 fv2 uv3=some r→∀ M nb,ACalls P c [(Qh a1),(l_ fv2),(l_ uv3)] M nb (.tup [(Qc8 r.1),(i_ r.2)]) M nb
def Qyl:List COp:=[oo 3 (.box 4) [.t 0],oo 6 (.alloc [.nils 1,.nils 1,.nils 4,.d (.int .i64 0),.nils 1,.d (.int .i64 0),.nils 1,.nils 3,.nils 1]) [],oo 7 .mov [cI 0]]
def Qym:List COp:=[oo 9 (.load true 4) [.t 3],oM 10 1,oM 11 2,oo 12 (.call 87) [.t 9,.t 10,.t 11],oM 8 12]
def Qyn:List COp:=[oM 13 8,oo 14 (.bin .neq false) [.t 13,cI 0]]
def Qyo:List COp:=[oo 15 (.build [.nils 1,.nils 1,.nils 4,.d (.int .i64 0),.nils 1,.d (.int .i64 0),.nils 1,.nils 3,.nils 1] []) [],oM 16 8,⟨none,.store 9,[.t 6,.t 15],true,none⟩,oM 7 16]
def Qyp:List COp:=[oo 17 (.load true 4) [.t 3],oM 18 1,oM 19 2,oo 20 (.call 88) [.t 17,.t 18,.t 19,.c (.d (.bool true))],⟨none,.store 9,[.t 6,.t 20],true,none⟩,oo 7 .mov [cI 0]]
def Qh5:CFn:=⟨3,21,[.cell 6 true 9,.t 7],.seq (.region Qyl 9 []) (.seq (.seq (.region Qym 9 []) (.seq (.region Qyn 9 []) (.cond (.t 14) (.seq (.region Qyo 9 []) (.ret)) (.skip)))) (.seq (.region Qyp 9 []) (.ret)))⟩
def Qcd (Qdn:Qe→(List Int)→(List Int)→Option Int) (Qdb:Qe→(List Int)→(List Int)→Bool→Option Qc2) (a1:Qe) (fv2:(List Int)) (uv3:(List Int)):Option (Qc2×Int) :=
  ((Qdn a1 fv2 uv3).bind fun x5=>(if (x5 != 0) then some ((Qc2.mk (Qee.mk [] [] []) 0 (Qe.mk [] 0 [] []) []),x5) else ((Qdb a1 fv2 uv3 true).bind fun x8=>some (x8,0))))
def Qrz (P:Program) (c:Nat) (f:Qe→(List Int)→(List Int)→Option ((List Int)×Int)):Prop:=∀ a1 fv2 uv3 r,f a1 fv2 uv3=some r→∀ M nb,ACalls P c [(Qh a1),(l_ fv2),(l_ uv3)] M nb (.tup [(l_ r.1),(i_ r.2)]) M nb
def Q9h:List COp:=[oo 3 (.box 4) [.t 0],ot 6 .mov [.c (.nils 1)],oo 7 .mov [cI 0]]
def Q9i:List COp:=[oo 11 (.load true 4) [.t 3],oM 12 1,oM 13 2,oo 14 (.call 68) [.t 11,.t 12,.t 13],oM 10 14,oo 15 (.extract 0) [.t 10],oo 16 (.extract 1) [.t 10],oo 8 (.alloc [.nils 1,.nils 1,.nils 4,.d (.int .i64 0),.nils 1,.d (.int .i64 0),.nils 1,.nils 3,.nils 1]) [],⟨none,.store 9,[.t 8,.t 15],true,none⟩,oM 9 16]
def Q9j:List COp:=[oF 17 0 8,oF 18 0 17,oL 19 18,oM 20 9,ot 6 .mov [.t 19],oM 7 20]
def Qr0:CFn:=⟨3,21,[.t 6,.t 7],.seq (.region Q9h 9 []) (.seq (.region Q9i 9 []) (.seq (.region Q9j 9 []) (.ret)))⟩
def Qd0 (Qcd:Qe→(List Int)→(List Int)→Option (Qc2×Int)) (a1:Qe) (fv2:(List Int)) (uv3:(List Int)):Option ((List Int)×Int) :=
  ((Qcd a1 fv2 uv3).bind fun (r5,r6)=>some (r5.zF.Kept,r6))
def Qmq (P:Program) (c:Nat) (f:Bool→Bool→Option Bool):Prop:=∀ iv1 iv2 r,f iv1 iv2=some r→∀ M nb,ACalls P c [(b_ iv1),(b_ iv2)] M nb (b_ r) M nb
def Q6e:List COp:=[oo 4 .mov [.c (.d (.bool false))]]
def Q6f:List COp:=[oM 5 0,oM 6 5,⟨some 7,.mov,[.t 1],false,some (6,true)⟩,⟨some 8,.un .not,[.t 7],false,some (6,true)⟩,oo 9 .pick [.t 6,.t 8,.c (.d (.bool false))],oM 4 9]
def Qmr:CFn:=⟨2,10,[.t 4],.seq (.region Q6e 9 []) (.seq (.region Q6f 9 []) (.ret))⟩
def Qdu (iv1:Bool) (iv2:Bool):Option Bool :=
  (if iv1 then some (!iv2) else some false)
def Qr1 (P:Program) (c:Nat) (f:(List Int)→(List Int)→Option ((List Int))):Prop:=∀ a1 b2 r,f a1 b2=some r→∀ M nb,ACalls P c [(l_ a1),(l_ b2)] M nb (o_ r) M nb
def Q9k:List COp:=[ot 4 .mov [.c (.nils 1)]]
def Q9l:List COp:=[oM 5 0,oM 6 1,oo 7 (.call 66) [.t 5,.t 6,.c (.clo 78 [])],ot 4 .mov [.t 7]]
def Qr2:CFn:=⟨2,8,[.t 4],.seq (.region Q9k 9 []) (.seq (.region Q9l 9 []) (.ret))⟩
def Qd1 (Qb3:(List Int)→(List Int)→(Bool→Bool→Option Bool)→Option ((List Int))) (Qdu:Bool→Bool→Option Bool) (a1:(List Int)) (b2:(List Int)):Option ((List Int)) :=
  ((Qb3 a1 b2 Qdu).bind fun x8=>some x8)
def Qot (P:Program) (c:Nat) (f:(List Int)→(List Int)→Option Bool):Prop:=∀ a1 b2 r,f a1 b2=some r→∀ M nb,ACalls P c [(l_ a1),(l_ b2)] M nb (b_ r) M nb
def Q72:List COp:=[oo 4 .mov [.c (.d (.bool false))]]
def Q73:List COp:=[oM 5 0,oM 6 1,oo 7 (.call 55) [.t 5,.t 6],oo 8 .len [.t 7],oo 9 (.bin .eql false) [.t 8,cI 0],oM 4 9]
def Qou:CFn:=⟨2,10,[.t 4],.seq (.region Q72 9 []) (.seq (.region Q73 9 []) (.ret))⟩
def Qc5 (Qd1:(List Int)→(List Int)→Option ((List Int))) (a1:(List Int)) (b2:(List Int)):Option Bool :=
  ((Qd1 a1 b2).bind fun x4=>some ((x4.length:Int)==0))
def Qf7 (P:Program) (c:Nat) (f:Qbj→Int→Int→Option Bool):Prop:=∀ k1 fv2 uv3 r,f k1 fv2 uv3=some r→∀ M nb,ACalls P c [(Qco k1),.d (.int .u8 fv2),.d (.int .u8 uv3)] M nb (b_ r) M nb
def Qjo:List COp:=[oo 3 (.box 31) [.t 0],oo 6 .mov [.c (.d (.bool false))]]
def Qjp:List COp:=[oo 19 (.call 9) [],oo 20 (.un .not) [.t 19]]
def Qjq:List COp:=[oo 6 .mov [.c (.d (.bool false))]]
def Qjr:List COp:=[oo 21 (.load true 31) [.t 3],oo 22 (.call 10) [.t 21],oo 7 (.alloc [.nils 1,.d (.int .i64 0),.nils 1,.nils 3,.nils 1,.nils 1,.nils 1,.d (.int .i64 0)]) [],⟨none,.store 8,[.t 7,.t 22],true,none⟩]
def Qjs:List COp:=[oo 24 (.load true 8) [.t 7],oo 25 (.call 11) [.t 24],oM 23 25,oo 26 (.extract 0) [.t 23],oo 27 (.extract 1) [.t 23],oo 8 (.alloc [.nils 1,.nils 1,.nils 4,.d (.int .i64 0),.nils 1,.d (.int .i64 0),.nils 1,.nils 3,.nils 1,.nils 1]) [],⟨none,.store 10,[.t 8,.t 26],true,none⟩,oM 9 27]
def Qjt:List COp:=[oo 28 (.load true 8) [.t 7],oo 10 (.alloc [.nils 1,.d (.int .i64 0),.nils 1,.nils 3,.nils 1,.nils 1,.nils 1,.d (.int .i64 0)]) [],⟨none,.store 8,[.t 10,.t 28],true,none⟩]
def Qju:List COp:=[oF 29 6 7,oL 30 29,oM 31 1,oo 32 (.bin .and false) [.t 31,.c (.d (.int .u8 15))],oo 33 (.call 33) [.t 32],oo 34 (.call 32) [.t 30,.t 33],oF 35 6 10,⟨none,.store 1,[.t 35,.t 34],true,none⟩]
def Qjv:List COp:=[oo 37 (.load true 8) [.t 10],oo 38 (.call 11) [.t 37],oM 36 38,oo 39 (.extract 0) [.t 36],oo 40 (.extract 1) [.t 36],oo 11 (.alloc [.nils 1,.nils 1,.nils 4,.d (.int .i64 0),.nils 1,.d (.int .i64 0),.nils 1,.nils 3,.nils 1,.nils 1]) [],⟨none,.store 10,[.t 11,.t 39],true,none⟩,oM 12 40]
def Qjw:List COp:=[oo 41 (.load true 8) [.t 7],⟨none,.store 8,[.t 10,.t 41],true,none⟩]
def Qjx:List COp:=[oF 42 5 7,oL 43 42,oM 44 2,oo 45 (.bin .and false) [.t 44,.c (.d (.int .u8 15))],oo 46 (.call 33) [.t 45],oo 47 (.call 32) [.t 43,.t 46],oF 48 5 10,⟨none,.store 1,[.t 48,.t 47],true,none⟩]
def Qjc:List COp:=[oo 50 (.load true 8) [.t 10],oo 51 (.call 11) [.t 50],oM 49 51,oo 52 (.extract 0) [.t 49],oo 53 (.extract 1) [.t 49],oo 13 (.alloc [.nils 1,.nils 1,.nils 4,.d (.int .i64 0),.nils 1,.d (.int .i64 0),.nils 1,.nils 3,.nils 1,.nils 1]) [],⟨none,.store 10,[.t 13,.t 52],true,none⟩,oM 14 53]
def Qjd:List COp:=[oo 54 (.load true 8) [.t 7],⟨none,.store 8,[.t 10,.t 54],true,none⟩]
def Qje:List COp:=[oF 55 7 10,⟨none,.store 1,[.t 55,cI 9],false,none⟩]
def Qjf:List COp:=[oo 57 (.load true 8) [.t 10],oo 58 (.call 11) [.t 57],oM 56 58,oo 59 (.extract 0) [.t 56],oo 60 (.extract 1) [.t 56],oo 15 (.alloc [.nils 1,.nils 1,.nils 4,.d (.int .i64 0),.nils 1,.d (.int .i64 0),.nils 1,.nils 3,.nils 1,.nils 1]) [],⟨none,.store 10,[.t 15,.t 59],true,none⟩,oM 16 60]
def Qjg:List COp:=[oF 62 0 7,oo 63 (.load true 4) [.t 62],oF 64 4 7,oL 65 64,oF 66 5 7,oL 67 66,oo 68 (.call 34) [.t 63,.t 65,.t 67],oM 61 68,ot 69 (.extract 0) [.t 61],oo 70 (.extract 1) [.t 61],ot 17 .mov [.t 69],oM 18 70]
def Qjh:List COp:=[oM 71 9,oo 72 (.bin .eql false) [.t 71,cI 0],oM 73 72,⟨some 74,.mov,[.t 12],false,some (73,true)⟩,⟨some 75,.bin .eql false,[.t 74,cI 0],false,some (73,true)⟩,oo 76 .pick [.t 73,.t 75,.c (.d (.bool false))],oM 77 76,⟨some 78,.mov,[.t 14],false,some (77,true)⟩,⟨some 79,.bin .eql false,[.t 78,cI 0],false,some (77,true)⟩,oo 80 .pick [.t 77,.t 79,.c (.d (.bool false))],oM 81 80,⟨some 82,.mov,[.t 16],false,some (81,true)⟩,⟨some 83,.bin .eql false,[.t 82,cI 0],false,some (81,true)⟩,oo 84 .pick [.t 81,.t 83,.c (.d (.bool false))],oM 85 84,⟨some 86,.mov,[.t 18],false,some (85,true)⟩,⟨some 87,.bin .eql false,[.t 86,cI 0],false,some (85,true)⟩,oo 88 .pick [.t 85,.t 87,.c (.d (.bool false))],oM 89 88,⟨some 90,.fld 0,[.t 8],false,some (89,true)⟩,⟨some 91,.fld 0,[.t 90],false,some (89,true)⟩,⟨some 92,.load false 1,[.t 91],false,some (89,true)⟩,⟨some 93,.fld 0,[.t 11],false,some (89,true)⟩,⟨some 94,.fld 0,[.t 93],false,some (89,true)⟩,⟨some 95,.load false 1,[.t 94],false,some (89,true)⟩,⟨some 96,.call 24,[.t 92,.t 95],false,some (89,true)⟩,oo 97 .pick [.t 89,.t 96,.c (.d (.bool false))],oM 98 97,⟨some 99,.fld 0,[.t 13],false,some (98,true)⟩,⟨some 100,.fld 0,[.t 99],false,some (98,true)⟩,⟨some 101,.load false 1,[.t 100],false,some (98,true)⟩,⟨some 102,.fld 0,[.t 8],false,some (98,true)⟩,⟨some 103,.fld 0,[.t 102],false,some (98,true)⟩,⟨some 104,.load false 1,[.t 103],false,some (98,true)⟩,⟨some 105,.call 24,[.t 101,.t 104],false,some (98,true)⟩,oo 106 .pick [.t 98,.t 105,.c (.d (.bool false))],oM 107 106,⟨some 108,.fld 0,[.t 15],false,some (107,true)⟩,⟨some 109,.fld 0,[.t 108],false,some (107,true)⟩,⟨some 110,.load false 1,[.t 109],false,some (107,true)⟩,⟨some 111,.mov,[.t 17],false,some (107,true)⟩,⟨some 112,.call 16,[.t 110,.t 111],false,some (107,true)⟩,oo 113 .pick [.t 107,.t 112,.c (.d (.bool false))],oM 114 113,⟨some 115,.fld 9,[.t 15],false,some (114,true)⟩,⟨some 116,.load false 1,[.t 115],false,some (114,true)⟩,⟨some 117,.len,[.t 116],false,some (114,true)⟩,⟨some 118,.bin .eql false,[.t 117,cI 0],false,some (114,true)⟩,oo 119 .pick [.t 114,.t 118,.c (.d (.bool false))],oM 6 119]
def Qd9:CFn:=⟨3,120,[.t 6],.seq (.region Qjo 9 []) (.seq (.seq (.region Qjp 9 []) (.cond (.t 20) (.seq (.region Qjq 9 []) (.ret)) (.skip))) (.seq (.region Qjr 9 []) (.seq (.region Qjs 9 []) (.seq (.region Qjt 9 []) (.seq (.region Qju 17179869194 []) (.seq (.region Qjv 9 []) (.seq (.region Qjw 9 []) (.seq (.region Qjx 140737488355338 []) (.seq (.region Qjc 9 []) (.seq (.region Qjd 9 []) (.seq (.region Qje 9 []) (.seq (.region Qjf 9 []) (.seq (.region Qjg 9 []) (.seq (.region Qjh 9 []) (.ret)))))))))))))))⟩
def Qc4 (Qcy:Option Bool) (Qcr:Qbj→Option Qa) (Qv:Qa→Option (Qb6×Int)) (Qds:(List Int)→(List Int)→Option Bool) (Qc5:(List Int)→(List Int)→Option Bool) (Qdj:(List Int)→(List Int)→Option ((List Int))) (Q0:Int→Option ((List Int))) (Qd0:Qe→(List Int)→(List Int)→Option ((List Int)×Int)) (k1:Qbj) (fv2:Int) (uv3:Int):Option Bool :=
  (Qcy.bind fun x5=>(if x5 then ((Qcr k1).bind fun x8=>((Qv x8).bind fun (r10,r11)=>((Q0 (andI .u8 fv2 15)).bind fun x13=>((Qdj x8.zD x13).bind fun x15=>((Qv (Qa.mk x8.zA x8.zC x8.zB x15 x8.Tick)).bind fun (r17,r18)=>((Q0 (andI .u8 uv3 15)).bind fun x20=>((Qdj x8.zB x20).bind fun x22=>((Qv (Qa.mk x8.zA x8.zC x22 x8.zD x8.Tick)).bind fun (r24,r25)=>((Qv (Qa.mk x8.zA x8.zC x8.zB x8.zD 9)).bind fun (r27,r28)=>((Qd0 x8.zA x8.zC x8.zB).bind fun (r30,r31)=>(((if (r11==0) then (if (r18==0) then (if (r25==0) then (if (r28==0) then (if (r31==0) then ((Qc5 r10.zF.Kept r17.zF.Kept).bind fun x38=>(if x38 then ((Qc5 r24.zF.Kept r10.zF.Kept).bind fun x41=>(if x41 then ((Qds r27.zF.Kept r30).bind fun x44=>(if x44 then some ((r27.zJ.length:Int)==0) else some false)) else some false)) else some false)) else some false) else some false) else some false) else some false) else some false)).bind fun (x46:Bool)=>some x46))))))))))) else some false))
end Go.Abs
