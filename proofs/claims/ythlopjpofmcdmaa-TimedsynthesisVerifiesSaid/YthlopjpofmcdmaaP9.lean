/-
  Part 9 of the proof: see the last text.
-/
import Derived.Test.YthlopjpofmcdmaaP8
import Derived.Test.YthlopjpofmcdmaaProg
import Derived.KernelRfl
import Derived.Sort.Statements
import Derived.Shelf.SlLaysF0
import Derived.Ground.SlsfProg
import Derived.Ground.SlgmProg
import Derived.Shelf.SortM.Plain
import Derived.Shelf.SortM.SortNone
import Derived.Shelf.SlSortCmp.NoneTotal
import Derived.Shelf.Small.Bits
import Derived.WalkKit
import Derived.OpenShut
import Derived.ProofKit
import Derived.Carry
import GoSem.Claim
import GoSem.ClaimJoined
import Derived.JoinedTies
set_option linter.unusedVariables false
set_option linter.unusedSimpArgs false
set_option linter.unusedSectionVars false
section
namespace Go.Proofs
open Go.Abs
set_option maxRecDepth 100000
theorem Qjz:Qv Try.prog 6=some Qf0:=by kernel_rfl
theorem Qum:Qv Try.prog 9=some Qnm:=by kernel_rfl
theorem Qvo:Qv Try.prog 10=some Qoo:=by kernel_rfl
theorem Qpv:Qv Try.prog 11=some Qjl:=by kernel_rfl
theorem Qun:Qv Try.prog 12=some Qnq:=by kernel_rfl
theorem Qo2:Qv Try.prog 13=some Qja:=by kernel_rfl
theorem Q4z:Qv Try.prog 16=some Qyw:=by kernel_rfl
theorem Qra:Qv Try.prog 17=some Qkg:=by kernel_rfl
theorem Qmy:Qv Try.prog 21=some Qh6:=by kernel_rfl
theorem Qqb:Qv Try.prog 22=some Qj5:=by kernel_rfl
theorem Qwe:Qv Try.prog 23=some Qpu:=by kernel_rfl
theorem Qsv:Qv Try.prog 25=some Qlg:=by kernel_rfl
theorem Qsw:Qv Try.prog 26=some Qlh:=by kernel_rfl
theorem Qti:Qv Try.prog 27=some Qmi:=by kernel_rfl
theorem Qtj:Qv Try.prog 30=some Qme:=by kernel_rfl
theorem Qwf:Qv Try.prog 31=some Qpq:=by kernel_rfl
theorem Qqc:Qv Try.prog 33=some Qj3:=by kernel_rfl
theorem Quo:Qv Try.prog 35=some Qnk:=by kernel_rfl
theorem Qvp:Qv Try.prog 36=some Qon:=by kernel_rfl
theorem Qtk:Qv Try.prog 37=some Qmf:=by kernel_rfl
theorem Qpw:Qv Try.prog 38=some Qjk:=by kernel_rfl
theorem Qmz:Qv Try.prog 39=some Qh5:=by kernel_rfl
theorem Qqd:Qv Try.prog 40=some Qj2:=by kernel_rfl
theorem Qoe:Qv Try.prog 41=some Qip:=by kernel_rfl
theorem Ql1:Qv Try.prog 42=some Qhj:=by kernel_rfl
theorem Qqe:Qv Try.prog 43=some Qj4:=by kernel_rfl
theorem Qpx:Qv Try.prog 44=some Qjr:=by kernel_rfl
theorem Qxe:Qv Try.prog 45=some Qqr:=by kernel_rfl
theorem Qtl:Qv Try.prog 47=some Qmg:=by kernel_rfl
theorem Qpy:Qv Try.prog 48=some Qjm:=by kernel_rfl
theorem Qwg:Qv Try.prog 50=some Qps:=by kernel_rfl
theorem Qrb:Qv Try.prog 51=some Qkj:=by kernel_rfl
theorem Qo3:Qv Try.prog 53=some Qi8:=by kernel_rfl
theorem Qo4:Qv Try.prog 54=some Qi9:=by kernel_rfl
theorem Qup:Qv Try.prog 56=some Qnr:=by kernel_rfl
theorem Qrc:Qv Try.prog 57=some Qki:=by kernel_rfl
theorem Qo5:Qv Try.prog 58=some Qjb:=by kernel_rfl
theorem Qof:Qv Try.prog 59=some Qiq:=by kernel_rfl
theorem Qrd:Qv Try.prog 60=some Qkk:=by kernel_rfl
theorem Qnx:Qv Try.prog 61=some Qid:=by kernel_rfl
theorem Quq:Qv Try.prog 62=some Qns:=by kernel_rfl
theorem Qsx:Qv Try.prog 63=some Qli:=by kernel_rfl
theorem Qye:Qv Try.prog 64=some Qrr:=by kernel_rfl
theorem Qtm:Qv Try.prog 65=some Qmd:=by kernel_rfl
theorem Qur:Qv Try.prog 69=some Qnn:=by kernel_rfl
theorem Qre:Qv Try.prog 70=some Qkh:=by kernel_rfl
theorem Qsy:Qv Try.prog 71=some Qld:=by kernel_rfl
theorem Qxf:Qv Try.prog 72=some Qqq:=by kernel_rfl
theorem Qrf:Qv Try.prog 74=some Qkf:=by kernel_rfl
theorem Qtn:Qv Try.prog 75=some Qmh:=by kernel_rfl
theorem Qny:Qv Try.prog 76=some Qia:=by kernel_rfl
theorem Qo6:Qv Try.prog 77=some Qi7:=by kernel_rfl
theorem Qnz:Qv Try.prog 79=some Qic:=by kernel_rfl
theorem Qqf:Qv Try.prog 80=some Qj6:=by kernel_rfl
theorem Ql2:Qv Try.prog 81=some Qhk:=by kernel_rfl
theorem Qo7:Qv Try.prog 82=some Qjc:=by kernel_rfl
theorem Ql3:Qv Try.prog 83=some Qhl:=by kernel_rfl
theorem Ql4:Qv Try.prog 84=some Qhm:=by kernel_rfl
theorem Qvq:Qv Try.prog 85=some Qol:=by kernel_rfl
theorem Qto:Qv Try.prog 86=some Qmc:=by kernel_rfl
theorem Qus:Qv Try.prog 89=some Qno:=by kernel_rfl
theorem Qwh:Qv Try.prog 90=some Qpt:=by kernel_rfl
theorem Qvr:Qv Try.prog 91=some Qom:=by kernel_rfl
theorem Qut:Qv Try.prog 92=some Qnp:=by kernel_rfl
theorem Q1c:Qv Try.prog 95=some Qvx:=by kernel_rfl
theorem Qxg:Qv Try.prog 96=some Qqp:=by kernel_rfl
theorem Qn0:Qv Try.prog 97=some Qib:=by kernel_rfl
theorem Quu:Qv Try.prog 98=some Qnl:=by kernel_rfl
theorem Q0o:Qv Try.prog 115=some Qug:=by kernel_rfl
theorem Qxh:Qv Try.prog 116=some Qqo:=by kernel_rfl
end Go.Proofs
end
section
namespace Go.Abs
open Go Go.Sort
section plain
variable {β:Type}
def insB (lt:β→β→Bool) (x:β):List β→List β
 | []=>[x]
 | y::ys=>if lt y x then y::insB lt x ys else x::y::ys
def Quv (lt:β→β→Bool):List β→List β
 | []=>[]
 | x::xs=>insB lt x (Quv lt xs)
theorem Q0p (lt:β→β→Bool) (x:β):∀ l,(insB lt x l).Perm (x::l)
 | []=>.refl _
 | y::ys=>by
  unfold insB;split
  ·exact ((Q0p lt x ys).cons y).trans (.swap x y ys)
  ·exact .refl _
theorem Qsz (lt:β→β→Bool):∀ l,(Quv lt l).Perm l
 | []=>.refl _
 | x::xs=>(Q0p lt x _).trans ((Qsz lt xs).cons x)
theorem Qs0 (lt:β→β→Bool) (l:List β):(Quv lt l).length=l.length:=(Qsz lt l).length_eq
theorem Q0q {lt:β→β→Bool} (h:SWO lt) (x:β):∀ l,l.Pairwise (fun a b=>lt b a=false)→(insB lt x l).Pairwise fun a b=>lt b a=false
 | [],_=>by simp [insB]
 | y::ys,hl=>by
  obtain ⟨h1,h2⟩:=List.pairwise_cons.1 hl;unfold insB;split
  ·rename_i hc;refine List.pairwise_cons.2 ⟨fun z hz=>?_,Q0q h x ys h2⟩;rcases List.mem_cons.1 ((Q0p lt x ys).mem_iff.1 hz) with rfl|hz
   ·cases hb:lt z y with
    | false=>rfl
    | true=>have:=h.trans _ _ _ hc hb;rw [h.irrefl] at this;cases this
   ·exact h1 z hz
  ·rename_i hc;have hc:lt y x=false:=by cases h:lt y x<;>simp_all
   refine List.pairwise_cons.2 ⟨fun z hz=>?_,hl⟩;rcases List.mem_cons.1 hz with rfl|hz
   ·exact hc
   ·exact h.ntrans _ _ _ (h1 z hz) hc
theorem Qs1 {lt:β→β→Bool} (h:SWO lt):∀ l,(Quv lt l).Pairwise fun a b=>lt b a=false
 | []=>.nil
 | x::xs=>Q0q h x _ (Qs1 h xs)
end plain
def Qkl (a b:Int):Bool:=decide (a<b)
end Go.Abs
end
section
namespace Go.Abs
def Qbgk (l:List Int):Option (List Int):=if l.length≤lim then some (Quv Qkl l) else none
end Go.Abs
end
section
namespace Go.Abs
def okRm (x:Qb):Bool:=decide (0≤x.State∧x.State<4611686018427387904)
end Go.Abs
end
section
namespace Go.Abs
open Go Go.Abs
set_option maxRecDepth 10000
set_option maxHeartbeats 4000000
def Qb0:Nat:=1099511627776
def Qn1:=Qdc
def Qhv:=Qc5 Qb0
def Qjd:=Qei Qb0
def Qg8:=Qdd Qjd
def Qgw:=Qc3 Qg8 Qb0
def Qj0:=Qeo Qhv Qgw
def Qim:=Qdl Qb0
def Qgx:=Q6
def Qpz:=Qew
def Qkm:=Qgf Qpz
def Qje:=Qdu
def Qfh:=Qcj Qkm Qje Qb0
def Qbg:=Qh Qfh
def Qfb:=Qbj Qim Qbg Qj0 Qgx Qb0
def Qfc:=Qbk Qbg Qb0
def Qfs:=Qbp
def Qin:=Qcx Qb0
def Qbe:=Qj Qin
def Qft:=Qbq Qbg
def Qer:=Qb2 Qbe Qft
def Qdw:=Q3 Qbe Qbg Qfs Qer Qb0
def Qc9:=Qz Qbg Qb0
def Qd4:=Qb8 Qc9 Qdw Qb0
def Qir:=Qcb
def Qqs:=Qex
def Qhn:=Qbx Qbg Qqs Qb0
def Qjv:=Qb9 Qfb Qfc Qd4 Qc9 Qbe Qir Qhn Qb0
def Qjw:=Qcq
def Qmj:=Qdr Qgx Qbgk Qb0
def Qkn:=Qcz Qmj Qjw
def Qqt:=Qey Qb0
def Qyx:=Qjn Qqt
def Qjx:=Qd2 Qjv Qyx Qkn Qn1
def Qdk:=Qby Qb0
def Qfu:=Qbi
def Qc6:=Qbu Qb0
def Qd5:=Qb6 Qb0
def Qg9:=Qde Qd5 Qc6 Qb0
def Qfv:=Qdf Qb0
def Qfi:=Qck Qfu Qg9 Qd5 Qc6 Qfv Qb0
def Qhw:=Qdo Qfu Qfi Qb0
def Qf6:=Qdp Qdk Qhw Qb0
def Qe9:=Qbz Qb0
def Qbc:=Qn Qb0
def Qes:=Qb3 Qbc Qb0
def Qfa:=Qcc Qbc Qes Qb0
def Qda:=Q0 Qbc Qb0
def Qez:=Qca Qda Qfa Qb0
def Qha:=Qdg Qe9 Qez Qb0
def Qet:=Qb4 Qda Qbc Qb0
def Qe0:=Qcf Qb0
def Qhb:=Qdh Qb0
def Qfw:=Qbr
def Qeu:=Qb5 Qbe Qbg Qdw Qfw
def Qfj:=Qcl Qeu
def Qi2:=Qc4 Qb0
def Qek:=Qcm Qi2
def Qc1:=Qu
def Qdz:=Qba Qc1
def Qd0:=Qbl Qbg Qc1
def Qd1:=Qbm Qc1
def Qej:=Qbs Qbe Qbg Qdz Qd0 Qd1
def Qfk:=Qcn Qej
def Qg5:=Qcd Qb0
def Qdn:=Qbw Qg5
def Qdm:=Qcg Qfb Qfc Qek Qhb Qfj Qdn Qfk
def Qfx:=Qdi Qbc Qb0
def Qec:=Qcy Qbc Qb0
def Qds:=Qcr Qfx Qec Qb0
def Qc2:=Qeb Qjx Qf6 Qha Qet Qe0 Qdm Qds Qb0
end Go.Abs
end
section
namespace Go.Proofs
open Go.Shelf
end Go.Proofs
end
section
namespace Go.Abs
open Go Go.Sort Go.RowKit
theorem Q6e {P:Program} {f:FuncId} {ex:Array Value} {exV:List V} {sz nb:Nat} {M:Mem} (hb:Qk9 P f=true) (hex:∀ g w us,RFs g w exV us→us=ex.toList)
  (h:∀ (p:Option Addr) (cap:Nat) (w:World),Calls P f (#[.slice p 0 cap]++ex) w fun e' w'=>e' = .returned (.tuple #[])∧w'=w) :
  ACalls P f (.d (.lst sz [])::exV) M nb (.tup []) M nb:=by
 refine ⟨hb,Nat.le_refl _,fun w g us hm hMon hfresh hus hfl hons=>?_⟩;obtain ⟨u0,us',rfl,hu0,hus'⟩:=hus;have h1:=hex _ _ _ hus';subst h1;have h2:∃ p cap,u0 = .slice p 0 cap:=by
  have:=RF_d.1 hu0;obtain ⟨a,cap,rfl,_,_⟩:=this;exact ⟨a,cap,rfl⟩
 obtain ⟨p,cap,rfl⟩:=h2;have e1:(Value.slice p 0 cap::ex.toList).toArray = #[.slice p 0 cap]++ex:=by apply Array.ext';simp
 rw [e1];refine (h p cap w).mono ?_;rintro e' w' ⟨rfl,rfl⟩;exact ⟨_,g,rfl,hm,⟨[],rfl,rfl⟩,trivial,hMon,Fr.refl _ _ _⟩
theorem Q6f (l:List Int):(l.mergeSort fun x y=>decide (x≤y))=Quv Qkl l:=by
 have hO:Go.Sort.SWO Qkl:=⟨fun x=>by simp [Qkl],fun x y z h1 h2=>by simp [Qkl] at *;omega,fun x y z h1 h2=>by simp [Qkl] at *;omega⟩;refine List.Perm.eq_of_pairwise (le:=fun a b=>Qkl b a=false) (fun a b _ _ h1 h2=>by simp [Qkl] at *;omega) ?_ (Qs1 hO l) ((List.mergeSort_perm _ _).trans (Qsz _ l).symm);have:=List.pairwise_mergeSort (le:=fun x y:Int=>decide (x≤y)) (fun a b c h1 h2=>by simp at *;omega) (fun a b=>by simp;omega) l;exact this.imp fun h=>by simp [Qkl] at *;omega
end Go.Abs
end
section
namespace Go.Abs
open Go Go.Sort Go.RowKit
theorem Q0r (xs:List Int):rowV (eI .i64) xs=xs.map (Value.int .i64):=by
 unfold rowV
 induction xs with
 | nil=>rfl
 | cons x xs ih=>simp only [List.map_cons,List.flatten_cons,List.map_append,ih];rfl
theorem Qba6 {P:Program} {c:Nat} (hb:Qk9 P c=true)
  (hs:∀ (blk off cap:Nat) (zs:List Int) (w:World),Holds (Value.int .i64) w blk off zs.toArray→blk<w.heap.size→zs.length<4611686018427387904 →
   Calls P c #[.slice (some ⟨blk,off,none⟩) zs.length cap] w fun e w'=>e = .returned (.tuple #[])∧∃ n os,w'=grow (putRow (Value.int .i64) (Sort.ahead w n) blk off (zs.mergeSort fun x y=>decide (x≤y)).toArray) os)
  (hnone:∀ (p:Option Addr) (cap:Nat) (w:World),Calls P c (#[.slice p 0 cap] ++ #[]) w fun e' w'=>e' = .returned (.tuple #[])∧w'=w) :
  RowK P c (eI .i64) 1 [] (fun l=>if l.length≤lim then some (Quv Qkl l) else none):=by
 have hrow:Qbgc P c (eI .i64) #[] (fun xs=>Quv Qkl xs):=by
  intro blk cap xs w hcell hblk hsz;refine Calls.mono (hs blk 0 cap xs w ?_ hblk hsz) ?_
  ·intro j hj;have hj' : j<xs.length:=by simpa using hj
   have:=hcell j (by rw [Q0r];simpa using hj');rw [Q0r] at this;rw [Nat.zero_add];refine ⟨?_,this.2⟩;rw [this.1,getElem!_pos xs.toArray j hj];simp [hj']
  ·rintro e w' ⟨rfl,n,os,rfl⟩;refine ⟨rfl,n,os,?_⟩;rw [Q6f,Q0r];congr 1;unfold putRow;congr 1;funext c;unfold putCells;congr 1;funext k x;simp only [List.size_toArray,List.length_map];split
   ·rename_i h;simp only [id];rw [getElem!_pos _ _ (by simp;omega),getElem!_pos _ _ (by simp;omega)];simp
   ·rfl
 intro xs ys h;dsimp only at h;split at h<;>cases h;rename_i hl;refine ⟨Qs0 _ _,fun h0=>?_,fun hl2 cap k0 M nb hM=>?_⟩
 ·subst h0;exact ⟨rfl,fun M nb=>Q6e (ex:=#[]) (exV:=[]) hb (fun _ _ _ h=>h) hnone⟩
 ·exact Q8q (e:=eI .i64) (fun _=>rfl) (fun _=>rfl) (fun xs=>Qs0 _ _) (ex:=#[]) (exV:=[]) (fun _ _ _ h=>h) hb hrow xs cap k0 M nb hM (by unfold lim at hl;omega)
end Go.Abs
end
section
namespace Go.Proofs
open Go.Shelf
def Try.laysSlM5_f56_ren:Go.Shelf.Ren:=⟨fun|5=>73|8=>94|7=>93|19=>113|20=>114|10=>105|11=>106|12=>107|13=>108|14=>109|15=>110|16=>95|17=>111|18=>112|30=>120|31=>121|32=>122|33=>123|34=>124|35=>115|40=>133|n=>n,fun|23=>32|25=>3|3=>3|32=>142|22=>32|0=>0|44=>159|46=>161|4=>4|36=>153|35=>152|41=>127|5=>5|9=>9|53=>163|57=>167|63=>174|64=>66|n=>n,fun|n=>n⟩
theorem Try.laysSlM5_f56:Go.Proofs.SlLaysM.n5 Try.prog Try.laysSlM5_f56_ren:={
 mixed:=by kernel_rfl
 f5:=⟨Try.f73.name,by decide,Try.func73.trans (congrArg some (by kernel_rfl))⟩
 f7:=⟨Try.f93.name,by decide,Try.func93.trans (congrArg some (by kernel_rfl))⟩
 f8:=Try.func94.trans (congrArg some (by kernel_rfl))
 f10:=⟨Try.f105.name,by decide,Try.func105.trans (congrArg some (by kernel_rfl))⟩
 f11:=⟨Try.f106.name,by decide,Try.func106.trans (congrArg some (by kernel_rfl))⟩
 f12:=⟨Try.f107.name,by decide,Try.func107.trans (congrArg some (by kernel_rfl))⟩
 f13:=⟨Try.f108.name,by decide,Try.func108.trans (congrArg some (by kernel_rfl))⟩
 f14:=⟨Try.f109.name,by decide,Try.func109.trans (congrArg some (by kernel_rfl))⟩
 f15:=⟨Try.f110.name,by decide,Try.func110.trans (congrArg some (by kernel_rfl))⟩
 f16:=⟨Try.f95.name,by decide,Try.func95.trans (congrArg some (by kernel_rfl))⟩
 f17:=⟨Try.f111.name,by decide,Try.func111.trans (congrArg some (by kernel_rfl))⟩
 f18:=⟨Try.f112.name,by decide,Try.func112.trans (congrArg some (by kernel_rfl))⟩
 f19:=Try.func113.trans (congrArg some (by kernel_rfl))
 f20:=Try.func114.trans (congrArg some (by kernel_rfl))
 f30:=⟨Try.f120.name,by decide,Try.func120.trans (congrArg some (by kernel_rfl))⟩
 f31:=Try.func121.trans (congrArg some (by kernel_rfl))
 f32:=Try.func122.trans (congrArg some (by kernel_rfl))
 f33:=⟨Try.f123.name,by decide,Try.func123.trans (congrArg some (by kernel_rfl))⟩
 f34:=⟨Try.f124.name,by decide,Try.func124.trans (congrArg some (by kernel_rfl))⟩
 f35:=⟨Try.f115.name,by decide,Try.func115.trans (congrArg some (by kernel_rfl))⟩
 f40:=⟨Try.f133.name,by decide,Try.func133.trans (congrArg some (by kernel_rfl))⟩
 t0:=Try.underlying0
 a0:=Try.isAgg0
 z0:=Try.sizeOf0
 v0:=Try.zeroValue0
 t3:=Try.underlying3
 a3:=Try.isAgg3
 z3:=Try.sizeOf3
 v3:=Try.zeroValue3
 t4:=Try.underlying4
 a4:=Try.isAgg4
 z4:=Try.sizeOf4
 v4:=Try.zeroValue4
 t5:=Try.underlying5
 a5:=Try.isAgg5
 z5:=Try.sizeOf5
 v5:=Try.zeroValue5
 t9:=Try.underlying9
 a9:=Try.isAgg9
 z9:=Try.sizeOf9
 v9:=Try.zeroValue9
 t22:=Try.underlying32
 a22:=Try.isAgg32
 z22:=Try.sizeOf32
 v22:=Try.zeroValue32
 t23:=Try.underlying32
 a23:=Try.isAgg32
 z23:=Try.sizeOf32
 v23:=Try.zeroValue32
 t25:=Try.underlying3
 a25:=Try.isAgg3
 z25:=Try.sizeOf3
 v25:=Try.zeroValue3
 t32:=Try.underlying142
 a32:=Try.isAgg142
 z32:=Try.sizeOf142
 v32:=Try.zeroValue142
 t35:=Try.underlying152
 a35:=Try.isAgg152
 z35:=Try.sizeOf152
 v35:=Try.zeroValue152
 t36:=Try.underlying153
 a36:=Try.isAgg153
 z36:=Try.sizeOf153
 v36:=Try.zeroValue153
 t41:=Try.underlying127
 a41:=Try.isAgg127
 z41:=Try.sizeOf127
 v41:=Try.zeroValue127
 t44:=Try.underlying159
 a44:=Try.isAgg159
 z44:=Try.sizeOf159
 v44:=Try.zeroValue159
 t46:=Try.underlying161
 a46:=Try.isAgg161
 z46:=Try.sizeOf161
 v46:=Try.zeroValue161
 t53:=Try.underlying163
 a53:=Try.isAgg163
 z53:=Try.sizeOf163
 v53:=Try.zeroValue163
 t57:=Try.underlying167
 a57:=Try.isAgg167
 z57:=Try.sizeOf167
 v57:=Try.zeroValue167
 t63:=Try.underlying174
 a63:=Try.isAgg174
 z63:=Try.sizeOf174
 v63:=Try.zeroValue174
 t64:=Try.underlying66
 a64:=Try.isAgg66
 z64:=Try.sizeOf66
 v64:=Try.zeroValue66 }
open Go.Sort Go.RowKit in
theorem Try.slices_Sort_int (blk off cap:Nat) (zs:List Int) (w:World) (hH:Holds (Value.int .i64) w blk off zs.toArray) (hblk:blk<w.heap.size) (hsz:zs.length<4611686018427387904) :
  Calls Try.prog 73 #[.slice (some ⟨blk,off,none⟩) zs.length cap] w fun e w' =>
   e = .returned (.tuple #[])∧∃ n os,w'=grow (putRow (Value.int .i64) (Sort.ahead w n) blk off (zs.mergeSort fun x y=>decide (x≤y)).toArray) os:=AnyM.slices_Sort_int Try.laysSlM5_f56 blk off cap zs w hH hblk hsz
open Go.RowKit Go.Sort in
theorem Try.slices_Sort_int_none (p:Option Addr) (cap:Nat) (w:World) :
  Calls Try.prog 73 #[.slice p 0 cap] w fun e w'=>e = .returned (.tuple #[])∧w'=w:=AnyM.slices_Sort_int_none Try.laysSlM5_f56 p cap w
end Go.Proofs
end
section
namespace Go.Proofs
open Go.Abs
theorem Try.rowK73:Go.Abs.RowK Try.prog 73 (eI .i64) 1 [] Qbgk :=
 Qba6 (by kernel_rfl) Try.slices_Sort_int Try.slices_Sort_int_none
end Go.Proofs
end
section
namespace Go.Abs
open Go Go.Sort Go.Shelf Go.RowKit Go.Lib Go.Proofs
section
variable {α:Type} [Inhabited α]
end
end Go.Abs
end
section
namespace Go.Proofs
open Go.Shelf Go.RowKit Go.Lib Go.Sort Go.Abs
abbrev RmOk:={x:Qb // okRm x=true}
instance:Inhabited RmOk:=⟨⟨⟨0,0,0,0⟩,rfl⟩⟩
end Go.Proofs
end
section
namespace Go.Proofs
open Go Go.Abs
set_option maxRecDepth 10000
set_option maxHeartbeats 4000000
theorem Qtp:Qji Try.prog 35 Qn1:=Qrs Quo
theorem Quw:Qj8 Try.prog 85 Qhv:=Qsr Qvq Qb0
theorem Qwi:Qlb Try.prog 116 Qjd:=Qui Qxh Qb0
theorem Qtq:Qjj Try.prog 98 Qg8:=Qrt Qwi Quu
theorem Qs2:Qix Try.prog 86 Qgw:=Qq3 Qtq Qto Qb0
theorem Qxi:Qmr Try.prog 64 Qj0:=Qvn Quw Qs2 Qye
theorem Qvs:Qku Try.prog 31 Qim:=Qte Qwf Qb0
theorem Qln:Qgt Try.prog 65 Qgx:=Qq4 Qtm
theorem Qy3:Qpr Try.prog 115 Qpz:=Qxd Q0o
theorem Q0s:Qq2 Try.prog 95 Qkm:=Qyd Qy3 Q1c
theorem Qwj:Qlc Try.prog 96 Qje:=Quj Qxg
theorem Qqg:Qhd Try.prog 74 Qfh:=Qow Q0s Qwj Qrf Qb0
theorem Qc7:Qcp Try.prog 50 Qbg:=Qtf Qqg Qwg
theorem Qlo:Qgu Try.prog 30 Qfb:=Qq5 Qvs Qc7 Qxi Qln Qtj Qb0
theorem Qlp:Qgv Try.prog 37 Qfc:=Qq6 Qc7 Qtk Qb0
theorem Qm0:Qfo Try.prog 76 Qfs:=Qlj Qny
theorem Qr1:Qih Try.prog 71 Qin:=Qp7 Qsy Qb0
theorem Qd6:Qcs Try.prog 40 Qbe:=Qn9 Qr1 Qqd
theorem Qm1:Qfp Try.prog 97 Qft:=Qlk Qc7 Qn0
theorem Qog:Qgb Try.prog 77 Qer:=Qms Qd6 Qm1 Qo6
theorem Qis:Qeq Try.prog 53 Qdw:=Qmt Qd6 Qc7 Qm0 Qog Qo3 Qb0
theorem Qho:Qd9 Try.prog 39 Qc9:=Qk5 Qc7 Qmz Qb0
theorem Qo8:Qgn Try.prog 38 Qd4:=Qnt Qho Qis Qpw Qb0
theorem Qn2:Qf2 Try.prog 41 Qir:=Qlz Qoe
theorem Qwk:Qle Try.prog 72 Qqs:=Quk Qxf
theorem Qlq:Qe5 Try.prog 42 Qhn:=Qkv Qc7 Qwk Ql1 Qb0
theorem Qo9:Qgo Try.prog 11 Qjv:=Qnu Qlo Qlp Qo8 Qho Qd6 Qn2 Qlq Qpv Qb0
theorem Qpa:Qgp Try.prog 48 Qjw:=Qnv Qpy
theorem Qs3:Qiy Try.prog 47 Qmj:=Qq7 Qln Try.rowK73 Qtl Qb0
theorem Qqh:Qhe Try.prog 17 Qkn:=Qox Qs3 Qpa Qra
theorem Qwl:Qlf Try.prog 45 Qqt:=Qul Qxe Qb0
theorem Q3g:Quh Try.prog 16 Qyx:=Q0n Qwl Q4z
theorem Qtr:Qjo Try.prog 9 Qjx:=Qru Qo9 Q3g Qqh Qtp Qum
theorem Qp0:Qg1 Try.prog 33 Qdk:=Qoa Qqc Qb0
theorem Qmk:Qg7 Try.prog 69 Qfu:=Qrv Qur
theorem Qn3:Qhu Try.prog 91 Qc6:=Qss Qvr Qb0
theorem Qop:Qii Try.prog 90 Qd5:=Qtg Qwh Qb0
theorem Qts:Qjp Try.prog 89 Qg9:=Qrw Qop Qn3 Qus Qb0
theorem Qtt:Qjq Try.prog 92 Qfv:=Qrx Qut Qb0
theorem Qqi:Qhf Try.prog 70 Qfi:=Qoy Qmk Qts Qop Qn3 Qtt Qre Qb0
theorem Qux:Qj9 Try.prog 36 Qhw:=Qst Qmk Qqi Qvp Qb0
theorem Quy:Qka Try.prog 10 Qf6:=Qsu Qp0 Qux Qvo Qb0
theorem Qp1:Qg2 Try.prog 43 Qe9:=Qob Qqe Qb0
theorem Qe3:Qd3 Try.prog 23 Qbc:=Qth Qwe Qb0
theorem Qoh:Qgc Try.prog 54 Qes:=Qmu Qe3 Qo4 Qb0
theorem Qp2:Qg3 Try.prog 22 Qfa:=Qoc Qe3 Qoh Qqb Qb0
theorem Qhp:Qea Try.prog 21 Qda:=Qk6 Qe3 Qmy Qb0
theorem Qpb:Qgq Try.prog 44 Qez:=Qnw Qhp Qp2 Qpx Qb0
theorem Qtu:Qjs Try.prog 12 Qha:=Qry Qp1 Qpb Qun Qb0
theorem Qoi:Qgd Try.prog 13 Qet:=Qmv Qhp Qe3 Qo2 Qb0
theorem Qr2:Qij Try.prog 25 Qe0:=Qp8 Qsv Qb0
theorem Qtv:Qjt Try.prog 56 Qhb:=Qrz Qup Qb0
theorem Qm2:Qfq Try.prog 79 Qfw:=Qll Qnz
theorem Qoj:Qge Try.prog 58 Qeu:=Qmw Qd6 Qc7 Qis Qm2 Qo5
theorem Qqj:Qhg Try.prog 57 Qfj:=Qoz Qoj Qrc
theorem Qs4:Qiz Try.prog 75 Qi2:=Qq8 Qtn Qb0
theorem Qqk:Qhh Try.prog 51 Qek:=Qo0 Qs4 Qrb
theorem Qf4:Qdv Try.prog 82 Qc1:=Qmx Qo7
theorem Qlr:Qe6 Try.prog 81 Qdz:=Qkw Qf4 Ql2
theorem Qls:Qe7 Try.prog 83 Qd0:=Qkx Qc7 Qf4 Ql3
theorem Qlt:Qe8 Try.prog 84 Qd1:=Qky Qf4 Ql4
theorem Qm3:Qfr Try.prog 61 Qej:=Qlm Qd6 Qc7 Qlr Qls Qlt Qnx
theorem Qql:Qhi Try.prog 60 Qfk:=Qo1 Qm3 Qrd
theorem Qp3:Qg4 Try.prog 80 Qg5:=Qod Qqf Qb0
theorem Qn4:Qf3 Try.prog 59 Qdn:=Ql0 Qp3 Qof
theorem Qr3:Qik Try.prog 26 Qdm:=Qp9 Qlo Qlp Qqk Qtv Qqj Qn4 Qql Qsw
theorem Qtw:Qju Try.prog 62 Qfx:=Qr0 Qe3 Quq Qb0
theorem Qr4:Qil Try.prog 63 Qec:=Qqa Qe3 Qsx Qb0
theorem Qs5:Qi0 Try.prog 27 Qds:=Qq9 Qtw Qr4 Qti Qb0
theorem Quz:Qfz Try.prog 6 Qc2:=Qi1 Qtr Quy Qtu Qoi Qr2 Qr3 Qs5 Qjz Qb0
end Go.Proofs
end
section
namespace Go.Abs
open Go Go.ChangeShapes Go.WideShapes Go.ChangeAt Go.RowKit
def live (w:World):Nat→Nat→Prop:=fun b o=>(w.cell? ⟨b,o,none⟩).isSome=true
def RDs (w:World):List D→List Value→Prop
 | [],vs=>vs=[]
 | x::xs,vs=>∃ u us,vs=u::us∧RD (live w) w x u∧RDs w xs us
theorem Q14 {w:World}:∀ {xs ys:List D} {us vs:List Value},RDs w xs us→RDs w ys vs→RDs w (xs++ys) (us++vs)
 | [],ys,us,vs,h,k=>by grind [RDs]
 | x::xs,ys,us,vs,⟨u,us',e,r,h⟩,k=>by subst e;exact ⟨u,us'++vs,by simp,r,Q14 h k⟩
def RDat (w:World) (cs:List Value) (off:Nat) (xs:List D):Prop:=RDs w xs ((cs.drop off).take xs.length)
theorem RDat.app {w:World} {cs:List Value} {off:Nat} {xs ys:List D} (h:RDat w cs off xs) {n:Nat} (hn:n=off+xs.length) (k:RDat w cs n ys):RDat w cs off (xs++ys):=by
 grind [Q14,RDat,List.length_append,List.drop_drop]
theorem RDat.nil {w:World} {cs:List Value} {off:Nat}:RDat w cs off []:=by simp [RDat,RDs]
theorem RDat.all {w:World} {cs:List Value} {xs:List D} (h:RDat w cs 0 xs) (hl:cs.length=xs.length):RDs w xs cs:=by
 grind [RDat,List.take_length]
theorem Qba7 {w:World} {b:Nat}:∀ {xs:List D} {vs:List Value} {o:Nat},RDs w xs vs→(∀ i v,vs[i]? = some v→w.cell? ⟨b,o+i,none⟩=some v)→RDc (live w) w b xs o
 | [],vs,o,_,_=>by simp [RDc]
 | x::xs,vs,o,⟨u,us,e,r,h⟩,hc=>by
  subst e;have h0:=hc 0 u rfl;rw [Nat.add_zero] at h0;refine ⟨by simp [live,h0],⟨u,h0,r⟩,Qba7 h fun i v hv=>?_⟩;have:=hc (i+1) v (by simpa using hv)
  grind
def Qwm {α:Type} (P:Program) (t:TypeId) (e:α→List D) (wf:α→Prop):Prop :=
 ∀ {H:Type} {enc:TypeId×Value→H} {w:World} {base:Nat} {spare:Nat→Bool} {held:Bool} {fuel:Nat} {cs:List Value} {x:DataW H×List MemPlace},
  DataW.trod enc P w base spare held fuel t cs=some x→∃ a,wf a∧RDs w (e a) cs
def wfI (k:IntKind) (n:Int):Prop:=(Lit.int k n).wf=true
def wfL {α:Type} (wf:α→Prop) (l:List α):Prop:=l.length≤maxLen∧∀ a∈l,wf a
variable {P:Program} {t:TypeId}
theorem Q0t {k:IntKind} (ht:P.underlying t=some (.int k)):Qwm P t (fun n:Int=>[.int k n]) (wfI k):=by
 intro H enc w base spare held fuel cs x h;obtain ⟨n,rfl,_,hw⟩:=DataW.trod_int ht h;exact ⟨n,hw,_,_,rfl,by simp [RD],rfl⟩
theorem cells?_get {w:World} {base:Nat} {a:Addr} {n:Nat} {cs:List Value} (h:w.cells? base a n=some cs):cs.length=n∧∀ i v,cs[i]? = some v→w.cell? (a.add i)=some v:=by
 obtain ⟨h1,h2,h3⟩:=World.cells?_some h
 grind
theorem Qbe6 {α:Type} {el:TypeId} {e:α→List D} {wf:α→Prop} {sz:Nat} (ht:P.underlying t=some (.slice el)) (he:Qwm P el e wf) (hsz:P.cellsOf el=sz) (hpos:0<sz) (hlen:∀ a,(e a).length=sz) :
  Qwm P t (fun l:List α=>[.lst sz (l.map e)]) (wfL wf):=by
 intro H enc w base spare held fuel cs x h;rcases DataW.trod_slice ht h with ⟨rfl,_⟩|⟨a,len,cap,Qe4,rest,n,_,rfl,_,hb,hl,hm,helen,hel,_,_⟩
 ·exact ⟨[],⟨by simp,by simp⟩,_,_,rfl,by simp only [RD,List.map_nil,List.length_nil];exact ⟨none,0,rfl,Nat.le_refl _,.inl trivial⟩,rfl⟩
 ·have key:∀ m,m≤len→∃ l:List α,l.length=m∧(∀ x∈l,wf x)∧∀ i y,l[i]? = some y→∃ vs,w.cells? base (a.add (i*sz)) sz=some vs∧RDs w (e y) vs:=by
   intro m
   induction m with
   | zero=>simp_all
   | succ m ih =>
    intro hm';obtain ⟨l,h1,h2,h3⟩:=ih (by omega);have h4:=hel m (by omega);have h5:Qe4[m]? = some Qe4[m]:=List.getElem?_eq_getElem (by omega);rw [h5,hsz,Option.bind_eq_some_iff] at h4;obtain ⟨vs,h6,h7⟩:=h4;obtain ⟨y,h8,h9⟩:=he h7;refine ⟨l++[y],by simp [h1],?_,fun i z hz=>?_⟩
    all_goals grind
  obtain ⟨l,h1,h2,h3⟩:=key len (Nat.le_refl _);have hmax:l.length≤maxLen:=by omega
  refine ⟨l,⟨hmax,h2⟩,_,_,rfl,?_,rfl⟩;simp only [RD,List.length_map,h1];refine ⟨some a,cap,rfl,hl,?_⟩;cases l with
  | nil=>exact .inl rfl
  | cons y l =>
   right;have hspot:a.spot=none:=by
    obtain ⟨vs,h4,h5⟩:=h3 0 y rfl;obtain ⟨h6,h7⟩:=cells?_get h4;have hv:vs[0]? = some vs[0]:=List.getElem?_eq_getElem (by omega);have:=h7 0 _ hv;cases hs:a.spot with
    | none=>rfl
    | some s =>
     grind [Go.World.cell?,Go.Addr.add]
   obtain ⟨b,o,sp⟩:=a;simp only at hspot;subst hspot;refine ⟨b,o,rfl,?_⟩;have row:∀ (l:List α) (j:Nat),(∀ i y,l[i]? = some y→∃ vs,w.cells? base ((⟨b,o,none⟩ : Addr).add ((j+i)*sz)) sz=some vs∧RDs w (e y) vs)→RDL (live w) w sz b (l.map e) (o+j*sz):=by
    intro l
    induction l with
    | nil=>intro j _;simp [RDL]
    | cons y l ih =>
     intro j h;obtain ⟨vs,h4,h5⟩:=h 0 y rfl;obtain ⟨h6,h7⟩:=cells?_get h4;refine ⟨hlen y,Qba7 h5 fun i v hv=>?_,?_⟩
     ·grind [Qhr,Nat.add_assoc]
     ·have:=ih (j+1) fun i y hy=>by
       have:=h (i+1) y (by simpa using hy)
       grind
      grind
   have:=row (y::l) 0 fun i y hy=>by simpa using h3 i y hy
   simpa using this
theorem Qev {α:Type} {el:TypeId} {e:α→List D} {wf:α→Prop} {sz:Nat} (he:Qwm P el e wf) (hsz:P.cellsOf el=sz) (hlen:∀ a,(e a).length=sz)
  {H:Type} {enc:TypeId×Value→H} {w:World} {base:Nat} {spare:Nat→Bool} {held:Bool} {fuel off:Nat} {cs:List Value} {x:DataW H×List MemPlace}
  (h:DataW.trod enc P w base spare held fuel el ((cs.drop off).take (P.cellsOf el))=some x):∃ a,wf a∧RDat w cs off (e a):=by
 obtain ⟨a,h1,h2⟩:=he h
 grind [RDat]
theorem Qxj {H:Type} {enc:TypeId×Value→H} {w:World} {base:Nat} {spare:Nat→Bool} {held:Bool} {fuel:Nat} {cs:List Value} {x:DataW H×List MemPlace} {fs:Array Field}
  (ht:P.underlying t=some (.struct fs)) (h:DataW.trod enc P w base spare held fuel t cs=some x) :
  cs.length=P.cellsOf t∧∃ n,∀ (i:Nat) (f:Field),fs[i]? = some f→∃ y,DataW.trod enc P w base spare held n f.type ((cs.drop f.offset).take (P.cellsOf f.type))=some y:=by
 obtain ⟨xs,n,_,_,h1,h2,h3⟩:=DataW.trod_struct ht h;refine ⟨h1,n,fun i f hf=>?_⟩
 grind
theorem Qbcx {H:Type} {enc:TypeId×Value→H} {w:World} {base:Nat} {spare:Nat→Bool} {held:Bool} {fuel:Nat} {cs:List Value} {x:DataW H×List MemPlace} {n:Nat} {el:TypeId}
  (ht:P.underlying t=some (.array n el)) (h:DataW.trod enc P w base spare held fuel t cs=some x) :
  cs.length=P.cellsOf t∧∃ m,∀ i,i<n→∃ y,DataW.trod enc P w base spare held m el ((cs.drop (i*P.cellsOf el)).take (P.cellsOf el))=some y:=by
 obtain ⟨xs,m,_,_,h1,h2,h3⟩:=DataW.trod_array ht h;exact ⟨h1,m,fun i hi=>⟨xs[i]'(by omega),by grind⟩⟩
def Qxk {α:Type} (P:Program) (t:TypeId) (v:α→V) (wf:α→Prop):Prop :=
 ∀ {H:Type} {enc:TypeId×Value→H} {w:World} {base b0:Nat} {spare:Nat→Bool} {held:Bool} {u:Value} {d:DataW H} {ps:List MemPlace},
  Value.okWide P w .any b0 t u→DataW.Trod enc P w base spare held t u d ps→∃ a,wf a∧RF ⟨fun _=>0,live w,fun _=>.ext⟩ w (v a) u
theorem Qbgl {imm:Nat→Nat→Prop} {w:World} {x:D} {u:Value} (h:RD imm w x u):u.oneCell'=true:=by
 cases x with
 | int k n=>simp only [RD] at h;subst h;rfl
 | bool b=>simp only [RD] at h;subst h;rfl
 | str s=>simp only [RD] at h;subst h;rfl
 | lst sz l=>simp only [RD] at h;obtain ⟨a,cap,rfl,_⟩:=h;cases a<;>rfl
 | mp es c=>simp only [RD] at h;obtain ⟨b,rfl,_⟩:=h;rfl
theorem Qba8 {w:World} {g:G} (hg:g.imm=live w):∀ {xs:List D} {us:List Value} {ℓ:Owner} {i:Nat},RDs w xs us→RVs g w (xs.map V.d) ℓ i us∧∀ u∈us,u.oneCell'=true
 | [],us,ℓ,i,h=>by grind [RDs,RVs]
 | x::xs,us,ℓ,i,⟨u,us',e,r,h⟩=>by
  subst e;obtain ⟨h1,h2⟩:=Qba8 hg (ℓ:=ℓ) (i:=i+1) h;refine ⟨⟨u,us',rfl,by simpa [RV,hg] using r,h1⟩,fun v hv=>?_⟩;rcases List.mem_cons.1 hv with rfl|hv
  ·exact Qbgl r
  ·exact h2 v hv
theorem Qba9 {α:Type} {e:α→List D} {wf:α→Prop} (he:Qwm P t e wf) (hagg:(∃ fs,P.underlying t=some (.struct fs))∨∃ n el,P.underlying t=some (.array n el)):Qxk P t (fun a=>.agg ((e a).map V.d)) wf:=by
 intro H enc w base b0 spare held u d ps hok hd;obtain ⟨cs,rfl⟩ : ∃ cs,u = .agg cs:=by
  rcases hagg with ⟨fs,ht⟩|⟨n,el,ht⟩
  ·simp only [Value.okWide,ht] at hok;grind
  ·simp only [Value.okWide,ht] at hok;grind
 obtain ⟨fuel,hf⟩:=hd;obtain ⟨a,h1,h2⟩:=he hf;refine ⟨a,h1,fun ℓ=>?_⟩;simp only [RV];obtain ⟨h3,h4⟩:=Qba8 (g:=⟨fun _=>0,live w,fun _=>.ext⟩) rfl (ℓ:=ℓ) (i:=0) h2;exact ⟨cs.toList,by simp,h3,h4⟩
def Qbgm (P:Program) (f:FuncId) (ts:List TypeId):Prop :=
 ∀ {H:Type} {enc:TypeId×Value→H} {w:World} {b0:Nat} {us:List Value} {ds:List (DataW H)} {ps:List MemPlace},
  (∀ (j:Nat) t u,ts[j]? = some t→us[j]? = some u→Value.okWide P w .any b0 t u)→DataW.TrodAll enc P w 0 (fun _=>true) true ts us ds ps →
  ∃ vs,RFs ⟨fun _=>0,live w,fun _=>.ext⟩ w vs us∧(∀ x∈vs,Flat x)∧V.lt.go 0 vs=true∧∀ M nb,ACalls P f vs M nb (.d (.bool true)) M nb
theorem Qxl (hl:laidOutB P=true) {W W' : World} {sp:Nat→Bool} {H:Type} {enc:TypeId×Value→H}:∀ {ts:List TypeId} {us:List Value} {ds:List (DataW H)} {ps:List MemPlace},
  (∀ t∈ts,P.readableRec t=true∧t<P.types.size)→DataW.TrodAll enc P W 0 (fun _=>true) true ts us ds ps→(∀ p∈ps,W.sameAt W' p)→(∀ p∈ps,sp p.block=true)→DataW.TrodAll enc P W' 0 sp true ts us ds ps
 | [],[],[],ps,_,h,_,_=>h
 | t::ts,u::us,d::ds,ps,hr,⟨p,q,h1,h2,e⟩,hs,hp=>by
  subst e;obtain ⟨r1,r2⟩:=hr t (by simp);exact ⟨p,q,WideElems.Trod_stays hl r1 r2 h1 (fun x hx=>hs x (by simp [hx])) (fun x hx=>hp x (by simp [hx])),Qxl hl (fun t ht=>hr t (by simp [ht])) h2 (fun x hx=>hs x (by simp [hx])) (fun x hx=>hp x (by simp [hx])),rfl⟩
 | [],[],_::_,_,_,h,_,_=>h.elim
 | [],_::_,_,_,_,h,_,_=>h.elim
 | _::_,[],_,_,_,h,_,_=>h.elim
 | _::_,_::_,[],_,_,h,_,_=>h.elim
theorem Q0u {W:World} {sp:Nat→Bool} {held:Bool} {base:Nat} {H:Type} {enc:TypeId×Value→H}:∀ {ts:List TypeId} {us:List Value} {ds:List (DataW H)} {ps:List MemPlace},
  DataW.TrodAll enc P W base sp held ts us ds ps→ds.length=ts.length∧us.length=ts.length
 | [],[],[],ps,h=>⟨rfl,rfl⟩
 | t::ts,u::us,d::ds,ps,⟨p,q,h1,h2,e⟩=>by have:=Q0u h2;simp [this.1,this.2]
 | [],[],_::_,_,h=>h.elim
 | [],_::_,_,_,h=>h.elim
 | _::_,[],_,_,h=>h.elim
 | _::_,_::_,[],_,h=>h.elim
theorem Qbe7 {C:Checked} {f:FuncId} {fn:Func} {s:ChangeSpec} {conds:List PathCond} {bt:TypeId} {os:Os} {H:Type} {enc:TypeId×Value→H}
  (own:ownKnob C.prog.godebug=none) (started:os.Started) (noInit:C.prog.inits.idxOf? f=none) (hfn:C.prog.funcs[f]? = some fn)
  (witness:∃ (w:World) (tape:Tape) (i:Input),w.os=os∧(w.forCall tape i).Shaped C.prog∧i.vars=[]∧Input.okWide C.prog (w.forCall tape i) .any w.heap.size f i ∧
   s.pre6 enc C.prog fn conds false (w.forCall tape i).memory i.args∧({}:Assume).holds C.prog (lone (Frame.enter C.prog f i.args .normal) [] (w.forCall tape i)))
  (hvars:s.vars=[]) (hres:fn.resultTypes = #[bt]) (hbt:C.prog.underlying bt=some .bool)
  (hl:laidOutB C.prog=true) (hread:∀ t∈fn.params.toList,C.prog.readableRec t=true∧t<C.prog.types.size)
  (hspec:∀ ds:List (DataW H),ds.length=fn.params.size→s.fn H ds={ results:=[.lit (.bool true)],args:=ds })
  (law:Qbgm C.prog f fn.params.toList) :
  ReturnsInHanded {} C os f .any (s.pre6 enc C.prog fn conds false) (s.post enc C.prog fn false true false false):=by
 refine returnsInHanded_of_change own started noInit hfn witness ?_;intro W base args ds gs before hval hW hcnd _;have hW':=hW;obtain ⟨p,q,hA,hV,hps,hfz,hnd⟩:=hW;rw [hvars] at hV;obtain ⟨rfl,rfl⟩ : gs=[]∧q=[]:=by
  cases gs with
  | nil=>exact ⟨rfl,hV⟩
  | cons _ _=>exact hV.elim
 obtain ⟨vs,h1,h2,h3,h4⟩:=law (fun j t u ht hu=>hval j t u (by simpa using ht) (by simpa using hu)) hA;obtain ⟨hb,_,h5⟩:=h4 (fun _=>none) 0;have hlv:∀ b o,live W b o→b<W.heap.size:=by
  grind [live,Option.isSome_iff_exists,Go.World.cell?,Array.getElem?_eq_some_iff]
 have hmr:MR ⟨fun _=>0,live W,fun _=>.ext⟩ W (fun _=>none) 0:=⟨fun k b h=>(by cases h),fun b o h=>⟨hlv b o h,fun k h=>by cases h⟩⟩;have h6:=h5 W ⟨fun _=>0,live W,fun _=>.ext⟩ args.toList hmr (fun k cs h=>by cases h) (fun b=>⟨fun t p h=>(by cases h),fun p h=>(by cases h)⟩) h1 h2 (ons_mono (fun k hk=>absurd hk (Nat.not_lt_zero k)) _ (ons_lt vs h3));refine Calls.mono h6 fun e W' ⟨v,g',he,_,hr,_,_,hf⟩=>?_;subst he;have hv:v = .bool true:=by simpa [RV,RD] using hr
 subst hv;have hbelow:Below W.heap.size W W':=⟨hf.os,hf.tape,hf.output,hf.size,fun k hk=>(hf.old k hk trivial).2.1⟩;have hrl:(Value.bool true).resultList fn.resultTypes.size=[.bool true]:=by rw [hres];rfl
 have hsp:s.fn H (ds++[])={ results:=[.lit (.bool true)],args:=ds }:=by
  rw [List.append_nil];exact hspec ds (by have:=(Q0u hA).1;simpa using this)
 have hlt:∀ p∈before,p.block<W.heap.size:=fun x hx=>hW'.lt x hx;have hst:∀ sp:Nat→Bool,(∀ p∈before,sp p.block=true)→DataW.TrodAll enc C.prog W' 0 sp true fn.params.toList args.toList ds before:=by
  intro sp hsp';have e:p=before:=by grind
  subst e;exact Qxl hl hread hA (fun x hx=>hbelow.same (hlt x hx)) hsp'
 refine ⟨_,rfl,ds,[],before,[],before,[],hW',?_,?_,?_,World.keptBut_mono (fun p hp=>⟨hp,.inr (.inl hp)⟩) (hbelow.frame (· ∈ before)),fun h=>by cases h⟩
 ·rw [hsp,hrl,hres];exact ⟨[],[],⟨1,by simp [DataW.trod,Value.cells,hbt]⟩,rfl,rfl⟩
 ·grind
 ·rw [hsp,hvars];rfl
section
variable {α β γ δ:Type} {f:FuncId} {ta tb tc td:TypeId} {va:α→V} {vb:β→V} {vc:γ→V} {vd:δ→V} {wa:α→Prop} {wb:β→Prop} {wc:γ→Prop} {wd:δ→Prop}
theorem Q0v {H:Type} {enc:TypeId×Value→H} {w:World} {base:Nat} {sp:Nat→Bool} {held:Bool} {t:TypeId} {ts:List TypeId} {us:List Value} {ds:List (DataW H)} {ps:List MemPlace} (h:DataW.TrodAll enc P w base sp held (t::ts) us ds ps) :
  ∃ u us' d ds' p q,us=u::us'∧ds=d::ds'∧DataW.Trod enc P w base sp held t u d p∧DataW.TrodAll enc P w base sp held ts us' ds' q:=by
 match us,ds,h with
 | u::us',d::ds',⟨p,q,h1,h2,_⟩=>grind
 | [],[],h=>exact h.elim
 | [],_::_,h=>exact h.elim
 | _::_,[],h=>exact h.elim
theorem Q6g {H:Type} {enc:TypeId×Value→H} {w:World} {base:Nat} {sp:Nat→Bool} {held:Bool} {us:List Value} {ds:List (DataW H)} {ps:List MemPlace} (h:DataW.TrodAll enc P w base sp held [] us ds ps):us=[]:=by
 match us,ds,h with
 | [],[],_=>rfl
 | [],_::_,h=>exact h.elim
 | _::_,[],h=>exact h.elim
 | _::_,_::_,h=>exact h.elim
theorem Qbha (ra:Qxk P ta va wa) (fa:∀ a,(va a).dem=va a) (la:∀ a,(va a).lt 0=true) (rb:Qxk P tb vb wb) (fb:∀ a,(vb a).dem=vb a) (lb:∀ a,(vb a).lt 0=true)
  (law:∀ a b,wa a→wb b→∀ M nb,ACalls P f [va a,vb b] M nb (.d (.bool true)) M nb):Qbgm P f [ta,tb]:=by
 intro H enc w b0 us ds ps hok hT;obtain ⟨u,us',d,ds',p,q,rfl,rfl,h1,hT⟩:=Q0v hT;obtain ⟨u2,us',d2,ds',p2,q2,rfl,rfl,h2,hT⟩:=Q0v hT;obtain rfl:=Q6g hT;obtain ⟨a,ha,hra⟩:=ra (hok 0 _ _ rfl rfl) h1;obtain ⟨b,hb,hrb⟩:=rb (hok 1 _ _ rfl rfl) h2;refine ⟨[va a,vb b],⟨u,_,rfl,hra,u2,_,rfl,hrb,rfl⟩,?_,by simp [V.lt.go,la,lb],law a b ha hb⟩;intro x hx;simp only [List.mem_cons,List.not_mem_nil,or_false] at hx;rcases hx with rfl|rfl
 ·exact fa a
 ·exact fb b
end
theorem Qbba {H:Type} {enc:TypeId×Value→H} {w:World} {base:Nat} {spare:Nat→Bool} {held:Bool} {fuel:Nat} {cs:List Value} {x:DataW H×List MemPlace} {n sz:Nat} {el:TypeId}
  (ht:P.underlying t=some (.array n el)) (hsz:P.cellsOf el=sz) (h:DataW.trod enc P w base spare held fuel t cs=some x) :
  cs.length=P.cellsOf t∧∃ m,∀ i,i<n→∃ y,DataW.trod enc P w base spare held m el ((cs.drop (i*sz)).take (P.cellsOf el))=some y:=by
 obtain ⟨h1,m,h2⟩:=Qbcx ht h;exact ⟨h1,m,fun i hi=>by grind⟩
end Go.Abs
end
section
namespace Go.Proofs
open Go Go.Abs
set_option maxRecDepth 100000
def W_22 (x:Int):Prop:=wfI .u8 x
theorem R_22:Qwm Try.prog 22 (eI .u8) W_22:=Q0t Try.underlying22
def W_5 (x:Int):Prop:=wfI .u8 x
theorem R_5:Qwm Try.prog 5 (eI .u8) W_5:=Q0t Try.underlying5
def W_23 (x:Int×Int×Int×Int×Int):Prop:=W_5 x.1∧W_5 x.2.1∧W_5 x.2.2.1∧W_5 x.2.2.2.1∧W_5 x.2.2.2.2
theorem R_23:Qwm Try.prog 23 (fun p:Int×Int×Int×Int×Int=>[.int .u8 p.1,.int .u8 p.2.1,.int .u8 p.2.2.1,.int .u8 p.2.2.2.1,.int .u8 p.2.2.2.2]) W_23:=by
  intro H enc w base spare held fuel cs x h;obtain ⟨hl,n,hf⟩:=Qbba (sz:=1) Try.underlying23 (by kernel_rfl) h;obtain ⟨y0,h0⟩:=hf 0 (by decide);obtain ⟨a0,w0,r0⟩:=Qev (off:=0*1) (sz:=1) R_5 (by kernel_rfl) (fun _=>rfl) h0;obtain ⟨y1,h1⟩:=hf 1 (by decide);obtain ⟨a1,w1,r1⟩:=Qev (off:=1*1) (sz:=1) R_5 (by kernel_rfl) (fun _=>rfl) h1;obtain ⟨y2,h2⟩:=hf 2 (by decide);obtain ⟨a2,w2,r2⟩:=Qev (off:=2*1) (sz:=1) R_5 (by kernel_rfl) (fun _=>rfl) h2;obtain ⟨y3,h3⟩:=hf 3 (by decide);obtain ⟨a3,w3,r3⟩:=Qev (off:=3*1) (sz:=1) R_5 (by kernel_rfl) (fun _=>rfl) h3;obtain ⟨y4,h4⟩:=hf 4 (by decide);obtain ⟨a4,w4,r4⟩:=Qev (off:=4*1) (sz:=1) R_5 (by kernel_rfl) (fun _=>rfl) h4;exact ⟨(a0,a1,a2,a3,a4),⟨w0,w1,w2,w3,w4⟩,RDat.all (xs:=(fun p:Int×Int×Int×Int×Int=>[.int .u8 p.1,.int .u8 p.2.1,.int .u8 p.2.2.1,.int .u8 p.2.2.2.1,.int .u8 p.2.2.2.2]) (a0,a1,a2,a3,a4)) (RDat.app r0 rfl (RDat.app r1 rfl (RDat.app r2 rfl (RDat.app r3 rfl r4)))) (hl.trans (by kernel_rfl))⟩
def W_24 (x:(Int×Int×Int×Int×Int)×(Int×Int×Int×Int×Int)×(Int×Int×Int×Int×Int)×(Int×Int×Int×Int×Int)×(Int×Int×Int×Int×Int)):Prop:=W_23 x.1∧W_23 x.2.1∧W_23 x.2.2.1∧W_23 x.2.2.2.1∧W_23 x.2.2.2.2
theorem R_24:Qwm Try.prog 24 (fun p:(Int×Int×Int×Int×Int)×(Int×Int×Int×Int×Int)×(Int×Int×Int×Int×Int)×(Int×Int×Int×Int×Int)×(Int×Int×Int×Int×Int)=>[.int .u8 p.1.1,.int .u8 p.1.2.1,.int .u8 p.1.2.2.1,.int .u8 p.1.2.2.2.1,.int .u8 p.1.2.2.2.2,.int .u8 p.2.1.1,.int .u8 p.2.1.2.1,.int .u8 p.2.1.2.2.1,.int .u8 p.2.1.2.2.2.1,.int .u8 p.2.1.2.2.2.2,.int .u8 p.2.2.1.1,.int .u8 p.2.2.1.2.1,.int .u8 p.2.2.1.2.2.1,.int .u8 p.2.2.1.2.2.2.1,.int .u8 p.2.2.1.2.2.2.2,.int .u8 p.2.2.2.1.1,.int .u8 p.2.2.2.1.2.1,.int .u8 p.2.2.2.1.2.2.1,.int .u8 p.2.2.2.1.2.2.2.1,.int .u8 p.2.2.2.1.2.2.2.2,.int .u8 p.2.2.2.2.1,.int .u8 p.2.2.2.2.2.1,.int .u8 p.2.2.2.2.2.2.1,.int .u8 p.2.2.2.2.2.2.2.1,.int .u8 p.2.2.2.2.2.2.2.2]) W_24:=by
  intro H enc w base spare held fuel cs x h;obtain ⟨hl,n,hf⟩:=Qbba (sz:=5) Try.underlying24 (by kernel_rfl) h;obtain ⟨y0,h0⟩:=hf 0 (by decide);obtain ⟨a0,w0,r0⟩:=Qev (off:=0*5) (sz:=5) R_23 (by kernel_rfl) (fun _=>rfl) h0;obtain ⟨y1,h1⟩:=hf 1 (by decide);obtain ⟨a1,w1,r1⟩:=Qev (off:=1*5) (sz:=5) R_23 (by kernel_rfl) (fun _=>rfl) h1;obtain ⟨y2,h2⟩:=hf 2 (by decide);obtain ⟨a2,w2,r2⟩:=Qev (off:=2*5) (sz:=5) R_23 (by kernel_rfl) (fun _=>rfl) h2;obtain ⟨y3,h3⟩:=hf 3 (by decide);obtain ⟨a3,w3,r3⟩:=Qev (off:=3*5) (sz:=5) R_23 (by kernel_rfl) (fun _=>rfl) h3;obtain ⟨y4,h4⟩:=hf 4 (by decide);obtain ⟨a4,w4,r4⟩:=Qev (off:=4*5) (sz:=5) R_23 (by kernel_rfl) (fun _=>rfl) h4;exact ⟨(a0,a1,a2,a3,a4),⟨w0,w1,w2,w3,w4⟩,RDat.all (xs:=(fun p:(Int×Int×Int×Int×Int)×(Int×Int×Int×Int×Int)×(Int×Int×Int×Int×Int)×(Int×Int×Int×Int×Int)×(Int×Int×Int×Int×Int)=>[.int .u8 p.1.1,.int .u8 p.1.2.1,.int .u8 p.1.2.2.1,.int .u8 p.1.2.2.2.1,.int .u8 p.1.2.2.2.2,.int .u8 p.2.1.1,.int .u8 p.2.1.2.1,.int .u8 p.2.1.2.2.1,.int .u8 p.2.1.2.2.2.1,.int .u8 p.2.1.2.2.2.2,.int .u8 p.2.2.1.1,.int .u8 p.2.2.1.2.1,.int .u8 p.2.2.1.2.2.1,.int .u8 p.2.2.1.2.2.2.1,.int .u8 p.2.2.1.2.2.2.2,.int .u8 p.2.2.2.1.1,.int .u8 p.2.2.2.1.2.1,.int .u8 p.2.2.2.1.2.2.1,.int .u8 p.2.2.2.1.2.2.2.1,.int .u8 p.2.2.2.1.2.2.2.2,.int .u8 p.2.2.2.2.1,.int .u8 p.2.2.2.2.2.1,.int .u8 p.2.2.2.2.2.2.1,.int .u8 p.2.2.2.2.2.2.2.1,.int .u8 p.2.2.2.2.2.2.2.2]) (a0,a1,a2,a3,a4)) (RDat.app r0 rfl (RDat.app r1 rfl (RDat.app r2 rfl (RDat.app r3 rfl r4)))) (hl.trans (by kernel_rfl))⟩
def W_26 (x:Qco):Prop:=W_5 x.zS∧W_5 x.Marks∧W_24 x.To
theorem R_26:Qwm Try.prog 26 Qnj W_26:=by
  intro H enc w base spare held fuel cs x h;obtain ⟨hl,n,hf⟩:=Qxj Try.underlying26 h;obtain ⟨y0,h0⟩:=hf 0 _ rfl;obtain ⟨a0,w0,r0⟩:=Qev (off:=0) (sz:=1) R_5 (by kernel_rfl) (fun _=>rfl) h0;obtain ⟨y1,h1⟩:=hf 1 _ rfl;obtain ⟨a1,w1,r1⟩:=Qev (off:=1) (sz:=1) R_5 (by kernel_rfl) (fun _=>rfl) h1;obtain ⟨y2,h2⟩:=hf 2 _ rfl;obtain ⟨a2,w2,r2⟩:=Qev (off:=2) (sz:=25) R_24 (by kernel_rfl) (fun _=>rfl) h2;exact ⟨⟨a0,a1,a2⟩,⟨w0,w1,w2⟩,RDat.all (xs:=Qnj ⟨a0,a1,a2⟩) (RDat.app r0 rfl (RDat.app r1 rfl r2)) (hl.trans (by kernel_rfl))⟩
def W_28 (x:Qg6):Prop:=W_22 x.Events∧W_26 x.Graph
theorem R_28:Qwm Try.prog 28 Qok W_28:=by
  intro H enc w base spare held fuel cs x h;obtain ⟨hl,n,hf⟩:=Qxj Try.underlying28 h;obtain ⟨y0,h0⟩:=hf 0 _ rfl;obtain ⟨a0,w0,r0⟩:=Qev (off:=0) (sz:=1) R_22 (by kernel_rfl) (fun _=>rfl) h0;obtain ⟨y1,h1⟩:=hf 1 _ rfl;obtain ⟨a1,w1,r1⟩:=Qev (off:=1) (sz:=27) R_26 (by kernel_rfl) (fun _=>rfl) h1;exact ⟨⟨a0,a1⟩,⟨w0,w1⟩,RDat.all (xs:=Qok ⟨a0,a1⟩) (RDat.app r0 rfl r1) (hl.trans (by kernel_rfl))⟩
def W_30 (x:Qbb):Prop:=W_28 x.Part∧W_5 x.zD∧W_22 x.zC∧W_22 x.zF
theorem R_30:Qwm Try.prog 30 Ql7 W_30:=by
  intro H enc w base spare held fuel cs x h;obtain ⟨hl,n,hf⟩:=Qxj Try.underlying30 h;obtain ⟨y0,h0⟩:=hf 0 _ rfl;obtain ⟨a0,w0,r0⟩:=Qev (off:=0) (sz:=28) R_28 (by kernel_rfl) (fun _=>rfl) h0;obtain ⟨y1,h1⟩:=hf 1 _ rfl;obtain ⟨a1,w1,r1⟩:=Qev (off:=28) (sz:=1) R_5 (by kernel_rfl) (fun _=>rfl) h1;obtain ⟨y2,h2⟩:=hf 2 _ rfl;obtain ⟨a2,w2,r2⟩:=Qev (off:=29) (sz:=1) R_22 (by kernel_rfl) (fun _=>rfl) h2;obtain ⟨y3,h3⟩:=hf 3 _ rfl;obtain ⟨a3,w3,r3⟩:=Qev (off:=30) (sz:=1) R_22 (by kernel_rfl) (fun _=>rfl) h3;exact ⟨⟨a0,a1,a2,a3⟩,⟨w0,w1,w2,w3⟩,RDat.all (xs:=Ql7 ⟨a0,a1,a2,a3⟩) (RDat.app r0 rfl (RDat.app r1 rfl (RDat.app r2 rfl r3))) (hl.trans (by kernel_rfl))⟩
theorem A_30:Qxk Try.prog 30 (fun (a:Qbb)=>.agg [.d (.int .u8 a.Part.Events),.d (.int .u8 a.Part.Graph.zS),.d (.int .u8 a.Part.Graph.Marks),.d (.int .u8 a.Part.Graph.To.1.1),.d (.int .u8 a.Part.Graph.To.1.2.1),.d (.int .u8 a.Part.Graph.To.1.2.2.1),.d (.int .u8 a.Part.Graph.To.1.2.2.2.1),.d (.int .u8 a.Part.Graph.To.1.2.2.2.2),.d (.int .u8 a.Part.Graph.To.2.1.1),.d (.int .u8 a.Part.Graph.To.2.1.2.1),.d (.int .u8 a.Part.Graph.To.2.1.2.2.1),.d (.int .u8 a.Part.Graph.To.2.1.2.2.2.1),.d (.int .u8 a.Part.Graph.To.2.1.2.2.2.2),.d (.int .u8 a.Part.Graph.To.2.2.1.1),.d (.int .u8 a.Part.Graph.To.2.2.1.2.1),.d (.int .u8 a.Part.Graph.To.2.2.1.2.2.1),.d (.int .u8 a.Part.Graph.To.2.2.1.2.2.2.1),.d (.int .u8 a.Part.Graph.To.2.2.1.2.2.2.2),.d (.int .u8 a.Part.Graph.To.2.2.2.1.1),.d (.int .u8 a.Part.Graph.To.2.2.2.1.2.1),.d (.int .u8 a.Part.Graph.To.2.2.2.1.2.2.1),.d (.int .u8 a.Part.Graph.To.2.2.2.1.2.2.2.1),.d (.int .u8 a.Part.Graph.To.2.2.2.1.2.2.2.2),.d (.int .u8 a.Part.Graph.To.2.2.2.2.1),.d (.int .u8 a.Part.Graph.To.2.2.2.2.2.1),.d (.int .u8 a.Part.Graph.To.2.2.2.2.2.2.1),.d (.int .u8 a.Part.Graph.To.2.2.2.2.2.2.2.1),.d (.int .u8 a.Part.Graph.To.2.2.2.2.2.2.2.2),.d (.int .u8 a.zD),.d (.int .u8 a.zC),.d (.int .u8 a.zF)]) W_30:=Qba9 R_30 (.inl ⟨_,Try.underlying30⟩)
def W_69 (x:Int):Prop:=wfI .i8 x
theorem R_69:Qwm Try.prog 69 (eI .i8) W_69:=Q0t Try.underlying69
def W_71 (x:Qs):Prop:=W_5 x.Field∧W_5 x.At∧W_69 x.By
theorem R_71:Qwm Try.prog 71 Qma W_71:=by
  intro H enc w base spare held fuel cs x h;obtain ⟨hl,n,hf⟩:=Qxj Try.underlying71 h;obtain ⟨y0,h0⟩:=hf 0 _ rfl;obtain ⟨a0,w0,r0⟩:=Qev (off:=0) (sz:=1) R_5 (by kernel_rfl) (fun _=>rfl) h0;obtain ⟨y1,h1⟩:=hf 1 _ rfl;obtain ⟨a1,w1,r1⟩:=Qev (off:=1) (sz:=1) R_5 (by kernel_rfl) (fun _=>rfl) h1;obtain ⟨y2,h2⟩:=hf 2 _ rfl;obtain ⟨a2,w2,r2⟩:=Qev (off:=2) (sz:=1) R_69 (by kernel_rfl) (fun _=>rfl) h2;exact ⟨⟨a0,a1,a2⟩,⟨w0,w1,w2⟩,RDat.all (xs:=Qma ⟨a0,a1,a2⟩) (RDat.app r0 rfl (RDat.app r1 rfl r2)) (hl.trans (by kernel_rfl))⟩
def W_72 (x:Qs×Qs):Prop:=W_71 x.1∧W_71 x.2
theorem R_72:Qwm Try.prog 72 (fun p:Qs×Qs=>[.int .u8 p.1.Field,.int .u8 p.1.At,.int .i8 p.1.By,.int .u8 p.2.Field,.int .u8 p.2.At,.int .i8 p.2.By]) W_72:=by
  intro H enc w base spare held fuel cs x h;obtain ⟨hl,n,hf⟩:=Qbba (sz:=3) Try.underlying72 (by kernel_rfl) h;obtain ⟨y0,h0⟩:=hf 0 (by decide);obtain ⟨a0,w0,r0⟩:=Qev (off:=0*3) (sz:=3) R_71 (by kernel_rfl) (fun _=>rfl) h0;obtain ⟨y1,h1⟩:=hf 1 (by decide);obtain ⟨a1,w1,r1⟩:=Qev (off:=1*3) (sz:=3) R_71 (by kernel_rfl) (fun _=>rfl) h1;exact ⟨(a0,a1),⟨w0,w1⟩,RDat.all (xs:=(fun p:Qs×Qs=>[.int .u8 p.1.Field,.int .u8 p.1.At,.int .i8 p.1.By,.int .u8 p.2.Field,.int .u8 p.2.At,.int .i8 p.2.By]) (a0,a1)) (RDat.app r0 rfl r1) (hl.trans (by kernel_rfl))⟩
theorem A_72:Qxk Try.prog 72 (fun (a:Qs×Qs)=>.agg [.d (.int .u8 a.1.Field),.d (.int .u8 a.1.At),.d (.int .i8 a.1.By),.d (.int .u8 a.2.Field),.d (.int .u8 a.2.At),.d (.int .i8 a.2.By)]) W_72:=Qba9 R_72 (.inr ⟨_,_,Try.underlying72⟩)
end Go.Proofs
end
section
namespace Go.Abs
open Go
theorem Qk2 {X R:Type} {F:(X→Option R)→X→Option R} (I:X→Prop) (m:X→Nat) (Q:X→Option R→Prop)
  (step:∀ (k:X→Option R) (x:X),I x→(∀ y,I y→m y<m x→Q y (k y))→Q x (F k x)):∀ (fuel:Nat) (x:X),I x→m x<fuel→Q x (Qbv F fuel x)
 | 0,x,_,h=>absurd h (Nat.not_lt_zero _)
 | fuel+1,x,hi,h=>step _ x hi fun y hy hm=>Qk2 I m Q step fuel y hy (by omega)
theorem Qzd {X R:Type} {F:(X→Option R)→X→Option R} {fuel:Nat} {x:X} (I:X→Prop) (m:X→Nat) (q:Option R) (hi:I x) (hm:m x<fuel)
  (step:∀ (k:X→Option R) (x:X),I x→(∀ y,I y→m y<m x→k y=q)→F k x=q):Qbv F fuel x=q :=
 Qk2 I m (fun _ r=>r=q) step fuel x hi hm
theorem Qkb {x:Int} (h1 : -9223372036854775808≤x) (h2:x≤9223372036854775807):IntKind.wrap .i64 x=x:=by
 simp [IntKind.wrap,IntKind.bits,IntKind.signed];omega
theorem Qce {n:Nat} (h:n<9223372036854775807):IntKind.wrap .i64 ((n:Int)+1)=((n+1:Nat):Int):=by
 grind [Qkb]
theorem Q2 {α:Type} {l:List α} {n:Nat} (h:n<l.length):getO l (n:Int)=some l[n]:=by
 simp [getO,h]
theorem Q40 {α:Type} {l:List α} {i:Int} {x:α}:getO l i=some x↔0≤i∧l[i.toNat]? = some x:=by
 simp_all [getO,reduceCtorEq,false_iff,not_and,absurd]
theorem Qd7 {α:Type} {l m:List α} (h:l.length+m.length≤lim):appO l m=some (l++m):=by
 unfold appO;rw [if_pos h]
theorem Qp4 {R:Type} {F:(Int→Option R)→Int→Option R} {len fuel:Nat} (G:Nat→Option R) (hf:len<fuel)
  (step:∀ (k:Int→Option R) (n:Nat),n<len→k ((n+1:Nat):Int)=G (n+1)→F k (n:Int)=G n) (last:∀ k:Int→Option R,F k (len:Int)=G len):Qbv F fuel 0=G 0:=by
 have:=Qk2 (F:=F) (fun x=>∃ n:Nat,x=(n:Int)∧n≤len) (fun x=>len-x.toNat) (fun x r=>∀ n:Nat,x=(n:Int)→r=G n) (fun k x hx ih=>by
  obtain ⟨n,rfl,hn⟩:=hx;intro m hm;obtain rfl:n=m:=by omega
  by_cases h:n<len
  ·exact step k n h (ih _ ⟨n+1,rfl,by omega⟩ (by omega) (n+1) rfl)
  grind) fuel 0 ⟨0,rfl,by omega⟩ (by simpa using hf)
 exact this 0 rfl
theorem Qlu {n:Nat} (h0:0<n) (h:n<9223372036854775807):IntKind.wrap .i64 ((n:Int)-1)=((n-1:Nat):Int):=by
 grind [Qkb]
theorem Qbcy {X S R:Type} {F:(X→Option R)→X→Option R} {len:Nat} (mk:Nat→S→X) (G:Nat→S→Option R)
  (step:∀ (k:X→Option R) (n:Nat) (s:S),n<len→(∀ s',k (mk (n+1) s')=G (n+1) s')→F k (mk n s)=G n s) (last:∀ (k:X→Option R) (s:S),F k (mk len s)=G len s) :
  ∀ (fuel n:Nat) (s:S),n≤len→len-n<fuel→Qbv F fuel (mk n s)=G n s
 | 0,n,s,_,h=>by omega
 | fuel+1,n,s,hn,h=>by
  show F (Qbv F fuel) (mk n s)=_;by_cases hlt:n<len
  ·exact step _ n s hlt fun s'=>Qbcy mk G step last fuel (n+1) s' (by omega) (by omega)
  grind
theorem Qbgn {i j:Nat} (hi:i<1000000000000) (hj:j<1000000000000):IntKind.wrap .i64 (Int.fdiv (IntKind.wrap .u64 (IntKind.wrap .i64 ((i:Int)+j))) (2 ^ (min (Int.toNat 1) (IntKind.bits .u64))))=(((i+j) / 2:Nat):Int):=by
 grind [Go.IntKind.wrap,Qkb,Go.IntKind.bits,Go.IntKind.signed,Min.min,Int.toNat,Int.fdiv_eq_ediv_of_nonneg]
theorem Q8t:∀ {l m:List Int},l.Pairwise (· < ·)→m.Pairwise (· < ·)→(∀ x,x∈l↔x∈m)→l=m
 | l,m,h1,h2,h=>by
  have n1:l.Nodup:=h1.imp fun h=>by omega
  have n2:m.Nodup:=h2.imp fun h=>by omega
  grind [List.perm_ext_iff_of_nodup,List.Perm.eq_of_pairwise]
section
variable {α:Type} {p:α→Bool}
theorem Q15:∀ {l:List α},l.Pairwise (fun a b=>p b=true→p a=true)→∀ (n:Nat) (h:n<l.length),p l[n]=true↔n<(l.filter p).length
 | [],_,n,h=>by simp at h
 | x::xs,hs,n,h=>by
  obtain ⟨h1,h2⟩:=List.pairwise_cons.1 hs;cases n with
  | zero =>
   cases hx:p x with
   | true=>simp [hx]
   | false =>
    have:xs.filter p=[]:=List.filter_eq_nil_iff.2 fun y hy hp=>by have:=h1 y hy hp;rw [hx] at this;cases this
    simp [hx,this]
  | succ n =>
   have ih:=Q15 h2 n (by simpa using h);cases hx:p x with
   | true=>simp [hx,ih]
   | false =>
    have:xs.filter p=[]:=List.filter_eq_nil_iff.2 fun y hy hp=>by have:=h1 y hy hp;rw [hx] at this;cases this
    rw [this] at ih;simp [hx,this] at ih ⊢;exact ih
end
theorem Qgr {X S R:Type} {F:(X→Option R)→X→Option R} {len:Nat} (mk:Nat→S→X) (I:Nat→S→Prop) (G:Nat→S→Option R)
  (step:∀ (k:X→Option R) (n:Nat) (s:S),n<len→I n s→(∀ s',I (n+1) s'→k (mk (n+1) s')=G (n+1) s')→F k (mk n s)=G n s) (last:∀ (k:X→Option R) (s:S),I len s→F k (mk len s)=G len s) :
  ∀ (fuel n:Nat) (s:S),n≤len→len-n<fuel→I n s→Qbv F fuel (mk n s)=G n s
 | 0,n,s,_,h,_=>by omega
 | fuel+1,n,s,hn,h,hi=>by
  show F (Qbv F fuel) (mk n s)=_;by_cases hlt:n<len
  ·exact step _ n s hlt hi fun s' hi'=>Qgr mk I G step last fuel (n+1) s' (by omega) (by omega) hi'
  grind
theorem Qj1:∀ {l:List Int} {a b:Int},l.Pairwise (· < ·)→(∀ x∈l,a≤x∧x<b)→l.length≤(b-a).toNat
 | [],_,_,_,_=>by simp
 | x::xs,a,b,h,hr=>by
  obtain ⟨h1,h2⟩:=List.pairwise_cons.1 h;have:=Qj1 (a:=x+1) (b:=b) h2 fun y hy=>⟨by have:=h1 y hy;omega,(hr y (by simp [hy])).2⟩;have:=hr x (by simp)
  grind
end Go.Abs
end
section
namespace Go.Abs
abbrev big : Nat := 1000000000000
def small (a : Qd) : Prop := a.zO.length < big ∧ a.zP.length < big ∧ a.zQ.length < big
end Go.Abs
end
section
namespace Go.Abs
open Go
def Qed (n:Int):Option Int→List Int→Int
 | _,[]=>0
 | p,x::xs=>if x<0∨x≥n then 2 else if ∃ y,p=some y∧x≤y then 5 else Qed n (some x) xs
def Qkr (al:List Int) (st:Int):Option Qc→List Qc→Int
 | _,[]=>0
 | p,x::xs=>if x.From<0∨x.From≥st∨x.To<0∨x.To≥st then 2 else if x.Event∉al then 9 else if ∃ y,p=some y∧(x.From<y.From∨x.From=y.From∧x.Event≤y.Event) then 5 else Qkr al st (some x) xs
def Qqu (a:Qd):Int :=
 if Qed 32 none a.zO≠0 then Qed 32 none a.zO else if a.zS<0 then 2 else if a.zS>4096 then 3 else
 if Qed a.zS none a.zP≠0 then Qed a.zS none a.zP else Qkr a.zO a.zS none a.zQ
def ahead {α:Type} (l:List α) (n:Nat):Option α:=if n=0 then none else l[n-1]?
theorem Qpg {α:Type} (l:List α):ahead l 0=none:=rfl
theorem Q16 {α:Type} (l:List α) {n:Nat} (h:n<l.length):ahead l (n+1)=some l[n]:=by simp [ahead,h]
theorem Q0w {α:Type} (l:List α) {n:Nat} (h0:0<n) (h:n≤l.length):ahead l n=some (l[n-1]'(by omega)):=by
 simp [ahead,show n≠0 from by omega,show n-1<l.length from by omega]
theorem Qyy {n:Int} {l:List Int} {k:Nat} (h:k<l.length):Qed n (ahead l k) (l.drop k)=if l[k]<0∨l[k]≥n then 2 else if ∃ y,ahead l k=some y∧l[k]≤y then 5 else Qed n (ahead l (k+1)) (l.drop (k+1)):=by
 rw [List.drop_eq_getElem_cons h,Qed,Q16 l h]
theorem Q3h {al:List Int} {n:Int} {l:List Qc} {k:Nat} (h:k<l.length):Qkr al n (ahead l k) (l.drop k)=if l[k].From<0∨l[k].From≥n∨l[k].To<0∨l[k].To≥n then 2 else if l[k].Event∉al then 9 else if ∃ y,ahead l k=some y∧(l[k].From<y.From∨l[k].From=y.From∧l[k].Event≤y.Event) then 5 else Qkr al n (ahead l (k+1)) (l.drop (k+1)):=by
 rw [List.drop_eq_getElem_cons h,Qkr,Q16 l h]
theorem Q0x {l:List Int} {n:Int} (hl:l.length<big):Qhv l n=some (Qed n none l):=by
 unfold Qhv Qc5;refine (Qp4 (len:=l.length) (fun k=>some (Qed n (ahead l k) (l.drop k))) (by unfold Qb0;unfold big at hl;omega) ?_ ?_).trans (by simp [Qpg])
 ·intro k i hi ih;have hb:i<1000000000000:=by unfold big at hl;omega
  rw [Qyy hi]
  try dsimp only
  rw [if_pos (by omega),Q2 hi,Qce (by omega),ih];simp only [Option.bind_some];by_cases h1:l[i]<0
  ·simp [h1]
  ·by_cases h2:l[i]≥n
   ·simp [h1,h2]
   ·by_cases h0:0<i
    ·rw [Qlu h0 (by omega),Q2 (by omega:i-1<l.length),Q0w l h0 (by omega)];by_cases h3:l[i]≤l[i-1]<;>simp [h1,h2,h3,h0]
    ·obtain rfl:i=0:=by omega
     simp [h1,h2,Qpg]
 ·intro k;simp [Qed]
theorem Qbcz {l:List Int} {v:Int} (hl:l.length<big):Qjd l v=some (if v∈l then (l.idxOf v:Int) else -1):=by
 unfold Qjd Qei;refine (Qp4 (len:=l.length) (fun k=>some (if v∈l.drop k then ((k+(l.drop k).idxOf v:Nat):Int) else -1)) (by unfold Qb0;unfold big at hl;omega) ?_ ?_).trans (by simp)
 ·intro k i hi ih;have hb:i<1000000000000:=by unfold big at hl;omega
  try dsimp only
  rw [if_pos (by omega),Q2 hi,Qce (by omega),ih,List.drop_eq_getElem_cons hi];simp only [Option.bind_some,List.mem_cons,List.idxOf_cons];by_cases h:v=l[i]
  ·simp [← h]
  ·have:¬ l[i]=v:=fun e=>h e.symm;have hbq:(l[i]==v)=false:=by simp [this]
   by_cases h2:v∈l.drop (i+1)<;>simp [h,h2,hbq];omega
 ·intro k;simp
theorem Q6h {l:List Int} {v:Int} (hl:l.length<big):Qg8 l v=some (decide (v∈l)):=by
 unfold Qg8 Qdd;rw [Qbcz hl];simp only [Option.bind_some,Option.some.injEq];by_cases h:v∈l<;>simp [h]
theorem Qbd3 {l:List Int} {v:Int} (hl:l.length<big):Qd5 l v=some (decide (v∈l)):=by
 unfold Qd5 Qb6;refine (Qp4 (len:=l.length) (fun k=>some (decide (v∈l.drop k))) (by unfold Qb0;unfold big at hl;omega) ?_ ?_).trans (by simp)
 ·intro k i hi ih;have hb:i<1000000000000:=by unfold big at hl;omega
  try dsimp only
  rw [if_pos (by omega),Q2 hi,Qce (by omega),ih,List.drop_eq_getElem_cons hi];simp only [Option.bind_some,List.mem_cons];by_cases h:l[i]=v
  ·simp [h]
  ·have:¬ v=l[i]:=fun e=>h e.symm;simp [h,this]
 ·intro k;simp
theorem Q3i {a:Qd} (h:small a):Qgw a=some (Qkr a.zO a.zS none a.zQ):=by
 obtain ⟨hal,_,hl⟩:=h;unfold Qgw Qc3;refine (Qp4 (len:=a.zQ.length) (fun k=>some (Qkr a.zO a.zS (ahead a.zQ k) (a.zQ.drop k))) (by unfold Qb0;unfold big at hl;omega) ?_ ?_).trans (by simp [Qpg])
 ·intro k i hi ih;have hb:i<1000000000000:=by unfold big at hl;omega
  rw [Q3h hi];unfold letJ
  try dsimp only
  rw [if_pos (by omega),Q2 hi,Qce (by omega),ih];simp only [Option.bind_some,Q6h hal];generalize a.zQ[i]=x;by_cases h1:x.From<0
  ·simp [h1]
  by_cases h2:x.From≥a.zS
  ·simp [h1,h2]
  by_cases h3:x.To<0
  ·simp [h1,h2,h3]
  by_cases h4:x.To≥a.zS
  ·simp [h1,h2,h3,h4]
  by_cases h5:x.Event∈a.zO
  ·by_cases h0:0<i
   ·rw [Qlu h0 (by omega),Q2 (by omega:i-1<a.zQ.length),Q0w a.zQ h0 (by omega)];generalize a.zQ[i-1]=y;have hi0:i≠0:=by omega
    by_cases h6:x.From<y.From
    ·simp [h1,h2,h3,h4,h5,h6,hi0]
    by_cases h7:y.From=x.From
    ·by_cases h8:x.Event≤y.Event<;>simp [h1,h2,h3,h4,h5,h6,h7,h8,hi0]
    ·have h7' : ¬ x.From=y.From:=fun e=>h7 e.symm;simp [h1,h2,h3,h4,h5,h6,h7,hi0,h7']
   ·obtain rfl:i=0:=by omega
    simp [h1,h2,h3,h4,h5,Qpg]
  ·simp [h1,h2,h3,h4,h5]
 ·intro k;unfold letJ;simp [Qkr]
theorem Qbc0 {a:Qd} (h:small a):Qj0 a=some (Qqu a):=by
 unfold Qj0 Qeo Qqu;rw [Q0x h.1,Q0x h.2.1,Q3i h];simp only [Option.bind_some];by_cases h1:Qed 32 none a.zO=0
 ·by_cases h2:a.zS<0
  ·simp [h1,h2]
  by_cases h3:a.zS>4096
  ·simp [h1,h2,h3]
  by_cases h4:Qed a.zS none a.zP=0<;>simp [h1,h2,h3,h4]
 ·simp [h1]
end Go.Abs
end
section
namespace Go.Abs
open Go
def Qpc (x y:Qc):Prop:=x.From<y.From∨x.From=y.From∧x.Event<y.Event
instance (x y:Qc):Decidable (Qpc x y):=by unfold Qpc;infer_instance
structure Right (a:Qd):Prop where
 al0:∀ x∈a.zO,0≤x∧x<32
 al:a.zO.Pairwise (· < ·)
 st:0≤a.zS∧a.zS≤4096
 ma0:∀ x∈a.zP,0≤x∧x<a.zS
 ma:a.zP.Pairwise (· < ·)
 ed0:∀ x∈a.zQ,0≤x.From∧x.From<a.zS∧0≤x.To∧x.To<a.zS∧x.Event∈a.zO
 ed:a.zQ.Pairwise Qpc
theorem Qie {n:Int}:∀ {l:List Int} {p:Option Int},Qed n p l=0↔(∀ x∈l,0≤x∧x<n)∧l.Pairwise (· < ·)∧∀ y,p=some y→∀ x∈l,y<x
 | [],p=>by simp [Qed]
 | x::xs,p=>by
  rw [Qed];split
  ·rename_i h;refine ⟨fun h=>by omega,fun hh=>?_⟩;have:=hh.1 x (by simp);omega
  ·rename_i h;split
   ·rename_i h2;obtain ⟨y,hy,hxy⟩:=h2;refine ⟨fun h=>by omega,fun hh=>?_⟩;have:=hh.2.2 y hy x (by simp);omega
   ·rename_i h2;rw [Qie];constructor
    ·rintro ⟨k1,k2,k3⟩;refine ⟨fun z hz=>?_,List.pairwise_cons.2 ⟨fun z hz=>k3 x rfl z hz,k2⟩,fun y hy z hz=>?_⟩
     ·rcases List.mem_cons.1 hz with rfl|hz
      ·omega
      ·exact k1 z hz
     ·have hyx:y<x:=by
       rcases Int.lt_or_le y x with h|h
       ·exact h
       ·exact absurd ⟨y,hy,h⟩ h2
      rcases List.mem_cons.1 hz with rfl|hz
      ·exact hyx
      ·have:=k3 x rfl z hz;omega
    ·rintro ⟨k1,k2,k3⟩;obtain ⟨k4,k5⟩:=List.pairwise_cons.1 k2;exact ⟨fun z hz=>k1 z (by simp [hz]),k5,fun y hy z hz=>by cases hy;exact k4 z hz⟩
theorem Qs6 {al:List Int} {n:Int}:∀ {l:List Qc} {p:Option Qc},Qkr al n p l=0↔(∀ x∈l,0≤x.From∧x.From<n∧0≤x.To∧x.To<n∧x.Event∈al)∧l.Pairwise Qpc∧∀ y,p=some y→∀ x∈l,Qpc y x
 | [],p=>by simp [Qkr]
 | x::xs,p=>by
  have tr:∀ a b c:Qc,Qpc a b→Qpc b c→Qpc a c:=fun a b c h k=>by unfold Qpc at *;omega
  rw [Qkr];split
  ·rename_i h;refine ⟨fun h=>by omega,fun hh=>?_⟩;have:=hh.1 x (by simp);omega
  ·rename_i h;split
   ·rename_i h2;refine ⟨fun h=>by omega,fun hh=>?_⟩;exact absurd (hh.1 x (by simp)).2.2.2.2 h2
   ·rename_i hal;split
    ·rename_i h2;obtain ⟨y,hy,hxy⟩:=h2;refine ⟨fun h=>by omega,fun hh=>?_⟩;have:=hh.2.2 y hy x (by simp);unfold Qpc at this;omega
    ·rename_i h2;rw [Qs6];constructor
     ·rintro ⟨k1,k2,k3⟩;refine ⟨fun z hz=>?_,List.pairwise_cons.2 ⟨fun z hz=>k3 x rfl z hz,k2⟩,fun y hy z hz=>?_⟩
      ·rcases List.mem_cons.1 hz with rfl|hz
       ·exact ⟨by omega,by omega,by omega,by omega,Decidable.not_not.1 hal⟩
       ·exact k1 z hz
      ·have hyx:Qpc y x:=by
        apply Decidable.byContradiction;intro h;exact h2 ⟨y,hy,by unfold Qpc at h;omega⟩
       rcases List.mem_cons.1 hz with rfl|hz
       ·exact hyx
       ·exact tr _ _ _ hyx (k3 x rfl z hz)
     ·rintro ⟨k1,k2,k3⟩;obtain ⟨k4,k5⟩:=List.pairwise_cons.1 k2;exact ⟨fun z hz=>k1 z (by simp [hz]),k5,fun y hy z hz=>by cases hy;exact k4 z hz⟩
theorem Q41 {a:Qd}:Qqu a=0↔Right a:=by
 unfold Qqu;constructor
 ·intro h;split at h
  ·rename_i h1;exact absurd h h1
  rename_i h1;split at h
  ·omega
  split at h
  ·omega
  split at h
  ·rename_i h4;exact absurd h h4
  rename_i h4;have q1:=Qie.1 (Decidable.not_not.1 h1);have q2:=Qie.1 (Decidable.not_not.1 h4);have q3:=Qs6.1 h;exact ⟨q1.1,q1.2.1,⟨by omega,by omega⟩,q2.1,q2.2.1,q3.1,q3.2.1⟩
 ·intro h;have q1:Qed 32 none a.zO=0:=Qie.2 ⟨h.al0,h.al,fun y hy=>by cases hy⟩;have q2:Qed a.zS none a.zP=0:=Qie.2 ⟨h.ma0,h.ma,fun y hy=>by cases hy⟩;have q3:Qkr a.zO a.zS none a.zQ=0:=Qs6.2 ⟨h.ed0,h.ed,fun y hy=>by cases hy⟩;have:=h.st;rw [if_neg (by simp [q1]),if_neg (by omega),if_neg (by omega),if_neg (by simp [q2]),q3]
def outP (a:Qd) (s:Int):List Qc:=a.zQ.filter fun x=>x.From==s
def Qlv (a:Qd) (s e:Int):Int:=match a.zQ.find? fun x=>x.From==s&&x.Event==e with
 | some x=>x.To
 | none=>-1
section
variable {a:Qd} (h:Right a) (hs:small a)
include h hs
omit h in
theorem Q17 {s e:Int}:Qc6 a s e=some (Qlv a s e):=by
 have hb:a.zQ.length<1000000000000:=hs.2.2;unfold Qc6 Qbu;refine (Qp4 (len:=a.zQ.length) (fun k=>some (match (a.zQ.drop k).find? (fun x=>x.From==s&&x.Event==e) with|some x=>x.To|none=>-1)) (by unfold Qb0;omega) ?_ ?_).trans (by simp [Qlv])
 ·intro k i hi ih;rw [if_pos (by omega),Q2 hi,Qce (by omega),ih,List.drop_eq_getElem_cons hi];simp only [Option.bind_some,List.find?_cons];cases h1:a.zQ[i].From==s<;>cases h2:a.zQ[i].Event==e<;>simp [h1,h2]
 ·intro k;simp
end
theorem Q6i {a:Qd} (h:Right a) (s e:Int):Qlv a s e = -1∨0≤Qlv a s e∧Qlv a s e<a.zS∧0≤s∧s<a.zS∧e∈a.zO:=by
 unfold Qlv;split
 ·rename_i x hx;have hm:=List.mem_of_find?_eq_some hx;have hp:=List.find?_some hx;obtain ⟨k1,k2,k3,k4,k5⟩:=h.ed0 x hm;simp at hp;exact .inr ⟨k3,k4,by omega,by omega,hp.2 ▸ k5⟩
 ·exact .inl rfl
theorem Q42 {a:Qd} (h:Right a) {s e:Int}:0≤Qlv a s e↔∃ x∈outP a s,x.Event=e:=by
 unfold Qlv outP;split
 ·rename_i x hx;have hm:=List.mem_of_find?_eq_some hx;have hp:=List.find?_some hx;simp at hp;refine ⟨fun _=>⟨x,by simp [hm,hp.1],hp.2⟩,fun _=>(h.ed0 x hm).2.2.1⟩
 ·rename_i hx;have:=List.find?_eq_none.1 hx;refine ⟨fun h=>by omega,?_⟩;rintro ⟨x,h1,h2⟩;simp at h1;exact absurd (by simp [h1.2,h2]) (this x h1.1)
theorem Qwn {a:Qd} (h:Right a) (s:Int):(outP a s).map (·.Event)=a.zO.filter fun e=>decide (0≤Qlv a s e):=by
 refine Q8t ?_ (h.al.filter _) fun e=>?_
 ·rw [List.pairwise_map];have h1:(outP a s).Pairwise Qpc:=h.ed.filter _;have h2:∀ x∈outP a s,x.From=s:=fun x hx=>by unfold outP at hx;simp at hx;exact hx.2
  exact List.Pairwise.imp_of_mem (fun {x y} hx hy hk=>by have:=h2 x hx;have:=h2 y hy;unfold Qpc at hk;omega) h1
 ·simp only [List.mem_map,List.mem_filter,decide_eq_true_eq,Q42 h];constructor
  ·rintro ⟨x,hx,rfl⟩;refine ⟨?_,x,hx,rfl⟩;unfold outP at hx;simp at hx;exact (h.ed0 x hx.1).2.2.2.2
  ·rintro ⟨_,x,hx,rfl⟩;exact ⟨x,hx,rfl⟩
theorem Q43 {a:Qd} (h:Right a) {s:Int} {x:Qc} (hx:x∈outP a s):Qlv a s x.Event=x.To:=by
 unfold outP at hx;simp at hx;unfold Qlv;split
 ·rename_i y hy;have hm:=List.mem_of_find?_eq_some hy;have hp:=List.find?_some hy;simp at hp;have:x=y:=by
   rcases Classical.em (x=y) with e|hne
   ·exact e
   ·exfalso;have hk:Qpc x y∨Qpc y x:=by
     have:=List.pairwise_iff_getElem.1 h.ed;obtain ⟨i,hi,rfl⟩:=List.getElem_of_mem hx.1;obtain ⟨j,hj,rfl⟩:=List.getElem_of_mem hm;rcases Nat.lt_trichotomy i j with hij|hij|hij
     ·exact .inl (this i j hi hj hij)
     ·subst hij;exact absurd rfl hne
     ·exact .inr (this j i hj hi hij)
    unfold Qpc at hk;omega
  rw [this]
 ·rename_i hn;exact absurd (by simp [hx.2]) (List.find?_eq_none.1 hn x hx.1)
end Go.Abs
end
section
namespace Go.Abs
open Go
theorem Right.small {a:Qd} (h:Right a):small a∧a.zO.length≤32∧a.zP.length≤4096∧a.zQ.length≤131072:=by
 have h1:=Qj1 h.al h.al0;have h2:=Qj1 h.ma h.ma0;have h3:(a.zQ.map fun x=>x.From*32+x.Event).Pairwise (· < ·):=by
  rw [List.pairwise_map];refine List.Pairwise.imp_of_mem (fun {x y} hx hy hk=>?_) h.ed;have:=h.al0 _ (h.ed0 x hx).2.2.2.2;have:=h.al0 _ (h.ed0 y hy).2.2.2.2;unfold Qpc at hk;omega
 have h4:=Qj1 (a:=0) (b:=131072) h3 (by
  intro z hz;obtain ⟨x,hx,rfl⟩:=List.mem_map.1 hz;have:=h.al0 _ (h.ed0 x hx).2.2.2.2;have:=h.ed0 x hx;have:=h.st;omega)
 rw [List.length_map] at h4;have:=h.st;refine ⟨⟨?_,?_,?_⟩,?_,?_,?_⟩<;>(try unfold big)<;>omega
theorem Q8u {α β:Type} {l:List α} {f:α→β} {fuel:Nat} (hl:l.length<big) (hf:l.length<fuel) {F:(List β×Int→Option (List β))→List β×Int→Option (List β)}
  (hF:∀ (k:List β×Int→Option (List β)) (acc:List β) (n:Nat) (h:n<l.length),F k (acc,(n:Int))=(appO acc [f l[n]]).bind fun x=>k (x,IntKind.wrap .i64 ((n:Int)+1)))
  (hlast:∀ (k:List β×Int→Option (List β)) (acc:List β),F k (acc,(l.length:Int))=some acc):Qbv F fuel ([],0)=some (l.map f):=by
 have hb:l.length<1000000000000:=hl;refine (Qgr (len:=l.length) (fun n (acc:List β)=>(acc,(n:Int))) (fun n acc=>acc.length≤n) (fun n acc=>some (acc++(l.drop n).map f)) ?_ ?_ fuel 0 [] (Nat.zero_le _) (by omega) (Nat.le_refl _)).trans (by simp)
 ·intro k n acc hn hi ih;rw [hF k acc n hn,Qd7 (by simp only [List.length_cons,List.length_nil];unfold lim;omega),Option.bind_some,Qce (by omega),ih _ (by simp;omega),List.drop_eq_getElem_cons hn];simp only [List.map_cons,List.append_assoc,List.cons_append,List.nil_append]
 ·intro k acc _;rw [hlast];simp
theorem Qxm {α β:Type} {l:List α} {f:α→Option β} {fuel:Nat} (hl:l.length<big) (hf:l.length<fuel) {F:(List β×Int→Option (List β))→List β×Int→Option (List β)}
  (hF:∀ (k:List β×Int→Option (List β)) (acc:List β) (n:Nat) (h:n<l.length),acc.length≤n→F k (acc,(n:Int))=k (acc++(f l[n]).toList,IntKind.wrap .i64 ((n:Int)+1)))
  (hlast:∀ (k:List β×Int→Option (List β)) (acc:List β),F k (acc,(l.length:Int))=some acc):Qbv F fuel ([],0)=some (l.filterMap f):=by
 have hb:l.length<1000000000000:=hl;refine (Qgr (len:=l.length) (fun n (acc:List β)=>(acc,(n:Int))) (fun n acc=>acc.length≤n) (fun n acc=>some (acc++(l.drop n).filterMap f)) ?_ ?_ fuel 0 [] (Nat.zero_le _) (by omega) (Nat.le_refl _)).trans (by simp)
 ·intro k n acc hn hi ih;have hlen:(f l[n]).toList.length≤1:=by cases f l[n]<;>simp
  rw [hF k acc n hn hi,Qce (by omega),ih _ (by simp only [List.length_append];omega),List.drop_eq_getElem_cons hn];rw [List.filterMap_cons];cases f l[n]<;>simp only [Option.toList_none,Option.toList_some,List.append_nil,List.append_assoc,List.cons_append,List.nil_append]
 ·intro k acc _;rw [hlast];simp
end Go.Abs
end
section
namespace Go.Abs
open Go
def ins (o:List Int) (t:Int):List Int:=if t∈o then o else o++[t]
def Qy4 (a:Qd) (s:Int):List Int:=(outP a s).map (·.To)
def bfs (a:Qd):Nat→Nat→List Int→List Int
 | 0,_,o=>o
 | fuel+1,i,o=>match o[i]? with
  | some s=>bfs a fuel (i+1) ((Qy4 a s).foldl ins o)
  | none=>o
def Qqv (a:Qd):List Int:=bfs a (a.zS.toNat+1) 0 (if 0<a.zS then [0] else [])
structure Fnd (a:Qd) (o:List Int):Prop where
 nd:o.Nodup
 rg:∀ s∈o,0≤s∧s<a.zS
theorem Fnd.len {a:Qd} {o:List Int} (h:Fnd a o):o.length≤a.zS.toNat:=by
 have hO:Go.Sort.SWO Qkl:=⟨fun x=>by simp [Qkl],fun x y z h1 h2=>by simp [Qkl] at *;omega,fun x y z h1 h2=>by simp [Qkl] at *;omega⟩;have hp:=Qsz Qkl o;have hs:=Qs1 hO o;have hn:(Quv Qkl o).Nodup:=(hp.nodup_iff).2 h.nd;have hlt:(Quv Qkl o).Pairwise (· < ·):=by
  have:(Quv Qkl o).Pairwise fun x y=>Qkl y x=false∧x≠y:=hs.and hn;exact this.imp fun ⟨h1,h2⟩=>by simp [Qkl] at h1;omega
 have:=Qj1 hlt (a:=0) (b:=a.zS) fun x hx=>h.rg x (hp.mem_iff.1 hx);rw [Qs0] at this;simpa using this
theorem Q6j {o:List Int} {t x:Int}:x∈ins o t↔x∈o∨x=t:=by
 unfold ins;split
 ·rename_i h;constructor
  ·exact .inl
  ·rintro (h'|rfl)
   ·exact h'
   ·exact h
 ·simp
theorem Q6k (o:List Int) (t:Int):o <+: ins o t:=by
 unfold ins;split
 ·exact List.prefix_refl o
 ·exact List.prefix_append o [t]
theorem Fnd.ins {a:Qd} {o:List Int} (h:Fnd a o) {t:Int} (ht:0≤t∧t<a.zS):Fnd a (ins o t):=by
 refine ⟨?_,fun s hs=>?_⟩
 ·unfold Go.Abs.ins;split
  ·exact h.nd
  ·rename_i hn;rw [List.nodup_append];exact ⟨h.nd,by simp,fun x hx y hy=>by simp at hy;subst hy;exact fun e=>hn (e ▸ hx)⟩
 ·rcases Q6j.1 hs with hs|rfl
  ·exact h.rg s hs
  ·exact ht
theorem Q0y {a:Qd}:∀ {ts o:List Int},Fnd a o→(∀ t∈ts,0≤t∧t<a.zS)→Fnd a (ts.foldl ins o)∧o <+: ts.foldl ins o∧(∀ t∈ts,t∈ts.foldl ins o)∧∀ x∈ts.foldl ins o,x∈o∨x∈ts
 | [],o,h,_=>⟨h,List.prefix_refl o,by simp,fun x hx=>.inl hx⟩
 | t::ts,o,h,ht=>by
  obtain ⟨h1,h2,h3,h4⟩:=Q0y (ts:=ts) (h.ins (ht t (by simp))) fun t ht'=>ht t (by simp [ht']);refine ⟨h1,(Q6k o t).trans h2,fun x hx=>?_,fun x hx=>?_⟩
  ·rcases List.mem_cons.1 hx with rfl|hx
   ·exact h2.subset (Q6j.2 (.inr rfl))
   ·exact h3 x hx
  ·rcases h4 x hx with h5|h5
   ·rcases Q6j.1 h5 with h6|rfl
    ·exact .inl h6
    ·exact .inr (by simp)
   ·exact .inr (by simp [h5])
theorem Q0z {a:Qd} (h:Right a) (s:Int):∀ t∈Qy4 a s,0≤t∧t<a.zS:=by
 intro t ht;unfold Qy4 outP at ht;obtain ⟨x,hx,rfl⟩:=List.mem_map.1 ht;have:=h.ed0 x ((List.mem_filter.1 hx).1);omega
theorem Qvg {α:Type} {l m:List α} (h:l <+: m) {i:Nat} {x:α} (hx:l[i]? = some x):m[i]? = some x:=by
 obtain ⟨t,rfl⟩:=h;have:=(List.getElem?_eq_some_iff.1 hx).1;rw [List.getElem?_append_left this];exact hx
theorem Q7t {a:Qd} (h:Right a):∀ (fuel i:Nat) (o:List Int),Fnd a o→i≤o.length→a.zS.toNat+1≤fuel+i→(∀ j s,j<i→o[j]? = some s→∀ t∈Qy4 a s,t∈o) →
  Fnd a (bfs a fuel i o)∧o <+: bfs a fuel i o∧∀ s∈bfs a fuel i o,∀ t∈Qy4 a s,t∈bfs a fuel i o
 | 0,i,o,hf,hi,hfu,_=>by have:=hf.len;omega
 | fuel+1,i,o,hf,hi,hfu,hc=>by
  unfold bfs;cases hg:o[i]? with
  | none =>
   dsimp only;refine ⟨hf,List.prefix_refl o,fun s hs t ht=>?_⟩;obtain ⟨j,hj⟩:=List.getElem?_of_mem hs;have hlt:=(List.getElem?_eq_some_iff.1 hj).1;exact hc j s (by have:=List.getElem?_eq_none_iff.1 hg;omega) hj t ht
  | some s =>
   dsimp only;obtain ⟨h1,h2,h3,_⟩:=Q0y hf (Q0z h s);have hlen:i<o.length:=(List.getElem?_eq_some_iff.1 hg).1;have hle:=h2.length_le;obtain ⟨k1,k2,k3⟩:=Q7t h fuel (i+1) ((Qy4 a s).foldl ins o) h1 (by omega) (by omega) (fun j s' hj hs' t ht=>by
    by_cases hji:j<i
    ·have hjl:j<o.length:=by omega
     have:o[j]? = some s':=by
      have:=Qvg h2 (List.getElem?_eq_getElem hjl);rw [hs'] at this;rw [List.getElem?_eq_getElem hjl];exact this.symm
     exact h2.subset (hc j s' hji this t ht)
    ·obtain rfl:j=i:=by omega
     have:=Qvg h2 hg;rw [hs'] at this;cases this;exact h3 t ht)
   exact ⟨k1,h2.trans k2,k3⟩
theorem Qyf {a:Qd} (h:Right a):Fnd a (Qqv a)∧(if 0<a.zS then [0] else []) <+: Qqv a∧∀ s∈Qqv a,∀ t∈Qy4 a s,t∈Qqv a :=
 Q7t h _ 0 _ ⟨by split<;>simp,fun s hs=>by split at hs<;>simp at hs;subst hs;omega⟩ (Nat.zero_le _) (by omega) fun j s hj=>by omega
def Qvy (m:List Int):Nat→List Int→List Int
 | _,[]=>[]
 | i,s::t=>(if s∈m then [(i:Int)] else [])++Qvy m (i+1) t
def rowP (a:Qd) (F:List Int) (i:Nat) (s:Int):List Qc:=(outP a s).map fun x=>⟨(i:Int),x.Event,(F.idxOf x.To:Int)⟩
def Qvz (a:Qd) (F:List Int):Nat→List Int→List Qc
 | _,[]=>[]
 | i,s::t=>rowP a F i s++Qvz a F (i+1) t
def Qtd (a:Qd):Qd:=⟨a.zO,((Qqv a).length:Int),Qvy a.zP 0 (Qqv a),Qvz a (Qqv a) 0 (Qqv a)⟩
theorem Qu0 {m:List Int}:∀ {l:List Int} {i:Nat},∀ x∈Qvy m i l,(i:Int)≤x∧x<(i+l.length:Nat)
 | [],i,x,hx=>by simp [Qvy] at hx
 | s::t,i,x,hx=>by
  simp only [Qvy,List.mem_append] at hx;rcases hx with hx|hx
  ·split at hx<;>simp at hx;subst hx;simp only [List.length_cons];omega
  ·have:=Qu0 x hx;simp only [List.length_cons];omega
theorem Qxn {m:List Int}:∀ {l:List Int} {i:Nat},(Qvy m i l).Pairwise (· < ·)
 | [],i=>.nil
 | s::t,i=>by
  simp only [Qvy];rw [List.pairwise_append];refine ⟨by split<;>simp,Qxn,fun x hx y hy=>?_⟩;have:=Qu0 y hy;split at hx<;>simp at hx;omega
theorem Qwo {a:Qd} {F:List Int}:∀ {l:List Int} {i:Nat},∀ x∈Qvz a F i l,(i:Int)≤x.From∧x.From<(i+l.length:Nat)∧∃ s∈l,∃ y∈outP a s,x.Event=y.Event∧x.To=(F.idxOf y.To:Int)
 | [],i,x,hx=>by simp [Qvz] at hx
 | s::t,i,x,hx=>by
  simp only [Qvz,List.mem_append] at hx;rcases hx with hx|hx
  ·obtain ⟨y,hy,rfl⟩:=List.mem_map.1 hx;simp only [List.length_cons];exact ⟨by omega,by omega,s,by simp,y,hy,rfl,rfl⟩
  ·obtain ⟨h1,h2,s',h3,h4⟩:=Qwo x hx;simp only [List.length_cons];exact ⟨by omega,by omega,s',by simp [h3],h4⟩
theorem Qxo {a:Qd} (h:Right a) {F:List Int}:∀ {l:List Int} {i:Nat},(Qvz a F i l).Pairwise Qpc
 | [],i=>.nil
 | s::t,i=>by
  simp only [Qvz];rw [List.pairwise_append];refine ⟨?_,Qxo h,fun x hx y hy=>?_⟩
  ·unfold rowP;rw [List.pairwise_map];have h1:(outP a s).Pairwise Qpc:=h.ed.filter _;have h2:∀ x∈outP a s,x.From=s:=fun x hx=>by unfold outP at hx;simp at hx;exact hx.2
   exact List.Pairwise.imp_of_mem (fun {x y} hx hy hk=>by have:=h2 x hx;have:=h2 y hy;unfold Qpc at hk;exact .inr ⟨rfl,by show x.Event<y.Event;omega⟩) h1
  ·obtain ⟨z,_,rfl⟩:=List.mem_map.1 hx;have:=(Qwo y hy).1;unfold Qpc;simp only;omega
theorem Q44 {a:Qd} (h:Right a):Right (Qtd a):=by
 obtain ⟨h1,h2,h3⟩:=Qyf h;have hl:=h1.len;have hst:=h.st;refine ⟨h.al0,h.al,⟨by simp only [Qtd];omega,by simp only [Qtd];omega⟩,fun x hx=>?_,Qxn,fun x hx=>?_,Qxo h⟩
 ·have:=Qu0 x hx;simp only [Qtd];omega
 ·obtain ⟨k1,k2,s,hs,y,hy,k3,k4⟩:=Qwo x hx;have hy' : y.To∈Qqv a:=h3 s hs y.To (List.mem_map.2 ⟨y,hy,rfl⟩);have:=List.idxOf_lt_length_iff.2 hy';simp only [Qtd];refine ⟨by omega,by omega,by omega,by omega,?_⟩;rw [k3];unfold outP at hy;exact (h.ed0 y ((List.mem_filter.1 hy).1)).2.2.2.2
end Go.Abs
end
section
namespace Go.Abs
open Go
theorem Q7u {l:List Int} (hl:l.length≤lim):Qfu l=some ⟨l,0,[],[]⟩:=by
 unfold Qfu Qbi;rw [Qd7 (by simpa using hl)];rfl
theorem Q6l {l:List Int} {v:Int} (hl:l.length<big):Qfv l v=some (if v∈l then (l.idxOf v:Int) else -1):=by
 have hb:l.length<1000000000000:=hl;unfold Qfv Qdf;refine (Qp4 (len:=l.length) (fun k=>some (if v∈l.drop k then ((k+(l.drop k).idxOf v:Nat):Int) else -1)) (by unfold Qb0;omega) ?_ ?_).trans (by simp)
 ·intro k i hi ih;rw [if_pos (by omega),Q2 hi,Qce (by omega),ih,List.drop_eq_getElem_cons hi];simp only [Option.bind_some,List.mem_cons,List.idxOf_cons];by_cases h:v=l[i]
  ·simp [← h]
  ·have h' : ¬ l[i]=v:=fun e=>h e.symm;have hbq:(l[i]==v)=false:=by simp [h']
   by_cases h2:v∈l.drop (i+1)<;>simp [h,h2,hbq];omega
 ·intro k;simp
theorem Qyz {a:Qd} (h:Right a) (s:Int):Qy4 a s=(a.zO.filter fun e=>decide (0≤Qlv a s e)).map (Qlv a s):=by
 rw [← Qwn h,List.map_map];unfold Qy4;exact List.map_congr_left fun x hx=>(Q43 h hx).symm
theorem Q18 {a:Qd} (s:Int):∀ (al o:List Int),al.foldl (fun o e=>if 0≤Qlv a s e then ins o (Qlv a s e) else o) o=((al.filter fun e=>decide (0≤Qlv a s e)).map (Qlv a s)).foldl ins o
 | [],o=>rfl
 | e::al,o=>by
  by_cases hx:0≤Qlv a s e<;>simp [List.filter_cons,hx,Q18 s al]
theorem Qbc1 {a:Qd} {fuel i:Nat} {o:List Int} (hi:i<o.length):bfs a (fuel+1) i o=bfs a fuel (i+1) ((Qy4 a o[i]).foldl ins o):=by
 conv=>lhs;unfold bfs
 rw [List.getElem?_eq_getElem hi]
theorem Qbe8 {a:Qd} {fuel:Nat} {o:List Int}:bfs a fuel o.length o=o:=by
 cases fuel with
 | zero=>rfl
 | succ n=>unfold bfs;simp
section
variable {a:Qd} (h:Right a)
include h
theorem Q8v (fuel:Nat) (hfu:1099511627776≤fuel) {s:Int} {o:List Int} {i:Nat} (hf:Fnd a o) (hi:o[i]? = some s) :
  Qbv (fun k12 ((out10,k11):(List Int)×Int)=>(if (k11<(a.zO.length:Int)) then ((((getO out10 (i:Int)).bind fun x14=>((getO a.zO k11).bind fun x16=>((Qc6 a x14 x16).bind fun x19=>(((if (x19≥0) then ((Qd5 out10 x19).bind fun x22=>some (!x22)) else some false)).bind fun (x23:Bool)=>(if x23 then ((appO out10 [x19]).bind fun x25=>some x25) else some out10)))))).bind fun (out27:List Int)=>k12 (out27,(IntKind.wrap .i64 (k11+1)))) else some out10)) fuel (o,0)=some ((Qy4 a s).foldl ins o):=by
 have hs:=h.small.1;have hst:=h.st;have hb:a.zO.length<1000000000000:=hs.1;rw [Qyz h,← Q18];refine (Qgr (len:=a.zO.length) (fun n (acc:List Int)=>(acc,(n:Int))) (fun n acc=>Fnd a acc∧acc[i]? = some s) (fun n acc=>some ((a.zO.drop n).foldl (fun o e=>if 0≤Qlv a s e then ins o (Qlv a s e) else o) acc)) ?_ ?_ fuel 0 o (Nat.zero_le _) (by omega) ⟨hf,hi⟩).trans (by simp)
 ·intro k n acc hn ⟨k1,k2⟩ ih;have hlen:=k1.len;have hg:getO acc (i:Int)=some s:=by rw [Q40];exact ⟨by omega,by simpa using k2⟩
  dsimp only;rw [if_pos (by omega),hg,Q2 hn];simp only [Option.bind_some];rw [Q17 hs,Qce (by omega)];simp only [Option.bind_some];rw [Qbd3 (by unfold big;omega),List.drop_eq_getElem_cons hn,List.foldl_cons];rcases Q6i h s a.zO[n] with hr|hr
  ·rw [hr];simp only [show ¬ ((-1:Int)≥0) from by omega,show ¬ ((0:Int) ≤ -1) from by omega,if_false,Option.bind_some,Bool.false_eq_true];exact ih _ ⟨k1,k2⟩
  ·have hge:Qlv a s a.zO[n]≥0:=hr.1;by_cases hm:Qlv a s a.zO[n]∈acc
   ·simp only [hge,hm,decide_true,Bool.not_true,if_true,Option.bind_some,Bool.false_eq_true,if_false,hr.1,ins];exact ih _ ⟨k1,k2⟩
   ·simp only [hge,hm,decide_false,Bool.not_false,if_true,Option.bind_some,hr.1,ins,if_false];rw [Qd7 (by simp only [List.length_cons,List.length_nil];unfold lim;omega)];simp only [Option.bind_some];have hi':=k1.ins (t:=Qlv a s a.zO[n]) ⟨hr.1,hr.2.1⟩;unfold ins at hi';rw [if_neg hm] at hi';exact ih _ ⟨hi',Qvg (List.prefix_append acc _) k2⟩
 ·intro k acc _;dsimp only;rw [if_neg (by omega)];simp
theorem Q6m:Qg9 a=some (Qqv a):=by
 have hs:=h.small.1;have hst:=h.st;unfold Qg9 Qde;obtain ⟨fuel,hfu,hge⟩ : ∃ f,Qb0=f∧1099511627776≤f:=⟨_,rfl,Nat.le_refl _⟩;rw [hfu];have hloop:∀ o:List Int,Fnd a o→Qbv (fun (k8:List Int×Int→Option (List Int)) ((out6,i7):(List Int)×Int)=>(if (i7<(out6.length:Int)) then ((Qbv (fun k12 ((out10,k11):(List Int)×Int)=>(if (k11<(a.zO.length:Int)) then ((((getO out10 i7).bind fun x14=>((getO a.zO k11).bind fun x16=>((Qc6 a x14 x16).bind fun x19=>(((if (x19≥0) then ((Qd5 out10 x19).bind fun x22=>some (!x22)) else some false)).bind fun (x23:Bool)=>(if x23 then ((appO out10 [x19]).bind fun x25=>some x25) else some out10)))))).bind fun (out27:List Int)=>k12 (out27,(IntKind.wrap .i64 (k11+1)))) else some out10)) fuel (out6,0)).bind fun (out28:List Int)=>k8 (out28,(IntKind.wrap .i64 (i7+1)))) else some out6)) fuel (o,0)=some (bfs a (a.zS.toNat+1) 0 o):=by
  intro o ho;have:=Qk2 (F:=fun (k8:List Int×Int→Option (List Int)) ((out6,i7):(List Int)×Int)=>(if (i7<(out6.length:Int)) then ((Qbv (fun k12 ((out10,k11):(List Int)×Int)=>(if (k11<(a.zO.length:Int)) then ((((getO out10 i7).bind fun x14=>((getO a.zO k11).bind fun x16=>((Qc6 a x14 x16).bind fun x19=>(((if (x19≥0) then ((Qd5 out10 x19).bind fun x22=>some (!x22)) else some false)).bind fun (x23:Bool)=>(if x23 then ((appO out10 [x19]).bind fun x25=>some x25) else some out10)))))).bind fun (out27:List Int)=>k12 (out27,(IntKind.wrap .i64 (k11+1)))) else some out10)) fuel (out6,0)).bind fun (out28:List Int)=>k8 (out28,(IntKind.wrap .i64 (i7+1)))) else some out6))
   (fun x=>∃ i:Nat,x.2=(i:Int)∧i≤x.1.length∧Fnd a x.1) (fun x=>a.zS.toNat+1-x.2.toNat) (fun x r=>r=some (bfs a (a.zS.toNat+1-x.2.toNat) x.2.toNat x.1)) (by
    rintro k ⟨o,i⟩ ⟨i,rfl,hi,hf⟩ ih;replace hi:i≤o.length:=hi;replace hf:Fnd a o:=hf;have hl:=hf.len;dsimp only;by_cases hlt:i<o.length
    ·rw [if_pos (by omega),Q8v h fuel hge hf (List.getElem?_eq_getElem hlt),Option.bind_some,Qce (by omega)];obtain ⟨q1,q2,_,_⟩:=Q0y hf (Q0z h o[i]);have hle:=q2.length_le;rw [ih _ ⟨i+1,rfl,by simp only;omega,q1⟩ (by simp only;omega)];simp only [Int.toNat_natCast];rw [show a.zS.toNat+1-i=(a.zS.toNat+1-(i+1))+1 from by omega,Qbc1 hlt]
    ·rw [if_neg (by omega)];obtain rfl:i=o.length:=by omega
     simp only [Int.toNat_natCast,Qbe8]) fuel (o,0) ⟨0,rfl,Nat.zero_le _,ho⟩ (by simp only;omega)
  simpa using this
 by_cases h0:0<a.zS
 ·rw [if_pos (by omega),Qd7 (by simp only [List.length_cons,List.length_nil];unfold lim;omega)];simp only [Option.bind_some];rw [show ([]++[0]:List Int)=[0] from rfl,hloop [0] ⟨by simp,fun s hs=>by simp at hs;subst hs;omega⟩];simp only [Option.bind_some,Qqv,if_pos h0]
 ·rw [if_neg (by omega)];simp only [Option.bind_some];rw [hloop [] ⟨by simp,fun s hs=>by simp at hs⟩];simp only [Option.bind_some,Qqv,if_neg h0]
theorem Q19 (fuel:Nat) (hfu:1099511627776≤fuel) {F:List Int} (hF:Fnd a F) (hcl:∀ s∈F,∀ t∈Qy4 a s,t∈F) {s:Int} {i:Nat} (hi:F[i]? = some s) (ms:List Int) (es:List Qc) (hes:es.length≤200000) :
  Qbv (fun (k24:Int×List Qc→Option (List Int×List Qc)) ((k22,out23):Int×(List Qc))=>(if (k22<(a.zO.length:Int)) then ((((getO F (i:Int)).bind fun x26=>((getO a.zO k22).bind fun x28=>((Qc6 a x26 x28).bind fun x31=>(if (x31≥0) then ((getO a.zO k22).bind fun x33=>((Qfv F x31).bind fun x36=>((appO out23 [(Qc.mk (i:Int) x33 x36)]).bind fun x37=>some x37))) else some out23))))).bind fun (out39:List Qc)=>k24 ((IntKind.wrap .i64 (k22+1)),out39)) else some (ms,out23))) fuel (0,es)=some (ms,es++rowP a F i s):=by
 have hs:=h.small.1;have hst:=h.st;have hal:=h.small.2.1;have hb:a.zO.length<1000000000000:=hs.1;have hFl:=hF.len;have hrow:rowP a F i s=(a.zO.filter fun e=>decide (0≤Qlv a s e)).map fun e=>⟨(i:Int),e,(F.idxOf (Qlv a s e):Int)⟩:=by
  rw [← Qwn h,List.map_map];unfold rowP;exact List.map_congr_left fun x hx=>by simp only [Function.comp];rw [Q43 h hx]
 rw [hrow];refine (Qgr (len:=a.zO.length) (fun n (acc:List Qc)=>((n:Int),acc)) (fun n acc=>acc.length≤200000+n) (fun n acc=>some (ms,acc++((a.zO.drop n).filter fun e=>decide (0≤Qlv a s e)).map fun e=>⟨(i:Int),e,(F.idxOf (Qlv a s e):Int)⟩)) ?_ ?_ fuel 0 es (Nat.zero_le _) (by omega) (by omega)).trans (by simp)
 ·intro k n acc hn k1 ih;have hg:getO F (i:Int)=some s:=by rw [Q40];exact ⟨by omega,by simpa using hi⟩
  dsimp only;rw [if_pos (by omega),hg,Q2 hn];simp only [Option.bind_some];rw [Q17 hs,Qce (by omega)];simp only [Option.bind_some];rw [List.drop_eq_getElem_cons hn,List.filter_cons];by_cases hr:0≤Qlv a s a.zO[n]
  ·have hm:Qlv a s a.zO[n]∈F:=hcl s (List.mem_of_getElem? hi) _ (by rw [Qyz h];exact List.mem_map.2 ⟨_,List.mem_filter.2 ⟨List.getElem_mem hn,by simpa using hr⟩,rfl⟩);rw [if_pos hr,Q6l (by unfold big;omega),if_pos hm];simp only [Option.bind_some];rw [Qd7 (by simp only [List.length_cons,List.length_nil];unfold lim;omega)];simp only [Option.bind_some];rw [ih _ (by simp only [List.length_append,List.length_cons,List.length_nil];omega)];simp only [hr,decide_true,if_true,List.map_cons,List.append_assoc,List.cons_append,List.nil_append]
  ·rw [if_neg (by omega)];simp only [Option.bind_some];rw [ih _ (by omega)];simp only [hr,decide_false,Bool.false_eq_true,if_false]
 ·intro k acc _;dsimp only;rw [if_neg (by omega)];simp
theorem Qbc2 {F:List Int} {i:Nat} {s:Int}:(rowP a F i s).length≤32:=by
 have:=h.small.2.1;have h1:(rowP a F i s).length=((outP a s).map (·.Event)).length:=by simp [rowP]
 rw [h1,Qwn h];exact Nat.le_trans (List.length_filter_le _ _) this
theorem Q00:Qfi a=some (Qtd a):=by
 have hs:=h.small.1;have hst:=h.st;have hal:=h.small.2.1;have hb:a.zO.length<1000000000000:=hs.1;obtain ⟨hF,_,hcl⟩:=Qyf h;have hFl:=hF.len;unfold Qfi Qck;obtain ⟨fuel,hfu,hge⟩ : ∃ f,Qb0=f∧1099511627776≤f:=⟨_,rfl,Nat.le_refl _⟩;rw [hfu,Q6m h,Option.bind_some,Q7u (by unfold lim;omega),Option.bind_some];unfold Qtd;generalize Qqv a=F at hF hcl hFl;show Option.bind (Qbv _ fuel (((0:Nat):Int),[],[],[],[],[])) _=_;rw [Qgr (len:=F.length) (R:=List Int×List Int×List Qc×List Int×List Qc) (fun n (acc:List Int×List Qc)=>((n:Int),([]:List Int),([]:List Int),([]:List Qc),acc.1,acc.2)) (fun n acc=>acc.1.length≤n∧acc.2.length≤32*n)
  (fun n acc=>some (([]:List Int),([]:List Int),([]:List Qc),acc.1++Qvy a.zP n (F.drop n),acc.2++Qvz a F n (F.drop n))) ?_ ?_ fuel 0 ([],[]) (Nat.zero_le _) (by omega) ⟨Nat.zero_le _,Nat.zero_le _⟩]
 ·simp
 ·rintro k n ⟨ms,es⟩ hn ⟨k1,k2⟩ ih;replace k1:ms.length≤n:=k1;replace k2:es.length≤32*n:=k2;have hg:=List.getElem?_eq_getElem hn;dsimp only;rw [if_pos (by omega),Q2 hn];simp only [Option.bind_some];rw [Qbd3 hs.2.1];simp only [Option.bind_some];have hrl:=Qbc2 h (F:=F) (i:=n) (s:=F[n]);rw [List.drop_eq_getElem_cons hn];simp only [Qvy,Qvz];by_cases hm:F[n]∈a.zP
  ·simp only [hm,decide_true,if_true];rw [Qd7 (by simp only [List.length_cons,List.length_nil];unfold lim;omega)];simp only [Option.bind_some];have:=Q19 h fuel hge hF hcl hg (ms++[(n:Int)]) es (by omega);rw [Q2 hn] at this;simp only [Option.bind_some] at this;rw [this];simp only [Option.bind_some];rw [Qce (by omega),ih (ms++[(n:Int)],es++rowP a F n F[n]) ⟨by simp only [List.length_append,List.length_cons,List.length_nil];omega,by simp only [List.length_append];omega⟩];simp only [List.append_assoc]
  ·simp only [hm,decide_false,Bool.false_eq_true,if_false,Option.bind_some];have:=Q19 h fuel hge hF hcl hg ms es (by omega);rw [Q2 hn] at this;simp only [Option.bind_some] at this;rw [this];simp only [Option.bind_some];rw [Qce (by omega),ih (ms,es++rowP a F n F[n]) ⟨by simp only;omega,by simp only [List.length_append];omega⟩];simp only [List.append_assoc,List.nil_append]
 ·rintro k ⟨ms,es⟩ _;dsimp only;rw [if_neg (by omega)];simp [Qvy,Qvz]
end
end Go.Abs
end
section
namespace Go.Abs
open Go
structure Evs (l:List Int):Prop where
 rg:∀ x∈l,0≤x∧x<5
 so:l.Pairwise (· < ·)
theorem Evs.len {l:List Int} (h:Evs l):l.length≤5:=by have:=Qj1 h.so h.rg;simpa using this
def Qbbb:List Int→Bool
 | []=>true
 | x::xs=>xs.all (fun y=>decide (x<y))&&Qbbb xs
theorem Q01:∀ {l:List Int},Qbbb l=true→l.Pairwise (· < ·)
 | [],_=>.nil
 | x::xs,h=>by
  simp only [Qbbb,Bool.and_eq_true,List.all_eq_true,decide_eq_true_eq] at h;exact List.pairwise_cons.2 ⟨h.1,Q01 h.2⟩
def evB (s:Nat):Bool:=match Qdk (s:Int) with
 | some l=>Qbbb l&&l.all fun x=>decide (0≤x)&&decide (x<5)
 | none=>false
theorem Qbe9:(List.range 256).all evB=true:=by kernel_rfl
theorem Qbbc {s:Int} (h0:0≤s) (h1:s<256):∃ l,Qdk s=some l∧Evs l:=by
 have:=List.all_eq_true.1 Qbe9 s.toNat (List.mem_range.2 (by omega));unfold evB at this;rw [show ((s.toNat:Nat):Int)=s from by omega] at this;split at this
 ·rename_i l hl;simp only [Bool.and_eq_true,List.all_eq_true,decide_eq_true_eq] at this;exact ⟨l,hl,fun x hx=>this.2 x hx,Q01 this.1⟩
 ·cases this
structure Mks (n:Nat) (ms:List Int):Prop where
 rg:∀ x∈ms,0≤x∧x<n
 so:ms.Pairwise (· < ·)
structure Eds (al:List Int) (N:Int) (i k:Nat) (es:List Qc):Prop where
 rg:∀ x∈es,0≤x.From∧0≤x.To∧x.To<N∧x.Event∈al∧(x.From<i∨x.From=i∧∃ j:Nat,j<k∧al[j]? = some x.Event)
 so:es.Pairwise Qpc
 ln:es.length≤5*i+k
theorem Mks.up {n:Nat} {ms:List Int} (h:Mks n ms):Mks (n+1) ms:=⟨fun x hx=>by have:=h.rg x hx;omega,h.so⟩
theorem Mks.add {n:Nat} {ms:List Int} (h:Mks n ms):Mks (n+1) (ms++[(n:Int)]):=by
 refine ⟨fun x hx=>?_,?_⟩
 ·rcases List.mem_append.1 hx with hx|hx
  ·have:=h.rg x hx;omega
  ·simp at hx;omega
 ·rw [List.pairwise_append];exact ⟨h.so,by simp,fun x hx y hy=>by simp at hy;have:=h.rg x hx;omega⟩
theorem Mks.len {n:Nat} {ms:List Int} (h:Mks n ms):ms.length≤n:=by have:=Qj1 h.so h.rg;simpa using this
section
variable {al:List Int} (hal:Evs al) {N:Int} {i k:Nat} {es:List Qc}
theorem Eds.up (h:Eds al N i k es):Eds al N i (k+1) es:=⟨fun x hx=>by
 obtain ⟨h1,h2,h3,h4,h5⟩:=h.rg x hx;refine ⟨h1,h2,h3,h4,?_⟩;rcases h5 with h5|⟨h5,j,h6,h7⟩
 ·exact .inl h5
 ·exact .inr ⟨h5,j,by omega,h7⟩,h.so,by have:=h.ln;omega⟩
theorem Eds.next (h:Eds al N i k es) (hk:k≤5):Eds al N (i+1) 0 es:=⟨fun x hx=>by
 obtain ⟨h1,h2,h3,h4,h5⟩:=h.rg x hx;exact ⟨h1,h2,h3,h4,.inl (by rcases h5 with h5|⟨h5,_⟩<;>omega)⟩,h.so,by have:=h.ln;omega⟩
include hal in
theorem Eds.add (h:Eds al N i k es) (hk:k<al.length) {t:Int} (ht:0≤t∧t<N):Eds al N i (k+1) (es++[⟨(i:Int),al[k],t⟩]):=by
 refine ⟨fun x hx=>?_,?_,by have:=h.ln;simp only [List.length_append,List.length_cons,List.length_nil];omega⟩
 ·rcases List.mem_append.1 hx with hx|hx
  ·exact h.up.rg x hx
  ·simp at hx;subst hx;exact ⟨by simp only;omega,ht.1,ht.2,List.getElem_mem hk,.inr ⟨rfl,k,by omega,List.getElem?_eq_getElem hk⟩⟩
 ·rw [List.pairwise_append];refine ⟨h.so,by simp,fun x hx y hy=>?_⟩;simp at hy;subst hy;obtain ⟨_,_,_,_,h5⟩:=h.rg x hx;rcases h5 with h5|⟨h5,j,h6,h7⟩
  ·exact .inl h5
  ·refine .inr ⟨h5,?_⟩;obtain ⟨h8,h9⟩:=List.getElem?_eq_some_iff.1 h7;rw [← h9];exact List.pairwise_iff_getElem.1 hal.so j k h8 hk h6
end
structure Qbbd (g:Qco):Prop where
 st:0≤g.zS∧g.zS<256
 to:∀ x∈[g.To.1.1,g.To.1.2.1,g.To.1.2.2.1,g.To.1.2.2.2.1,g.To.1.2.2.2.2,g.To.2.1.1,g.To.2.1.2.1,g.To.2.1.2.2.1,g.To.2.1.2.2.2.1,g.To.2.1.2.2.2.2,g.To.2.2.1.1,g.To.2.2.1.2.1,g.To.2.2.1.2.2.1,g.To.2.2.1.2.2.2.1,g.To.2.2.1.2.2.2.2,g.To.2.2.2.1.1,g.To.2.2.2.1.2.1,g.To.2.2.2.1.2.2.1,g.To.2.2.2.1.2.2.2.1,g.To.2.2.2.1.2.2.2.2,g.To.2.2.2.2.1,g.To.2.2.2.2.2.1,g.To.2.2.2.2.2.2.1,g.To.2.2.2.2.2.2.2.1,g.To.2.2.2.2.2.2.2.2],0≤x∧x<256
theorem Q7v {al:List Int} (hal:Evs al) (fuel:Nat) (hfu:1099511627776≤fuel) {L:List Int} (hL:L.length=25) (hL2:∀ x∈L,0≤x∧x<256) {N:Int} (hN:1≤N∧N≤5) {i:Nat} (hi:(i:Int)<N) {ms:List Int} {es:List Qc} (hes:Eds al N i 0 es) :
  ∃ es',Eds al N (i+1) 0 es'∧Qbv (fun (k25:Int×List Qc→Option (List Int×List Qc)) ((k23,a24):Int×(List Qc))=>(((if (k23<(al.length:Int)) then some (decide (k23<5)) else some false)).bind fun (x27:Bool)=>(if x27 then ((((inO 5 (i:Int)).bind fun _=>((inO 5 k23).bind fun _=>((rowO L (Int.toNat (i:Int)*5+Int.toNat k23*1)).bind fun x31=>((remO .i64 (IntKind.wrap .i64 x31) (IntKind.wrap .i64 (N+2))).bind fun s33=>(if (s33<N) then ((getO al k23).bind fun x36=>((appO a24 [(Qc.mk (i:Int) x36 s33)]).bind fun x38=>some x38)) else some a24)))))).bind fun (a40:List Qc)=>k25 ((IntKind.wrap .i64 (k23+1)),a40)) else some (ms,a24)))) fuel (0,es)=some (ms,es'):=by
 have hl:=hal.len;have:=Qk2 (F:=fun (k25:Int×List Qc→Option (List Int×List Qc)) ((k23,a24):Int×(List Qc))=>(((if (k23<(al.length:Int)) then some (decide (k23<5)) else some false)).bind fun (x27:Bool)=>(if x27 then ((((inO 5 (i:Int)).bind fun _=>((inO 5 k23).bind fun _=>((rowO L (Int.toNat (i:Int)*5+Int.toNat k23*1)).bind fun x31=>((remO .i64 (IntKind.wrap .i64 x31) (IntKind.wrap .i64 (N+2))).bind fun s33=>(if (s33<N) then ((getO al k23).bind fun x36=>((appO a24 [(Qc.mk (i:Int) x36 s33)]).bind fun x38=>some x38)) else some a24)))))).bind fun (a40:List Qc)=>k25 ((IntKind.wrap .i64 (k23+1)),a40)) else some (ms,a24))))
  (fun x=>∃ k:Nat,x.1=(k:Int)∧k≤al.length∧Eds al N i k x.2) (fun x=>al.length-x.1.toNat) (fun _ r=>∃ es',r=some (ms,es')∧Eds al N (i+1) 0 es') (by
   rintro kk ⟨k,es⟩ ⟨k,rfl,hk,he⟩ ih;replace he:Eds al N i k es:=he;replace hk:k≤al.length:=hk;dsimp only;by_cases hlt:k<al.length
   ·rw [if_pos (by omega)];simp only [Option.bind_some,show decide ((k:Int)<5)=true from by simp;omega,if_true];rw [show inO 5 (i:Int)=some () from by unfold inO;rw [if_pos (by omega)],show inO 5 (k:Int)=some () from by unfold inO;rw [if_pos (by omega)]];simp only [Option.bind_some,Int.toNat_natCast];have hidx:i*5+k*1<L.length:=by omega
    have hx:=hL2 _ (List.getElem_mem hidx);rw [show rowO L (i*5+k*1)=some L[i*5+k*1] from by unfold rowO;exact List.getElem?_eq_getElem hidx];simp only [Option.bind_some];rw [Qkb (x:=L[i*5+k*1]) (by omega) (by omega),Qkb (x:=N+2) (by omega) (by omega),show remO .i64 L[i*5+k*1] (N+2)=some (L[i*5+k*1].tmod (N+2)) from by unfold remO;rw [if_neg (by omega)]];simp only [Option.bind_some];have hmod:0≤L[i*5+k*1].tmod (N+2):=Int.tmod_nonneg _ hx.1;have hln:=he.ln;by_cases hm:L[i*5+k*1].tmod (N+2)<N
    ·rw [if_pos hm,Q2 hlt];simp only [Option.bind_some];rw [Qd7 (by simp only [List.length_cons,List.length_nil];unfold lim;omega)];simp only [Option.bind_some];rw [Qce (by omega)];exact ih _ ⟨k+1,rfl,hlt,he.add hal hlt ⟨hmod,hm⟩⟩ (by simp only;omega)
    ·rw [if_neg hm];simp only [Option.bind_some];rw [Qce (by omega)];exact ih _ ⟨k+1,rfl,hlt,he.up⟩ (by simp only;omega)
   ·rw [if_neg (by omega)];exact ⟨es,rfl,he.next (by omega)⟩) fuel (0,es) ⟨0,rfl,Nat.zero_le _,hes⟩ (by simp only;omega)
 obtain ⟨es',h1,h2⟩:=this;exact ⟨es',h2,h1⟩
theorem Q6n {al:List Int} (hal:Evs al):Right ⟨al,0,[],[]⟩ :=
 ⟨fun x hx=>by have:=hal.rg x hx;omega,hal.so,⟨by simp,by simp⟩,by simp,.nil,by simp,.nil⟩
theorem Qbfa {al:List Int} (hal:Evs al) {g:Qco} (hg:Qbbd g):∃ m,Right m∧m.zO=al∧Qhw al g=some (Qtd m)∧m.zS≤5:=by
 have hl:=hal.len;obtain ⟨hst,hto⟩:=hg;unfold Qhw Qdo;obtain ⟨fuel,hfu,hge⟩ : ∃ f,Qb0=f∧1099511627776≤f:=⟨_,rfl,Nat.le_refl _⟩;rw [hfu,Q7u (by unfold lim;omega)];simp only [Option.bind_some];by_cases h250:g.zS≥250
 ·rw [if_pos h250];exact ⟨⟨al,0,[],[]⟩,Q6n hal,rfl,rfl,by simp⟩
 rw [if_neg h250];have hL:[g.To.1.1,g.To.1.2.1,g.To.1.2.2.1,g.To.1.2.2.2.1,g.To.1.2.2.2.2,g.To.2.1.1,g.To.2.1.2.1,g.To.2.1.2.2.1,g.To.2.1.2.2.2.1,g.To.2.1.2.2.2.2,g.To.2.2.1.1,g.To.2.2.1.2.1,g.To.2.2.1.2.2.1,g.To.2.2.1.2.2.2.1,g.To.2.2.1.2.2.2.2,g.To.2.2.2.1.1,g.To.2.2.2.1.2.1,g.To.2.2.2.1.2.2.1,g.To.2.2.2.1.2.2.2.1,g.To.2.2.2.1.2.2.2.2,g.To.2.2.2.2.1,g.To.2.2.2.2.2.1,g.To.2.2.2.2.2.2.1,g.To.2.2.2.2.2.2.2.1,g.To.2.2.2.2.2.2.2.2].length=25:=rfl;generalize [g.To.1.1,g.To.1.2.1,g.To.1.2.2.1,g.To.1.2.2.2.1,g.To.1.2.2.2.2,g.To.2.1.1,g.To.2.1.2.1,g.To.2.1.2.2.1,g.To.2.1.2.2.2.1,g.To.2.1.2.2.2.2,g.To.2.2.1.1,g.To.2.2.1.2.1,g.To.2.2.1.2.2.1,g.To.2.2.1.2.2.2.1,g.To.2.2.1.2.2.2.2,g.To.2.2.2.1.1,g.To.2.2.2.1.2.1,g.To.2.2.2.1.2.2.1,g.To.2.2.2.1.2.2.2.1,g.To.2.2.2.1.2.2.2.2,g.To.2.2.2.2.1,g.To.2.2.2.2.2.1,g.To.2.2.2.2.2.2.1,g.To.2.2.2.2.2.2.2.1,g.To.2.2.2.2.2.2.2.2]=L at hto hL ⊢;have hmod:0≤g.zS.tmod 5∧g.zS.tmod 5<5:=⟨Int.tmod_nonneg _ hst.1,Int.tmod_lt_of_pos _ (by omega)⟩;have hN:1≤IntKind.wrap .i64 (1+(IntKind.wrap .i64 (Int.tmod g.zS 5)))∧IntKind.wrap .i64 (1+(IntKind.wrap .i64 (Int.tmod g.zS 5)))≤5:=by
  rw [Qkb (x:=g.zS.tmod 5) (by omega) (by omega),Qkb (by omega) (by omega)];omega
 generalize IntKind.wrap .i64 (1+(IntKind.wrap .i64 (Int.tmod g.zS 5)))=N at hN ⊢;have hloop:=Qk2 (F:=(fun (k15:Int×List Int×List Int×List Qc×Int×List Int×List Qc→Option (List Int×List Int×List Qc×Int×List Int×List Qc)) ((i8,c9,c10,c11,a12,a13,a14):Int×(List Int)×(List Int)×(List Qc)×Int×(List Int)×(List Qc))=>(if (i8<a12) then ((((((shrO .u8 g.Marks i8).bind fun s17=>(if ((andI .u8 s17 1)==1) then ((appO a13 [i8]).bind fun x20=>some x20) else some a13))).bind fun (a22:List Int)=>Qbv (fun k25 ((k23,a24):Int×(List Qc))=>(((if (k23<(al.length:Int)) then some (decide (k23<5)) else some false)).bind fun (x27:Bool)=>(if x27 then ((((inO 5 i8).bind fun _=>((inO 5 k23).bind fun _=>((rowO L (Int.toNat i8*5+Int.toNat k23*1)).bind fun x31=>((remO .i64 (IntKind.wrap .i64 x31) (IntKind.wrap .i64 (a12+2))).bind fun s33=>(if (s33<a12) then ((getO al k23).bind fun x36=>((appO a24 [(Qc.mk i8 x36 s33)]).bind fun x38=>some x38)) else some a24)))))).bind fun (a40:List Qc)=>k25 ((IntKind.wrap .i64 (k23+1)),a40)) else some (a22,a24)))) fuel (0,a14))).bind fun ((a41,a42):(List Int)×(List Qc))=>k15 ((IntKind.wrap .i64 (i8+1)),c9,c10,c11,a12,a41,a42)) else some (c9,c10,c11,a12,a13,a14))))
  (fun x=>∃ (i:Nat) (ms:List Int) (es:List Qc),x=((i:Int),[],[],[],N,ms,es)∧(i:Int)≤N∧Mks i ms∧Eds al N i 0 es) (fun x=>(N-x.1).toNat)
  (fun _ r=>∃ (i:Nat) (ms:List Int) (es:List Qc),r=some ([],[],[],N,ms,es)∧(i:Int)=N∧Mks i ms∧Eds al N i 0 es) (by
   rintro k _ ⟨i,ms,es,rfl,hi,hm,he⟩ ih;dsimp only;by_cases hlt:(i:Int)<N
   ·rw [if_pos hlt,show shrO .u8 g.Marks (i:Int)=some (g.Marks.fdiv (2 ^ (min (Int.toNat (i:Int)) (IntKind.bits .u8)))) from by unfold shrO;rw [if_neg (by omega)]];simp only [Option.bind_some];have hml:=hm.len;by_cases hb:(andI .u8 (g.Marks.fdiv (2 ^ (min (Int.toNat (i:Int)) (IntKind.bits .u8)))) 1==1)=true
    ·rw [if_pos hb,Qd7 (by simp only [List.length_cons,List.length_nil];unfold lim;omega)];simp only [Option.bind_some];obtain ⟨es',h1,h2⟩:=Q7v hal fuel hge hL hto hN hlt (ms:=ms++[(i:Int)]) he;rw [h2];simp only [Option.bind_some];rw [Qce (by omega)];exact ih _ ⟨i+1,_,_,rfl,by omega,hm.add,h1⟩ (by simp only;omega)
    ·rw [if_neg hb];simp only [Option.bind_some];obtain ⟨es',h1,h2⟩:=Q7v hal fuel hge hL hto hN hlt (ms:=ms) he;rw [h2];simp only [Option.bind_some];rw [Qce (by omega)];exact ih _ ⟨i+1,_,_,rfl,by omega,hm.up,h1⟩ (by simp only;omega)
   ·rw [if_neg hlt];exact ⟨i,ms,es,rfl,by omega,hm,he⟩) fuel (0,[],[],[],N,[],[]) ⟨0,[],[],rfl,by omega,⟨by simp,.nil⟩,⟨by simp,.nil,by simp⟩⟩ (by simp only;omega)
 obtain ⟨i,ms,es,h1,h2,h3,h4⟩:=hloop;rw [h1];simp only [Option.bind_some];have hr:Right ⟨al,N,ms,es⟩:=⟨fun x hx=>by have:=hal.rg x hx;omega,hal.so,⟨by simp only;omega,by simp only;omega⟩,fun x hx=>by have:=h3.rg x hx;simp only;omega,h3.so,fun x hx=>by
  obtain ⟨k1,k2,k3,k4,k5⟩:=h4.rg x hx;refine ⟨k1,?_,k2,k3,k4⟩;rcases k5 with k5|⟨_,j,k6,_⟩
  ·simp only;omega
  ·omega,h4.so⟩
 rw [Q00 hr];exact ⟨_,hr,rfl,rfl,by simp only;omega⟩
end Go.Abs
end
section
namespace Go.Abs
open Go
theorem Qbc3 {α β:Type} {o:Option α} {K:α→Option β} {r:Option β} {P:α→Prop} (h:∃ v,o=some v∧P v) (hk:∀ v,P v→K v=r):o.bind K=r:=by
 obtain ⟨v,rfl,hv⟩:=h;exact hk v hv
def upto (n:Int):List Int:=(List.range n.toNat).map fun (i:Nat)=>(i:Int)
theorem Qgy {n x:Int}:x∈upto n↔0≤x∧x<n:=by
 simp only [upto,List.mem_map,List.mem_range];constructor
 ·rintro ⟨i,hi,rfl⟩;omega
 ·rintro ⟨h1,h2⟩;exact ⟨x.toNat,by omega,by omega⟩
theorem Qu1 (n:Int):(upto n).Pairwise (· < ·):=by
 unfold upto;rw [List.pairwise_map];exact List.pairwise_lt_range.imp fun h=>by omega
theorem Qch (n:Int):(upto n).length=n.toNat:=by simp [upto]
theorem Qlw {n:Int} {i:Nat} (h:i<(upto n).length):(upto n)[i]=(i:Int):=by simp [upto]
theorem Qf7 {X S R α:Type} {F:(X→Option R)→X→Option R} {fuel:Nat} {l:List α} (mk:Int→S→X) (stp:S→α→S) (I:Nat→S→Prop) (K:S→Option R) (hl:l.length<big) (hf:1099511627776≤fuel)
  (step:∀ (k:X→Option R) (n:Nat) (s:S) (h:n<l.length),I n s→F k (mk n s)=k (mk (IntKind.wrap .i64 ((n:Int)+1)) (stp s l[n])))
  (keep:∀ (n:Nat) (s:S) (h:n<l.length),I n s→I (n+1) (stp s l[n]))
  (last:∀ (k:X→Option R) (s:S),I l.length s→F k (mk l.length s)=K s) {s0:S} (h0:I 0 s0):Qbv F fuel (mk 0 s0)=K (l.foldl stp s0):=by
 have hb:l.length<1000000000000:=hl;have:=Qgr (F:=F) (len:=l.length) (fun n s=>mk n s) I (fun n s=>K ((l.drop n).foldl stp s)) (fun k n s hn hi ih=>by
  rw [step k n s hn hi,Qce (by omega),ih _ (keep n s hn hi),List.drop_eq_getElem_cons hn,List.foldl_cons]) (fun k s hi=>by rw [last k s hi];simp) fuel 0 s0 (Nat.zero_le _) (by omega) h0
 simpa using this
theorem Qxp {X R α:Type} {F:(X→Option R)→X→Option R} {fuel:Nat} {l:List α} (mk:Int→X) (p:α→Bool) (hit:α→Option R) (K:Option R) (hl:l.length<big) (hf:1099511627776≤fuel)
  (step:∀ (k:X→Option R) (n:Nat) (h:n<l.length),F k (mk n)=if p l[n] then hit l[n] else k (mk (IntKind.wrap .i64 ((n:Int)+1))))
  (last:∀ (k:X→Option R),F k (mk l.length)=K):Qbv F fuel (mk 0)=match l.find? p with|some x=>hit x|none=>K:=by
 have hb:l.length<1000000000000:=hl;have:=Qgr (F:=F) (len:=l.length) (fun n (_:Unit)=>mk n) (fun _ _=>True) (fun n _=>match (l.drop n).find? p with|some x=>hit x|none=>K) (fun k n s hn hi ih=>by
  rw [step k n hn,Qce (by omega),ih () trivial,List.drop_eq_getElem_cons hn,List.find?_cons];cases p l[n]<;>simp) (fun k s hi=>by rw [last k];simp) fuel 0 () (Nat.zero_le _) (by omega) trivial
 simpa using this
theorem Q7w {X α:Type} {F:(X→Option Bool)→X→Option Bool} {fuel:Nat} {l:List α} (mk:Int→X) (p:α→Bool) (hl:l.length<big) (hf:1099511627776≤fuel)
  (step:∀ (k:X→Option Bool) (n:Nat) (h:n<l.length),F k (mk n)=if p l[n] then some true else k (mk (IntKind.wrap .i64 ((n:Int)+1))))
  (last:∀ (k:X→Option Bool),F k (mk l.length)=some false):Qbv F fuel (mk 0)=some (l.any p):=by
 rw [Qxp mk p (fun _=>some true) (some false) hl hf step last];cases h:l.find? p with
 | none =>
  show some false=some (l.any p);rw [List.any_eq_false.2 (List.find?_eq_none.1 h)]
 | some x =>
  show some true=some (l.any p);rw [List.any_eq_true.2 ⟨x,List.mem_of_find?_eq_some h,List.find?_some h⟩]
def at0 {α:Type} (d:α) (l:List α) (x:Int):α:=l.getD x.toNat d
abbrev lf (L:List Bool) (x:Int):Bool:=at0 false L x
abbrev ati (l:List Int) (x:Int):Int:=at0 0 l x
theorem Qi3 {α:Type} {d:α} {l:List α} {x:Int} (h0:0≤x) (h1:x<l.length):getO l x=some (at0 d l x):=by
 have h:x.toNat<l.length:=by omega
 unfold getO at0;rw [if_pos h0,List.getD_eq_getElem?_getD,List.getElem?_eq_getElem h];rfl
theorem Qe1 {α:Type} {l:List α} {x:Int} {y:α} (h0:0≤x) (h1:x<l.length):setO l x y=some (l.set x.toNat y):=by
 unfold setO;rw [if_pos ⟨h0,by omega⟩]
theorem Qf8 {n:Nat} {x:Int} (h0:0≤x) (h1:x<n):inO n x=some ():=by
 unfold inO;rw [if_pos ⟨h0,h1⟩]
theorem Qkc {α:Type} {l:List α} {n:Nat} (h:l.length=n):lenO l n=some ():=by
 unfold lenO;rw [if_pos h]
theorem Q2a {α:Type} {d:α} {l:List α} {x y:Int} {v:α} (hx:0≤x∧x<l.length) (hy:0≤y):at0 d (l.set x.toNat v) y=if y=x then v else at0 d l y:=by
 unfold at0;simp only [List.getD_eq_getElem?_getD,List.getElem?_set];by_cases h:y=x
 ·subst h;rw [if_pos rfl,if_pos (by omega),if_pos rfl];rfl
 ·rw [if_neg (by omega),if_neg h]
theorem Qwp {l:List Int} {x y v:Int} (hx:0≤x∧x<l.length) (hy:0≤y):ati (l.set x.toNat v) y=if y=x then v else ati l y:=Q2a hx hy
theorem Qbgo {l:List Bool} {x y:Int} {v:Bool} (hx:0≤x∧x<l.length) (hy:0≤y):lf (l.set x.toNat v) y=if y=x then v else lf l y:=Q2a hx hy
theorem Qbgp {α β:Type} {d:α} {e:β} {f:α→β} {l:List α} {x:Int} (h0:0≤x) (h1:x<l.length):at0 e (l.map f) x=f (at0 d l x):=by
 have h:x.toNat<l.length:=by omega
 unfold at0;simp [List.getD_eq_getElem?_getD,h]
theorem Q2b {α:Type} {d:α} {v:α} {n:Nat} {x:Int} (h0:0≤x) (h1:x<n):at0 d (List.replicate n v) x=v:=by
 have h:x.toNat<n:=by omega
 unfold at0;simp [List.getD_eq_getElem?_getD,h]
theorem Qu2 {α:Type} {d:α} {f:Int→α} {n x:Int} (h0:0≤x) (h1:x<n):at0 d ((upto n).map f) x=f x:=by
 have h:x.toNat<n.toNat:=by omega
 unfold at0 upto;simp only [List.map_map,List.getD_eq_getElem?_getD,List.getElem?_map,List.getElem?_range h,Option.map_some,Option.getD_some,Function.comp];congr 1;omega
theorem Qbd4 {α:Type} {d:α} {l:List α} {n:Nat} (h:n<l.length):at0 d l (n:Int)=l[n]:=by
 unfold at0;simp [List.getD_eq_getElem?_getD,h]
theorem Q45 {α:Type} {d:α} {l m:List α} (hl:l.length=m.length) (h:∀ x:Int,0≤x→x<l.length→at0 d l x=at0 d m x):l=m:=by
 apply List.ext_getElem hl;intro i h1 h2;have:=h i (by omega) (by omega)
 rwa [Qbd4 h1,Qbd4 h2] at this
theorem Q02 {α:Type} {f:Int→α} {n:Int} {l:List α} (hl:l.length=n.toNat):(upto n).foldl (fun c i=>c.set i.toNat (f i)) l=(upto n).map f:=by
 have key:∀ (m:Nat),m≤n.toNat→((upto n).take m).foldl (fun c i=>c.set i.toNat (f i)) l=((upto n).take m).map f++l.drop m:=by
  intro m
  induction m with
  | zero=>intro _;simp
  | succ m ih =>
   intro hm;have h1:m<(upto n).length:=by rw [Qch];omega
   rw [List.take_succ_eq_append_getElem h1,List.foldl_append,ih (by omega),List.foldl_cons,List.foldl_nil,List.map_append,Qlw h1];simp only [Int.toNat_natCast,List.map_cons,List.map_nil];have h2:(((upto n).take m).map f).length=m:=by rw [List.length_map,List.length_take,Qch];omega
   rw [List.set_append_right _ _ (by omega),h2,Nat.sub_self];have h3:m<l.length:=by omega
   rw [List.drop_eq_getElem_cons h3,List.set_cons_zero,List.append_assoc,List.singleton_append]
 have:=key n.toNat (Nat.le_refl _);rw [List.take_of_length_le (by rw [Qch];omega)] at this;rw [this,List.drop_of_length_le (by omega),List.append_nil]
theorem Qks {α β:Type} {f:β→Nat} {g:β→α}:∀ {l:List β} {c:List α},(l.foldl (fun c x=>c.set (f x) (g x)) c).length=c.length
 | [],c=>rfl
 | x::l,c=>by rw [List.foldl_cons,Qks (l:=l),List.length_set]
end Go.Abs
end
section
namespace Go.Abs
open Go
theorem Q8w:Qjx=some true:=by kernel_rfl
end Go.Abs
end
section
namespace Go.Abs
open Go
end Go.Abs
end
section
namespace Go.Abs
open Go
theorem Qbfb (x y:Int):Qkm x y=some (decide (x<y)):=by
 unfold Qkm Qgf Qpz Qew;simp
theorem Qbc4 (x:Int):Qje x=some false:=by
 unfold Qje Qdu;simp
theorem Qbbe {l:List Int} (h:l.Pairwise (· < ·)) (v:Int):l.Pairwise fun a b=>decide (b<v)=true→decide (a<v)=true :=
 h.imp fun h=>by simp;omega
theorem Qbbf {l:List Int} {v:Int} (hs:l.Pairwise (· < ·)) (hl:l.length<big):∃ n,Qfh l v=some (n,decide (v∈l)):=by
 have hc:=fun n h=>Q15 (p:=fun x:Int=>decide (x<v)) (Qbbe hs v) n h;have hcl:(l.filter fun x=>decide (x<v)).length≤l.length:=List.length_filter_le _ _;generalize (l.filter fun x=>decide (x<v)).length=c at hc hcl;have hb:l.length<1000000000000:=hl;unfold Qfh Qcj;obtain ⟨fuel,hfu,hge⟩ : ∃ f,Qb0=f∧1099511627776≤f:=⟨_,rfl,Nat.le_refl _⟩;rw [hfu];have hloop:=Qk2 (F:=fun (k5:Int×Int→Option Int) ((i3,j4):Int×Int)=>(if (i3<j4) then ((getO l (IntKind.wrap .i64 (Int.fdiv (IntKind.wrap .u64 (IntKind.wrap .i64 (i3+j4))) (2 ^ (min (Int.toNat 1) (IntKind.bits .u64)))))).bind fun x7=>((Qkm x7 v).bind fun x10=>(if x10 then k5 ((IntKind.wrap .i64 ((IntKind.wrap .i64 (Int.fdiv (IntKind.wrap .u64 (IntKind.wrap .i64 (i3+j4))) (2 ^ (min (Int.toNat 1) (IntKind.bits .u64)))))+1)),j4) else k5 (i3,(IntKind.wrap .i64 (Int.fdiv (IntKind.wrap .u64 (IntKind.wrap .i64 (i3+j4))) (2 ^ (min (Int.toNat 1) (IntKind.bits .u64))))))))) else some i3))
  (fun x=>∃ i j:Nat,x=((i:Int),(j:Int))∧i≤c∧c≤j∧j≤l.length) (fun x=>(x.2-x.1).toNat) (fun _ r=>r=some (c:Int)) (by
   rintro k _ ⟨i,j,rfl,h1,h2,h3⟩ ih;dsimp only;by_cases hij:i<j
   ·rw [if_pos (by omega),Qbgn (by omega) (by omega)];have hm:(i+j) / 2<l.length:=by omega
    rw [Q2 hm];simp only [Option.bind_some];rw [Qbfb];simp only [Option.bind_some];have hcm:=hc ((i+j) / 2) hm;by_cases hlt:l[(i+j) / 2]<v
    ·rw [if_pos (by simpa using hlt),Qce (by omega)];have:(i+j) / 2<c:=hcm.1 (by simpa using hlt);exact ih _ ⟨_,_,rfl,by omega,h2,h3⟩ (by simp only;omega)
    ·rw [if_neg (by simpa using hlt)];have:¬ (i+j) / 2<c:=fun h=>hlt (by simpa using hcm.2 h);exact ih _ ⟨_,_,rfl,h1,by omega,by omega⟩ (by simp only;omega)
   ·rw [if_neg (by omega)];have:i=c:=by omega
    rw [this]) fuel (0,(l.length:Int)) ⟨0,l.length,rfl,by omega,hcl,Nat.le_refl _⟩ (by simp only;omega)
 rw [hloop];simp only [Option.bind_some];have hmem:v∈l↔∃ h:c<l.length,l[c]=v:=by
  constructor
  ·intro hv;obtain ⟨j,hj,rfl⟩:=List.getElem_of_mem hv;have h1:¬ j<c:=fun h=>by have:=(hc j hj).2 h;simp at this
   have h2:c<l.length:=by omega
   refine ⟨h2,?_⟩;have h3:¬ l[c]<l[j]:=fun h=>by have:=(hc c h2).1 (by simpa using h);omega
   rcases Nat.lt_or_ge c j with h|h
   ·have:=List.pairwise_iff_getElem.1 hs c j h2 hj h;omega
   ·have:c=j:=by omega
    subst this;rfl
  ·rintro ⟨h,rfl⟩;exact List.getElem_mem h
 by_cases hlt:c<l.length
 ·rw [if_pos (by omega),Q2 hlt];simp only [Option.bind_some];by_cases he:l[c]=v
  ·rw [if_pos (by simpa using he)];exact ⟨_,by rw [decide_eq_true (hmem.2 ⟨hlt,he⟩)]⟩
  ·rw [if_neg (by simpa using he),Qbc4];exact ⟨_,by rw [decide_eq_false (fun h=>he (hmem.1 h).2)];rfl⟩
 ·rw [if_neg (by omega)];exact ⟨_,by rw [decide_eq_false (fun h=>hlt (hmem.1 h).1)]⟩
structure Num (a:Qd) (o num:List Int):Prop where
 len:num.length=a.zS.toNat
 at1:∀ s:Nat,s<a.zS.toNat→num[s]? = some (if (s:Int)∈o then (o.idxOf (s:Int):Int) else -1)
theorem Num.set {a:Qd} {o num:List Int} (h:Num a o num) {t:Int} (ht:0≤t∧t<a.zS) (hn:t∉o):∃ num',setO num t (o.length:Int)=some num'∧Num a (o++[t]) num':=by
 refine ⟨num.set t.toNat (o.length:Int),by unfold setO;rw [if_pos ⟨ht.1,by rw [h.len];omega⟩],by rw [List.length_set];exact h.len,fun s hs=>?_⟩;rw [List.getElem?_set];by_cases he:t.toNat=s
 ·subst he;rw [if_pos rfl,if_pos (by rw [h.len];omega),show ((t.toNat:Nat):Int)=t from by omega,if_pos (by simp),List.idxOf_append,if_neg hn];simp
 ·rw [if_neg he,h.at1 s hs];have hne:(s:Int)≠t:=by omega
  by_cases hm:(s:Int)∈o
  ·rw [if_pos hm,if_pos (by simp [hm]),List.idxOf_append,if_pos hm]
  ·rw [if_neg hm,if_neg (by simp [hm,hne])]
section
variable {a:Qd} (h:Right a)
include h
end
end Go.Abs
end
section
namespace Go.Abs
open Go
theorem Qc0 {l:List Int} {v:Int} (hs:l.Pairwise (· < ·)) (hl:l.length<big):Qbg l v=some (decide (v∈l)):=by
 unfold Qbg Qh;obtain ⟨n,h⟩:=Qbbf (v:=v) hs hl;rw [h];rfl
theorem Qwq {l:List Int} {n:Int} (hl:l.length<big):Qim l n=some (Qed n none l):=by
 unfold Qim Qdl;refine (Qp4 (len:=l.length) (fun k=>some (Qed n (ahead l k) (l.drop k))) (by unfold Qb0;unfold big at hl;omega) ?_ ?_).trans (by simp [Qpg])
 ·intro k i hi ih;have hb:i<1000000000000:=by unfold big at hl;omega
  rw [Qyy hi]
  try dsimp only
  rw [if_pos (by omega),Q2 hi,Qce (by omega),ih];simp only [Option.bind_some];by_cases h1:l[i]<0
  ·simp [h1]
  ·by_cases h2:l[i]≥n
   ·simp [h1,h2]
   ·by_cases h0:0<i
    ·rw [Qlu h0 (by omega),Q2 (by omega:i-1<l.length),Q0w l h0 (by omega)];by_cases h3:l[i]≤l[i-1]<;>simp [h1,h2,h3,h0]
    ·obtain rfl:i=0:=by omega
     simp [h1,h2,Qpg]
 ·intro k;simp [Qed]
theorem Qqw {l:List Int} {v:Int} (hl:l.length<big):Qbc l v=some (decide (v∈l)):=by
 have hb:l.length<1000000000000:=hl;unfold Qbc Qn;obtain ⟨fuel,hfu,hge⟩ : ∃ f,Qb0=f∧1099511627776≤f:=⟨_,rfl,Nat.le_refl _⟩;rw [hfu];refine (Q7w (fun x=>x) (fun y=>y==v) hl hge (fun k n hn=>?_) (fun k=>?_)).trans ?_
 ·try dsimp only
  rw [if_pos (by omega),Q2 hn];rfl
 ·try dsimp only
  rw [if_neg (by omega)]
 ·congr 1;rw [Bool.eq_iff_iff,List.any_eq_true];simp
theorem Qyg {α:Type} {l:List α} {f:α→Option Bool} {p:α→Bool} (hf:∀ x∈l,f x=some (p x)) (hl:l.length<big) {fuel:Nat} (hge:1099511627776≤fuel) :
  ∃ i:Int,Qbv (fun (k:Int→Option Int) (x:Int)=>(if (x<(l.length:Int)) then ((getO l x).bind fun x6=>((f x6).bind fun x9=>(if x9 then some x else k (IntKind.wrap .i64 (x+1))))) else some (-1))) fuel 0=some i∧decide (i≥0)=l.any p:=by
 have hb:l.length<1000000000000:=hl;have:=Qk2 (F:=fun (k:Int→Option Int) (x:Int)=>(if (x<(l.length:Int)) then ((getO l x).bind fun x6=>((f x6).bind fun x9=>(if x9 then some x else k (IntKind.wrap .i64 (x+1))))) else some (-1)))
  (fun x=>∃ n:Nat,x=n∧n≤l.length) (fun x=>l.length-x.toNat) (fun x r=>∀ n:Nat,x=n→∃ i:Int,r=some i∧decide (i≥0)=(l.drop n).any p) (by
   rintro k _ ⟨n,rfl,hn⟩ ih m hm;obtain rfl:n=m:=by omega
   by_cases hlt:n<l.length
   ·rw [if_pos (by omega),Q2 hlt];simp only [Option.bind_some,hf _ (List.getElem_mem hlt)];rw [List.drop_eq_getElem_cons hlt,List.any_cons];cases hp:p l[n] with
    | true=>exact ⟨n,by simp,by simp⟩
    | false =>
     rw [Qce (by omega)];obtain ⟨i,h1,h2⟩:=ih ((n+1:Nat):Int) ⟨n+1,rfl,hlt⟩ (by omega) (n+1) rfl;exact ⟨i,by simpa using h1,by rw [h2];simp⟩
   ·rw [if_neg (by omega)];exact ⟨-1,rfl,by rw [List.drop_of_length_le (by omega)];rfl⟩) fuel 0 ⟨0,rfl,Nat.zero_le _⟩ (by simp;omega) 0 rfl
 simpa using this
theorem Qk3 {l:List Qc} {f:Qc→Option Bool} {p:Qc→Bool} (hf:∀ x∈l,f x=some (p x)) (hl:l.length<big):Qbe l f=some (l.any p):=by
 unfold Qbe Qj Qin Qcx;obtain ⟨fuel,hfu,hge⟩ : ∃ f,Qb0=f∧1099511627776≤f:=⟨_,rfl,Nat.le_refl _⟩;rw [hfu];obtain ⟨i,h1,h2⟩:=Qyg hf hl hge;rw [h1,Option.bind_some,h2]
theorem Q46 {l:List Int} {f:Int→Option Bool} {p:Int→Bool} (hf:∀ x∈l,f x=some (p x)) (hl:l.length<big):Qek l f=some (l.any p):=by
 unfold Qek Qcm Qi2 Qc4;obtain ⟨fuel,hfu,hge⟩ : ∃ f,Qb0=f∧1099511627776≤f:=⟨_,rfl,Nat.le_refl _⟩;rw [hfu];obtain ⟨i,h1,h2⟩:=Qyg hf hl hge;rw [h1,Option.bind_some,h2]
structure SetP (n:Int) (l:List Int):Prop where
 rg:∀ x∈l,0≤x∧x<n
 so:l.Pairwise (· < ·)
theorem Qqx {n:Int} {l:List Int}:Qed n none l=0↔SetP n l :=
 ⟨fun h=>⟨(Qie.1 h).1,(Qie.1 h).2.1⟩,fun h=>Qie.2 ⟨h.rg,h.so,fun _ h=>by cases h⟩⟩
structure RightP (p:Qa):Prop where
 a:Right p.zB
 fo:SetP p.zB.zS p.zD
 un:SetP 32 p.zC
 fc:SetP 32 p.zF
 ti:0≤p.Tick∧p.Tick<32
 tu:p.Tick∉p.zC
 tf:p.Tick∉p.zF
def Qbd5 (p:Qa):Prop:=small p.zB∧p.zD.length<big∧p.zC.length<big∧p.zF.length<big
theorem SetP.small {n:Int} {l:List Int} (h:SetP n l) (hn:n≤4096):l.length≤4096:=by
 have:=Qj1 h.so h.rg;omega
theorem RightP.small {p:Qa} (h:RightP p):Qbd5 p:=by
 have h1:=h.fo.small h.a.st.2;have h2:=h.un.small (by omega);have h3:=h.fc.small (by omega);refine ⟨h.a.small.1,?_,?_,?_⟩<;>(unfold big;omega)
def Q7x (p:Qa):Int :=
 if Qqu p.zB≠0 then Qqu p.zB else if Qed p.zB.zS none p.zD≠0 then Qed p.zB.zS none p.zD else
 if Qed 32 none p.zC≠0 then Qed 32 none p.zC else if Qed 32 none p.zF≠0 then Qed 32 none p.zF else
 if p.Tick<0∨p.Tick≥32 then 2 else if p.Tick∈p.zC∨p.Tick∈p.zF then 13 else 0
theorem Q8x {p:Qa}:Q7x p=0↔RightP p:=by
 unfold Q7x;constructor
 ·intro h;by_cases h1:Qqu p.zB=0
  ·by_cases h2:Qed p.zB.zS none p.zD=0
   ·by_cases h3:Qed 32 none p.zC=0
    ·by_cases h4:Qed 32 none p.zF=0
     ·by_cases h5:p.Tick<0∨p.Tick≥32
      ·rw [if_neg (by simp [h1]),if_neg (by simp [h2]),if_neg (by simp [h3]),if_neg (by simp [h4]),if_pos h5] at h;omega
      ·by_cases h6:p.Tick∈p.zC∨p.Tick∈p.zF
       ·rw [if_neg (by simp [h1]),if_neg (by simp [h2]),if_neg (by simp [h3]),if_neg (by simp [h4]),if_neg h5,if_pos h6] at h;omega
       ·exact ⟨Q41.1 h1,Qqx.1 h2,Qqx.1 h3,Qqx.1 h4,by omega,fun h=>h6 (.inl h),fun h=>h6 (.inr h)⟩
     ·rw [if_neg (by simp [h1]),if_neg (by simp [h2]),if_neg (by simp [h3]),if_pos h4] at h;exact absurd h h4
    ·rw [if_neg (by simp [h1]),if_neg (by simp [h2]),if_pos h3] at h;exact absurd h h3
   ·rw [if_neg (by simp [h1]),if_pos h2] at h;exact absurd h h2
  ·rw [if_pos h1] at h;exact absurd h h1
 ·intro h;have:=h.ti;rw [if_neg (by simp [Q41.2 h.a]),if_neg (by simp [Qqx.2 h.fo]),if_neg (by simp [Qqx.2 h.un]),if_neg (by simp [Qqx.2 h.fc]),if_neg (by omega),if_neg (fun hh=>hh.elim h.tu h.tf)]
theorem Q3j {p:Qa} (h:Qbd5 p):Qfb p=some (Q7x p):=by
 obtain ⟨hs,hf,hu,hc⟩:=h;have nb:∀ x:Int,x=0→¬ ((x != 0)=true):=fun x h=>by simp [h]
 have pb:∀ x:Int,x≠0→((x != 0)=true):=fun x h=>by simpa using h
 have nn:∀ x:Int,x=0→¬ (x≠0):=fun x h=>by simp [h]
 unfold Qfb Qbj Q7x;rw [Qbc0 hs,Option.bind_some];by_cases h1:Qqu p.zB=0
 ·rw [if_neg (nb _ h1),if_neg (nn _ h1),Qwq hf,Option.bind_some];by_cases h2:Qed p.zB.zS none p.zD=0
  ·rw [if_neg (nb _ h2),if_neg (nn _ h2)];obtain ⟨n,hn⟩ : ∃ n,Qb0=n+3:=⟨1099511627773,rfl⟩;rw [hn];simp only [Qbv];have e0:getO [p.zC,p.zF] 0=some p.zC:=rfl;have e1:IntKind.wrap .i64 ((0:Int)+1)=1:=by decide
   have e2:getO [p.zC,p.zF] 1=some p.zF:=rfl;have e3:IntKind.wrap .i64 ((1:Int)+1)=2:=by decide
   simp only [e0,e1,e2,e3];rw [if_pos (show (0:Int)<2 by omega),Option.bind_some,Qwq hu,Option.bind_some];by_cases h3:Qed 32 none p.zC=0
   ·rw [if_neg (nb _ h3),if_neg (nn _ h3),if_pos (show (1:Int)<2 by omega),Option.bind_some,Qwq hc,Option.bind_some];by_cases h4:Qed 32 none p.zF=0
    ·rw [if_neg (nb _ h4),if_neg (nn _ h4),if_neg (show ¬ (2:Int)<2 by omega)];unfold Qgx Q6;by_cases h5:p.Tick<0
     ·rw [if_neg (show ¬ p.Tick≥0 by omega),if_pos (show p.Tick<0∨p.Tick≥32 from .inl h5)];rfl
     ·rw [if_pos (show p.Tick≥0 by omega),Option.bind_some];by_cases h6:p.Tick≥32
      ·rw [if_neg (show ¬ decide (p.Tick<32)=true by simpa using h6),if_pos (show p.Tick<0∨p.Tick≥32 from .inr h6)]
      ·rw [if_pos (show decide (p.Tick<32)=true by simpa using h6),if_neg (show ¬ (p.Tick<0∨p.Tick≥32) by omega),Qc0 (Qqx.1 h3).so hu,Qc0 (Qqx.1 h4).so hc];by_cases h7:p.Tick∈p.zC
       ·simp [h7]
       ·by_cases h8:p.Tick∈p.zF<;>simp [h7,h8]
    ·rw [if_pos (pb _ h4),if_pos h4]
   ·rw [if_pos (pb _ h3),if_pos h3]
  ·rw [if_pos (pb _ h2),if_pos h2]
 ·rw [if_pos (pb _ h1),if_pos h1]
def Qyh (p:Qa):List (List Qc):=(upto p.zB.zS).map (outP p.zB)
def tsk (p:Qa) (L:List Bool):Qe:=⟨p,Qyh p,L⟩
def Qgs (p:Qa) (L:List Bool) (s:Int):Bool:=(outP p.zB s).any fun y=>lf L y.To&&decide (y.Event∈p.zF)
def Qhq (p:Qa) (L:List Bool) (s:Int):Bool:=(outP p.zB s).any fun y=>(y.Event==p.Tick) && !lf L y.To
def escP (p:Qa) (L:List Bool) (s:Int):Int×Int :=
 match (outP p.zB s).find? (fun y=>!lf L y.To&&decide (y.Event∈p.zC)) with
 | some y=>(2,y.Event)
 | none=>if Qhq p L s && !Qgs p L s then (4,p.Tick) else (0,-1)
section
variable {p:Qa} (hp:RightP p) {L:List Bool} (hL:L.length=p.zB.zS.toNat) {s:Int} (hs:0≤s∧s<p.zB.zS)
include hp
theorem Qrg:∀ y∈outP p.zB s,(0≤y.To∧y.To<p.zB.zS)∧y.From=s∧y∈p.zB.zQ:=fun y hy=>by
 have h1:=List.mem_filter.1 hy;have h2:=hp.a.ed0 y h1.1;exact ⟨⟨h2.2.2.1,h2.2.2.2.1⟩,by simpa using h1.2,h1.1⟩
theorem Qs7 (s:Int):(outP p.zB s).length<big:=Nat.lt_of_le_of_lt (List.length_filter_le _ _) hp.a.small.1.2.2
include hs
omit hp in
theorem Qyi:inO (Qyh p).length s=some ()∧getO (Qyh p) s=some (outP p.zB s):=by
 have hl:(Qyh p).length=p.zB.zS.toNat:=by unfold Qyh;rw [List.length_map,Qch]
 refine ⟨Qf8 hs.1 (by omega),?_⟩;rw [Qi3 (d:=[]) hs.1 (by omega)];unfold Qyh;rw [Qu2 hs.1 hs.2]
omit hp hs in
include hL in
theorem Qlx {x:Int} (hx:0≤x∧x<p.zB.zS):inO L.length x=some ()∧getO L x=some (lf L x) :=
 ⟨Qf8 hx.1 (by omega),Qi3 hx.1 (by omega)⟩
include hL
theorem Qbbg:Qer (tsk p L) s=some (Qgs p L s):=by
 unfold Qer Qb2 tsk;simp only [Qyi hs,Option.bind_some];rw [Qk3 (p:=fun y=>lf L y.To&&decide (y.Event∈p.zF)) (fun y hy=>?_) (Qs7 hp s)]
 ·rfl
 ·have h1:=Qlx hL (Qrg hp y hy).1;unfold Qft Qbq;simp only [h1,Option.bind_some];rw [Qc0 hp.fc.so hp.small.2.2.2];cases lf L y.To<;>simp
theorem Q47:Qdw (tsk p L) s=some (escP p L s):=by
 unfold Qdw Q3;obtain ⟨fuel,hfu,hge⟩ : ∃ f,Qb0=f∧1099511627776≤f:=⟨_,rfl,Nat.le_refl _⟩;rw [hfu];rw [show (tsk p L).from_=Qyh p from rfl,show (tsk p L).left_=L from rfl,show (tsk p L).zT=p from rfl];simp only [Qyi hs,Option.bind_some];rw [Qbbg hp hL hs];rw [Qk3 (p:=fun y=>(y.Event==p.Tick) && !lf L y.To) (fun y hy=>by
  have h1:=Qlx hL (Qrg hp y hy).1;unfold Qfs Qbp;rw [show (tsk p L).left_=L from rfl,show (tsk p L).zT=p from rfl];simp only [h1,Option.bind_some];cases hq:y.Event==p.Tick<;>simp) (Qs7 hp s)]
 refine (Qxp (fun x=>x) (fun y=>!lf L y.To&&decide (y.Event∈p.zC)) (fun y=>some (2,y.Event)) (some (if Qhq p L s && !Qgs p L s then (4,p.Tick) else (0,-1))) (Qs7 hp s) hge (fun k n hn=>?_) (fun k=>?_)).trans ?_
 ·try dsimp only
  have h1:=Qlx hL (Qrg hp _ (List.getElem_mem hn)).1;rw [if_pos (by omega),Q2 hn];simp only [h1,Option.bind_some];rw [Qc0 hp.un.so hp.small.2.2.1];cases lf L (outP p.zB s)[n].To<;>simp
 ·try dsimp only
  rw [if_neg (by omega)];show (((if Qhq p L s then _ else _):Option Bool).bind _)=_;cases Qhq p L s<;>cases Qgs p L s<;>rfl
 ·unfold escP;cases (outP p.zB s).find? _<;>rfl
end
end Go.Abs
end
section
namespace Go.Abs
open Go
def Qdx (R:List Int):List Bool:=R.map (· == 0)
theorem Qbc5 {R:List Int} {x:Int} (h0:0≤x) (h1:x<R.length):lf (Qdx R) x=(ati R x==0):=by
 unfold Qdx;exact Qbgp h0 h1
structure Qbbh (p:Qa) (R:List Int):Prop where
 ln:R.length=p.zB.zS.toNat
 nn:∀ x:Int,0≤x→x<p.zB.zS→0≤ati R x
def Q6o (p:Qa) (R:List Int) (s:Int):Int×Int:=if (escP p (Qdx R) s).1=0 then (0,0) else escP p (Qdx R) s
section
variable {p:Qa} (hp:RightP p) {R:List Int} (hR:Qbbh p R) {s:Int} (T:List Qb) (r:Int)
include hR in
theorem Qp5 {x:Int} (hx:0≤x∧x<p.zB.zS):inO R.length x=some ()∧getO R x=some (ati R x)∧(ati R x==0)=lf (Qdx R) x∧decide (ati R x>0) = !lf (Qdx R) x:=by
 have h1:=hR.ln;have h2:=hR.nn x hx.1 hx.2;have h3:=Qbc5 (R:=R) hx.1 (by omega);refine ⟨Qf8 hx.1 (by omega),Qi3 hx.1 (by omega),h3.symm,?_⟩;rw [h3,Bool.eq_iff_iff];simp;omega
include hp hR
theorem Qbbi:Qes ⟨p,R,T,r⟩ s=some (Qgs p (Qdx R) s):=by
 unfold Qes Qb3;obtain ⟨fuel,hfu,hge⟩ : ∃ f,Qb0=f∧1099511627776≤f:=⟨_,rfl,Nat.le_refl _⟩;rw [hfu];refine (Q7w (l:=p.zB.zQ) (fun x=>x) (fun y=>(y.From==s)&&(lf (Qdx R) y.To&&decide (y.Event∈p.zF))) hp.a.small.1.2.2 hge (fun k n hn=>?_) (fun k=>?_)).trans ?_
 ·have h1:=hp.a.ed0 _ (List.getElem_mem hn);have h2:=Qp5 hR ⟨h1.2.2.1,h1.2.2.2.1⟩;dsimp only;rw [if_pos (by omega),Q2 hn];simp only [h2,Option.bind_some];rw [Qqw hp.small.2.2.2];cases p.zB.zQ[n].From==s<;>cases lf (Qdx R) p.zB.zQ[n].To<;>by_cases h3:p.zB.zQ[n].Event∈p.zF<;>simp [h3]
 ·dsimp only;rw [if_neg (by omega)]
 ·unfold Qgs outP;rw [List.any_filter]
theorem Qbfc:Qfa ⟨p,R,T,r⟩ s=some (Q6o p R s):=by
 unfold Qfa Qcc;obtain ⟨fuel,hfu,hge⟩ : ∃ f,Qb0=f∧1099511627776≤f:=⟨_,rfl,Nat.le_refl _⟩;rw [hfu,Qbbi hp hR T r];have hin:Qbv (fun k23 (x22:Int)=>(if (x22<(p.zB.zQ.length:Int)) then ((getO p.zB.zQ x22).bind fun x25=>(((if (x25.From==s) then (if (x25.Event==p.Tick) then ((inO R.length x25.To).bind fun u29=>((getO R x25.To).bind fun x31=>(if (x31>0) then ((some (Qgs p (Qdx R) s)).bind fun x35=>some (!x35)) else some false))) else some false) else some false)).bind fun (x36:Bool)=>(if x36 then some ((4:Int),x25.Event) else k23 (IntKind.wrap .i64 (x22+1))))) else some (0,0))) fuel 0=some (if Qhq p (Qdx R) s && !Qgs p (Qdx R) s then (4,p.Tick) else (0,0)):=by
  refine (Qxp (l:=p.zB.zQ) (fun x=>x) (fun y=>(y.From==s)&&((y.Event==p.Tick)&&(!lf (Qdx R) y.To && !Qgs p (Qdx R) s))) (fun y=>some (4,y.Event)) (some (0,0)) hp.a.small.1.2.2 hge (fun k n hn=>?_) (fun k=>?_)).trans ?_
  ·have h1:=hp.a.ed0 _ (List.getElem_mem hn);have h2:=Qp5 hR ⟨h1.2.2.1,h1.2.2.2.1⟩;rw [if_pos (by omega),Q2 hn];simp only [h2,Option.bind_some];have h3:=h2.2.2.2;have h4:(ati R p.zB.zQ[n].To>0)↔lf (Qdx R) p.zB.zQ[n].To=false:=by
    rw [← decide_eq_true_iff (p:=ati R p.zB.zQ[n].To>0),h3];simp
   simp only [h4];cases p.zB.zQ[n].From==s<;>cases p.zB.zQ[n].Event==p.Tick<;>cases lf (Qdx R) p.zB.zQ[n].To<;>cases Qgs p (Qdx R) s<;>simp
  ·rw [if_neg (by omega)]
  ·cases hf:p.zB.zQ.find? (fun y=>(y.From==s)&&((y.Event==p.Tick)&&(!lf (Qdx R) y.To && !Qgs p (Qdx R) s))) with
   | none =>
    have:(Qhq p (Qdx R) s && !Qgs p (Qdx R) s)=false:=by
     rw [List.find?_eq_none] at hf;rw [Bool.eq_false_iff];intro h;rw [Bool.and_eq_true] at h;obtain ⟨h1,h2⟩:=h;unfold Qhq outP at h1;rw [List.any_filter,List.any_eq_true] at h1;obtain ⟨y,h3,h4⟩:=h1;refine hf y h3 ?_;simp only [Bool.and_eq_true] at h4 ⊢;exact ⟨h4.1,h4.2.1,h4.2.2,h2⟩
    rw [this];rfl
   | some y =>
    have h1:=List.find?_some hf;have h2:=List.mem_of_find?_eq_some hf;simp only [Bool.and_eq_true,beq_iff_eq] at h1;have:(Qhq p (Qdx R) s && !Qgs p (Qdx R) s)=true:=by
     rw [Bool.and_eq_true];refine ⟨?_,h1.2.2.2⟩;unfold Qhq outP;rw [List.any_filter,List.any_eq_true];exact ⟨y,h2,by simp [h1.1,h1.2.1];simpa using h1.2.2.1⟩
    rw [this];show some ((4:Int),y.Event)=some (4,p.Tick);rw [h1.2.1]
 refine (Qxp (l:=p.zB.zQ) (fun x=>x) (fun y=>(y.From==s)&&(!lf (Qdx R) y.To&&decide (y.Event∈p.zC))) (fun y=>some (2,y.Event)) (some (if Qhq p (Qdx R) s && !Qgs p (Qdx R) s then (4,p.Tick) else (0,0))) hp.a.small.1.2.2 hge (fun k n hn=>?_) (fun k=>?_)).trans ?_
 ·have h1:=hp.a.ed0 _ (List.getElem_mem hn);have h2:=Qp5 hR ⟨h1.2.2.1,h1.2.2.2.1⟩;dsimp only;rw [if_pos (by omega),Q2 hn];simp only [h2,Option.bind_some];rw [Qqw hp.small.2.2.1];cases p.zB.zQ[n].From==s<;>cases lf (Qdx R) p.zB.zQ[n].To<;>by_cases h3:p.zB.zQ[n].Event∈p.zC<;>simp [h3]
 ·dsimp only;rw [if_neg (by omega)];exact hin
 ·unfold Q6o escP outP;rw [List.find?_filter];have:(fun x:Qc=>decide ((x.From==s)=true∧(!lf (Qdx R) x.To&&decide (x.Event∈p.zC))=true))=fun y=>(y.From==s)&&(!lf (Qdx R) y.To&&decide (y.Event∈p.zC)):=by
   funext x;rw [Bool.eq_iff_iff];simp
  rw [this];cases p.zB.zQ.find? _ with
  | some y=>rfl
  | none =>
   simp only;cases Qhq p (Qdx R) s<;>cases Qgs p (Qdx R) s<;>rfl
end
end Go.Abs
end
