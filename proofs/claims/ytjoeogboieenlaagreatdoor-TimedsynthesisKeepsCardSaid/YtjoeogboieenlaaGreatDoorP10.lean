/-
  Part 10 of the proof: see the last text.
-/
import Derived.Test.YtjoeogboieenlaaGreatDoorP9
import Derived.Test.YtjoeogboieenlaaGreatDoorProg
import Derived.KernelRfl
import Derived.Sort.Statements
import Derived.Lib.ItoaNum
import Derived.Shelf.Strings.BuilderK
import Derived.Shelf.Strconv.Itoa2
import Derived.Shelf.Strconv.Itoa3
import Derived.Ground.SlgmProg
import Derived.Shelf.SortM.Plain
import Derived.Shelf.SortM.SortNone
import Derived.WalkKit
import Derived.BigCall
import Derived.Lib.OthersKept
import Derived.Shelf.SlLaysF0
import Derived.Ground.SlsfProg
import Derived.Shelf.SlSortCmp.NoneTotal
import Derived.Shelf.Small.Bits
import Derived.OpenShut
import Derived.ProofKit
import Derived.Carry
import GoSem.Claim
import GoSem.ClaimJoined
import Derived.JoinedTies
set_option linter.unusedVariables false
set_option linter.unusedSimpArgs false
set_option linter.unusedSectionVars false
section
namespace Go.Proofs
open Go.Abs
set_option maxRecDepth 100000
theorem Qk3:Qk Tryz.prog 4=some Qgt:=by kernel_rfl
theorem Qvf:Qk Tryz.prog 5=some Qnl:=by kernel_rfl
theorem Qri:Qk Tryz.prog 7=some Qkr:=by kernel_rfl
theorem Qzs:Qk Tryz.prog 8=some Qr6:=by kernel_rfl
theorem Qxl:Qk Tryz.prog 9=some Qpu:=by kernel_rfl
theorem Qvg:Qk Tryz.prog 11=some Qnp:=by kernel_rfl
theorem Q7n:Qk Tryz.prog 12=some Q0o:=by kernel_rfl
theorem Q0u:Qk Tryz.prog 13=some Qty:=by kernel_rfl
theorem Qxm:Qk Tryz.prog 14=some Qpz:=by kernel_rfl
theorem Qwk:Qk Tryz.prog 16=some Qom:=by kernel_rfl
theorem Qrj:Qk Tryz.prog 17=some Qko:=by kernel_rfl
theorem Qp3:Qk Tryz.prog 18=some Qjs:=by kernel_rfl
theorem Qt9:Qk Tryz.prog 19=some Qmg:=by kernel_rfl
theorem Qxn:Qk Tryz.prog 20=some Qpy:=by kernel_rfl
theorem Qwl:Qk Tryz.prog 21=some Qon:=by kernel_rfl
theorem Qzt:Qk Tryz.prog 22=some Qsb:=by kernel_rfl
theorem Qvh:Qk Tryz.prog 23=some Qnj:=by kernel_rfl
theorem Qwm:Qk Tryz.prog 24=some Qol:=by kernel_rfl
theorem Qqh:Qk Tryz.prog 25=some Qkd:=by kernel_rfl
theorem Q2m:Qk Tryz.prog 26=some Qu5:=by kernel_rfl
theorem Qua:Qk Tryz.prog 27=some Qma:=by kernel_rfl
theorem Qub:Qk Tryz.prog 28=some Qmf:=by kernel_rfl
theorem Qxo:Qk Tryz.prog 29=some Qpw:=by kernel_rfl
theorem Q0v:Qk Tryz.prog 30=some Qtu:=by kernel_rfl
theorem Q3b:Qk Tryz.prog 31=some Qwx:=by kernel_rfl
theorem Qrk:Qk Tryz.prog 32=some Qkq:=by kernel_rfl
theorem Qsj:Qk Tryz.prog 34=some Qk7:=by kernel_rfl
theorem Quc:Qk Tryz.prog 35=some Qme:=by kernel_rfl
theorem Qyk:Qk Tryz.prog 36=some Qqw:=by kernel_rfl
theorem Qud:Qk Tryz.prog 37=some Qmh:=by kernel_rfl
theorem Qvi:Qk Tryz.prog 38=some Qnk:=by kernel_rfl
theorem Q0w:Qk Tryz.prog 39=some Qtx:=by kernel_rfl
theorem Que:Qk Tryz.prog 41=some Qmd:=by kernel_rfl
theorem Qp4:Qk Tryz.prog 42=some Qjt:=by kernel_rfl
theorem Quf:Qk Tryz.prog 43=some Qmb:=by kernel_rfl
theorem Qug:Qk Tryz.prog 44=some Qmc:=by kernel_rfl
theorem Qp5:Qk Tryz.prog 45=some Qjr:=by kernel_rfl
theorem Qm0:Qk Tryz.prog 46=some Qhy:=by kernel_rfl
theorem Qqi:Qk Tryz.prog 47=some Qkc:=by kernel_rfl
theorem Qn9:Qk Tryz.prog 48=some Qir:=by kernel_rfl
theorem Ql7:Qk Tryz.prog 49=some Qhl:=by kernel_rfl
theorem Qzu:Qk Tryz.prog 50=some Qr7:=by kernel_rfl
theorem Qyl:Qk Tryz.prog 51=some Qqz:=by kernel_rfl
theorem Q2n:Qk Tryz.prog 52=some Qu6:=by kernel_rfl
theorem Q0x:Qk Tryz.prog 53=some Qtt:=by kernel_rfl
theorem Quh:Qk Tryz.prog 54=some Qmi:=by kernel_rfl
theorem Qzv:Qk Tryz.prog 55=some Qr5:=by kernel_rfl
theorem Qym:Qk Tryz.prog 56=some Qqv:=by kernel_rfl
theorem Qvj:Qk Tryz.prog 57=some Qnm:=by kernel_rfl
theorem Qrl:Qk Tryz.prog 58=some Qkp:=by kernel_rfl
theorem Qrm:Qk Tryz.prog 59=some Qkn:=by kernel_rfl
theorem Qyn:Qk Tryz.prog 60=some Qqx:=by kernel_rfl
theorem Q0y:Qk Tryz.prog 61=some Qtw:=by kernel_rfl
theorem Qyo:Qk Tryz.prog 66=some Qqt:=by kernel_rfl
theorem Qte:Qk Tryz.prog 67=some Qln:=by kernel_rfl
theorem Qyp:Qk Tryz.prog 68=some Qq0:=by kernel_rfl
theorem Qo2:Qk Tryz.prog 70=some Qjf:=by kernel_rfl
theorem Qzw:Qk Tryz.prog 71=some Qr8:=by kernel_rfl
theorem Qsk:Qk Tryz.prog 72=some Qk9:=by kernel_rfl
theorem Qoa:Qk Tryz.prog 75=some Qit:=by kernel_rfl
theorem Qnu:Qk Tryz.prog 76=some Qh9:=by kernel_rfl
theorem Qob:Qk Tryz.prog 77=some Qiu:=by kernel_rfl
theorem Qzx:Qk Tryz.prog 78=some Qr9:=by kernel_rfl
theorem Qzy:Qk Tryz.prog 79=some Qsa:=by kernel_rfl
theorem Qwn:Qk Tryz.prog 80=some Qoj:=by kernel_rfl
theorem Qui:Qk Tryz.prog 81=some Ql9:=by kernel_rfl
theorem Qvk:Qk Tryz.prog 82=some Qnn:=by kernel_rfl
theorem Qxp:Qk Tryz.prog 83=some Qpx:=by kernel_rfl
theorem Qwo:Qk Tryz.prog 84=some Qok:=by kernel_rfl
theorem Qvl:Qk Tryz.prog 85=some Qno:=by kernel_rfl
theorem Q3c:Qk Tryz.prog 86=some Qww:=by kernel_rfl
theorem Qyq:Qk Tryz.prog 87=some Qqu:=by kernel_rfl
theorem Q0z:Qk Tryz.prog 88=some Qtv:=by kernel_rfl
theorem Qnv:Qk Tryz.prog 93=some Qh7:=by kernel_rfl
theorem Qo3:Qk Tryz.prog 94=some Qje:=by kernel_rfl
theorem Qsl:Qk Tryz.prog 95=some Qk8:=by kernel_rfl
theorem Qp6:Qk Tryz.prog 96=some Qjz:=by kernel_rfl
theorem Q2o:Qk Tryz.prog 98=some Qu3:=by kernel_rfl
theorem Qyr:Qk Tryz.prog 99=some Qqy:=by kernel_rfl
theorem Qnw:Qk Tryz.prog 112=some Qh8:=by kernel_rfl
end Go.Proofs
end
section
namespace Go.Abs
open Go Go.Sort
section plain
variable {β:Type}
def insB (lt:β→β→Bool) (x:β):List β→List β
 | []=>[x]
 | y::ys=>if lt y x then y::insB lt x ys else x::y::ys
def Qla (lt:β→β→Bool):List β→List β
 | []=>[]
 | x::xs=>insB lt x (Qla lt xs)
def Q00 (lt:β→β→Bool):List β→Bool
 | []=>true
 | x::xs=>xs.all (fun y=>lt x y||lt y x)&&Q00 lt xs
def Qbgq (ok:β→Bool) (lt:β→β→Bool) (l:List β):Option (List β):=if l.all ok&&Q00 lt l then some (Qla lt l) else none
theorem Q2p (lt:β→β→Bool) (x:β):∀ l,(insB lt x l).Perm (x::l)
 | []=>.refl _
 | y::ys=>by
  unfold insB;split
  ·exact ((Q2p lt x ys).cons y).trans (.swap x y ys)
  ·exact .refl _
theorem Qj1 (lt:β→β→Bool):∀ l,(Qla lt l).Perm l
 | []=>.refl _
 | x::xs=>(Q2p lt x _).trans ((Qj1 lt xs).cons x)
theorem Qlx (lt:β→β→Bool) (l:List β):(Qla lt l).length=l.length:=(Qj1 lt l).length_eq
theorem Q2q {lt:β→β→Bool} (h:SWO lt) (x:β):∀ l,l.Pairwise (fun a b=>lt b a=false)→(insB lt x l).Pairwise fun a b=>lt b a=false
 | [],_=>by simp [insB]
 | y::ys,hl=>by
  obtain ⟨h1,h2⟩:=List.pairwise_cons.1 hl;unfold insB;split
  ·rename_i hc;refine List.pairwise_cons.2 ⟨fun z hz=>?_,Q2q h x ys h2⟩;rcases List.mem_cons.1 ((Q2p lt x ys).mem_iff.1 hz) with rfl|hz
   ·cases hb:lt z y with
    | false=>rfl
    | true=>have:=h.trans _ _ _ hc hb;rw [h.irrefl] at this;cases this
   ·exact h1 z hz
  ·rename_i hc;have hc:lt y x=false:=by cases h:lt y x<;>simp_all
   refine List.pairwise_cons.2 ⟨fun z hz=>?_,hl⟩;rcases List.mem_cons.1 hz with rfl|hz
   ·exact hc
   ·exact h.ntrans _ _ _ (h1 z hz) hc
theorem Qly {lt:β→β→Bool} (h:SWO lt):∀ l,(Qla lt l).Pairwise fun a b=>lt b a=false
 | []=>.nil
 | x::xs=>Q2q h x _ (Qly h xs)
theorem Q4h {lt:β→β→Bool}:∀ {l:List β},Q00 lt l=true→∀ a b,a∈l→b∈l→lt a b=false→lt b a=false→a=b
 | [],_,a,_,ha,_,_,_=>by cases ha
 | x::xs,h,a,b,ha,hb,h1,h2=>by
  simp only [Q00,Bool.and_eq_true,List.all_eq_true] at h;obtain ⟨k1,k2⟩:=h;rcases List.mem_cons.1 ha with e1|ha'<;>rcases List.mem_cons.1 hb with e2|hb'
  ·rw [e1,e2]
  ·subst e1;have:=k1 b hb';simp [h1,h2] at this
  ·subst e2;have:=k1 a ha';simp [h1,h2] at this
  ·exact Q4h k2 a b ha' hb' h1 h2
theorem Q5r {lt:β→β→Bool} (h:SWO lt) {l m:List β} (hd:Q00 lt l=true) (hp:m.Perm l) (hs:m.Pairwise fun a b=>lt b a=false):m=Qla lt l:=by
 refine List.Perm.eq_of_pairwise (le:=fun a b=>lt b a=false) (fun a b ha hb h1 h2=>?_) hs (Qly h l) (hp.trans (Qj1 lt l).symm);exact Q4h hd a b (hp.mem_iff.1 ha) ((Qj1 lt l).mem_iff.1 hb) h2 h1
theorem Qbau {α:Type} (f:α→β) (lt:β→β→Bool) (x:α):∀ l:List α,insB lt (f x) (l.map f)=(insB (fun a b=>lt (f a) (f b)) x l).map f
 | []=>rfl
 | y::ys=>by
  simp only [List.map_cons,insB];split
  ·simp only [List.map_cons,Qbau f lt x ys]
  ·rfl
theorem Q4i {α:Type} (f:α→β) (lt:β→β→Bool):∀ l:List α,Qla lt (l.map f)=(Qla (fun a b=>lt (f a) (f b)) l).map f
 | []=>rfl
 | x::xs=>by simp only [List.map_cons,Qla,Q4i f lt xs,Qbau]
theorem Q7o {α:Type} (f:α→β) (lt:β→β→Bool):∀ l:List α,Q00 lt (l.map f)=Q00 (fun a b=>lt (f a) (f b)) l
 | []=>rfl
 | x::xs=>by simp only [List.map_cons,Q00,Q7o f lt xs,List.all_map];rfl
end plain
def Qhd (a b:Int):Bool:=decide (a<b)
end Go.Abs
end
section
namespace Go.Abs
def Qbek (l:List Int):Option (List Int):=if l.length≤lim then some (Qla Qhd l) else none
def keyL (l:List Int):List UInt8:=l.flatMap fun x=>Lib.decDigits x.toNat++[32]
def keyB (l:List Int):ByteArray:=⟨(keyL l).toArray⟩
def keyI (l:List Int):Option ByteArray:=if l.length≤lim∧∀ x∈l,0≤x∧x<100 then some (keyB l) else none
end Go.Abs
end
section
namespace Go.Abs
def okRm (x:Qd):Bool:=decide (0≤x.State∧x.State<4611686018427387904)
def ltRm (x y:Qd):Bool:=decide (x.State<y.State)
def Qbgr (l:List Qd):Option (List Qd):=if l.length≤65536 then Qbgq okRm ltRm l else none
end Go.Abs
end
section
namespace Go.Abs
open Go Go.Abs
set_option maxRecDepth 10000
set_option maxHeartbeats 4000000
def Qbb:Nat:=1099511627776
def Qnx:=Qc2
def Qhp:=Qcv Qbb
def Qjg:=Qd6 Qbb
def Qb1:=Ql Qjg
def Qgy:=Qcp Qb1 Qbb
def Qd1:=Qr Qhp Qgy
def Qfi:=Q2 Qbb
def Qdk:=Qp
def Qp7:=Qev
def Qks:=Qgi Qp7
def Qjh:=Qdn
def Qfl:=Qb6 Qks Qjh Qbb
def Qbw:=Qe Qfl
def Qgz:=Qcq Qfi Qdk Qbw Qd1 Qbb
def Qg0:=Qcr Qbw Qbb
def Qfv:=Qbj
def Qd2:=Q6 Qbb
def Qc8:=Qo Qd2
def Qfw:=Qbk Qbw
def Qer:=Qbt Qc8 Qfw
def Qes:=Qbu Qbw Qc8 Qfv Qer Qbb
def Qc0:=Qt Qbw Qbb
def Qdw:=Qby Qc0 Qes Qbb
def Qf9:=Qbp
def Qcb:=Qv
def Qdp:=Qbe Qbw Qcb Qbb
def Qdx:=Q0 Qgz Qg0 Qdw Qc0 Qc8 Qf9 Qdp Qbb
def Qgu:=Qbz
def Qg1:=Qcs Qdk Qbek Qbb
def Qeb:=Q4 Qg1 Qgu
def Qq1:=Qex Qbb
def Q0p:=Qju Qq1
def Qj2:=Qdt Q0p Qeb Qdx Qnx
def Qb3:=Qbr Qbb
def Qfx:=Qbc
def Qcx:=Qbo Qbb
def Qdy:=Qbv Qbb
def Qhe:=Qc3 Qdy Qcx Qbb
def Qfy:=Qc4 Qbb
def Qfm:=Qb7 Qfx Qhe Qdy Qcx Qfy Qbb
def Qhq:=Qdg Qfx Qfm Qbb
def Qgc:=Qcw Qhq Qb3 Qbb
def Qj3:=Qcz Qd1 Qbb
def Qga:=Qbf Qbb
def Qlz:=Qey
def Qkv:=Qe3 Qga Qlz
def Qh2:=Qek Qkv
def Ql0:=Qez
def Qiv:=Qe4 Qga Ql0
def Qgb:=Qe5 Qiv Qbb
def Qnc:=Qgj Qgb Qbb
def Qfn:=Qb8 Qbb
def Qf3:=Qcg Qbw Qbb
def Qg2:=Qct Qbw Qcb Qbb
def Qc5:=Qcm Qj3 Qnc Qfn keyI Qf3 Qg2 Qbb
def Qg3:=Qce Qbb
def Qfo:=Qb9 Qh2 Qfi Qc5 Qj3 Qdk Qg3 Qbw Qbb
def Qj7:=Qel Qfi Qd1
def Qj8:=Qem Qbb
def Qf4:=Qch Qb1 Qbb
def Qdd:=Qz Qbb
def Qe0:=Qb0 Qdd Qbb
def Qeq:=Qci Qf4 Qe0
def Qd9:=Qbl Qb1 Qcb Qbb
def Qji:=Qd7 Qj8 Qeq Qbgr Qdd Qd9 Qbb
def Qfb:=Qcu Qj7 Qji
def Qfc:=Qbd Qd1
def Qed:=Qbg Qbb
def Qj9:=Qen
def Qka:=Qeo
def Qfz:=Qbs Qed Qj9 Qka
def Qjj:=Qd8
def Qkw:=Qe6 Qfz Qd2 Qjj
def Qiw:=Qe7 Qfc Qb1 Qkw
def Qii:=Qdu Qfc Qfz Qbb
def Qij:=Qdv Qbb
def Qja:=Qdj
def Qhr:=Qdh Qga Qja
def Qgn:=Qep Qb1 Qfz Qd1 Qcb Qbb
def Qef:=Qee Qj2 Qfo Qiw Qij Qgc Qeb Qdx Qfb Qii Qhr Qgn Qbb
end Go.Abs
end
section
namespace Go.Proofs
open Go.Shelf
def Tryz.lays169_ren:Go.Shelf.Ren:=⟨fun|169=>65|n=>n,fun|70=>130|9=>9|0=>0|72=>133|37=>131|127=>160|3=>3|5=>5|n=>n,fun|n=>n⟩
theorem Tryz.lays169:Go.Proofs.Lays.n169 Tryz.prog Tryz.lays169_ren:={
 mixed:=by kernel_rfl
 f169:=Tryz.func65.trans (congrArg some (by kernel_rfl))
 t0:=Tryz.underlying0
 a0:=Tryz.isAgg0
 z0:=Tryz.sizeOf0
 v0:=Tryz.zeroValue0
 t3:=Tryz.underlying3
 a3:=Tryz.isAgg3
 z3:=Tryz.sizeOf3
 v3:=Tryz.zeroValue3
 t9:=Tryz.underlying9
 a9:=Tryz.isAgg9
 z9:=Tryz.sizeOf9
 v9:=Tryz.zeroValue9
 t37:=Tryz.underlying131
 a37:=Tryz.isAgg131
 z37:=Tryz.sizeOf131
 v37:=Tryz.zeroValue131
 t70:=Tryz.underlying130
 a70:=Tryz.isAgg130
 z70:=Tryz.sizeOf130
 v70:=Tryz.zeroValue130
 t72:=Tryz.underlying133
 a72:=Tryz.isAgg133
 z72:=Tryz.sizeOf133
 v72:=Tryz.zeroValue133
 t127:=Tryz.underlying160
 a127:=Tryz.isAgg160
 z127:=Tryz.sizeOf160
 v127:=Tryz.zeroValue160 }
theorem Tryz.Builder_Extra_169:Builder.Extra Tryz.prog Tryz.lays169_ren:={
 sizeBuilder:=by kernel_rfl
 liesBuilder:=by kernel_rfl
 t5:=Tryz.underlying5
 a5:=Tryz.isAgg5
 z5:=Tryz.sizeOf5
 v5:=Tryz.zeroValue5
 infoByte:=by kernel_rfl
 cellsByte:=by kernel_rfl
 sizeByte:=by kernel_rfl
 neB5:=by decide }
open Go.RowKit in
theorem Tryz.Builder_String_any_k (B b:Nat) (l:List UInt8) (w:World) (h:Lib.IsBuilderF 133 5 B b (Lib.byteCells l) w) (hBw:B≤w.heap.size) :
  Calls Tryz.prog 65 #[.pointer (some ⟨b,0,none⟩)] w fun e w'=>e = .returned (.string ⟨l.toArray⟩)∧(Lib.IsBuilderF 133 5 B b (Lib.byteCells l) w'∧Below B w w'∧Lib.OthersKept 5 (some b) w w'):=Any.Builder_String_any_k Tryz.lays169 Tryz.Builder_Extra_169 B b l w h hBw
def Tryz.lays171_ren:Go.Shelf.Ren:=⟨fun|171=>63|243=>90|246=>101|283=>121|284=>122|285=>123|286=>124|129=>111|317=>133|318=>134|319=>135|320=>136|337=>139|338=>140|n=>n,fun|3=>3|9=>9|2=>2|4=>4|171=>183|0=>0|53=>177|37=>131|5=>5|173=>185|212=>197|51=>175|20=>20|213=>198|46=>158|232=>202|233=>203|n=>n,fun|17=>0|18=>1|19=>2|n=>n⟩
theorem Tryz.lays171:Go.Proofs.Lays.n171 Tryz.prog Tryz.lays171_ren:={
 mixed:=by kernel_rfl
 f129:=Tryz.func111.trans (congrArg some (by kernel_rfl))
 f171:=Tryz.func63.trans (congrArg some (by kernel_rfl))
 f243:=Tryz.func90.trans (congrArg some (by kernel_rfl))
 f246:=Tryz.func101.trans (congrArg some (by kernel_rfl))
 f283:=Tryz.func121.trans (congrArg some (by kernel_rfl))
 f284:=Tryz.func122.trans (congrArg some (by kernel_rfl))
 f285:=Tryz.func123.trans (congrArg some (by kernel_rfl))
 f286:=Tryz.func124.trans (congrArg some (by kernel_rfl))
 f317:=Tryz.func133.trans (congrArg some (by kernel_rfl))
 f318:=Tryz.func134.trans (congrArg some (by kernel_rfl))
 f319:=Tryz.func135.trans (congrArg some (by kernel_rfl))
 f320:=Tryz.func136.trans (congrArg some (by kernel_rfl))
 f337:=Tryz.func139.trans (congrArg some (by kernel_rfl))
 f338:=Tryz.func140.trans (congrArg some (by kernel_rfl))
 t0:=Tryz.underlying0
 a0:=Tryz.isAgg0
 z0:=Tryz.sizeOf0
 v0:=Tryz.zeroValue0
 t2:=Tryz.underlying2
 a2:=Tryz.isAgg2
 z2:=Tryz.sizeOf2
 v2:=Tryz.zeroValue2
 t3:=Tryz.underlying3
 a3:=Tryz.isAgg3
 z3:=Tryz.sizeOf3
 v3:=Tryz.zeroValue3
 t4:=Tryz.underlying4
 a4:=Tryz.isAgg4
 z4:=Tryz.sizeOf4
 v4:=Tryz.zeroValue4
 t5:=Tryz.underlying5
 a5:=Tryz.isAgg5
 z5:=Tryz.sizeOf5
 v5:=Tryz.zeroValue5
 t9:=Tryz.underlying9
 a9:=Tryz.isAgg9
 z9:=Tryz.sizeOf9
 v9:=Tryz.zeroValue9
 t20:=Tryz.underlying20
 a20:=Tryz.isAgg20
 z20:=Tryz.sizeOf20
 v20:=Tryz.zeroValue20
 t37:=Tryz.underlying131
 a37:=Tryz.isAgg131
 z37:=Tryz.sizeOf131
 v37:=Tryz.zeroValue131
 t46:=Tryz.underlying158
 a46:=Tryz.isAgg158
 z46:=Tryz.sizeOf158
 v46:=Tryz.zeroValue158
 t51:=Tryz.underlying175
 a51:=Tryz.isAgg175
 z51:=Tryz.sizeOf175
 v51:=Tryz.zeroValue175
 t53:=Tryz.underlying177
 a53:=Tryz.isAgg177
 z53:=Tryz.sizeOf177
 v53:=Tryz.zeroValue177
 t171:=Tryz.underlying183
 a171:=Tryz.isAgg183
 z171:=Tryz.sizeOf183
 v171:=Tryz.zeroValue183
 t173:=Tryz.underlying185
 a173:=Tryz.isAgg185
 z173:=Tryz.sizeOf185
 v173:=Tryz.zeroValue185
 t212:=Tryz.underlying197
 a212:=Tryz.isAgg197
 z212:=Tryz.sizeOf197
 v212:=Tryz.zeroValue197
 t213:=Tryz.underlying198
 a213:=Tryz.isAgg198
 z213:=Tryz.sizeOf198
 t232:=Tryz.underlying202
 a232:=Tryz.isAgg202
 z232:=Tryz.sizeOf202
 v232:=Tryz.zeroValue202
 t233:=Tryz.underlying203
 a233:=Tryz.isAgg203
 z233:=Tryz.sizeOf203
 v233:=Tryz.zeroValue203
 g17:=by kernel_rfl
 g18:=by kernel_rfl
 g19:=by kernel_rfl }
open Go.RowKit Go.Sort Go.Lib in
theorem Tryz.strconv_Itoa_small (i:Nat) (hi:i<100) (w:World) :
  Calls Tryz.prog 63 #[.int .i64 i] w fun e w'=>e = .returned (.string ⟨(Lib.decDigits i).toArray⟩)∧w'=w:=Any.strconv_Itoa_small Tryz.lays171 i hi w
def Tryz.laysSlM5_f69_ren:Go.Shelf.Ren:=⟨fun|5=>69|8=>92|7=>91|19=>110|20=>111|10=>102|11=>103|12=>104|13=>105|14=>106|15=>107|16=>86|17=>108|18=>109|30=>125|31=>126|32=>127|33=>128|34=>129|35=>98|40=>137|n=>n,fun|23=>23|25=>3|3=>3|32=>158|22=>23|0=>0|44=>175|46=>177|4=>4|36=>169|35=>168|41=>86|5=>5|9=>9|53=>187|57=>191|63=>199|64=>144|n=>n,fun|n=>n⟩
theorem Tryz.laysSlM5_f69:Go.Proofs.SlLaysM.n5 Tryz.prog Tryz.laysSlM5_f69_ren:={
 mixed:=by kernel_rfl
 f5:=⟨Tryz.f69.name,by decide,Tryz.func69.trans (congrArg some (by kernel_rfl))⟩
 f7:=⟨Tryz.f91.name,by decide,Tryz.func91.trans (congrArg some (by kernel_rfl))⟩
 f8:=Tryz.func92.trans (congrArg some (by kernel_rfl))
 f10:=⟨Tryz.f102.name,by decide,Tryz.func102.trans (congrArg some (by kernel_rfl))⟩
 f11:=⟨Tryz.f103.name,by decide,Tryz.func103.trans (congrArg some (by kernel_rfl))⟩
 f12:=⟨Tryz.f104.name,by decide,Tryz.func104.trans (congrArg some (by kernel_rfl))⟩
 f13:=⟨Tryz.f105.name,by decide,Tryz.func105.trans (congrArg some (by kernel_rfl))⟩
 f14:=⟨Tryz.f106.name,by decide,Tryz.func106.trans (congrArg some (by kernel_rfl))⟩
 f15:=⟨Tryz.f107.name,by decide,Tryz.func107.trans (congrArg some (by kernel_rfl))⟩
 f16:=⟨Tryz.f86.name,by decide,Tryz.func86.trans (congrArg some (by kernel_rfl))⟩
 f17:=⟨Tryz.f108.name,by decide,Tryz.func108.trans (congrArg some (by kernel_rfl))⟩
 f18:=⟨Tryz.f109.name,by decide,Tryz.func109.trans (congrArg some (by kernel_rfl))⟩
 f19:=Tryz.func110.trans (congrArg some (by kernel_rfl))
 f20:=Tryz.func111.trans (congrArg some (by kernel_rfl))
 f30:=⟨Tryz.f125.name,by decide,Tryz.func125.trans (congrArg some (by kernel_rfl))⟩
 f31:=Tryz.func126.trans (congrArg some (by kernel_rfl))
 f32:=Tryz.func127.trans (congrArg some (by kernel_rfl))
 f33:=⟨Tryz.f128.name,by decide,Tryz.func128.trans (congrArg some (by kernel_rfl))⟩
 f34:=⟨Tryz.f129.name,by decide,Tryz.func129.trans (congrArg some (by kernel_rfl))⟩
 f35:=⟨Tryz.f98.name,by decide,Tryz.func98.trans (congrArg some (by kernel_rfl))⟩
 f40:=⟨Tryz.f137.name,by decide,Tryz.func137.trans (congrArg some (by kernel_rfl))⟩
 t0:=Tryz.underlying0
 a0:=Tryz.isAgg0
 z0:=Tryz.sizeOf0
 v0:=Tryz.zeroValue0
 t3:=Tryz.underlying3
 a3:=Tryz.isAgg3
 z3:=Tryz.sizeOf3
 v3:=Tryz.zeroValue3
 t4:=Tryz.underlying4
 a4:=Tryz.isAgg4
 z4:=Tryz.sizeOf4
 v4:=Tryz.zeroValue4
 t5:=Tryz.underlying5
 a5:=Tryz.isAgg5
 z5:=Tryz.sizeOf5
 v5:=Tryz.zeroValue5
 t9:=Tryz.underlying9
 a9:=Tryz.isAgg9
 z9:=Tryz.sizeOf9
 v9:=Tryz.zeroValue9
 t22:=Tryz.underlying23
 a22:=Tryz.isAgg23
 z22:=Tryz.sizeOf23
 v22:=Tryz.zeroValue23
 t23:=Tryz.underlying23
 a23:=Tryz.isAgg23
 z23:=Tryz.sizeOf23
 v23:=Tryz.zeroValue23
 t25:=Tryz.underlying3
 a25:=Tryz.isAgg3
 z25:=Tryz.sizeOf3
 v25:=Tryz.zeroValue3
 t32:=Tryz.underlying158
 a32:=Tryz.isAgg158
 z32:=Tryz.sizeOf158
 v32:=Tryz.zeroValue158
 t35:=Tryz.underlying168
 a35:=Tryz.isAgg168
 z35:=Tryz.sizeOf168
 v35:=Tryz.zeroValue168
 t36:=Tryz.underlying169
 a36:=Tryz.isAgg169
 z36:=Tryz.sizeOf169
 v36:=Tryz.zeroValue169
 t41:=Tryz.underlying86
 a41:=Tryz.isAgg86
 z41:=Tryz.sizeOf86
 v41:=Tryz.zeroValue86
 t44:=Tryz.underlying175
 a44:=Tryz.isAgg175
 z44:=Tryz.sizeOf175
 v44:=Tryz.zeroValue175
 t46:=Tryz.underlying177
 a46:=Tryz.isAgg177
 z46:=Tryz.sizeOf177
 v46:=Tryz.zeroValue177
 t53:=Tryz.underlying187
 a53:=Tryz.isAgg187
 z53:=Tryz.sizeOf187
 v53:=Tryz.zeroValue187
 t57:=Tryz.underlying191
 a57:=Tryz.isAgg191
 z57:=Tryz.sizeOf191
 v57:=Tryz.zeroValue191
 t63:=Tryz.underlying199
 a63:=Tryz.isAgg199
 z63:=Tryz.sizeOf199
 v63:=Tryz.zeroValue199
 t64:=Tryz.underlying144
 a64:=Tryz.isAgg144
 z64:=Tryz.sizeOf144
 v64:=Tryz.zeroValue144 }
open Go.Sort Go.RowKit in
theorem Tryz.slices_Sort_int (blk off cap:Nat) (zs:List Int) (w:World) (hH:Holds (Value.int .i64) w blk off zs.toArray) (hblk:blk<w.heap.size) (hsz:zs.length<4611686018427387904) :
  Calls Tryz.prog 69 #[.slice (some ⟨blk,off,none⟩) zs.length cap] w fun e w' =>
   e = .returned (.tuple #[])∧∃ n os,w'=grow (putRow (Value.int .i64) (Sort.ahead w n) blk off (zs.mergeSort fun x y=>decide (x≤y)).toArray) os:=AnyM.slices_Sort_int Tryz.laysSlM5_f69 blk off cap zs w hH hblk hsz
open Go.RowKit Go.Sort in
theorem Tryz.slices_Sort_int_none (p:Option Addr) (cap:Nat) (w:World) :
  Calls Tryz.prog 69 #[.slice p 0 cap] w fun e w'=>e = .returned (.tuple #[])∧w'=w:=AnyM.slices_Sort_int_none Tryz.laysSlM5_f69 p cap w
def Tryz.lays167_ren:Go.Shelf.Ren:=⟨fun|167=>64|240=>89|276=>100|n=>n,fun|0=>0|4=>4|5=>5|9=>9|20=>20|37=>131|70=>130|72=>133|75=>135|80=>140|164=>164|n=>n,fun|n=>n⟩
theorem Tryz.lays167:Go.Proofs.Lays.n167 Tryz.prog Tryz.lays167_ren:={
 mixed:=by kernel_rfl
 f167:=Tryz.func64.trans (congrArg some (by kernel_rfl))
 f240:=Tryz.func89.trans (congrArg some (by kernel_rfl))
 f276:=Tryz.func100.trans (congrArg some (by kernel_rfl))
 t0:=Tryz.underlying0
 a0:=Tryz.isAgg0
 z0:=Tryz.sizeOf0
 v0:=Tryz.zeroValue0
 t4:=Tryz.underlying4
 a4:=Tryz.isAgg4
 z4:=Tryz.sizeOf4
 v4:=Tryz.zeroValue4
 t5:=Tryz.underlying5
 a5:=Tryz.isAgg5
 z5:=Tryz.sizeOf5
 v5:=Tryz.zeroValue5
 t9:=Tryz.underlying9
 a9:=Tryz.isAgg9
 z9:=Tryz.sizeOf9
 v9:=Tryz.zeroValue9
 t20:=Tryz.underlying20
 a20:=Tryz.isAgg20
 z20:=Tryz.sizeOf20
 v20:=Tryz.zeroValue20
 t37:=Tryz.underlying131
 a37:=Tryz.isAgg131
 z37:=Tryz.sizeOf131
 v37:=Tryz.zeroValue131
 t70:=Tryz.underlying130
 a70:=Tryz.isAgg130
 z70:=Tryz.sizeOf130
 v70:=Tryz.zeroValue130
 t72:=Tryz.underlying133
 a72:=Tryz.isAgg133
 z72:=Tryz.sizeOf133
 v72:=Tryz.zeroValue133
 t75:=Tryz.underlying135
 a75:=Tryz.isAgg135
 z75:=Tryz.sizeOf135
 v75:=Tryz.zeroValue135
 t164:=Tryz.underlying164
 a164:=Tryz.isAgg164
 z164:=Tryz.sizeOf164
 v164:=Tryz.zeroValue164 }
theorem Tryz.Builder_Extra_167:Builder.Extra Tryz.prog Tryz.lays167_ren:={
 sizeBuilder:=by kernel_rfl
 liesBuilder:=by kernel_rfl
 t5:=Tryz.underlying5
 a5:=Tryz.isAgg5
 z5:=Tryz.sizeOf5
 v5:=Tryz.zeroValue5
 infoByte:=by kernel_rfl
 cellsByte:=by kernel_rfl
 sizeByte:=by kernel_rfl
 neB5:=by decide }
def Tryz.lays166_ren:Go.Shelf.Ren:=⟨fun|166=>62|240=>89|276=>100|n=>n,fun|0=>0|3=>3|4=>4|5=>5|9=>9|20=>20|37=>131|70=>130|72=>133|75=>135|80=>140|164=>164|n=>n,fun|n=>n⟩
theorem Tryz.lays166:Go.Proofs.Lays.n166 Tryz.prog Tryz.lays166_ren:={
 mixed:=by kernel_rfl
 f166:=Tryz.func62.trans (congrArg some (by kernel_rfl))
 f240:=Tryz.func89.trans (congrArg some (by kernel_rfl))
 f276:=Tryz.func100.trans (congrArg some (by kernel_rfl))
 t0:=Tryz.underlying0
 a0:=Tryz.isAgg0
 z0:=Tryz.sizeOf0
 v0:=Tryz.zeroValue0
 t3:=Tryz.underlying3
 a3:=Tryz.isAgg3
 z3:=Tryz.sizeOf3
 v3:=Tryz.zeroValue3
 t4:=Tryz.underlying4
 a4:=Tryz.isAgg4
 z4:=Tryz.sizeOf4
 v4:=Tryz.zeroValue4
 t9:=Tryz.underlying9
 a9:=Tryz.isAgg9
 z9:=Tryz.sizeOf9
 v9:=Tryz.zeroValue9
 t20:=Tryz.underlying20
 a20:=Tryz.isAgg20
 z20:=Tryz.sizeOf20
 v20:=Tryz.zeroValue20
 t37:=Tryz.underlying131
 a37:=Tryz.isAgg131
 z37:=Tryz.sizeOf131
 v37:=Tryz.zeroValue131
 t70:=Tryz.underlying130
 a70:=Tryz.isAgg130
 z70:=Tryz.sizeOf130
 v70:=Tryz.zeroValue130
 t72:=Tryz.underlying133
 a72:=Tryz.isAgg133
 z72:=Tryz.sizeOf133
 v72:=Tryz.zeroValue133
 t75:=Tryz.underlying135
 a75:=Tryz.isAgg135
 z75:=Tryz.sizeOf135
 v75:=Tryz.zeroValue135
 t164:=Tryz.underlying164
 a164:=Tryz.isAgg164
 z164:=Tryz.sizeOf164
 v164:=Tryz.zeroValue164 }
theorem Tryz.Builder_Extra_166:Builder.Extra Tryz.prog Tryz.lays166_ren:={
 sizeBuilder:=by kernel_rfl
 liesBuilder:=by kernel_rfl
 t5:=Tryz.underlying5
 a5:=Tryz.isAgg5
 z5:=Tryz.sizeOf5
 v5:=Tryz.zeroValue5
 infoByte:=by kernel_rfl
 cellsByte:=by kernel_rfl
 sizeByte:=by kernel_rfl
 neB5:=by decide }
open Go.RowKit in
theorem Tryz.Builder_WriteByte_k (B b:Nat) (bs:List Value) (c:Int) (w:World) (h:Lib.IsBuilderF 133 5 B b bs w) (hlen:bs.length+1≤140737488355328) (hBw:B≤w.heap.size) :
  Calls Tryz.prog 64 #[.pointer (some ⟨b,0,none⟩),.int .u8 c] w fun e w'=>e = .returned .nilIface∧(Lib.BuilderAtF 133 5 B b (.pointer (some ⟨b,0,none⟩)) (bs++[.int .u8 c]) w'∧Below B w w'∧Lib.OthersKept 5 (some b) w w'):=Any.Builder_WriteByte_k Tryz.lays167 Tryz.Builder_Extra_167 B b bs c w h hlen hBw
open Go.RowKit in
theorem Tryz.Builder_WriteString_k (B b:Nat) (bs:List Value) (s:ByteArray) (w:World) (h:Lib.IsBuilderF 133 5 B b bs w) (hlen:bs.length+s.size≤140737488355328) (hBw:B≤w.heap.size) :
  Calls Tryz.prog 62 #[.pointer (some ⟨b,0,none⟩),.string s] w fun e w'=>e = .returned (.tuple #[.int .i64 s.size,.nilIface])∧(Lib.BuilderAtF 133 5 B b (.pointer (some ⟨b,0,none⟩)) (bs++Lib.strCells s) w'∧Below B w w'∧Lib.OthersKept 5 (some b) w w'):=Any.Builder_WriteString_k Tryz.lays166 Tryz.Builder_Extra_166 B b bs s w h hlen hBw
end Go.Proofs
end
section
namespace Go.Abs
open Go Go.RowKit
theorem Q5s {P:Program} {f:FuncId} {args:List V} {x:D} (hx:x.scalar=true) (hb:Qid P f=true)
  (h:∀ (w:World) (g:G) (us:List Value),(∀ b o,g.imm b o→b<w.heap.size)→RFs g w args us→Calls P f us.toArray w fun e w'=>e = .returned x.val∧Below w.heap.size w w') (M:Mem) (nb:Nat) (hfl0:V.dems args=args:=by rfl):ACalls P f args M nb (.d x) M nb:=by
 refine ACalls.mk' hb (Nat.le_refl _) hfl0 fun w g us hm hMon hus hfl hons=>?_;refine Calls.mono (h w g us (fun b o hi=>(hm.imm b o hi).1) hus) ?_;rintro e w' ⟨rfl,hbw⟩;have hI:Imm g.imm g.imm w w':=⟨fun _ _ h=>h,fun b o hi=>Qfe (hbw.block b (hm.imm b o hi).1)⟩;have hk:Kept g w g w' (There M) (fun _=>True):=⟨hI,fun _ _=>rfl,fun b _ hlt=>⟨rfl,hbw.block b hlt,fun _=>Iff.rfl⟩⟩;refine ⟨_,g,rfl,hm.kept hk hMon (fun _ _ _=>trivial) trivial (fun _ _=>trivial) (fun b o hi=>?_),?_,trivial,hMon,?_⟩
 ·obtain ⟨h1,h2⟩:=hm.imm b o hi;exact ⟨Nat.lt_of_lt_of_le h1 hbw.size,h2⟩
 ·simp only [RV];exact (Qbea hx).2 rfl
 ·exact ⟨hbw.os,hbw.tape,hbw.output,hbw.size,hI,fun _ _=>rfl,fun b hb _=>⟨rfl,hbw.block b hb,fun _=>Iff.rfl⟩⟩
theorem Qbjb {g:G} {w:World} {l:List Int} {k:IntKind} {u:Value} (h:RF g w (.d (.lst 1 (l.map (fun n=>[.int k n])))) u) :
  ∃ a cap,u = .slice a l.length cap∧l.length≤cap∧(l=[]∨∃ b o,a=some ⟨b,o,none⟩∧∀ (i:Nat) n,l[i]? = some n→g.imm b (o+i)∧w.cell? ⟨b,o+i,none⟩=some (.int k n)):=by
 have h:=RF_d.1 h;simp only [RD,List.length_map] at h;obtain ⟨a,cap,rfl,hc,hl⟩:=h;refine ⟨a,cap,rfl,hc,?_⟩;rcases hl with hl|⟨b,o,rfl,hl⟩
 ·exact .inl (by simpa using hl)
 ·refine .inr ⟨b,o,rfl,fun i n hi=>?_⟩;have:=(Qw7 hl i [.int k n] (by simp [hi])).2;simp only [RDc,Nat.mul_one,RD] at this;obtain ⟨h1,⟨u,h2,rfl⟩,_⟩:=this;exact ⟨h1,h2⟩
end Go.Abs
end
section
namespace Go.Abs
open Go Go.Sort Go.RowKit
theorem Q2r {P:Program} {f:FuncId} {ex:Array Value} {exV:List V} {sz nb:Nat} {M:Mem} (hb:Qid P f=true) (hex:∀ g w us,RFs g w exV us→us=ex.toList)
  (h:∀ (p:Option Addr) (cap:Nat) (w:World),Calls P f (#[.slice p 0 cap]++ex) w fun e' w'=>e' = .returned (.tuple #[])∧w'=w) (hexf:V.dems exV=exV:=by rfl) :
  ACalls P f (.d (.lst sz [])::exV) M nb (.tup []) M nb:=by
 refine ACalls.mk' hb (Nat.le_refl _) (by simp only [V.dems,V.dem,hexf]) fun w g us hm hMon hus hfl hons=>?_;obtain ⟨u0,us',rfl,hu0,hus'⟩:=hus;have h1:=hex _ _ _ hus';subst h1;have h2:∃ p cap,u0 = .slice p 0 cap:=by
  have:=RF_d.1 hu0;obtain ⟨a,cap,rfl,_,_⟩:=this;exact ⟨a,cap,rfl⟩
 obtain ⟨p,cap,rfl⟩:=h2;have e1:(Value.slice p 0 cap::ex.toList).toArray = #[.slice p 0 cap]++ex:=by apply Array.ext';simp
 rw [e1];refine (h p cap w).mono ?_;rintro e' w' ⟨rfl,rfl⟩;exact ⟨_,g,rfl,hm,⟨[],rfl,rfl⟩,trivial,hMon,Fr.refl _ _ _⟩
theorem Q9a (l:List Int):(l.mergeSort fun x y=>decide (x≤y))=Qla Qhd l:=by
 have hO:Go.Sort.SWO Qhd:=⟨fun x=>by simp [Qhd],fun x y z h1 h2=>by simp [Qhd] at *;omega,fun x y z h1 h2=>by simp [Qhd] at *;omega⟩;refine List.Perm.eq_of_pairwise (le:=fun a b=>Qhd b a=false) (fun a b _ _ h1 h2=>by simp [Qhd] at *;omega) ?_ (Qly hO l) ((List.mergeSort_perm _ _).trans (Qj1 _ l).symm);have:=List.pairwise_mergeSort (le:=fun x y:Int=>decide (x≤y)) (fun a b c h1 h2=>by simp at *;omega) (fun a b=>by simp;omega) l;exact this.imp fun h=>by simp [Qhd] at *;omega
end Go.Abs
end
section
namespace Go.Abs
open Go Go.Sort Go.RowKit
theorem Q2s (xs:List Int):rowV (eI .i64) xs=xs.map (Value.int .i64):=by
 unfold rowV
 induction xs with
 | nil=>rfl
 | cons x xs ih=>simp only [List.map_cons,List.flatten_cons,List.map_append,ih];rfl
theorem Qbel {P:Program} {c:Nat} (hb:Qid P c=true)
  (hs:∀ (blk off cap:Nat) (zs:List Int) (w:World),Holds (Value.int .i64) w blk off zs.toArray→blk<w.heap.size→zs.length<4611686018427387904 →
   Calls P c #[.slice (some ⟨blk,off,none⟩) zs.length cap] w fun e w'=>e = .returned (.tuple #[])∧∃ n os,w'=grow (putRow (Value.int .i64) (Sort.ahead w n) blk off (zs.mergeSort fun x y=>decide (x≤y)).toArray) os)
  (hnone:∀ (p:Option Addr) (cap:Nat) (w:World),Calls P c (#[.slice p 0 cap] ++ #[]) w fun e' w'=>e' = .returned (.tuple #[])∧w'=w) :
  RowK P c (eI .i64) 1 [] (fun l=>if l.length≤lim then some (Qla Qhd l) else none):=by
 have hrow:Qbec P c (eI .i64) #[] (fun xs=>Qla Qhd xs):=by
  intro blk cap xs w hcell hblk hsz;refine Calls.mono (hs blk 0 cap xs w ?_ hblk hsz) ?_
  ·intro j hj;have hj' : j<xs.length:=by simpa using hj
   have:=hcell j (by rw [Q2s];simpa using hj');rw [Q2s] at this;rw [Nat.zero_add];refine ⟨?_,this.2⟩;rw [this.1,getElem!_pos xs.toArray j hj];simp [hj']
  ·rintro e w' ⟨rfl,n,os,rfl⟩;refine ⟨rfl,n,os,?_⟩;rw [Q9a,Q2s];congr 1;unfold putRow;congr 1;funext c;unfold putCells;congr 1;funext k x;simp only [List.size_toArray,List.length_map];split
   ·rename_i h;simp only [id];rw [getElem!_pos _ _ (by simp;omega),getElem!_pos _ _ (by simp;omega)];simp
   ·rfl
 intro xs ys h;dsimp only at h;split at h<;>cases h;rename_i hl;refine ⟨Qlx _ _,fun h0=>?_,fun hl2 cap k0 M nb hM=>?_⟩
 ·subst h0;exact ⟨rfl,fun M nb=>Q2r (ex:=#[]) (exV:=[]) hb (fun _ _ _ h=>h) hnone⟩
 ·exact Q4b (e:=eI .i64) (fun _=>rfl) (fun _=>rfl) (fun xs=>Qlx _ _) (ex:=#[]) (exV:=[]) (fun _ _ _ h=>h) hb hrow xs cap k0 M nb hM (by unfold lim at hl;omega)
end Go.Abs
end
section
namespace Go.Proofs
open Go.RowKit Go.Abs
theorem Tryz.rowK69:Go.Abs.RowK Tryz.prog 69 (eI .i64) 1 [] Qbek :=
 Qbel (by kernel_rfl) Tryz.slices_Sort_int Tryz.slices_Sort_int_none
theorem Qbh3 {i:Nat} (h:i<100):(Lib.decDigits i).length≤2:=by
 by_cases h1:i<10
 ·rw [Lib.decDigits_one h1];simp
 ·rw [Lib.decDigits_two h1 h];simp
theorem Qbem:∀ l:List Int,(∀ x∈l,0≤x∧x<100)→(keyL l).length≤3*l.length
 | [],_=>by simp [keyL]
 | x::l,h=>by
  have hx:=h x (by simp);have h1:=Qbh3 (i:=x.toNat) (by omega);have ih:=Qbem l fun y hy=>h y (by simp [hy]);simp only [keyL,List.flatMap_cons,List.length_append,List.length_cons,List.length_nil] at *
  omega
set_option maxHeartbeats 4000000 in
set_option maxRecDepth 1000000 in
theorem Tryz.key_walk (l:List Int) (hl:l.length≤lim) (hx:∀ x∈l,0≤x∧x<100) (a:Option Addr) (cap:Nat) (w:World)
  (hc:∀ (i:Nat) n,l[i]? = some n→∃ b o,a=some ⟨b,o,none⟩∧b<w.heap.size∧w.cell? ⟨b,o+i,none⟩=some (.int .i64 n)) :
  Calls Tryz.prog 33 #[.slice a l.length cap] w fun e w'=>e = .returned (.string (keyB l))∧Below w.heap.size w w':=by
 have hlim:l.length≤1099511627776:=hl
 go_enter Tryz.func33,Tryz.ntmps33
 go_wp2
 go_loopw [8] (fun vi wr=>∃ (k:Nat),vi = .int .i64 k∧k≤l.length∧Lib.IsBuilderF 133 5 w.heap.size w.heap.size (Lib.byteCells (keyL (l.take k))) wr∧Below w.heap.size w wr) (fun vi _=>l.length-(intOf vi).toNat)
 case atStart =>
  refine ⟨0,rfl,by omega,?_,((Below.refl _ w).alloc (Nat.le_refl _) _)⟩;exact Lib.IsBuilderF.of (Lib.fresh_isBuilder 133 5 w)
 case round =>
  obtain ⟨k,rfl,hk,hI,hbw⟩:=hrel;by_cases hlt:k<l.length
  ·obtain ⟨b,o,rfl,hb,hcell⟩:=hc k l[k] (List.getElem?_eq_getElem hlt);have hcr:wr.cell? ⟨b,o+k,none⟩=some (.int .i64 l[k]):=by
    rw [← hcell];simp only [World.cell?];rw [hbw.block b hb]
   have hxk:=hx l[k] (List.getElem_mem hlt);obtain ⟨n,hn⟩ : ∃ n:Nat,l[k]=(n:Int):=⟨l[k].toNat,by omega⟩;have hn100:n<100:=by omega
   rw [hn] at hcr;have hdl:=Qbh3 hn100;have hsz:w.heap.size≤wr.heap.size:=hbw.size;have hkl:=Qbem (l.take k) fun x hxm=>hx x (List.mem_of_mem_take hxm);rw [List.length_take] at hkl
   go_wp2_with (go_at_call 63;refine (Tryz.strconv_Itoa_small n hn100 _).mono ?_)
   rintro e W0 ⟨rfl,rfl⟩
   go_wp2_with (go_at_call 62;refine (Tryz.Builder_WriteString_k w.heap.size w.heap.size _ _ _ hI (by rw [Lib.byteCells_length];simp only [ByteArray.size,List.size_toArray];omega) hsz).mono ?_)
   rintro e W1 ⟨rfl,h1,b1,k1⟩;have hsz1:w.heap.size≤W1.heap.size:=Nat.le_trans hsz b1.size;have hlen2:(Lib.byteCells (keyL (l.take k))++Lib.strCells ⟨(Lib.decDigits n).toArray⟩).length+1≤140737488355328:=by
    rw [show Lib.strCells ⟨(Lib.decDigits n).toArray⟩=Lib.byteCells (Lib.decDigits n) from rfl,List.length_append,Lib.byteCells_length,Lib.byteCells_length];omega
   go_wp2_with (go_at_call 64;refine (Tryz.Builder_WriteByte_k w.heap.size w.heap.size _ 32 _ (Or.inr h1) hlen2 hsz1).mono ?_)
   rintro e W2 ⟨rfl,h2,b2,k2⟩
   go_wp2
   go_roundw
   case rel =>
    refine ⟨k+1,by simp,by omega,?_,(hbw.trans b1).trans b2⟩;have e1:keyL (l.take (k+1))=keyL (l.take k)++Lib.decDigits n++[32]:=by
     rw [List.take_succ_eq_append_getElem hlt];simp only [keyL,List.flatMap_append,List.flatMap_cons,List.flatMap_nil,List.append_nil,hn,Int.toNat_natCast,List.append_assoc]
    rw [e1,Lib.byteCells_append,Lib.byteCells_append];exact Or.inr h2
   case measure =>
    simp [intOf];omega
  ·have hk2:k=l.length:=by omega
   subst hk2
   go_wp2_with (go_at_call 65;refine (Tryz.Builder_String_any_k w.heap.size w.heap.size _ _ hI hbw.size).mono ?_)
   rintro e W1 ⟨rfl,_,b1,_⟩
   go_wp2
   go_ret
   refine ⟨?_,hbw.trans b1⟩
   first|rfl|(rw [List.take_length];rfl)|(simp [keyB,List.take_length])
theorem Tryz.keyK:Go.Abs.K_product_key Tryz.prog 33 keyI:=by
 intro l r h;unfold keyI at h;split at h<;>cases h;rename_i hc;intro M nb;refine Q5s rfl (by kernel_rfl) (fun w g us himm hus=>?_) M nb;obtain ⟨u,us',rfl,hu,hus'⟩:=hus;simp only [RFs] at hus';subst hus';obtain ⟨a,cap,rfl,hcap,hl⟩:=Qbjb hu;refine Tryz.key_walk l hc.1 hc.2 a cap w fun i n hi=>?_;rcases hl with rfl|⟨b,o,rfl,hl⟩
 ·simp at hi
 ·exact ⟨b,o,rfl,himm _ _ (hl i n hi).1,(hl i n hi).2⟩
end Go.Proofs
end
section
namespace Go.Proofs
open Go.Shelf
def Tryz.sortR_ren:Go.Shelf.Ren:=⟨fun|6=>73|15=>92|14=>97|28=>110|29=>111|20=>113|21=>114|22=>115|23=>116|24=>117|25=>118|26=>119|27=>120|46=>130|47=>126|48=>127|49=>131|50=>132|57=>138|n=>n,fun|22=>60|24=>79|25=>154|3=>3|39=>158|0=>0|53=>175|55=>177|4=>4|46=>169|45=>168|50=>86|5=>5|9=>9|66=>187|70=>191|76=>199|77=>144|n=>n,fun|n=>n⟩
theorem Tryz.sortR:Go.Proofs.SlLaysF0.n6 Tryz.prog Tryz.sortR_ren:={
 mixed:=by kernel_rfl
 f6:=⟨Tryz.f73.name,by decide,Tryz.func73.trans (congrArg some (by kernel_rfl))⟩
 f14:=⟨Tryz.f97.name,by decide,Tryz.func97.trans (congrArg some (by kernel_rfl))⟩
 f15:=Tryz.func92.trans (congrArg some (by kernel_rfl))
 f20:=⟨Tryz.f113.name,by decide,Tryz.func113.trans (congrArg some (by kernel_rfl))⟩
 f21:=⟨Tryz.f114.name,by decide,Tryz.func114.trans (congrArg some (by kernel_rfl))⟩
 f22:=⟨Tryz.f115.name,by decide,Tryz.func115.trans (congrArg some (by kernel_rfl))⟩
 f23:=⟨Tryz.f116.name,by decide,Tryz.func116.trans (congrArg some (by kernel_rfl))⟩
 f24:=⟨Tryz.f117.name,by decide,Tryz.func117.trans (congrArg some (by kernel_rfl))⟩
 f25:=⟨Tryz.f118.name,by decide,Tryz.func118.trans (congrArg some (by kernel_rfl))⟩
 f26:=⟨Tryz.f119.name,by decide,Tryz.func119.trans (congrArg some (by kernel_rfl))⟩
 f27:=⟨Tryz.f120.name,by decide,Tryz.func120.trans (congrArg some (by kernel_rfl))⟩
 f28:=Tryz.func110.trans (congrArg some (by kernel_rfl))
 f29:=Tryz.func111.trans (congrArg some (by kernel_rfl))
 f46:=⟨Tryz.f130.name,by decide,Tryz.func130.trans (congrArg some (by kernel_rfl))⟩
 f47:=Tryz.func126.trans (congrArg some (by kernel_rfl))
 f48:=Tryz.func127.trans (congrArg some (by kernel_rfl))
 f49:=⟨Tryz.f131.name,by decide,Tryz.func131.trans (congrArg some (by kernel_rfl))⟩
 f50:=⟨Tryz.f132.name,by decide,Tryz.func132.trans (congrArg some (by kernel_rfl))⟩
 f57:=⟨Tryz.f138.name,by decide,Tryz.func138.trans (congrArg some (by kernel_rfl))⟩
 t0:=Tryz.underlying0
 a0:=Tryz.isAgg0
 z0:=Tryz.sizeOf0
 v0:=Tryz.zeroValue0
 t3:=Tryz.underlying3
 a3:=Tryz.isAgg3
 z3:=Tryz.sizeOf3
 v3:=Tryz.zeroValue3
 t4:=Tryz.underlying4
 a4:=Tryz.isAgg4
 z4:=Tryz.sizeOf4
 v4:=Tryz.zeroValue4
 t5:=Tryz.underlying5
 a5:=Tryz.isAgg5
 z5:=Tryz.sizeOf5
 v5:=Tryz.zeroValue5
 t9:=Tryz.underlying9
 a9:=Tryz.isAgg9
 z9:=Tryz.sizeOf9
 v9:=Tryz.zeroValue9
 t22:=Tryz.underlying60
 a22:=Tryz.isAgg60
 z22:=Tryz.sizeOf60
 v22:=Tryz.zeroValue60
 t25:=Tryz.underlying154
 a25:=Tryz.isAgg154
 z25:=Tryz.sizeOf154
 v25:=Tryz.zeroValue154
 t39:=Tryz.underlying158
 a39:=Tryz.isAgg158
 z39:=Tryz.sizeOf158
 v39:=Tryz.zeroValue158
 t45:=Tryz.underlying168
 a45:=Tryz.isAgg168
 z45:=Tryz.sizeOf168
 v45:=Tryz.zeroValue168
 t46:=Tryz.underlying169
 a46:=Tryz.isAgg169
 z46:=Tryz.sizeOf169
 v46:=Tryz.zeroValue169
 t50:=Tryz.underlying86
 a50:=Tryz.isAgg86
 z50:=Tryz.sizeOf86
 v50:=Tryz.zeroValue86
 t53:=Tryz.underlying175
 a53:=Tryz.isAgg175
 z53:=Tryz.sizeOf175
 v53:=Tryz.zeroValue175
 t55:=Tryz.underlying177
 a55:=Tryz.isAgg177
 z55:=Tryz.sizeOf177
 v55:=Tryz.zeroValue177
 t66:=Tryz.underlying187
 a66:=Tryz.isAgg187
 z66:=Tryz.sizeOf187
 v66:=Tryz.zeroValue187
 t70:=Tryz.underlying191
 a70:=Tryz.isAgg191
 z70:=Tryz.sizeOf191
 v70:=Tryz.zeroValue191
 t76:=Tryz.underlying199
 a76:=Tryz.isAgg199
 z76:=Tryz.sizeOf199
 v76:=Tryz.zeroValue199
 t77:=Tryz.underlying144
 a77:=Tryz.isAgg144
 z77:=Tryz.sizeOf144
 v77:=Tryz.zeroValue144 }
end Go.Proofs
end
section
namespace Go.Abs
open Go Go.Sort Go.Shelf Go.RowKit Go.Lib Go.Proofs
theorem Q7p {α:Type} [Inhabited α] {enc:α→List Value} {k:Nat} (hk:∀ x,(enc x).length=k) (h0:0<k):∀ (l:List α) (t:Nat),t<l.length*k→(l.map enc).flatten[t]? = some (enc l[t / k]!)[t % k]!
 | [],t,h=>by simp at h
 | x::xs,t,h=>by
  rw [List.map_cons,List.flatten_cons];by_cases hl:t<k
  ·rw [List.getElem?_append_left (by rw [hk];exact hl),Nat.div_eq_of_lt hl,Nat.mod_eq_of_lt hl];have:t<(enc x).length:=by rw [hk];exact hl
   simp [this]
  ·have hge:k≤t:=by omega
   have h2:t-k<xs.length*k:=by simp only [List.length_cons,Nat.add_mul,Nat.one_mul] at h;omega
   rw [List.getElem?_append_right (by rw [hk];exact hge),hk,Q7p hk h0 xs (t-k) h2];have e1:t / k=(t-k) / k+1:=by rw [← Nat.add_div_right _ h0,Nat.sub_add_cancel hge]
   have e2:t % k=(t-k) % k:=by rw [Nat.mod_eq_sub_mod hge]
   rw [e1,e2];simp
theorem Q7q {α:Type} [Inhabited α] {enc:α→List Value} {k:Nat} (hk:∀ x,(enc x).length=k) (h0:0<k) (l:List α):flatK enc k l.toArray=(l.map enc).flatten.toArray:=by
 have hs:(l.map enc).flatten.length=l.length*k:=by
  induction l with
  | nil=>simp
  | cons x xs ih=>rw [List.map_cons,List.flatten_cons,List.length_append,ih,hk];simp [Nat.add_mul];omega
 refine ext_get! (by simp [hs]) fun t ht=>?_;have ht' : t<l.length*k:=by simpa using ht
 rw [get_flatK _ _ _ _ (by simpa using ht')];have:=Q7p hk h0 l t ht';obtain ⟨h1,h2⟩:=List.getElem?_eq_some_iff.1 this;rw [getElem!_pos _ t (by simpa using h1)];simp only [List.getElem_toArray,h2];simp
theorem Q7r {α:Type} (e:α→List D) (xs:List α):rowV e xs=(xs.map fun x=>(e x).map D.val).flatten:=by
 unfold rowV;rw [List.map_flatten,List.map_map];rfl
theorem Q3d {P:Program} {ρ:Ren} {α:Type} [Inhabited α] (L:SlLaysF0.n6 P ρ) {k:Nat} (aE:∀ w,(isAgg (ρ.t 24)).run P w = .ok true w) (zE:∀ w,(Go.sizeOf (ρ.t 24)).run P w = .ok k w) (e:α→List D) (hk:∀ x,(e x).length=k) (h0:0<k) (hsc:∀ x,(e x).all D.scalar=true)
  (cf:α→α→Int) (hO:SWO (ltOf cf)) (g:Nat) (cb:Array Value) (eg:∀ args w,(callFunc g args).run P w = .ok (.enter g args) w)
  (hcmp:∀ (x y:α) (W:World),Calls P g (#[.agg ((e x).map D.val).toArray,.agg ((e y).map D.val).toArray]++cb) W fun r w'=>r = .returned (.int .i64 (cf x y))∧∃ q os',w'=grow (W.drewN q) os') :
  Qbec P (ρ.f 6) e #[.func (.func g) #[] cb] (fun xs=>(pdq (ltOf cf) xs.toArray 0 xs.length (Lib.bitLen xs.length) true true).toList):=by
 intro blk cap xs w hc hblk hsz;have henc:∀ x,((fun x=>(e x).map D.val) x).length=k:=fun x=>by simp [hk]
 have h1:∀ x:α,∀ v∈(e x).map D.val,v.oneCell'=true:=by
  intro x v hv;obtain ⟨d,hd,rfl⟩:=List.mem_map.1 hv;exact Qbeb (List.all_eq_true.1 (hsc x) d hd)
 have hH:HoldsK (fun x=>(e x).map D.val) k w blk 0 xs.toArray:=by
  unfold HoldsK;rw [Q7q henc h0,← Q7r];intro j hj;have hj' : j<(rowV e xs).length:=by simpa using hj
  obtain ⟨k1,k2⟩:=hc j hj';rw [Nat.zero_add];refine ⟨k1.trans ?_,k2⟩;rw [List.getElem?_eq_getElem hj',getElem!_pos _ j hj];rfl
 have hcl:CmpLays P g cb (fun x=>(e x).map D.val) k cf blk 0 xs.toArray.size w:=fun _ _ _ _ x y=>hcmp x y _;have:=AnyQ.slices_SortFunc_eq L k aE zE (fun x=>(e x).map D.val) henc h1 cf hO g cb blk 0 cap xs.toArray w eg hcl hH hblk (by simpa using hsz);refine this.mono ?_;rintro r w' ⟨rfl,n,os,rfl⟩;refine ⟨rfl,n,os,?_⟩;unfold sortWorldK putRowK;have hrow:flatK (fun x=>(e x).map D.val) k (pdq (ltOf cf) xs.toArray 0 xs.toArray.size (Lib.bitLen xs.toArray.size) true true)=(rowV e (pdq (ltOf cf) xs.toArray 0 xs.length (Lib.bitLen xs.length) true true).toList).toArray:=by
  rw [Q7r,← Q7q henc h0];simp
 rw [hrow]
section
variable {α:Type} [Inhabited α]
theorem Q5t {lt:α→α→Bool} (hO:SWO lt) (xs:List α) (k:Nat):(pdq lt xs.toArray 0 xs.length k true true).toList.Perm xs∧(pdq lt xs.toArray 0 xs.length k true true).toList.Pairwise fun a b=>lt b a=false:=by
 obtain ⟨⟨h1,_,h2⟩,h3⟩:=pdq_sorts lt hO xs.toArray 0 xs.length k true true (Nat.zero_le _) (by simp) (Or.inl rfl);generalize pdq lt xs.toArray 0 xs.length k true true=d at *
 have hs:d.size=xs.length:=by simpa using h1
 refine ⟨?_,?_⟩
 ·have e1:d.extract 0 xs.length=d:=by rw [← hs];exact Array.extract_size
  have e2:xs.toArray.extract 0 xs.length=xs.toArray:=by
   have:xs.length=xs.toArray.size:=by simp
   rw [this];exact Array.extract_size
  rw [e1,e2] at h2;simpa using h2
 ·rw [List.pairwise_iff_getElem];intro i j hi hj hij;have hi' : i<d.size:=by simpa using hi
  have hj' : j<d.size:=by simpa using hj
  have:=h3 i j (Nat.zero_le _) hij (by omega);rw [getElem!_pos d i hi',getElem!_pos d j hj'] at this;simpa using this
theorem Qben {lt:α→α→Bool} (hO:SWO lt) (xs:List α) (k:Nat) (hd:Q00 lt xs=true):(pdq lt xs.toArray 0 xs.length k true true).toList=Qla lt xs :=
 Q5r hO hd (Q5t hO xs k).1 (Q5t hO xs k).2
end
theorem Qbeo {β:Type} {P:Program} {c:Nat} {e:β→List D} {sz N:Nat} {ok:β→Bool} {lt:β→β→Bool} [Inhabited {x:β // ok x=true}] {lt' : {x:β // ok x=true}→{x:β // ok x=true}→Bool}
  (hN:N<4611686018427387904) (hk:∀ x,(e x).length=sz) (hsc:∀ x,(e x).all D.scalar=true) (hO:SWO lt') (hlt:∀ x y,lt' x y=lt x.1 y.1) (hb:Qid P c=true) {ex:Array Value} {exV:List V} (hex:∀ g w us,RFs g w exV us→us=ex.toList)
  (hrow:Qbec P c (fun x:{x:β // ok x=true}=>e x.1) ex (fun xs=>(pdq lt' xs.toArray 0 xs.length (Lib.bitLen xs.length) true true).toList))
  (hnone:∀ (p:Option Addr) (cap:Nat) (w:World),Calls P c (#[.slice p 0 cap]++ex) w fun e' w'=>e' = .returned (.tuple #[])∧w'=w) (hexf:V.dems exV=exV:=by rfl) :
  RowK P c e sz exV (fun l=>if l.length≤N then Qbgq ok lt l else none):=by
 intro xs ys h;dsimp only at h;split at h<;>try (cases h;done)
 rename_i hlN;unfold Qbgq at h;split at h<;>cases h;rename_i hok;simp only [Bool.and_eq_true,List.all_eq_true] at hok;obtain ⟨ho,hd⟩:=hok;obtain ⟨zs,rfl⟩ : ∃ zs:List {x:β // ok x=true},xs=zs.map Subtype.val:=⟨xs.pmap Subtype.mk ho,by rw [List.map_pmap];simp⟩;have hd' : Q00 lt' zs=true:=by
  rw [Q7o] at hd;rw [show lt'=fun a b=>lt a.1 b.1 from funext fun a=>funext fun b=>hlt a b];exact hd
 have e1:Qla lt (zs.map Subtype.val)=(Qla lt' zs).map Subtype.val:=by
  rw [Q4i,show lt'=fun a b=>lt a.1 b.1 from funext fun a=>funext fun b=>hlt a b]
 refine ⟨Qlx _ _,fun h0=>?_,fun hl cap k0 M nb hM=>?_⟩
 ·simp only [List.map_eq_nil_iff] at h0;subst h0;exact ⟨rfl,fun M nb=>Q2r hb hex hnone hexf⟩
 ·have hM' : M k0=some (.cells (Qda (zs.map fun x=>e x.1) ((cap-zs.length)*sz))):=by
   rw [hM,List.map_map,List.length_map];rfl
  have:=Q4b (fun x=>hk x.1) (fun x=>hsc x.1) (fun xs=>(Q5t hO xs _).1.length_eq) hex hb hrow zs cap k0 M nb hM' (by rw [List.length_map] at hlN;omega) hexf;rw [Qben hO zs _ hd'] at this;rw [e1,List.map_map,List.length_map];exact this
end Go.Abs
end
section
namespace Go.Proofs
open Go.Shelf Go.RowKit Go.Lib Go.Sort Go.Abs
abbrev RmOk:={x:Qd // okRm x=true}
instance:Inhabited RmOk:=⟨⟨⟨0,0,0,0⟩,rfl⟩⟩
def cfR (x y:RmOk):Int:=x.1.State-y.1.State
theorem Q1c (x y:RmOk):ltOf cfR x y=ltRm x.1 y.1:=by
 unfold ltOf cfR ltRm;apply decide_eq_decide.2;omega
theorem swoR:SWO (ltOf cfR):={
 irrefl x:=by rw [Q1c];simp [ltRm]
 trans x y z h1 h2:=by rw [Q1c] at *;simp only [ltRm,decide_eq_true_eq] at *;omega
 ntrans x y z h1 h2:=by rw [Q1c] at *;simp only [ltRm,decide_eq_false_iff_not] at *;omega }
set_option maxHeartbeats 1000000 in
theorem Tryz.rems74 (x y:RmOk) (W:World):Calls Tryz.prog 74 #[.agg ((Qbh x.1).map D.val).toArray,.agg ((Qbh y.1).map D.val).toArray] W fun e w'=>e = .returned (.int .i64 (cfR x y))∧∃ q os',w'=grow (W.drewN q) os':=by
 obtain ⟨⟨a,b,c,d⟩,hx0⟩:=x;obtain ⟨⟨a',b',c',d'⟩,hy0⟩:=y;have hx:=hx0;have hy:=hy0;simp only [okRm,decide_eq_true_eq] at hx hy;have w1:IntKind.i64.wrap (a-a')=a-a':=by simp [IntKind.wrap,IntKind.bits,IntKind.signed];omega
 have hr:cfR ⟨⟨a,b,c,d⟩,hx0⟩ ⟨⟨a',b',c',d'⟩,hy0⟩=a-a':=rfl;generalize cfR ⟨⟨a,b,c,d⟩,hx0⟩ ⟨⟨a',b',c',d'⟩,hy0⟩=r at hr ⊢;simp only [Qbh,List.map_cons,List.map_nil,D.val]
 go_enter Tryz.func74,Tryz.ntmps74
 go_wp2
 go_ret
 exact ⟨by rw [hr];rfl,0,_,by rw [alloc_eq_grow,alloc_eq_grow,grow_grow];rfl⟩
set_option maxHeartbeats 1000000 in
theorem Tryz.row73:Qbec Tryz.prog 73 (fun x:RmOk=>Qbh x.1) #[.func (.func 74) #[] #[]] (fun xs=>(pdq (ltOf cfR) xs.toArray 0 xs.length (Lib.bitLen xs.length) true true).toList) :=
 Q3d Tryz.sortR Tryz.isAgg79 Tryz.sizeOf79 (fun x:RmOk=>Qbh x.1) (fun _=>rfl) (by decide) (fun _=>rfl) cfR swoR 74 #[] (enters_of Tryz.func74 (by kernel_rfl) rfl) (fun x y W=>Tryz.rems74 x y W)
theorem Tryz.none73 (p:Option Addr) (cap:Nat) (w:World):Calls Tryz.prog 73 (#[.slice p 0 cap] ++ #[.func (.func 74) #[] #[]]) w fun e' w'=>e' = .returned (.tuple #[])∧w'=w :=
 AnyF.slices_SortFunc_none Tryz.sortR p cap (.func (.func 74) #[] #[]) w
theorem Qbkv {g:G} {w:World} {f:Nat} {us:List Value} (h:RFs g w [.clo f []] us):us = #[Value.func (.func f) #[] #[]].toList:=by
 obtain ⟨u,us',rfl,h1,h2⟩:=h;have h1:=h1 .ext;simp only [RV,RVs] at h1;obtain ⟨vs,rfl,rfl⟩:=h1;have:us'=[]:=h2;subst this;rfl
theorem Tryz.rowK73:Go.Abs.RowK Tryz.prog 73 Qbh 4 [.clo 74 []] Qbgr :=
 Qbeo (e:=Qbh) (sz:=4) (N:=65536) (by decide) (fun _=>rfl) (fun _=>rfl) swoR Q1c (by kernel_rfl) (ex:=#[.func (.func 74) #[] #[]]) (exV:=[.clo 74 []]) (fun _ _ us h=>Qbkv h) Tryz.row73 Tryz.none73
end Go.Proofs
end
section
namespace Go.Proofs
open Go Go.Abs
set_option maxRecDepth 10000
set_option maxHeartbeats 4000000
theorem Quj:Qjq Tryz.prog 23 Qnx:=Qsc Qvh
theorem Qvm:Qkh Tryz.prog 80 Qhp:=Qs9 Qwn Qbb
theorem Qxq:Qll Tryz.prog 66 Qjg:=Qu7 Qyo Qbb
theorem Qfd:Qds Tryz.prog 38 Qb1:=Qsd Qxq Qvi
theorem Qtf:Qi2 Tryz.prog 81 Qgy:=Qq8 Qfd Qui Qbb
theorem Qhf:Qfh Tryz.prog 55 Qd1:=Qwd Qvm Qtf Qzv
theorem Qkl:Qgo Tryz.prog 9 Qfi:=Qt4 Qxl Qbb
theorem Qik:Qfa Tryz.prog 27 Qdk:=Qq9 Qua
theorem Q01:Qpv Tryz.prog 98 Qp7:=Qyh Q2o
theorem Q2t:Qq6 Tryz.prog 86 Qks:=Qzq Q01 Q3c
theorem Qxr:Qlm Tryz.prog 87 Qjh:=Qu8 Qyq
theorem Qqj:Qhg Tryz.prog 59 Qfl:=Qox Q2t Qxr Qrm Qbb
theorem Qcy:Qcd Tryz.prog 29 Qbw:=Qt5 Qqj Qxo
theorem Qtg:Qi3 Tryz.prog 43 Qgz:=Qra Qkl Qik Qcy Qhf Quf Qbb
theorem Qth:Qi4 Tryz.prog 44 Qg0:=Qrb Qcy Qug Qbb
theorem Qm1:Qfs Tryz.prog 93 Qfv:=Qlu Qnv
theorem Qlb:Qge Tryz.prog 67 Qd2:=Qqg Qte Qbb
theorem Qgv:Qd3 Tryz.prog 47 Qc8:=Qn7 Qlb Qqi
theorem Qm2:Qft Tryz.prog 112 Qfw:=Qlv Qcy Qnw
theorem Qoc:Qgf Tryz.prog 94 Qer:=Qmy Qgv Qm2 Qo3
theorem Qod:Qgg Tryz.prog 70 Qes:=Qmz Qcy Qgv Qm1 Qoc Qo2 Qbb
theorem Qhm:Qd0 Tryz.prog 46 Qc0:=Qld Qcy Qm0 Qbb
theorem Qo4:Qgp Tryz.prog 45 Qdw:=Qnq Qhm Qod Qp5 Qbb
theorem Qny:Qf7 Tryz.prog 48 Qf9:=Ql4 Qn9
theorem Qil:Qf2 Tryz.prog 56 Qcb:=Qu9 Qym
theorem Ql1:Qe9 Tryz.prog 49 Qdp:=Qk2 Qcy Qil Ql7 Qbb
theorem Qjk:Qew Tryz.prog 18 Qdx:=Qnr Qtg Qth Qo4 Qhm Qgv Qny Ql1 Qp3 Qbb
theorem Qo5:Qgq Tryz.prog 42 Qgu:=Qns Qp4
theorem Qti:Qi5 Tryz.prog 41 Qg1:=Qrc Qik Tryz.rowK69 Que Qbb
theorem Qke:Qfk Tryz.prog 17 Qeb:=Qoy Qti Qo5 Qrj
theorem Qxs:Qlo Tryz.prog 36 Qq1:=Qva Qyk Qbb
theorem Q5u:Qu4 Tryz.prog 12 Q0p:=Q2l Qxs Q7n
theorem Quk:Qjv Tryz.prog 5 Qj2:=Qse Q5u Qke Qjk Quj Qvf
theorem Qp8:Qg7 Tryz.prog 25 Qb3:=Qn8 Qqh Qbb
theorem Qmj:Qhc Tryz.prog 57 Qfx:=Qsf Qvj
theorem Qnz:Qho Tryz.prog 84 Qcx:=Qta Qwo Qbb
theorem Qoo:Qih Tryz.prog 83 Qdy:=Qt6 Qxp Qbb
theorem Qul:Qjw Tryz.prog 82 Qhe:=Qsg Qoo Qnz Qvk Qbb
theorem Qum:Qjx Tryz.prog 85 Qfy:=Qsh Qvl Qbb
theorem Qqk:Qhh Tryz.prog 58 Qfm:=Qoz Qmj Qul Qoo Qnz Qum Qrl Qbb
theorem Qvn:Qki Tryz.prog 24 Qhq:=Qtb Qmj Qqk Qwm Qbb
theorem Qvo:Qkj Tryz.prog 16 Qgc:=Qtc Qvn Qp8 Qwk Qbb
theorem Qtz:Qlp Tryz.prog 26 Qj3:=Qyi Qhf Q2m Qbb
theorem Qm3:Qis Tryz.prog 53 Qga:=Qxf Q0x Qbb
theorem Qxt:Qlq Tryz.prog 60 Qlz:=Qvb Qyn
theorem Qzz:Qn2 Tryz.prog 30 Qkv:=Qxg Qm3 Qxt Q0v
theorem Qys:Qms Tryz.prog 8 Qh2:=Qwe Qzz Qzs
theorem Qxu:Qlr Tryz.prog 99 Ql0:=Qvc Qyr
theorem Qz0:Qn3 Tryz.prog 88 Qiv:=Qxh Qm3 Qxu Q0z
theorem Qz1:Qn4 Tryz.prog 61 Qgb:=Qxi Qz0 Q0y Qbb
theorem Q2u:Qq7 Tryz.prog 31 Qnc:=Qzr Qz1 Q3b Qbb
theorem Qql:Qhi Tryz.prog 32 Qfn:=Qo0 Qrk Qbb
theorem Qrn:Qhz Tryz.prog 34 Qf3:=Qp0 Qcy Qsj Qbb
theorem Qtj:Qi6 Tryz.prog 35 Qg2:=Qrd Qcy Qil Quc Qbb
theorem Qun:Qjy Tryz.prog 11 Qc5:=Qsi Qtz Q2u Qql Tryz.keyK Qrn Qtj Qvg Qbb
theorem Qtk:Qi7 Tryz.prog 28 Qg3:=Qre Qub Qbb
theorem Qqm:Qhj Tryz.prog 7 Qfo:=Qo1 Qys Qkl Qun Qtz Qik Qtk Qcy Qri Qbb
theorem Qyt:Qmt Tryz.prog 50 Qj7:=Qwf Qkl Qhf Qzu
theorem Qyu:Qmu Tryz.prog 71 Qj8:=Qwg Qzw Qbb
theorem Qro:Qh0 Tryz.prog 95 Qf4:=Qp1 Qfd Qsl Qbb
theorem Qia:Qec Tryz.prog 75 Qdd:=Ql5 Qoa Qbb
theorem Qo6:Qgr Tryz.prog 96 Qe0:=Qnt Qia Qp6 Qbb
theorem Qrp:Qh1 Tryz.prog 72 Qeq:=Qp2 Qro Qo6 Qsk
theorem Qm4:Qfu Tryz.prog 76 Qd9:=Qlw Qfd Qil Qnu Qbb
theorem Qxv:Qls Tryz.prog 51 Qji:=Qvd Qyu Qrp Tryz.rowK73 Qia Qm4 Qyl Qbb
theorem Qtl:Qi8 Tryz.prog 19 Qfb:=Qrf Qyt Qxv Qt9
theorem Ql2:Qgx Tryz.prog 37 Qfc:=Qrg Qhf Qud
theorem Qn0:Qf8 Tryz.prog 77 Qed:=Ql6 Qob Qbb
theorem Qyv:Qmv Tryz.prog 78 Qj9:=Qwh Qzx
theorem Qyw:Qmw Tryz.prog 79 Qka:=Qwi Qzy
theorem Qoe:Qj0 Tryz.prog 52 Qfz:=Qyj Qn0 Qyv Qyw Q2n
theorem Qxw:Qlt Tryz.prog 68 Qjj:=Qve Qyp
theorem Qz2:Qn5 Tryz.prog 39 Qkw:=Qxj Qoe Qlb Qxw Q0w
theorem Qz3:Qn6 Tryz.prog 13 Qiw:=Qxk Ql2 Qfd Qz2 Q0u
theorem Qwp:Qk0 Tryz.prog 20 Qii:=Qt7 Ql2 Qoe Qxn Qbb
theorem Qwq:Qk1 Tryz.prog 14 Qij:=Qt8 Qxm Qbb
theorem Qtm:Qi9 Tryz.prog 54 Qja:=Qrh Quh
theorem Qvp:Qkk Tryz.prog 21 Qhr:=Qtd Qm3 Qtm Qwl
theorem Qyx:Qmx Tryz.prog 22 Qgn:=Qwj Qfd Qoe Qhf Qil Qzt Qbb
theorem Qwy:Qgs Tryz.prog 4 Qef:=Qj6 Quk Qqm Qz3 Qwq Qvo Qke Qjk Qtl Qwp Qvp Qyx Qk3 Qbb
end Go.Proofs
end
section
namespace Go.Abs
open Go Go.ChangeShapes Go.WideShapes Go.ChangeAt Go.RowKit
def live (w:World):Nat→Nat→Prop:=fun b o=>(w.cell? ⟨b,o,none⟩).isSome=true
def RDs (w:World):List D→List Value→Prop
 | [],vs=>vs=[]
 | x::xs,vs=>∃ u us,vs=u::us∧RD (live w) w x u∧RDs w xs us
theorem Q4j {w:World}:∀ {xs ys:List D} {us vs:List Value},RDs w xs us→RDs w ys vs→RDs w (xs++ys) (us++vs)
 | [],ys,us,vs,h,k=>by grind [RDs]
 | x::xs,ys,us,vs,⟨u,us',e,r,h⟩,k=>by subst e;exact ⟨u,us'++vs,by simp,r,Q4j h k⟩
def RDat (w:World) (cs:List Value) (off:Nat) (xs:List D):Prop:=RDs w xs ((cs.drop off).take xs.length)
theorem RDat.app {w:World} {cs:List Value} {off:Nat} {xs ys:List D} (h:RDat w cs off xs) {n:Nat} (hn:n=off+xs.length) (k:RDat w cs n ys):RDat w cs off (xs++ys):=by
 grind [Q4j,RDat,List.length_append,List.drop_drop]
theorem RDat.all {w:World} {cs:List Value} {xs:List D} (h:RDat w cs 0 xs) (hl:cs.length=xs.length):RDs w xs cs:=by
 grind [RDat,List.take_length]
theorem Qbep {w:World} {b:Nat}:∀ {xs:List D} {vs:List Value} {o:Nat},RDs w xs vs→(∀ i v,vs[i]? = some v→w.cell? ⟨b,o+i,none⟩=some v)→RDc (live w) w b xs o
 | [],vs,o,_,_=>by simp [RDc]
 | x::xs,vs,o,⟨u,us,e,r,h⟩,hc=>by
  subst e;have h0:=hc 0 u rfl;rw [Nat.add_zero] at h0;refine ⟨by simp [live,h0],⟨u,h0,r⟩,Qbep h fun i v hv=>?_⟩;have:=hc (i+1) v (by simpa using hv)
  grind
def Qz4 {α:Type} (P:Program) (t:TypeId) (e:α→List D) (wf:α→Prop):Prop :=
 ∀ {H:Type} {enc:TypeId×Value→H} {w:World} {base:Nat} {spare:Nat→Bool} {held:Bool} {fuel:Nat} {cs:List Value} {x:DataW H×List MemPlace},
  DataW.trod enc P w base spare held fuel t cs=some x→∃ a,wf a∧RDs w (e a) cs
def wfI (k:IntKind) (n:Int):Prop:=(Lit.int k n).wf=true
def wfL {α:Type} (wf:α→Prop) (l:List α):Prop:=l.length≤maxLen∧∀ a∈l,wf a
variable {P:Program} {t:TypeId}
theorem Q7s {k:IntKind} (ht:P.underlying t=some (.int k)):Qz4 P t (fun n:Int=>[.int k n]) (wfI k):=by
 intro H enc w base spare held fuel cs x h;obtain ⟨n,rfl,_,hw⟩:=DataW.trod_int ht h;exact ⟨n,hw,_,_,rfl,by simp [RD],rfl⟩
theorem cells?_get {w:World} {base:Nat} {a:Addr} {n:Nat} {cs:List Value} (h:w.cells? base a n=some cs):cs.length=n∧∀ i v,cs[i]? = some v→w.cell? (a.add i)=some v:=by
 obtain ⟨h1,h2,h3⟩:=World.cells?_some h
 grind
theorem Qbjc {α:Type} {el:TypeId} {e:α→List D} {wf:α→Prop} {sz:Nat} (ht:P.underlying t=some (.slice el)) (he:Qz4 P el e wf) (hsz:P.cellsOf el=sz) (hpos:0<sz) (hlen:∀ a,(e a).length=sz) :
  Qz4 P t (fun l:List α=>[.lst sz (l.map e)]) (wfL wf):=by
 intro H enc w base spare held fuel cs x h;rcases DataW.trod_slice ht h with ⟨rfl,_⟩|⟨a,len,cap,Qgk,rest,n,_,rfl,_,hb,hl,hm,helen,hel,_,_⟩
 ·exact ⟨[],⟨by simp,by simp⟩,_,_,rfl,by simp only [RD,List.map_nil,List.length_nil];exact ⟨none,0,rfl,Nat.le_refl _,.inl trivial⟩,rfl⟩
 ·have key:∀ m,m≤len→∃ l:List α,l.length=m∧(∀ x∈l,wf x)∧∀ i y,l[i]? = some y→∃ vs,w.cells? base (a.add (i*sz)) sz=some vs∧RDs w (e y) vs:=by
   intro m
   induction m with
   | zero=>simp_all
   | succ m ih =>
    intro hm';obtain ⟨l,h1,h2,h3⟩:=ih (by omega);have h4:=hel m (by omega);have h5:Qgk[m]? = some Qgk[m]:=List.getElem?_eq_getElem (by omega);rw [h5,hsz,Option.bind_eq_some_iff] at h4;obtain ⟨vs,h6,h7⟩:=h4;obtain ⟨y,h8,h9⟩:=he h7;refine ⟨l++[y],by simp [h1],?_,fun i z hz=>?_⟩
    all_goals grind
  obtain ⟨l,h1,h2,h3⟩:=key len (Nat.le_refl _);have hmax:l.length≤maxLen:=by omega
  refine ⟨l,⟨hmax,h2⟩,_,_,rfl,?_,rfl⟩;simp only [RD,List.length_map,h1];refine ⟨some a,cap,rfl,hl,?_⟩;cases l with
  | nil=>exact .inl rfl
  | cons y l =>
   right;have hspot:a.spot=none:=by
    obtain ⟨vs,h4,h5⟩:=h3 0 y rfl;obtain ⟨h6,h7⟩:=cells?_get h4;have hv:vs[0]? = some vs[0]:=List.getElem?_eq_getElem (by omega);have:=h7 0 _ hv;cases hs:a.spot with
    | none=>rfl
    | some s =>
     grind [Go.World.cell?,Go.Addr.add]
   obtain ⟨b,o,sp⟩:=a;simp only at hspot;subst hspot;refine ⟨b,o,rfl,?_⟩;have row:∀ (l:List α) (j:Nat),(∀ i y,l[i]? = some y→∃ vs,w.cells? base ((⟨b,o,none⟩ : Addr).add ((j+i)*sz)) sz=some vs∧RDs w (e y) vs)→RDL (live w) w sz b (l.map e) (o+j*sz):=by
    intro l
    induction l with
    | nil=>intro j _;simp [RDL]
    | cons y l ih =>
     intro j h;obtain ⟨vs,h4,h5⟩:=h 0 y rfl;obtain ⟨h6,h7⟩:=cells?_get h4;refine ⟨hlen y,Qbep h5 fun i v hv=>?_,?_⟩
     ·grind [Qhb,Nat.add_assoc]
     ·have:=ih (j+1) fun i y hy=>by
       have:=h (i+1) y (by simpa using hy)
       grind
      grind
   have:=row (y::l) 0 fun i y hy=>by simpa using h3 i y hy
   simpa using this
theorem Qgh {α:Type} {el:TypeId} {e:α→List D} {wf:α→Prop} {sz:Nat} (he:Qz4 P el e wf) (hsz:P.cellsOf el=sz) (hlen:∀ a,(e a).length=sz)
  {H:Type} {enc:TypeId×Value→H} {w:World} {base:Nat} {spare:Nat→Bool} {held:Bool} {fuel off:Nat} {cs:List Value} {x:DataW H×List MemPlace}
  (h:DataW.trod enc P w base spare held fuel el ((cs.drop off).take (P.cellsOf el))=some x):∃ a,wf a∧RDat w cs off (e a):=by
 obtain ⟨a,h1,h2⟩:=he h
 grind [RDat]
theorem Q2v {H:Type} {enc:TypeId×Value→H} {w:World} {base:Nat} {spare:Nat→Bool} {held:Bool} {fuel:Nat} {cs:List Value} {x:DataW H×List MemPlace} {fs:Array Field}
  (ht:P.underlying t=some (.struct fs)) (h:DataW.trod enc P w base spare held fuel t cs=some x) :
  cs.length=P.cellsOf t∧∃ n,∀ (i:Nat) (f:Field),fs[i]? = some f→∃ y,DataW.trod enc P w base spare held n f.type ((cs.drop f.offset).take (P.cellsOf f.type))=some y:=by
 obtain ⟨xs,n,_,_,h1,h2,h3⟩:=DataW.trod_struct ht h;refine ⟨h1,n,fun i f hf=>?_⟩
 grind
theorem Qbgs {H:Type} {enc:TypeId×Value→H} {w:World} {base:Nat} {spare:Nat→Bool} {held:Bool} {fuel:Nat} {cs:List Value} {x:DataW H×List MemPlace} {n:Nat} {el:TypeId}
  (ht:P.underlying t=some (.array n el)) (h:DataW.trod enc P w base spare held fuel t cs=some x) :
  cs.length=P.cellsOf t∧∃ m,∀ i,i<n→∃ y,DataW.trod enc P w base spare held m el ((cs.drop (i*P.cellsOf el)).take (P.cellsOf el))=some y:=by
 obtain ⟨xs,m,_,_,h1,h2,h3⟩:=DataW.trod_array ht h;exact ⟨h1,m,fun i hi=>⟨xs[i]'(by omega),by grind⟩⟩
def Qv6 {α:Type} (P:Program) (t:TypeId) (v:α→V) (wf:α→Prop):Prop :=
 ∀ {H:Type} {enc:TypeId×Value→H} {w:World} {base b0:Nat} {spare:Nat→Bool} {held:Bool} {u:Value} {d:DataW H} {ps:List MemPlace},
  Value.okWide P w .any b0 t u→DataW.Trod enc P w base spare held t u d ps→∃ a,wf a∧RF ⟨fun _=>0,live w,fun _=>.ext⟩ w (v a) u
theorem Qbjd {α:Type} {e:α→D} {wf:α→Prop} (he:Qz4 P t (fun a=>[e a]) wf) (hone:∀ w b0 u,Value.okWide P w .any b0 t u→u.cells = #[u]):Qv6 P t (fun a=>.d (e a)) wf:=by
 intro H enc w base b0 spare held u d ps hok hd;obtain ⟨fuel,hf⟩:=hd;rw [hone _ _ _ hok] at hf;obtain ⟨a,h1,u',us,h2,h3,h4⟩:=he hf;simp only [RDs] at h4;subst h4;simp at h2;subst h2;exact ⟨a,h1,fun ℓ=>by simpa [RV] using h3⟩
theorem Qbje {k:IntKind} (ht:P.underlying t=some (.int k)):∀ w b0 u,Value.okWide P w .any b0 t u→u.cells = #[u]:=by
 intro w b0 u h;simp only [Value.okWide,ht] at h;cases u<;>first|rfl|(simp [Cell.okWide,Cell.ok,ht] at h)
theorem Qbkw {imm:Nat→Nat→Prop} {w:World} {x:D} {u:Value} (h:RD imm w x u):u.oneCell'=true:=by
 cases x with
 | int k n=>simp only [RD] at h;subst h;rfl
 | bool b=>simp only [RD] at h;subst h;rfl
 | str s=>simp only [RD] at h;subst h;rfl
 | lst sz l=>simp only [RD] at h;obtain ⟨a,cap,rfl,_⟩:=h;cases a<;>rfl
 | mp es c=>simp only [RD] at h;obtain ⟨b,rfl,_⟩:=h;rfl
theorem Qbeq {w:World} {g:G} (hg:g.imm=live w):∀ {xs:List D} {us:List Value} {ℓ:Owner} {i:Nat},RDs w xs us→RVs g w (xs.map V.d) ℓ i us∧∀ u∈us,u.oneCell'=true
 | [],us,ℓ,i,h=>by grind [RDs,RVs]
 | x::xs,us,ℓ,i,⟨u,us',e,r,h⟩=>by
  subst e;obtain ⟨h1,h2⟩:=Qbeq hg (ℓ:=ℓ) (i:=i+1) h;refine ⟨⟨u,us',rfl,by simpa [RV,hg] using r,h1⟩,fun v hv=>?_⟩;rcases List.mem_cons.1 hv with rfl|hv
  ·exact Qbkw r
  ·exact h2 v hv
theorem Qbjf {α:Type} {e:α→List D} {wf:α→Prop} (he:Qz4 P t e wf) (hagg:(∃ fs,P.underlying t=some (.struct fs))∨∃ n el,P.underlying t=some (.array n el)):Qv6 P t (fun a=>.agg ((e a).map V.d)) wf:=by
 intro H enc w base b0 spare held u d ps hok hd;obtain ⟨cs,rfl⟩ : ∃ cs,u = .agg cs:=by
  rcases hagg with ⟨fs,ht⟩|⟨n,el,ht⟩
  ·simp only [Value.okWide,ht] at hok;grind
  ·simp only [Value.okWide,ht] at hok;grind
 obtain ⟨fuel,hf⟩:=hd;obtain ⟨a,h1,h2⟩:=he hf;refine ⟨a,h1,fun ℓ=>?_⟩;simp only [RV];obtain ⟨h3,h4⟩:=Qbeq (g:=⟨fun _=>0,live w,fun _=>.ext⟩) rfl (ℓ:=ℓ) (i:=0) h2;exact ⟨cs.toList,by simp,h3,h4⟩
def Qbkx (P:Program) (f:FuncId) (ts:List TypeId):Prop :=
 ∀ {H:Type} {enc:TypeId×Value→H} {w:World} {b0:Nat} {us:List Value} {ds:List (DataW H)} {ps:List MemPlace},
  (∀ (j:Nat) t u,ts[j]? = some t→us[j]? = some u→Value.okWide P w .any b0 t u)→DataW.TrodAll enc P w 0 (fun _=>true) true ts us ds ps →
  ∃ vs,RFs ⟨fun _=>0,live w,fun _=>.ext⟩ w vs us∧(∀ x∈vs,Flat x)∧V.lt.go 0 vs=true∧∀ M nb,ACalls P f vs M nb (.d (.bool true)) M nb
theorem Qyy (hl:laidOutB P=true) {W W' : World} {sp:Nat→Bool} {H:Type} {enc:TypeId×Value→H}:∀ {ts:List TypeId} {us:List Value} {ds:List (DataW H)} {ps:List MemPlace},
  (∀ t∈ts,P.readableRec t=true∧t<P.types.size)→DataW.TrodAll enc P W 0 (fun _=>true) true ts us ds ps→(∀ p∈ps,W.sameAt W' p)→(∀ p∈ps,sp p.block=true)→DataW.TrodAll enc P W' 0 sp true ts us ds ps
 | [],[],[],ps,_,h,_,_=>h
 | t::ts,u::us,d::ds,ps,hr,⟨p,q,h1,h2,e⟩,hs,hp=>by
  subst e;obtain ⟨r1,r2⟩:=hr t (by simp);exact ⟨p,q,WideElems.Trod_stays hl r1 r2 h1 (fun x hx=>hs x (by simp [hx])) (fun x hx=>hp x (by simp [hx])),Qyy hl (fun t ht=>hr t (by simp [ht])) h2 (fun x hx=>hs x (by simp [hx])) (fun x hx=>hp x (by simp [hx])),rfl⟩
 | [],[],_::_,_,_,h,_,_=>h.elim
 | [],_::_,_,_,_,h,_,_=>h.elim
 | _::_,[],_,_,_,h,_,_=>h.elim
 | _::_,_::_,[],_,_,h,_,_=>h.elim
theorem Q2w {W:World} {sp:Nat→Bool} {held:Bool} {base:Nat} {H:Type} {enc:TypeId×Value→H}:∀ {ts:List TypeId} {us:List Value} {ds:List (DataW H)} {ps:List MemPlace},
  DataW.TrodAll enc P W base sp held ts us ds ps→ds.length=ts.length∧us.length=ts.length
 | [],[],[],ps,h=>⟨rfl,rfl⟩
 | t::ts,u::us,d::ds,ps,⟨p,q,h1,h2,e⟩=>by have:=Q2w h2;simp [this.1,this.2]
 | [],[],_::_,_,h=>h.elim
 | [],_::_,_,_,h=>h.elim
 | _::_,[],_,_,h=>h.elim
 | _::_,_::_,[],_,h=>h.elim
section
variable {α β γ δ:Type} {f:FuncId} {ta tb tc td:TypeId} {va:α→V} {vb:β→V} {vc:γ→V} {vd:δ→V} {wa:α→Prop} {wb:β→Prop} {wc:γ→Prop} {wd:δ→Prop}
theorem Q2x {H:Type} {enc:TypeId×Value→H} {w:World} {base:Nat} {sp:Nat→Bool} {held:Bool} {t:TypeId} {ts:List TypeId} {us:List Value} {ds:List (DataW H)} {ps:List MemPlace} (h:DataW.TrodAll enc P w base sp held (t::ts) us ds ps) :
  ∃ u us' d ds' p q,us=u::us'∧ds=d::ds'∧DataW.Trod enc P w base sp held t u d p∧DataW.TrodAll enc P w base sp held ts us' ds' q:=by
 match us,ds,h with
 | u::us',d::ds',⟨p,q,h1,h2,_⟩=>grind
 | [],[],h=>exact h.elim
 | [],_::_,h=>exact h.elim
 | _::_,[],h=>exact h.elim
theorem Q9b {H:Type} {enc:TypeId×Value→H} {w:World} {base:Nat} {sp:Nat→Bool} {held:Bool} {us:List Value} {ds:List (DataW H)} {ps:List MemPlace} (h:DataW.TrodAll enc P w base sp held [] us ds ps):us=[]:=by
 match us,ds,h with
 | [],[],_=>rfl
 | [],_::_,h=>exact h.elim
 | _::_,[],h=>exact h.elim
 | _::_,_::_,h=>exact h.elim
theorem Qblg (ra:Qv6 P ta va wa) (fa:∀ a,(va a).dem=va a) (la:∀ a,(va a).lt 0=true) (rb:Qv6 P tb vb wb) (fb:∀ a,(vb a).dem=vb a) (lb:∀ a,(vb a).lt 0=true)
  (law:∀ a b,wa a→wb b→∀ M nb,ACalls P f [va a,vb b] M nb (.d (.bool true)) M nb):Qbkx P f [ta,tb]:=by
 intro H enc w b0 us ds ps hok hT;obtain ⟨u,us',d,ds',p,q,rfl,rfl,h1,hT⟩:=Q2x hT;obtain ⟨u2,us',d2,ds',p2,q2,rfl,rfl,h2,hT⟩:=Q2x hT;obtain rfl:=Q9b hT;obtain ⟨a,ha,hra⟩:=ra (hok 0 _ _ rfl rfl) h1;obtain ⟨b,hb,hrb⟩:=rb (hok 1 _ _ rfl rfl) h2;refine ⟨[va a,vb b],⟨u,_,rfl,hra,u2,_,rfl,hrb,rfl⟩,?_,by simp [V.lt.go,la,lb],law a b ha hb⟩;intro x hx;simp only [List.mem_cons,List.not_mem_nil,or_false] at hx;rcases hx with rfl|rfl
 ·exact fa a
 ·exact fb b
end
theorem Qbh4 {H:Type} {enc:TypeId×Value→H} {w:World} {base:Nat} {spare:Nat→Bool} {held:Bool} {fuel:Nat} {cs:List Value} {x:DataW H×List MemPlace} {n sz:Nat} {el:TypeId}
  (ht:P.underlying t=some (.array n el)) (hsz:P.cellsOf el=sz) (h:DataW.trod enc P w base spare held fuel t cs=some x) :
  cs.length=P.cellsOf t∧∃ m,∀ i,i<n→∃ y,DataW.trod enc P w base spare held m el ((cs.drop (i*sz)).take (P.cellsOf el))=some y:=by
 obtain ⟨h1,m,h2⟩:=Qbgs ht h;exact ⟨h1,m,fun i hi=>by grind⟩
end Go.Abs
end
section
namespace Go.Proofs
open Go Go.Abs
set_option maxRecDepth 100000
def W_46 (x:Int):Prop:=wfI .u8 x
theorem R_46:Qz4 Tryz.prog 46 (eI .u8) W_46:=Q7s Tryz.underlying46
def W_5 (x:Int):Prop:=wfI .u8 x
theorem R_5:Qz4 Tryz.prog 5 (eI .u8) W_5:=Q7s Tryz.underlying5
def W_47 (x:Int×Int×Int×Int×Int):Prop:=W_5 x.1∧W_5 x.2.1∧W_5 x.2.2.1∧W_5 x.2.2.2.1∧W_5 x.2.2.2.2
theorem R_47:Qz4 Tryz.prog 47 (fun p:Int×Int×Int×Int×Int=>[.int .u8 p.1,.int .u8 p.2.1,.int .u8 p.2.2.1,.int .u8 p.2.2.2.1,.int .u8 p.2.2.2.2]) W_47:=by
  intro H enc w base spare held fuel cs x h;obtain ⟨hl,n,hf⟩:=Qbh4 (sz:=1) Tryz.underlying47 (by kernel_rfl) h;obtain ⟨y0,h0⟩:=hf 0 (by decide);obtain ⟨a0,w0,r0⟩:=Qgh (off:=0*1) (sz:=1) R_5 (by kernel_rfl) (fun _=>rfl) h0;obtain ⟨y1,h1⟩:=hf 1 (by decide);obtain ⟨a1,w1,r1⟩:=Qgh (off:=1*1) (sz:=1) R_5 (by kernel_rfl) (fun _=>rfl) h1;obtain ⟨y2,h2⟩:=hf 2 (by decide);obtain ⟨a2,w2,r2⟩:=Qgh (off:=2*1) (sz:=1) R_5 (by kernel_rfl) (fun _=>rfl) h2;obtain ⟨y3,h3⟩:=hf 3 (by decide);obtain ⟨a3,w3,r3⟩:=Qgh (off:=3*1) (sz:=1) R_5 (by kernel_rfl) (fun _=>rfl) h3;obtain ⟨y4,h4⟩:=hf 4 (by decide);obtain ⟨a4,w4,r4⟩:=Qgh (off:=4*1) (sz:=1) R_5 (by kernel_rfl) (fun _=>rfl) h4;exact ⟨(a0,a1,a2,a3,a4),⟨w0,w1,w2,w3,w4⟩,RDat.all (xs:=(fun p:Int×Int×Int×Int×Int=>[.int .u8 p.1,.int .u8 p.2.1,.int .u8 p.2.2.1,.int .u8 p.2.2.2.1,.int .u8 p.2.2.2.2]) (a0,a1,a2,a3,a4)) (RDat.app r0 rfl (RDat.app r1 rfl (RDat.app r2 rfl (RDat.app r3 rfl r4)))) (hl.trans (by kernel_rfl))⟩
def W_48 (x:(Int×Int×Int×Int×Int)×(Int×Int×Int×Int×Int)×(Int×Int×Int×Int×Int)×(Int×Int×Int×Int×Int)×(Int×Int×Int×Int×Int)):Prop:=W_47 x.1∧W_47 x.2.1∧W_47 x.2.2.1∧W_47 x.2.2.2.1∧W_47 x.2.2.2.2
theorem R_48:Qz4 Tryz.prog 48 (fun p:(Int×Int×Int×Int×Int)×(Int×Int×Int×Int×Int)×(Int×Int×Int×Int×Int)×(Int×Int×Int×Int×Int)×(Int×Int×Int×Int×Int)=>[.int .u8 p.1.1,.int .u8 p.1.2.1,.int .u8 p.1.2.2.1,.int .u8 p.1.2.2.2.1,.int .u8 p.1.2.2.2.2,.int .u8 p.2.1.1,.int .u8 p.2.1.2.1,.int .u8 p.2.1.2.2.1,.int .u8 p.2.1.2.2.2.1,.int .u8 p.2.1.2.2.2.2,.int .u8 p.2.2.1.1,.int .u8 p.2.2.1.2.1,.int .u8 p.2.2.1.2.2.1,.int .u8 p.2.2.1.2.2.2.1,.int .u8 p.2.2.1.2.2.2.2,.int .u8 p.2.2.2.1.1,.int .u8 p.2.2.2.1.2.1,.int .u8 p.2.2.2.1.2.2.1,.int .u8 p.2.2.2.1.2.2.2.1,.int .u8 p.2.2.2.1.2.2.2.2,.int .u8 p.2.2.2.2.1,.int .u8 p.2.2.2.2.2.1,.int .u8 p.2.2.2.2.2.2.1,.int .u8 p.2.2.2.2.2.2.2.1,.int .u8 p.2.2.2.2.2.2.2.2]) W_48:=by
  intro H enc w base spare held fuel cs x h;obtain ⟨hl,n,hf⟩:=Qbh4 (sz:=5) Tryz.underlying48 (by kernel_rfl) h;obtain ⟨y0,h0⟩:=hf 0 (by decide);obtain ⟨a0,w0,r0⟩:=Qgh (off:=0*5) (sz:=5) R_47 (by kernel_rfl) (fun _=>rfl) h0;obtain ⟨y1,h1⟩:=hf 1 (by decide);obtain ⟨a1,w1,r1⟩:=Qgh (off:=1*5) (sz:=5) R_47 (by kernel_rfl) (fun _=>rfl) h1;obtain ⟨y2,h2⟩:=hf 2 (by decide);obtain ⟨a2,w2,r2⟩:=Qgh (off:=2*5) (sz:=5) R_47 (by kernel_rfl) (fun _=>rfl) h2;obtain ⟨y3,h3⟩:=hf 3 (by decide);obtain ⟨a3,w3,r3⟩:=Qgh (off:=3*5) (sz:=5) R_47 (by kernel_rfl) (fun _=>rfl) h3;obtain ⟨y4,h4⟩:=hf 4 (by decide);obtain ⟨a4,w4,r4⟩:=Qgh (off:=4*5) (sz:=5) R_47 (by kernel_rfl) (fun _=>rfl) h4;exact ⟨(a0,a1,a2,a3,a4),⟨w0,w1,w2,w3,w4⟩,RDat.all (xs:=(fun p:(Int×Int×Int×Int×Int)×(Int×Int×Int×Int×Int)×(Int×Int×Int×Int×Int)×(Int×Int×Int×Int×Int)×(Int×Int×Int×Int×Int)=>[.int .u8 p.1.1,.int .u8 p.1.2.1,.int .u8 p.1.2.2.1,.int .u8 p.1.2.2.2.1,.int .u8 p.1.2.2.2.2,.int .u8 p.2.1.1,.int .u8 p.2.1.2.1,.int .u8 p.2.1.2.2.1,.int .u8 p.2.1.2.2.2.1,.int .u8 p.2.1.2.2.2.2,.int .u8 p.2.2.1.1,.int .u8 p.2.2.1.2.1,.int .u8 p.2.2.1.2.2.1,.int .u8 p.2.2.1.2.2.2.1,.int .u8 p.2.2.1.2.2.2.2,.int .u8 p.2.2.2.1.1,.int .u8 p.2.2.2.1.2.1,.int .u8 p.2.2.2.1.2.2.1,.int .u8 p.2.2.2.1.2.2.2.1,.int .u8 p.2.2.2.1.2.2.2.2,.int .u8 p.2.2.2.2.1,.int .u8 p.2.2.2.2.2.1,.int .u8 p.2.2.2.2.2.2.1,.int .u8 p.2.2.2.2.2.2.2.1,.int .u8 p.2.2.2.2.2.2.2.2]) (a0,a1,a2,a3,a4)) (RDat.app r0 rfl (RDat.app r1 rfl (RDat.app r2 rfl (RDat.app r3 rfl r4)))) (hl.trans (by kernel_rfl))⟩
def W_50 (x:Qcc):Prop:=W_5 x.zS∧W_5 x.Marks∧W_48 x.To
theorem R_50:Qz4 Tryz.prog 50 Qni W_50:=by
  intro H enc w base spare held fuel cs x h;obtain ⟨hl,n,hf⟩:=Q2v Tryz.underlying50 h;obtain ⟨y0,h0⟩:=hf 0 _ rfl;obtain ⟨a0,w0,r0⟩:=Qgh (off:=0) (sz:=1) R_5 (by kernel_rfl) (fun _=>rfl) h0;obtain ⟨y1,h1⟩:=hf 1 _ rfl;obtain ⟨a1,w1,r1⟩:=Qgh (off:=1) (sz:=1) R_5 (by kernel_rfl) (fun _=>rfl) h1;obtain ⟨y2,h2⟩:=hf 2 _ rfl;obtain ⟨a2,w2,r2⟩:=Qgh (off:=2) (sz:=25) R_48 (by kernel_rfl) (fun _=>rfl) h2;exact ⟨⟨a0,a1,a2⟩,⟨w0,w1,w2⟩,RDat.all (xs:=Qni ⟨a0,a1,a2⟩) (RDat.app r0 rfl (RDat.app r1 rfl r2)) (hl.trans (by kernel_rfl))⟩
def W_52 (x:Qf1):Prop:=W_46 x.Events∧W_50 x.Graph
theorem R_52:Qz4 Tryz.prog 52 Qoi W_52:=by
  intro H enc w base spare held fuel cs x h;obtain ⟨hl,n,hf⟩:=Q2v Tryz.underlying52 h;obtain ⟨y0,h0⟩:=hf 0 _ rfl;obtain ⟨a0,w0,r0⟩:=Qgh (off:=0) (sz:=1) R_46 (by kernel_rfl) (fun _=>rfl) h0;obtain ⟨y1,h1⟩:=hf 1 _ rfl;obtain ⟨a1,w1,r1⟩:=Qgh (off:=1) (sz:=27) R_50 (by kernel_rfl) (fun _=>rfl) h1;exact ⟨⟨a0,a1⟩,⟨w0,w1⟩,RDat.all (xs:=Qoi ⟨a0,a1⟩) (RDat.app r0 rfl r1) (hl.trans (by kernel_rfl))⟩
def W_54 (x:Qba):Prop:=W_52 x.Part∧W_5 x.zD∧W_46 x.zC∧W_46 x.zF
theorem R_54:Qz4 Tryz.prog 54 Ql8 W_54:=by
  intro H enc w base spare held fuel cs x h;obtain ⟨hl,n,hf⟩:=Q2v Tryz.underlying54 h;obtain ⟨y0,h0⟩:=hf 0 _ rfl;obtain ⟨a0,w0,r0⟩:=Qgh (off:=0) (sz:=28) R_52 (by kernel_rfl) (fun _=>rfl) h0;obtain ⟨y1,h1⟩:=hf 1 _ rfl;obtain ⟨a1,w1,r1⟩:=Qgh (off:=28) (sz:=1) R_5 (by kernel_rfl) (fun _=>rfl) h1;obtain ⟨y2,h2⟩:=hf 2 _ rfl;obtain ⟨a2,w2,r2⟩:=Qgh (off:=29) (sz:=1) R_46 (by kernel_rfl) (fun _=>rfl) h2;obtain ⟨y3,h3⟩:=hf 3 _ rfl;obtain ⟨a3,w3,r3⟩:=Qgh (off:=30) (sz:=1) R_46 (by kernel_rfl) (fun _=>rfl) h3;exact ⟨⟨a0,a1,a2,a3⟩,⟨w0,w1,w2,w3⟩,RDat.all (xs:=Ql8 ⟨a0,a1,a2,a3⟩) (RDat.app r0 rfl (RDat.app r1 rfl (RDat.app r2 rfl r3))) (hl.trans (by kernel_rfl))⟩
theorem A_54:Qv6 Tryz.prog 54 (fun (a:Qba)=>.agg [.d (.int .u8 a.Part.Events),.d (.int .u8 a.Part.Graph.zS),.d (.int .u8 a.Part.Graph.Marks),.d (.int .u8 a.Part.Graph.To.1.1),.d (.int .u8 a.Part.Graph.To.1.2.1),.d (.int .u8 a.Part.Graph.To.1.2.2.1),.d (.int .u8 a.Part.Graph.To.1.2.2.2.1),.d (.int .u8 a.Part.Graph.To.1.2.2.2.2),.d (.int .u8 a.Part.Graph.To.2.1.1),.d (.int .u8 a.Part.Graph.To.2.1.2.1),.d (.int .u8 a.Part.Graph.To.2.1.2.2.1),.d (.int .u8 a.Part.Graph.To.2.1.2.2.2.1),.d (.int .u8 a.Part.Graph.To.2.1.2.2.2.2),.d (.int .u8 a.Part.Graph.To.2.2.1.1),.d (.int .u8 a.Part.Graph.To.2.2.1.2.1),.d (.int .u8 a.Part.Graph.To.2.2.1.2.2.1),.d (.int .u8 a.Part.Graph.To.2.2.1.2.2.2.1),.d (.int .u8 a.Part.Graph.To.2.2.1.2.2.2.2),.d (.int .u8 a.Part.Graph.To.2.2.2.1.1),.d (.int .u8 a.Part.Graph.To.2.2.2.1.2.1),.d (.int .u8 a.Part.Graph.To.2.2.2.1.2.2.1),.d (.int .u8 a.Part.Graph.To.2.2.2.1.2.2.2.1),.d (.int .u8 a.Part.Graph.To.2.2.2.1.2.2.2.2),.d (.int .u8 a.Part.Graph.To.2.2.2.2.1),.d (.int .u8 a.Part.Graph.To.2.2.2.2.2.1),.d (.int .u8 a.Part.Graph.To.2.2.2.2.2.2.1),.d (.int .u8 a.Part.Graph.To.2.2.2.2.2.2.2.1),.d (.int .u8 a.Part.Graph.To.2.2.2.2.2.2.2.2),.d (.int .u8 a.zD),.d (.int .u8 a.zC),.d (.int .u8 a.zF)]) W_54:=Qbjf R_54 (.inl ⟨_,Tryz.underlying54⟩)
theorem A_5:Qv6 Tryz.prog 5 (fun (a:Int)=>.d (.int .u8 a)) W_5:=Qbjd R_5 (Qbje Tryz.underlying5)
end Go.Proofs
end
section
namespace Go.Abs
open Go
theorem Qfj {X R:Type} {F:(X→Option R)→X→Option R} (I:X→Prop) (m:X→Nat) (Q:X→Option R→Prop)
  (step:∀ (k:X→Option R) (x:X),I x→(∀ y,I y→m y<m x→Q y (k y))→Q x (F k x)):∀ (fuel:Nat) (x:X),I x→m x<fuel→Q x (Qbi F fuel x)
 | 0,x,_,h=>absurd h (Nat.not_lt_zero _)
 | fuel+1,x,hi,h=>step _ x hi fun y hy hm=>Qfj I m Q step fuel y hy (by omega)
theorem Qv7 {X R:Type} {F:(X→Option R)→X→Option R} {fuel:Nat} {x:X} (I:X→Prop) (m:X→Nat) (q:Option R) (hi:I x) (hm:m x<fuel)
  (step:∀ (k:X→Option R) (x:X),I x→(∀ y,I y→m y<m x→k y=q)→F k x=q):Qbi F fuel x=q :=
 Qfj I m (fun _ r=>r=q) step fuel x hi hm
theorem Qh3 {x:Int} (h1 : -9223372036854775808≤x) (h2:x≤9223372036854775807):IntKind.wrap .i64 x=x:=by
 simp [IntKind.wrap,IntKind.bits,IntKind.signed];omega
theorem Qbq {n:Nat} (h:n<9223372036854775807):IntKind.wrap .i64 ((n:Int)+1)=((n+1:Nat):Int):=by
 grind [Qh3]
theorem Qx {α:Type} {l:List α} {n:Nat} (h:n<l.length):getO l (n:Int)=some l[n]:=by
 simp [getO,h]
theorem Q2y {α:Type} {l:List α} {i:Int} {x:α}:getO l i=some x↔0≤i∧l[i.toNat]? = some x:=by
 simp_all [getO,reduceCtorEq,false_iff,not_and,absurd]
theorem Q3 {α:Type} {l m:List α} (h:l.length+m.length≤lim):appO l m=some (l++m):=by
 unfold appO;rw [if_pos h]
theorem Qkt {R:Type} {F:(Int→Option R)→Int→Option R} {len fuel:Nat} (G:Nat→Option R) (hf:len<fuel)
  (step:∀ (k:Int→Option R) (n:Nat),n<len→k ((n+1:Nat):Int)=G (n+1)→F k (n:Int)=G n) (last:∀ k:Int→Option R,F k (len:Int)=G len):Qbi F fuel 0=G 0:=by
 have:=Qfj (F:=F) (fun x=>∃ n:Nat,x=(n:Int)∧n≤len) (fun x=>len-x.toNat) (fun x r=>∀ n:Nat,x=(n:Int)→r=G n) (fun k x hx ih=>by
  obtain ⟨n,rfl,hn⟩:=hx;intro m hm;obtain rfl:n=m:=by omega
  by_cases h:n<len
  ·exact step k n h (ih _ ⟨n+1,rfl,by omega⟩ (by omega) (n+1) rfl)
  grind) fuel 0 ⟨0,rfl,by omega⟩ (by simpa using hf)
 exact this 0 rfl
theorem Q2z {n:Nat} (h0:0<n) (h:n<9223372036854775807):IntKind.wrap .i64 ((n:Int)-1)=((n-1:Nat):Int):=by
 grind [Qh3]
theorem Qbgt {X S R:Type} {F:(X→Option R)→X→Option R} {len:Nat} (mk:Nat→S→X) (G:Nat→S→Option R)
  (step:∀ (k:X→Option R) (n:Nat) (s:S),n<len→(∀ s',k (mk (n+1) s')=G (n+1) s')→F k (mk n s)=G n s) (last:∀ (k:X→Option R) (s:S),F k (mk len s)=G len s) :
  ∀ (fuel n:Nat) (s:S),n≤len→len-n<fuel→Qbi F fuel (mk n s)=G n s
 | 0,n,s,_,h=>by omega
 | fuel+1,n,s,hn,h=>by
  show F (Qbi F fuel) (mk n s)=_;by_cases hlt:n<len
  ·exact step _ n s hlt fun s'=>Qbgt mk G step last fuel (n+1) s' (by omega) (by omega)
  grind
theorem Qbh5 {i j:Nat} (hi:i<1000000000000) (hj:j<1000000000000):IntKind.wrap .i64 (Int.fdiv (IntKind.wrap .u64 (IntKind.wrap .i64 ((i:Int)+j))) (2 ^ (min (Int.toNat 1) (IntKind.bits .u64))))=(((i+j) / 2:Nat):Int):=by
 grind [Go.IntKind.wrap,Qh3,Go.IntKind.bits,Go.IntKind.signed,Min.min,Int.toNat,Int.fdiv_eq_ediv_of_nonneg]
theorem Q5v {α:Type} {l:List α} {i j:Nat} (h:i≤j) (hj:j≤l.length):slcO l (i:Int) (j:Int)=some ((l.take j).drop i):=by
 simp [slcO,h,hj]
theorem Qz5:∀ {l m:List Int},l.Pairwise (· < ·)→m.Pairwise (· < ·)→(∀ x,x∈l↔x∈m)→l=m
 | l,m,h1,h2,h=>by
  have n1:l.Nodup:=h1.imp fun h=>by omega
  have n2:m.Nodup:=h2.imp fun h=>by omega
  grind [List.perm_ext_iff_of_nodup,List.Perm.eq_of_pairwise]
section
variable {α:Type} {p:α→Bool}
theorem Qz6:∀ {l:List α},l.Pairwise (fun a b=>p b=true→p a=true)→∀ (n:Nat) (h:n<l.length),p l[n]=true↔n<(l.filter p).length
 | [],_,n,h=>by simp at h
 | x::xs,hs,n,h=>by
  obtain ⟨h1,h2⟩:=List.pairwise_cons.1 hs;cases n with
  | zero =>
   cases hx:p x with
   | true=>simp [hx]
   | false =>
    have:xs.filter p=[]:=List.filter_eq_nil_iff.2 fun y hy hp=>by have:=h1 y hy hp;rw [hx] at this;cases this
    simp [hx,this]
  | succ n =>
   have ih:=Qz6 h2 n (by simpa using h);cases hx:p x with
   | true=>simp [hx,ih]
   | false =>
    have:xs.filter p=[]:=List.filter_eq_nil_iff.2 fun y hy hp=>by have:=h1 y hy hp;rw [hx] at this;cases this
    rw [this] at ih;simp [hx,this] at ih ⊢;exact ih
end
theorem Qix {X S R:Type} {F:(X→Option R)→X→Option R} {len:Nat} (mk:Nat→S→X) (I:Nat→S→Prop) (G:Nat→S→Option R)
  (step:∀ (k:X→Option R) (n:Nat) (s:S),n<len→I n s→(∀ s',I (n+1) s'→k (mk (n+1) s')=G (n+1) s')→F k (mk n s)=G n s) (last:∀ (k:X→Option R) (s:S),I len s→F k (mk len s)=G len s) :
  ∀ (fuel n:Nat) (s:S),n≤len→len-n<fuel→I n s→Qbi F fuel (mk n s)=G n s
 | 0,n,s,_,h,_=>by omega
 | fuel+1,n,s,hn,h,hi=>by
  show F (Qbi F fuel) (mk n s)=_;by_cases hlt:n<len
  ·exact step _ n s hlt hi fun s' hi'=>Qix mk I G step last fuel (n+1) s' (by omega) (by omega) hi'
  grind
theorem Qh4:∀ {l:List Int} {a b:Int},l.Pairwise (· < ·)→(∀ x∈l,a≤x∧x<b)→l.length≤(b-a).toNat
 | [],_,_,_,_=>by simp
 | x::xs,a,b,h,hr=>by
  obtain ⟨h1,h2⟩:=List.pairwise_cons.1 h;have:=Qh4 (a:=x+1) (b:=b) h2 fun y hy=>⟨by have:=h1 y hy;omega,(hr y (by simp [hy])).2⟩;have:=hr x (by simp)
  grind
end Go.Abs
end
section
namespace Go.Abs
abbrev big : Nat := 1000000000000
def small (a : Qa) : Prop := a.zO.length < big ∧ a.zP.length < big ∧ a.zQ.length < big
end Go.Abs
end
section
namespace Go.Abs
open Go
def Qde (n:Int):Option Int→List Int→Int
 | _,[]=>0
 | p,x::xs=>if x<0∨x≥n then 2 else if ∃ y,p=some y∧x≤y then 5 else Qde n (some x) xs
def Qkx (al:List Int) (st:Int):Option Qc→List Qc→Int
 | _,[]=>0
 | p,x::xs=>if x.From<0∨x.From≥st∨x.To<0∨x.To≥st then 2 else if x.Event∉al then 9 else if ∃ y,p=some y∧(x.From<y.From∨x.From=y.From∧x.Event≤y.Event) then 5 else Qkx al st (some x) xs
def Qo7 (a:Qa):Int :=
 if Qde 32 none a.zO≠0 then Qde 32 none a.zO else if a.zS<0 then 2 else if a.zS>4096 then 3 else
 if Qde a.zS none a.zP≠0 then Qde a.zS none a.zP else Qkx a.zO a.zS none a.zQ
def ahead {α:Type} (l:List α) (n:Nat):Option α:=if n=0 then none else l[n-1]?
theorem Qpe {α:Type} (l:List α):ahead l 0=none:=rfl
theorem Q4k {α:Type} (l:List α) {n:Nat} (h:n<l.length):ahead l (n+1)=some l[n]:=by simp [ahead,h]
theorem Q20 {α:Type} (l:List α) {n:Nat} (h0:0<n) (h:n≤l.length):ahead l n=some (l[n-1]'(by omega)):=by
 simp [ahead,show n≠0 from by omega,show n-1<l.length from by omega]
theorem Q0q {n:Int} {l:List Int} {k:Nat} (h:k<l.length):Qde n (ahead l k) (l.drop k)=if l[k]<0∨l[k]≥n then 2 else if ∃ y,ahead l k=some y∧l[k]≤y then 5 else Qde n (ahead l (k+1)) (l.drop (k+1)):=by
 rw [List.drop_eq_getElem_cons h,Qde,Q4k l h]
theorem Q5w {al:List Int} {n:Int} {l:List Qc} {k:Nat} (h:k<l.length):Qkx al n (ahead l k) (l.drop k)=if l[k].From<0∨l[k].From≥n∨l[k].To<0∨l[k].To≥n then 2 else if l[k].Event∉al then 9 else if ∃ y,ahead l k=some y∧(l[k].From<y.From∨l[k].From=y.From∧l[k].Event≤y.Event) then 5 else Qkx al n (ahead l (k+1)) (l.drop (k+1)):=by
 rw [List.drop_eq_getElem_cons h,Qkx,Q4k l h]
theorem Q21 {l:List Int} {n:Int} (hl:l.length<big):Qhp l n=some (Qde n none l):=by
 unfold Qhp Qcv;refine (Qkt (len:=l.length) (fun k=>some (Qde n (ahead l k) (l.drop k))) (by unfold Qbb;unfold big at hl;omega) ?_ ?_).trans (by simp [Qpe])
 ·intro k i hi ih;have hb:i<1000000000000:=by unfold big at hl;omega
  rw [Q0q hi]
  try dsimp only
  rw [if_pos (by omega),Qx hi,Qbq (by omega),ih];simp only [Option.bind_some];by_cases h1:l[i]<0
  ·simp [h1]
  ·by_cases h2:l[i]≥n
   ·simp [h1,h2]
   ·by_cases h0:0<i
    ·rw [Q2z h0 (by omega),Qx (by omega:i-1<l.length),Q20 l h0 (by omega)];by_cases h3:l[i]≤l[i-1]<;>simp [h1,h2,h3,h0]
    ·obtain rfl:i=0:=by omega
     simp [h1,h2,Qpe]
 ·intro k;simp [Qde]
theorem Qbgu {l:List Int} {v:Int} (hl:l.length<big):Qjg l v=some (if v∈l then (l.idxOf v:Int) else -1):=by
 unfold Qjg Qd6;refine (Qkt (len:=l.length) (fun k=>some (if v∈l.drop k then ((k+(l.drop k).idxOf v:Nat):Int) else -1)) (by unfold Qbb;unfold big at hl;omega) ?_ ?_).trans (by simp)
 ·intro k i hi ih;have hb:i<1000000000000:=by unfold big at hl;omega
  try dsimp only
  rw [if_pos (by omega),Qx hi,Qbq (by omega),ih,List.drop_eq_getElem_cons hi];simp only [Option.bind_some,List.mem_cons,List.idxOf_cons];by_cases h:v=l[i]
  ·simp [← h]
  ·have:¬ l[i]=v:=fun e=>h e.symm;have hbq:(l[i]==v)=false:=by simp [this]
   by_cases h2:v∈l.drop (i+1)<;>simp [h,h2,hbq];omega
 ·intro k;simp
theorem Qp9 {l:List Int} {v:Int} (hl:l.length<big):Qb1 l v=some (decide (v∈l)):=by
 unfold Qb1 Ql;rw [Qbgu hl];simp only [Option.bind_some,Option.some.injEq];by_cases h:v∈l<;>simp [h]
theorem Qbh6 {l:List Int} {v:Int} (hl:l.length<big):Qdy l v=some (decide (v∈l)):=by
 unfold Qdy Qbv;refine (Qkt (len:=l.length) (fun k=>some (decide (v∈l.drop k))) (by unfold Qbb;unfold big at hl;omega) ?_ ?_).trans (by simp)
 ·intro k i hi ih;have hb:i<1000000000000:=by unfold big at hl;omega
  try dsimp only
  rw [if_pos (by omega),Qx hi,Qbq (by omega),ih,List.drop_eq_getElem_cons hi];simp only [Option.bind_some,List.mem_cons];by_cases h:l[i]=v
  ·simp [h]
  ·have:¬ v=l[i]:=fun e=>h e.symm;simp [h,this]
 ·intro k;simp
theorem Q5x {a:Qa} (h:small a):Qgy a=some (Qkx a.zO a.zS none a.zQ):=by
 obtain ⟨hal,_,hl⟩:=h;unfold Qgy Qcp;refine (Qkt (len:=a.zQ.length) (fun k=>some (Qkx a.zO a.zS (ahead a.zQ k) (a.zQ.drop k))) (by unfold Qbb;unfold big at hl;omega) ?_ ?_).trans (by simp [Qpe])
 ·intro k i hi ih;have hb:i<1000000000000:=by unfold big at hl;omega
  rw [Q5w hi];unfold letJ
  try dsimp only
  rw [if_pos (by omega),Qx hi,Qbq (by omega),ih];simp only [Option.bind_some,Qp9 hal];generalize a.zQ[i]=x;by_cases h1:x.From<0
  ·simp [h1]
  by_cases h2:x.From≥a.zS
  ·simp [h1,h2]
  by_cases h3:x.To<0
  ·simp [h1,h2,h3]
  by_cases h4:x.To≥a.zS
  ·simp [h1,h2,h3,h4]
  by_cases h5:x.Event∈a.zO
  ·by_cases h0:0<i
   ·rw [Q2z h0 (by omega),Qx (by omega:i-1<a.zQ.length),Q20 a.zQ h0 (by omega)];generalize a.zQ[i-1]=y;have hi0:i≠0:=by omega
    by_cases h6:x.From<y.From
    ·simp [h1,h2,h3,h4,h5,h6,hi0]
    by_cases h7:y.From=x.From
    ·by_cases h8:x.Event≤y.Event<;>simp [h1,h2,h3,h4,h5,h6,h7,h8,hi0]
    ·have h7' : ¬ x.From=y.From:=fun e=>h7 e.symm;simp [h1,h2,h3,h4,h5,h6,h7,hi0,h7']
   ·obtain rfl:i=0:=by omega
    simp [h1,h2,h3,h4,h5,Qpe]
  ·simp [h1,h2,h3,h4,h5]
 ·intro k;unfold letJ;simp [Qkx]
theorem Q5y {a:Qa} (h:small a):Qd1 a=some (Qo7 a):=by
 unfold Qd1 Qr Qo7;rw [Q21 h.1,Q21 h.2.1,Q5x h];simp only [Option.bind_some];by_cases h1:Qde 32 none a.zO=0
 ·by_cases h2:a.zS<0
  ·simp [h1,h2]
  by_cases h3:a.zS>4096
  ·simp [h1,h2,h3]
  by_cases h4:Qde a.zS none a.zP=0<;>simp [h1,h2,h3,h4]
 ·simp [h1]
end Go.Abs
end
section
namespace Go.Abs
open Go
def Qjb (x y:Qc):Prop:=x.From<y.From∨x.From=y.From∧x.Event<y.Event
instance (x y:Qc):Decidable (Qjb x y):=by unfold Qjb;infer_instance
structure Right (a:Qa):Prop where
 al0:∀ x∈a.zO,0≤x∧x<32
 al:a.zO.Pairwise (· < ·)
 st:0≤a.zS∧a.zS≤4096
 ma0:∀ x∈a.zP,0≤x∧x<a.zS
 ma:a.zP.Pairwise (· < ·)
 ed0:∀ x∈a.zQ,0≤x.From∧x.From<a.zS∧0≤x.To∧x.To<a.zS∧x.Event∈a.zO
 ed:a.zQ.Pairwise Qjb
theorem Qib {n:Int}:∀ {l:List Int} {p:Option Int},Qde n p l=0↔(∀ x∈l,0≤x∧x<n)∧l.Pairwise (· < ·)∧∀ y,p=some y→∀ x∈l,y<x
 | [],p=>by simp [Qde]
 | x::xs,p=>by
  rw [Qde];split
  ·rename_i h;refine ⟨fun h=>by omega,fun hh=>?_⟩;have:=hh.1 x (by simp);omega
  ·rename_i h;split
   ·rename_i h2;obtain ⟨y,hy,hxy⟩:=h2;refine ⟨fun h=>by omega,fun hh=>?_⟩;have:=hh.2.2 y hy x (by simp);omega
   ·rename_i h2;rw [Qib];constructor
    ·rintro ⟨k1,k2,k3⟩;refine ⟨fun z hz=>?_,List.pairwise_cons.2 ⟨fun z hz=>k3 x rfl z hz,k2⟩,fun y hy z hz=>?_⟩
     ·rcases List.mem_cons.1 hz with rfl|hz
      ·omega
      ·exact k1 z hz
     ·have hyx:y<x:=by
       rcases Int.lt_or_le y x with h|h
       ·exact h
       ·exact absurd ⟨y,hy,h⟩ h2
      rcases List.mem_cons.1 hz with rfl|hz
      ·exact hyx
      ·have:=k3 x rfl z hz;omega
    ·rintro ⟨k1,k2,k3⟩;obtain ⟨k4,k5⟩:=List.pairwise_cons.1 k2;exact ⟨fun z hz=>k1 z (by simp [hz]),k5,fun y hy z hz=>by cases hy;exact k4 z hz⟩
theorem Qtn {al:List Int} {n:Int}:∀ {l:List Qc} {p:Option Qc},Qkx al n p l=0↔(∀ x∈l,0≤x.From∧x.From<n∧0≤x.To∧x.To<n∧x.Event∈al)∧l.Pairwise Qjb∧∀ y,p=some y→∀ x∈l,Qjb y x
 | [],p=>by simp [Qkx]
 | x::xs,p=>by
  have tr:∀ a b c:Qc,Qjb a b→Qjb b c→Qjb a c:=fun a b c h k=>by unfold Qjb at *;omega
  rw [Qkx];split
  ·rename_i h;refine ⟨fun h=>by omega,fun hh=>?_⟩;have:=hh.1 x (by simp);omega
  ·rename_i h;split
   ·rename_i h2;refine ⟨fun h=>by omega,fun hh=>?_⟩;exact absurd (hh.1 x (by simp)).2.2.2.2 h2
   ·rename_i hal;split
    ·rename_i h2;obtain ⟨y,hy,hxy⟩:=h2;refine ⟨fun h=>by omega,fun hh=>?_⟩;have:=hh.2.2 y hy x (by simp);unfold Qjb at this;omega
    ·rename_i h2;rw [Qtn];constructor
     ·rintro ⟨k1,k2,k3⟩;refine ⟨fun z hz=>?_,List.pairwise_cons.2 ⟨fun z hz=>k3 x rfl z hz,k2⟩,fun y hy z hz=>?_⟩
      ·rcases List.mem_cons.1 hz with rfl|hz
       ·exact ⟨by omega,by omega,by omega,by omega,Decidable.not_not.1 hal⟩
       ·exact k1 z hz
      ·have hyx:Qjb y x:=by
        apply Decidable.byContradiction;intro h;exact h2 ⟨y,hy,by unfold Qjb at h;omega⟩
       rcases List.mem_cons.1 hz with rfl|hz
       ·exact hyx
       ·exact tr _ _ _ hyx (k3 x rfl z hz)
     ·rintro ⟨k1,k2,k3⟩;obtain ⟨k4,k5⟩:=List.pairwise_cons.1 k2;exact ⟨fun z hz=>k1 z (by simp [hz]),k5,fun y hy z hz=>by cases hy;exact k4 z hz⟩
theorem Qvq {a:Qa}:Qo7 a=0↔Right a:=by
 unfold Qo7;constructor
 ·intro h;split at h
  ·rename_i h1;exact absurd h h1
  rename_i h1;split at h
  ·omega
  split at h
  ·omega
  split at h
  ·rename_i h4;exact absurd h h4
  rename_i h4;have q1:=Qib.1 (Decidable.not_not.1 h1);have q2:=Qib.1 (Decidable.not_not.1 h4);have q3:=Qtn.1 h;exact ⟨q1.1,q1.2.1,⟨by omega,by omega⟩,q2.1,q2.2.1,q3.1,q3.2.1⟩
 ·intro h;have q1:Qde 32 none a.zO=0:=Qib.2 ⟨h.al0,h.al,fun y hy=>by cases hy⟩;have q2:Qde a.zS none a.zP=0:=Qib.2 ⟨h.ma0,h.ma,fun y hy=>by cases hy⟩;have q3:Qkx a.zO a.zS none a.zQ=0:=Qtn.2 ⟨h.ed0,h.ed,fun y hy=>by cases hy⟩;have:=h.st;rw [if_neg (by simp [q1]),if_neg (by omega),if_neg (by omega),if_neg (by simp [q2]),q3]
def outP (a:Qa) (s:Int):List Qc:=a.zQ.filter fun x=>x.From==s
def Qdl (a:Qa) (s e:Int):Int:=match a.zQ.find? fun x=>x.From==s&&x.Event==e with
 | some x=>x.To
 | none=>-1
theorem Qber {l:List Qc} (h:l.Pairwise Qjb) (s:Int):l.Pairwise fun a b=>decide (b.From<s)=true→decide (a.From<s)=true :=
 h.imp fun h=>by unfold Qjb at h;simp;omega
theorem Qbh7 {l:List Qc} {s:Int} {cmp:Qc→Int→Option Int} (hcmp:∀ x∈l,cmp x s=some (x.From-s)) (hs:l.Pairwise Qjb) (hl:l.length<big) :
  ∃ b,Qed l s cmp=some (((l.filter fun x=>decide (x.From<s)).length:Int),b):=by
 have hc:=fun n h=>Qz6 (p:=fun x:Qc=>decide (x.From<s)) (Qber hs s) n h;have hcl:(l.filter fun x=>decide (x.From<s)).length≤l.length:=List.length_filter_le _ _;generalize (l.filter fun x=>decide (x.From<s)).length=c at hc hcl;have hb:l.length<1000000000000:=hl;unfold Qed Qbg;have hloop:=Qfj (F:=fun (k13:Int×Int→Option Int) ((i11,j12):Int×Int)=>(if (i11<j12) then ((getO l (IntKind.wrap .i64 (Int.fdiv (IntKind.wrap .u64 (IntKind.wrap .i64 (i11+j12))) (2 ^ (min (Int.toNat 1) (IntKind.bits .u64)))))).bind fun x15=>((cmp x15 s).bind fun x18=>(if (x18<0) then k13 ((IntKind.wrap .i64 ((IntKind.wrap .i64 (Int.fdiv (IntKind.wrap .u64 (IntKind.wrap .i64 (i11+j12))) (2 ^ (min (Int.toNat 1) (IntKind.bits .u64)))))+1)),j12) else k13 (i11,(IntKind.wrap .i64 (Int.fdiv (IntKind.wrap .u64 (IntKind.wrap .i64 (i11+j12))) (2 ^ (min (Int.toNat 1) (IntKind.bits .u64))))))))) else some i11))
  (fun x=>∃ i j:Nat,x=((i:Int),(j:Int))∧i≤c∧c≤j∧j≤l.length) (fun x=>(x.2-x.1).toNat) (fun _ r=>r=some (c:Int)) (by
   rintro k _ ⟨i,j,rfl,h1,h2,h3⟩ ih;dsimp only;by_cases hij:i<j
   ·rw [if_pos (by omega),Qbh5 (by omega) (by omega)];have hm:(i+j) / 2<l.length:=by omega
    rw [Qx hm];simp only [Option.bind_some];rw [hcmp _ (List.getElem_mem hm)];simp only [Option.bind_some];have hcm:=hc ((i+j) / 2) hm;by_cases hlt:l[(i+j) / 2].From<s
    ·rw [if_pos (by omega),Qbq (by omega)];have:(i+j) / 2<c:=hcm.1 (by simpa using hlt);exact ih _ ⟨_,_,rfl,by omega,h2,h3⟩ (by simp only;omega)
    ·rw [if_neg (by omega)];have:¬ (i+j) / 2<c:=fun h=>hlt (by simpa using hcm.2 h);exact ih _ ⟨_,_,rfl,h1,by omega,by omega⟩ (by simp only;omega)
   ·rw [if_neg (by omega)];have:i=c:=by omega
    rw [this]) Qbb (0,(l.length:Int)) ⟨0,l.length,rfl,by omega,hcl,Nat.le_refl _⟩ (by unfold Qbb;simp only;omega)
 rw [hloop];simp only [Option.bind_some];by_cases hlt:c<l.length
 ·rw [if_pos (by omega),Qx hlt];simp only [Option.bind_some];rw [hcmp _ (List.getElem_mem hlt)];exact ⟨_,rfl⟩
 ·rw [if_neg (by omega)];exact ⟨_,rfl⟩
theorem Q7t:∀ {l:List Qc} (s:Int),l.Pairwise Qjb→(l.take (l.filter fun x=>decide (x.From<s+1)).length).drop (l.filter fun x=>decide (x.From<s)).length=l.filter fun x=>x.From==s
 | [],s,_=>by simp
 | x::xs,s,h=>by
  obtain ⟨h1,h2⟩:=List.pairwise_cons.1 h;have ih:=Q7t s h2;have hge:∀ y∈xs,x.From≤y.From:=fun y hy=>by have:=h1 y hy;unfold Qjb at this;omega
  by_cases hx:x.From<s
  ·have e1:decide (x.From<s)=true:=by simpa using hx
   have e2:decide (x.From<s+1)=true:=by simp;omega
   have e3:(x.From==s)=false:=by simp;omega
   simp only [List.filter_cons,e1,e2,e3,if_true,List.length_cons,List.take_succ_cons,List.drop_succ_cons,Bool.false_eq_true,if_false];exact ih
  ·have hz:xs.filter (fun x=>decide (x.From<s))=[]:=List.filter_eq_nil_iff.2 fun y hy=>by have:=hge y hy;simp;omega
   have e1:decide (x.From<s)=false:=by simpa using hx
   by_cases hq:x.From=s
   ·have e2:decide (x.From<s+1)=true:=by simp;omega
    have e3:(x.From==s)=true:=by simp [hq]
    simp only [List.filter_cons,e1,e2,e3,if_true,List.length_cons,List.take_succ_cons,Bool.false_eq_true,if_false,hz,List.length_nil,List.drop_zero];rw [hz,List.length_nil,List.drop_zero] at ih;rw [ih]
   ·have e2:decide (x.From<s+1)=false:=by simp;omega
    have e3:(x.From==s)=false:=by simp [hq]
    have hz1:xs.filter (fun x=>decide (x.From<s+1))=[]:=List.filter_eq_nil_iff.2 fun y hy=>by have:=hge y hy;simp;omega
    have hz2:xs.filter (fun x=>x.From==s)=[]:=List.filter_eq_nil_iff.2 fun y hy=>by have:=hge y hy;simp;omega
    simp only [List.filter_cons,e1,e2,e3,Bool.false_eq_true,if_false,hz,hz1,hz2,List.length_nil,List.take_zero,List.drop_zero]
section
variable {a:Qa} (h:Right a) (hs:small a)
include h hs
theorem Qbes {s:Int} (h0 : -1000000000000<s) (h1:s<1000000000000):Qfz a s=some (outP a s):=by
 unfold Qfz Qbs;have hst:=h.st;have hw:∀ t:Int,-1000000000002<t→t<1000000000002→∀ x∈a.zQ,IntKind.wrap .i64 (x.From-t)=x.From-t:=fun t k1 k2 x hx=>by
  have:=h.ed0 x hx;exact Qh3 (by omega) (by omega)
 have e1:IntKind.wrap .i64 (s+1)=s+1:=Qh3 (by omega) (by omega);obtain ⟨b1,k1⟩:=Qbh7 (s:=s) (cmp:=Qj9) (fun x hx=>by unfold Qj9 Qen;rw [hw s (by omega) (by omega) x hx]) h.ed hs.2.2;obtain ⟨b2,k2⟩:=Qbh7 (s:=s+1) (cmp:=Qka) (fun x hx=>by unfold Qka Qeo;rw [hw (s+1) (by omega) (by omega) x hx]) h.ed hs.2.2;rw [k1,e1];simp only [Option.bind_some];rw [k2];simp only [Option.bind_some];have hle:(a.zQ.filter fun x=>decide (x.From<s)).length≤(a.zQ.filter fun x=>decide (x.From<s+1)).length :=
  by rw [← List.countP_eq_length_filter,← List.countP_eq_length_filter];exact List.countP_mono_left fun x _ hx=>by simp at hx ⊢;omega
 rw [Q5v hle (List.length_filter_le _ _),Q7t s h.ed]
 rfl
theorem Qbjg {s e:Int} (h0 : -1000000000000<s) (h1:s<1000000000000):Qkw a s e=some (Qdl a s e):=by
 unfold Qkw Qe6;rw [Qbes h hs h0 h1];simp only [Option.bind_some];have hl:(outP a s).length<big:=Nat.lt_of_le_of_lt (List.length_filter_le _ _) hs.2.2;have hf:Qdl a s e=match (outP a s).find? (fun x=>x.Event==e) with|some x=>x.To|none=>-1:=by
  unfold Qdl outP;rw [List.find?_filter];have:(fun x:Qc=>decide ((x.From==s)=true∧(x.Event==e)=true))=fun x=>x.From==s&&x.Event==e:=by
   funext x;rw [Bool.eq_iff_iff];simp
  rw [this]
 rw [hf];generalize outP a s=l at hl;have hi:Qd2 l (fun a6=>Qjj a6 e)=some (if ∃ x∈l,x.Event=e then (l.findIdx (fun x=>x.Event==e):Int) else -1):=by
  have hb:l.length<1000000000000:=hl;unfold Qd2 Q6;refine (Qkt (len:=l.length) (fun k=>some (if ∃ x∈l.drop k,x.Event=e then ((k+(l.drop k).findIdx (fun x=>x.Event==e):Nat):Int) else -1)) (by unfold Qbb;omega) ?_ ?_).trans (by simp)
  ·intro k i hi ih;rw [if_pos (by omega),Qx hi,Qbq (by omega),ih,List.drop_eq_getElem_cons hi];simp only [Option.bind_some,Qjj,Qd8,List.findIdx_cons];by_cases hx:l[i].Event=e
   ·have hxb:(l[i].Event==e)=true:=by simp [hx]
    have hz:∃ x∈l[i]::l.drop (i+1),x.Event=e:=⟨l[i],List.mem_cons_self,hx⟩;simp only [hxb,if_true,if_pos hz,cond_true];rfl
   ·have hxb:(l[i].Event==e)=false:=by simp [hx]
    by_cases hy:∃ x∈l.drop (i+1),x.Event=e
    ·have hz:∃ x∈l[i]::l.drop (i+1),x.Event=e:=by obtain ⟨x,k1,k2⟩:=hy;exact ⟨x,List.mem_cons_of_mem _ k1,k2⟩
     simp only [hxb,Bool.false_eq_true,if_false,if_pos hy,if_pos hz,cond_false];have:∀ n:Nat,i+1+n=i+(n+1):=fun n=>by omega
     rw [this]
    ·have hz:¬ ∃ x∈l[i]::l.drop (i+1),x.Event=e:=by
      rintro ⟨x,k1,k2⟩;rcases List.mem_cons.1 k1 with rfl|k1
      ·exact hx k2
      ·exact hy ⟨x,k1,k2⟩
     simp only [hxb,Bool.false_eq_true,if_false,if_neg hy,if_neg hz,cond_false]
  ·intro k;simp
 rw [hi];simp only [Option.bind_some];by_cases hx:∃ x∈l,x.Event=e
 ·rw [if_pos hx,if_neg (by omega)];have hlt:l.findIdx (fun x=>x.Event==e)<l.length:=by
   rw [List.findIdx_lt_length];obtain ⟨x,k1,k2⟩:=hx;exact ⟨x,k1,by simp [k2]⟩
  rw [Qx hlt];simp only [Option.bind_some];rw [show l.find? (fun x=>x.Event==e)=some l[l.findIdx (fun x=>x.Event==e)] from by
   rw [List.find?_eq_some_iff_getElem];refine ⟨List.findIdx_getElem (w:=hlt),_,hlt,rfl,fun j hj=>?_⟩;have:=List.not_of_lt_findIdx hj;simpa using this]
 ·rw [if_neg hx,if_pos (by omega)];rw [show l.find? (fun x=>x.Event==e)=none from List.find?_eq_none.2 fun x hx' hy=>hx ⟨x,hx',by simpa using hy⟩]
omit h in
theorem Q4l {s e:Int}:Qcx a s e=some (Qdl a s e):=by
 have hb:a.zQ.length<1000000000000:=hs.2.2;unfold Qcx Qbo;refine (Qkt (len:=a.zQ.length) (fun k=>some (match (a.zQ.drop k).find? (fun x=>x.From==s&&x.Event==e) with|some x=>x.To|none=>-1)) (by unfold Qbb;omega) ?_ ?_).trans (by simp [Qdl])
 ·intro k i hi ih;rw [if_pos (by omega),Qx hi,Qbq (by omega),ih,List.drop_eq_getElem_cons hi];simp only [Option.bind_some,List.find?_cons];cases h1:a.zQ[i].From==s<;>cases h2:a.zQ[i].Event==e<;>simp [h1,h2]
 ·intro k;simp
end
theorem Qqa {a:Qa} (h:Right a) (s e:Int):Qdl a s e = -1∨0≤Qdl a s e∧Qdl a s e<a.zS∧0≤s∧s<a.zS∧e∈a.zO:=by
 unfold Qdl;split
 ·rename_i x hx;have hm:=List.mem_of_find?_eq_some hx;have hp:=List.find?_some hx;obtain ⟨k1,k2,k3,k4,k5⟩:=h.ed0 x hm;simp at hp;exact .inr ⟨k3,k4,by omega,by omega,hp.2 ▸ k5⟩
 ·exact .inl rfl
theorem Qvr {a:Qa} (h:Right a) {s e:Int}:0≤Qdl a s e↔∃ x∈outP a s,x.Event=e:=by
 unfold Qdl outP;split
 ·rename_i x hx;have hm:=List.mem_of_find?_eq_some hx;have hp:=List.find?_some hx;simp at hp;refine ⟨fun _=>⟨x,by simp [hm,hp.1],hp.2⟩,fun _=>(h.ed0 x hm).2.2.1⟩
 ·rename_i hx;have:=List.find?_eq_none.1 hx;refine ⟨fun h=>by omega,?_⟩;rintro ⟨x,h1,h2⟩;simp at h1;exact absurd (by simp [h1.2,h2]) (this x h1.1)
theorem Qqb {a:Qa} (h:Right a) (s:Int):(outP a s).map (·.Event)=a.zO.filter fun e=>decide (0≤Qdl a s e):=by
 refine Qz5 ?_ (h.al.filter _) fun e=>?_
 ·rw [List.pairwise_map];have h1:(outP a s).Pairwise Qjb:=h.ed.filter _;have h2:∀ x∈outP a s,x.From=s:=fun x hx=>by unfold outP at hx;simp at hx;exact hx.2
  exact List.Pairwise.imp_of_mem (fun {x y} hx hy hk=>by have:=h2 x hx;have:=h2 y hy;unfold Qjb at hk;omega) h1
 ·simp only [List.mem_map,List.mem_filter,decide_eq_true_eq,Qvr h];constructor
  ·rintro ⟨x,hx,rfl⟩;refine ⟨?_,x,hx,rfl⟩;unfold outP at hx;simp at hx;exact (h.ed0 x hx.1).2.2.2.2
  ·rintro ⟨_,x,hx,rfl⟩;exact ⟨x,hx,rfl⟩
theorem Qyz {a:Qa} (h:Right a) {s:Int} {x:Qc} (hx:x∈outP a s):Qdl a s x.Event=x.To:=by
 unfold outP at hx;simp at hx;unfold Qdl;split
 ·rename_i y hy;have hm:=List.mem_of_find?_eq_some hy;have hp:=List.find?_some hy;simp at hp;have:x=y:=by
   rcases Classical.em (x=y) with e|hne
   ·exact e
   ·exfalso;have hk:Qjb x y∨Qjb y x:=by
     have:=List.pairwise_iff_getElem.1 h.ed;obtain ⟨i,hi,rfl⟩:=List.getElem_of_mem hx.1;obtain ⟨j,hj,rfl⟩:=List.getElem_of_mem hm;rcases Nat.lt_trichotomy i j with hij|hij|hij
     ·exact .inl (this i j hi hj hij)
     ·subst hij;exact absurd rfl hne
     ·exact .inr (this j i hj hi hij)
    unfold Qjb at hk;omega
  rw [this]
 ·rename_i hn;exact absurd (by simp [hx.2]) (List.find?_eq_none.1 hn x hx.1)
end Go.Abs
end
section
namespace Go.Abs
open Go
theorem Right.small {a:Qa} (h:Right a):small a∧a.zO.length≤32∧a.zP.length≤4096∧a.zQ.length≤131072:=by
 have h1:=Qh4 h.al h.al0;have h2:=Qh4 h.ma h.ma0;have h3:(a.zQ.map fun x=>x.From*32+x.Event).Pairwise (· < ·):=by
  rw [List.pairwise_map];refine List.Pairwise.imp_of_mem (fun {x y} hx hy hk=>?_) h.ed;have:=h.al0 _ (h.ed0 x hx).2.2.2.2;have:=h.al0 _ (h.ed0 y hy).2.2.2.2;unfold Qjb at hk;omega
 have h4:=Qh4 (a:=0) (b:=131072) h3 (by
  intro z hz;obtain ⟨x,hx,rfl⟩:=List.mem_map.1 hz;have:=h.al0 _ (h.ed0 x hx).2.2.2.2;have:=h.ed0 x hx;have:=h.st;omega)
 rw [List.length_map] at h4;have:=h.st;refine ⟨⟨?_,?_,?_⟩,?_,?_,?_⟩<;>(try unfold big)<;>omega
theorem Qxx {a:Qa} (h:Right a):Qd1 a=some 0:=by rw [Q5y h.small.1,Qvq.2 h]
theorem Qy0 {a:Qa} (h:Right a) (s:Int):Qfc a s=some (if 0≤s∧s<a.zS then 0 else 2):=by
 unfold Qfc Qbd;rw [Qxx h];by_cases h1:s<0
 ·simp [h1];omega
 ·by_cases h2:s≥a.zS
  ·simp [h1,h2]
  ·simp [h1,h2]
theorem Qbjh {a:Qa} (h:Right a) (s e:Int):Qiw a s e=some (if 0≤s∧s<a.zS then (if e∈a.zO then (if 0≤Qdl a s e then (Qdl a s e,true,0) else (0,false,0)) else (0,false,9)) else (0,false,2)):=by
 unfold Qiw Qe7;have hs:=h.small.1;have hst:=h.st;rw [Qy0 h];by_cases h1:0≤s∧s<a.zS
 ·rw [Qbjg h hs (by omega) (by omega),Qp9 hs.1];by_cases h2:e∈a.zO
  ·by_cases h3:0≤Qdl a s e<;>simp [h1,h2,h3]
  ·simp [h1,h2]
 ·simp [h1]
theorem Qbb2 {α β:Type} {l:List α} {f:α→β} {fuel:Nat} (hl:l.length<big) (hf:l.length<fuel) {F:(List β×Int→Option (List β))→List β×Int→Option (List β)}
  (hF:∀ (k:List β×Int→Option (List β)) (acc:List β) (n:Nat) (h:n<l.length),F k (acc,(n:Int))=(appO acc [f l[n]]).bind fun x=>k (x,IntKind.wrap .i64 ((n:Int)+1)))
  (hlast:∀ (k:List β×Int→Option (List β)) (acc:List β),F k (acc,(l.length:Int))=some acc):Qbi F fuel ([],0)=some (l.map f):=by
 have hb:l.length<1000000000000:=hl;refine (Qix (len:=l.length) (fun n (acc:List β)=>(acc,(n:Int))) (fun n acc=>acc.length≤n) (fun n acc=>some (acc++(l.drop n).map f)) ?_ ?_ fuel 0 [] (Nat.zero_le _) (by omega) (Nat.le_refl _)).trans (by simp)
 ·intro k n acc hn hi ih;rw [hF k acc n hn,Q3 (by simp only [List.length_cons,List.length_nil];unfold lim;omega),Option.bind_some,Qbq (by omega),ih _ (by simp;omega),List.drop_eq_getElem_cons hn];simp only [List.map_cons,List.append_assoc,List.cons_append,List.nil_append]
 ·intro k acc _;rw [hlast];simp
theorem Qy1 {α β:Type} {l:List α} {f:α→Option β} {fuel:Nat} (hl:l.length<big) (hf:l.length<fuel) {F:(List β×Int→Option (List β))→List β×Int→Option (List β)}
  (hF:∀ (k:List β×Int→Option (List β)) (acc:List β) (n:Nat) (h:n<l.length),acc.length≤n→F k (acc,(n:Int))=k (acc++(f l[n]).toList,IntKind.wrap .i64 ((n:Int)+1)))
  (hlast:∀ (k:List β×Int→Option (List β)) (acc:List β),F k (acc,(l.length:Int))=some acc):Qbi F fuel ([],0)=some (l.filterMap f):=by
 have hb:l.length<1000000000000:=hl;refine (Qix (len:=l.length) (fun n (acc:List β)=>(acc,(n:Int))) (fun n acc=>acc.length≤n) (fun n acc=>some (acc++(l.drop n).filterMap f)) ?_ ?_ fuel 0 [] (Nat.zero_le _) (by omega) (Nat.le_refl _)).trans (by simp)
 ·intro k n acc hn hi ih;have hlen:(f l[n]).toList.length≤1:=by cases f l[n]<;>simp
  rw [hF k acc n hn hi,Qbq (by omega),ih _ (by simp only [List.length_append];omega),List.drop_eq_getElem_cons hn];rw [List.filterMap_cons];cases f l[n]<;>simp only [Option.toList_none,Option.toList_some,List.append_nil,List.append_assoc,List.cons_append,List.nil_append]
 ·intro k acc _;rw [hlast];simp
theorem Qbb3 {a:Qa} (h:Right a) (s:Int):Qii a s=some (if 0≤s∧s<a.zS then ((outP a s).map (·.Event),0) else ([],2)):=by
 unfold Qii Qdu;obtain ⟨fuel,hfu,hge⟩ : ∃ f,Qbb=f∧1099511627776≤f:=⟨_,rfl,Nat.le_refl _⟩;rw [hfu];have hs:=h.small.1;have hst:=h.st;rw [Qy0 h];by_cases h1:0≤s∧s<a.zS
 ·rw [Qbes h hs (by omega) (by omega)];have hl:(outP a s).length<big:=Nat.lt_of_le_of_lt (List.length_filter_le _ _) hs.2.2;have hb:(outP a s).length<1000000000000:=hl;simp only [Option.bind_some,if_pos h1];rw [if_neg (by simp),Qbb2 (l:=outP a s) (f:=(·.Event)) hl (by omega) (fun k acc n hn=>by dsimp only;rw [if_pos (by omega),Qx hn];rfl) (fun k acc=>by dsimp only;rw [if_neg (by omega)])]
  rfl
 ·simp [h1]
end Go.Abs
end
section
namespace Go.Abs
open Go
def runP (a:Qa):Int→Nat→List Int→Int×Int
 | s,n,[]=>(s,n)
 | s,n,e::w=>if 0≤Qdl a s e then runP a (Qdl a s e) (n+1) w else (s,n)
section
variable {a:Qa} (h:Right a)
include h
end
end Go.Abs
end
section
namespace Go.Abs
open Go
def ins (o:List Int) (t:Int):List Int:=if t∈o then o else o++[t]
def Q02 (a:Qa) (s:Int):List Int:=(outP a s).map (·.To)
def bfs (a:Qa):Nat→Nat→List Int→List Int
 | 0,_,o=>o
 | fuel+1,i,o=>match o[i]? with
  | some s=>bfs a fuel (i+1) ((Q02 a s).foldl ins o)
  | none=>o
def Qq2 (a:Qa):List Int:=bfs a (a.zS.toNat+1) 0 (if 0<a.zS then [0] else [])
structure Fnd (a:Qa) (o:List Int):Prop where
 nd:o.Nodup
 rg:∀ s∈o,0≤s∧s<a.zS
theorem Fnd.len {a:Qa} {o:List Int} (h:Fnd a o):o.length≤a.zS.toNat:=by
 have hO:Go.Sort.SWO Qhd:=⟨fun x=>by simp [Qhd],fun x y z h1 h2=>by simp [Qhd] at *;omega,fun x y z h1 h2=>by simp [Qhd] at *;omega⟩;have hp:=Qj1 Qhd o;have hs:=Qly hO o;have hn:(Qla Qhd o).Nodup:=(hp.nodup_iff).2 h.nd;have hlt:(Qla Qhd o).Pairwise (· < ·):=by
  have:(Qla Qhd o).Pairwise fun x y=>Qhd y x=false∧x≠y:=hs.and hn;exact this.imp fun ⟨h1,h2⟩=>by simp [Qhd] at h1;omega
 have:=Qh4 hlt (a:=0) (b:=a.zS) fun x hx=>h.rg x (hp.mem_iff.1 hx);rw [Qlx] at this;simpa using this
theorem Q9c {o:List Int} {t x:Int}:x∈ins o t↔x∈o∨x=t:=by
 unfold ins;split
 ·rename_i h;constructor
  ·exact .inl
  ·rintro (h'|rfl)
   ·exact h'
   ·exact h
 ·simp
theorem Qbet (o:List Int) (t:Int):o <+: ins o t:=by
 unfold ins;split
 ·exact List.prefix_refl o
 ·exact List.prefix_append o [t]
theorem Fnd.ins {a:Qa} {o:List Int} (h:Fnd a o) {t:Int} (ht:0≤t∧t<a.zS):Fnd a (ins o t):=by
 refine ⟨?_,fun s hs=>?_⟩
 ·unfold Go.Abs.ins;split
  ·exact h.nd
  ·rename_i hn;rw [List.nodup_append];exact ⟨h.nd,by simp,fun x hx y hy=>by simp at hy;subst hy;exact fun e=>hn (e ▸ hx)⟩
 ·rcases Q9c.1 hs with hs|rfl
  ·exact h.rg s hs
  ·exact ht
theorem Q22 {a:Qa}:∀ {ts o:List Int},Fnd a o→(∀ t∈ts,0≤t∧t<a.zS)→Fnd a (ts.foldl ins o)∧o <+: ts.foldl ins o∧(∀ t∈ts,t∈ts.foldl ins o)∧∀ x∈ts.foldl ins o,x∈o∨x∈ts
 | [],o,h,_=>⟨h,List.prefix_refl o,by simp,fun x hx=>.inl hx⟩
 | t::ts,o,h,ht=>by
  obtain ⟨h1,h2,h3,h4⟩:=Q22 (ts:=ts) (h.ins (ht t (by simp))) fun t ht'=>ht t (by simp [ht']);refine ⟨h1,(Qbet o t).trans h2,fun x hx=>?_,fun x hx=>?_⟩
  ·rcases List.mem_cons.1 hx with rfl|hx
   ·exact h2.subset (Q9c.2 (.inr rfl))
   ·exact h3 x hx
  ·rcases h4 x hx with h5|h5
   ·rcases Q9c.1 h5 with h6|rfl
    ·exact .inl h6
    ·exact .inr (by simp)
   ·exact .inr (by simp [h5])
theorem Q23 {a:Qa} (h:Right a) (s:Int):∀ t∈Q02 a s,0≤t∧t<a.zS:=by
 intro t ht;unfold Q02 outP at ht;obtain ⟨x,hx,rfl⟩:=List.mem_map.1 ht;have:=h.ed0 x ((List.mem_filter.1 hx).1);omega
theorem Qv8 {α:Type} {l m:List α} (h:l <+: m) {i:Nat} {x:α} (hx:l[i]? = some x):m[i]? = some x:=by
 obtain ⟨t,rfl⟩:=h;have:=(List.getElem?_eq_some_iff.1 hx).1;rw [List.getElem?_append_left this];exact hx
theorem Qbav {a:Qa} (h:Right a):∀ (fuel i:Nat) (o:List Int),Fnd a o→i≤o.length→a.zS.toNat+1≤fuel+i→(∀ j s,j<i→o[j]? = some s→∀ t∈Q02 a s,t∈o) →
  Fnd a (bfs a fuel i o)∧o <+: bfs a fuel i o∧∀ s∈bfs a fuel i o,∀ t∈Q02 a s,t∈bfs a fuel i o
 | 0,i,o,hf,hi,hfu,_=>by have:=hf.len;omega
 | fuel+1,i,o,hf,hi,hfu,hc=>by
  unfold bfs;cases hg:o[i]? with
  | none =>
   dsimp only;refine ⟨hf,List.prefix_refl o,fun s hs t ht=>?_⟩;obtain ⟨j,hj⟩:=List.getElem?_of_mem hs;have hlt:=(List.getElem?_eq_some_iff.1 hj).1;exact hc j s (by have:=List.getElem?_eq_none_iff.1 hg;omega) hj t ht
  | some s =>
   dsimp only;obtain ⟨h1,h2,h3,_⟩:=Q22 hf (Q23 h s);have hlen:i<o.length:=(List.getElem?_eq_some_iff.1 hg).1;have hle:=h2.length_le;obtain ⟨k1,k2,k3⟩:=Qbav h fuel (i+1) ((Q02 a s).foldl ins o) h1 (by omega) (by omega) (fun j s' hj hs' t ht=>by
    by_cases hji:j<i
    ·have hjl:j<o.length:=by omega
     have:o[j]? = some s':=by
      have:=Qv8 h2 (List.getElem?_eq_getElem hjl);rw [hs'] at this;rw [List.getElem?_eq_getElem hjl];exact this.symm
     exact h2.subset (hc j s' hji this t ht)
    ·obtain rfl:j=i:=by omega
     have:=Qv8 h2 hg;rw [hs'] at this;cases this;exact h3 t ht)
   exact ⟨k1,h2.trans k2,k3⟩
theorem Qz7 {a:Qa} (h:Right a):Fnd a (Qq2 a)∧(if 0<a.zS then [0] else []) <+: Qq2 a∧∀ s∈Qq2 a,∀ t∈Q02 a s,t∈Qq2 a :=
 Qbav h _ 0 _ ⟨by split<;>simp,fun s hs=>by split at hs<;>simp at hs;subst hs;omega⟩ (Nat.zero_le _) (by omega) fun j s hj=>by omega
def Qwz (m:List Int):Nat→List Int→List Int
 | _,[]=>[]
 | i,s::t=>(if s∈m then [(i:Int)] else [])++Qwz m (i+1) t
def rowP (a:Qa) (F:List Int) (i:Nat) (s:Int):List Qc:=(outP a s).map fun x=>⟨(i:Int),x.Event,(F.idxOf x.To:Int)⟩
def Qw0 (a:Qa) (F:List Int):Nat→List Int→List Qc
 | _,[]=>[]
 | i,s::t=>rowP a F i s++Qw0 a F (i+1) t
def Qt0 (a:Qa):Qa:=⟨a.zO,((Qq2 a).length:Int),Qwz a.zP 0 (Qq2 a),Qw0 a (Qq2 a) 0 (Qq2 a)⟩
theorem Qvs {m:List Int}:∀ {l:List Int} {i:Nat},∀ x∈Qwz m i l,(i:Int)≤x∧x<(i+l.length:Nat)
 | [],i,x,hx=>by simp [Qwz] at hx
 | s::t,i,x,hx=>by
  simp only [Qwz,List.mem_append] at hx;rcases hx with hx|hx
  ·split at hx<;>simp at hx;subst hx;simp only [List.length_cons];omega
  ·have:=Qvs x hx;simp only [List.length_cons];omega
theorem Qy2 {m:List Int}:∀ {l:List Int} {i:Nat},(Qwz m i l).Pairwise (· < ·)
 | [],i=>.nil
 | s::t,i=>by
  simp only [Qwz];rw [List.pairwise_append];refine ⟨by split<;>simp,Qy2,fun x hx y hy=>?_⟩;have:=Qvs y hy;split at hx<;>simp at hx;omega
theorem Qxy {a:Qa} {F:List Int}:∀ {l:List Int} {i:Nat},∀ x∈Qw0 a F i l,(i:Int)≤x.From∧x.From<(i+l.length:Nat)∧∃ s∈l,∃ y∈outP a s,x.Event=y.Event∧x.To=(F.idxOf y.To:Int)
 | [],i,x,hx=>by simp [Qw0] at hx
 | s::t,i,x,hx=>by
  simp only [Qw0,List.mem_append] at hx;rcases hx with hx|hx
  ·obtain ⟨y,hy,rfl⟩:=List.mem_map.1 hx;simp only [List.length_cons];exact ⟨by omega,by omega,s,by simp,y,hy,rfl,rfl⟩
  ·obtain ⟨h1,h2,s',h3,h4⟩:=Qxy x hx;simp only [List.length_cons];exact ⟨by omega,by omega,s',by simp [h3],h4⟩
theorem Qy3 {a:Qa} (h:Right a) {F:List Int}:∀ {l:List Int} {i:Nat},(Qw0 a F i l).Pairwise Qjb
 | [],i=>.nil
 | s::t,i=>by
  simp only [Qw0];rw [List.pairwise_append];refine ⟨?_,Qy3 h,fun x hx y hy=>?_⟩
  ·unfold rowP;rw [List.pairwise_map];have h1:(outP a s).Pairwise Qjb:=h.ed.filter _;have h2:∀ x∈outP a s,x.From=s:=fun x hx=>by unfold outP at hx;simp at hx;exact hx.2
   exact List.Pairwise.imp_of_mem (fun {x y} hx hy hk=>by have:=h2 x hx;have:=h2 y hy;unfold Qjb at hk;exact .inr ⟨rfl,by show x.Event<y.Event;omega⟩) h1
  ·obtain ⟨z,_,rfl⟩:=List.mem_map.1 hx;have:=(Qxy y hy).1;unfold Qjb;simp only;omega
theorem Q7u {a:Qa} (h:Right a):Right (Qt0 a):=by
 obtain ⟨h1,h2,h3⟩:=Qz7 h;have hl:=h1.len;have hst:=h.st;refine ⟨h.al0,h.al,⟨by simp only [Qt0];omega,by simp only [Qt0];omega⟩,fun x hx=>?_,Qy2,fun x hx=>?_,Qy3 h⟩
 ·have:=Qvs x hx;simp only [Qt0];omega
 ·obtain ⟨k1,k2,s,hs,y,hy,k3,k4⟩:=Qxy x hx;have hy' : y.To∈Qq2 a:=h3 s hs y.To (List.mem_map.2 ⟨y,hy,rfl⟩);have:=List.idxOf_lt_length_iff.2 hy';simp only [Qt0];refine ⟨by omega,by omega,by omega,by omega,?_⟩;rw [k3];unfold outP at hy;exact (h.ed0 y ((List.mem_filter.1 hy).1)).2.2.2.2
end Go.Abs
end
section
namespace Go.Abs
open Go
section
variable {σ:Type} [BEq σ] [LawfulBEq σ]
def insG (o:List σ) (t:σ):List σ:=if t∈o then o else o++[t]
theorem Q5z {o:List σ} {t x:σ}:x∈insG o t↔x∈o∨x=t:=by
 unfold insG;split
 ·rename_i h;exact ⟨.inl,fun e=>e.elim id fun e=>by rw [e];exact h⟩
 ·simp
theorem Qbgv (o:List σ) (t:σ):o <+: insG o t:=by
 unfold insG;split
 ·exact List.prefix_refl o
 ·exact List.prefix_append o _
theorem Qbji {o:List σ} (h:o.Nodup) (t:σ):(insG o t).Nodup:=by
 unfold insG;split
 ·exact h
 ·rename_i hn;rw [List.nodup_append];exact ⟨h,by simp,fun x hx y hy e=>by simp at hy;subst hy;subst e;exact hn hx⟩
theorem Q50 {o F:List σ} (h:o <+: F) {t:σ} (ht:t∈o):F.idxOf t=o.idxOf t:=by
 obtain ⟨r,rfl⟩:=h;rw [List.idxOf_append,if_pos ht]
omit [BEq σ] [LawfulBEq σ] in
theorem Qy4 {o F:List σ} (h:o <+: F) {k:Nat} {s:σ} (hk:o[k]? = some s):F[k]? = some s:=by
 obtain ⟨r,rfl⟩:=h;rw [List.getElem?_append_left (List.getElem?_eq_some_iff.1 hk).1];exact hk
omit [BEq σ] [LawfulBEq σ] in
theorem Q24 {o F:List σ} (h:o <+: F) {k:Nat} (hk:k<o.length) {s:σ} (hs:F[k]? = some s):o[k]? = some s:=by
 obtain ⟨r,rfl⟩:=h;rw [List.getElem?_append_left hk] at hs;exact hs
def stG (i:Nat) (c:List σ×List Qc) (y:Int×σ):List σ×List Qc:=(insG c.1 y.2,c.2++[⟨(i:Int),y.1,((insG c.1 y.2).idxOf y.2:Int)⟩])
def bsG (row:σ→List (Int×σ)) (mk:σ→Bool):Nat→Nat→List σ→List Int→List Qc→List σ×List Int×List Qc
 | 0,_,st,ms,es=>(st,ms,es)
 | f+1,i,st,ms,es=>match st[i]? with
  | none=>(st,ms,es)
  | some s=>bsG row mk f (i+1) ((row s).foldl (stG i) (st,es)).1 (if mk s then ms++[(i:Int)] else ms) ((row s).foldl (stG i) (st,es)).2
theorem Qvt {i:Nat}:∀ (ys:List (Int×σ)) (c:List σ×List Qc),c.1 <+: (ys.foldl (stG i) c).1
 | [],c=>List.prefix_refl _
 | y::ys,c=>(Qbgv c.1 y.2).trans (Qvt ys (stG i c y))
theorem Qbaw {i:Nat}:∀ (ys:List (Int×σ)) (c:List σ×List Qc),c.1.Nodup→(ys.foldl (stG i) c).1.Nodup
 | [],c,h=>h
 | y::ys,c,h=>Qbaw ys (stG i c y) (Qbji h y.2)
theorem Q7v {i:Nat}:∀ (ys:List (Int×σ)) (c:List σ×List Qc),∀ y∈ys,y.2∈(ys.foldl (stG i) c).1
 | [],c,y,hy=>by cases hy
 | z::ys,c,y,hy=>by
  rcases List.mem_cons.1 hy with rfl|hy
  ·exact (Qvt ys (stG i c y)).subset (Q5z.2 (.inr rfl))
  ·exact Q7v ys _ y hy
theorem Q7w {i:Nat} {P:σ→Prop}:∀ (ys:List (Int×σ)) (c:List σ×List Qc),(∀ x∈c.1,P x)→(∀ y∈ys,P y.2)→∀ x∈(ys.foldl (stG i) c).1,P x
 | [],c,h,_=>h
 | y::ys,c,h,k=>Q7w ys (stG i c y) (fun x hx=>(Q5z.1 hx).elim (h x) fun e=>by rw [e];exact k y (by simp)) fun z hz=>k z (by simp [hz])
theorem Q7x {i:Nat}:∀ (ys:List (Int×σ)) (c:List σ×List Qc),
  (ys.foldl (stG i) c).2=c.2++ys.map fun y=>⟨(i:Int),y.1,((ys.foldl (stG i) c).1.idxOf y.2:Int)⟩
 | [],c=>by simp
 | y::ys,c=>by
  rw [List.foldl_cons,Q7x ys,List.map_cons];have h1:((ys.foldl (stG i) (stG i c y)).1.idxOf y.2)=(insG c.1 y.2).idxOf y.2:=Q50 (Qvt ys (stG i c y)) (Q5z.2 (.inr rfl));rw [h1];simp [stG]
structure InG (row:σ→List (Int×σ)) (mk:σ→Bool) (i:Nat) (st:List σ) (ms:List Int) (es:List Qc):Prop where
 nd:st.Nodup
 tos:∀ k<i,∀ s,st[k]? = some s→∀ y∈row s,y.2∈st
 mm:∀ x,x∈ms↔∃ (k:Nat) (s:σ),k<i∧x=(k:Int)∧st[k]? = some s∧mk s=true
 so:ms.Pairwise (· < ·)
 em:∀ x,x∈es↔∃ (k:Nat) (s:σ) (y:Int×σ),k<i∧st[k]? = some s∧y∈row s∧x=⟨(k:Int),y.1,(st.idxOf y.2:Int)⟩
 eo:es.Pairwise Qjb
variable {row:σ→List (Int×σ)} {mk:σ→Bool}
theorem InG.step {i:Nat} {st:List σ} {ms:List Int} {es:List Qc} (h:InG row mk i st ms es) {s:σ} (hs:st[i]? = some s) (hso:(row s).Pairwise fun a b=>a.1<b.1) :
  InG row mk (i+1) ((row s).foldl (stG i) (st,es)).1 (if mk s then ms++[(i:Int)] else ms) ((row s).foldl (stG i) (st,es)).2:=by
 have hpre:st <+: ((row s).foldl (stG i) (st,es)).1:=Qvt (i:=i) (row s) (st,es);have hmem:=Q7v (i:=i) (row s) (st,es);have heds:=Q7x (i:=i) (row s) (st,es);have hnd:=Qbaw (i:=i) (row s) (st,es) h.nd;have hi:=(List.getElem?_eq_some_iff.1 hs).1;generalize (row s).foldl (stG i) (st,es)=F at hpre hmem heds hnd;obtain ⟨S,E⟩:=F;dsimp only at hpre hmem heds hnd ⊢;have hiS:=Qy4 hpre hs;refine ⟨hnd,fun k hk s' hs' y hy=>?_,fun x=>?_,?_,fun x=>?_,?_⟩
 ·rcases Nat.lt_or_ge k i with h1|h1
  ·exact hpre.subset (h.tos k h1 s' (Q24 hpre (by omega) hs') y hy)
  ·have:k=i:=by omega
   subst this;rw [hiS] at hs';cases hs';exact hmem y hy
 ·constructor
  ·intro hx;have:x∈ms∨(x=(i:Int)∧mk s=true):=by
    split at hx
    ·rename_i hm;rcases List.mem_append.1 hx with hx|hx
     ·exact .inl hx
     ·exact .inr ⟨by simpa using hx,hm⟩
    ·exact .inl hx
   rcases this with hx|⟨hx,hm⟩
   ·obtain ⟨k,t,h1,h2,h3,h4⟩:=(h.mm x).1 hx;exact ⟨k,t,by omega,h2,Qy4 hpre h3,h4⟩
   ·exact ⟨i,s,by omega,hx,hiS,hm⟩
  ·rintro ⟨k,t,h1,rfl,h3,h4⟩;rcases Nat.lt_or_ge k i with h5|h5
   ·have:=(h.mm (k:Int)).2 ⟨k,t,h5,rfl,Q24 hpre (by omega) h3,h4⟩;split
    ·exact List.mem_append_left _ this
    ·exact this
   ·have:k=i:=by omega
    subst this;rw [hiS] at h3;cases h3;rw [if_pos h4];simp
 ·split
  ·refine List.pairwise_append.2 ⟨h.so,List.pairwise_singleton _ _,fun a ha b hb=>?_⟩;obtain ⟨k,_,h1,rfl,_⟩:=(h.mm a).1 ha;simp only [List.mem_singleton] at hb;omega
  ·exact h.so
 ·rw [heds,List.mem_append,h.em];constructor
  ·rintro (⟨k,t,y,h1,h2,h3,rfl⟩|hx)
   ·refine ⟨k,t,y,by omega,Qy4 hpre h2,h3,?_⟩;rw [Q50 hpre (h.tos k h1 t h2 y h3)]
   ·obtain ⟨y,hy,rfl⟩:=List.mem_map.1 hx;exact ⟨i,s,y,by omega,hiS,hy,rfl⟩
  ·rintro ⟨k,t,y,h1,h2,h3,rfl⟩;rcases Nat.lt_or_ge k i with h5|h5
   ·have h6:=Q24 hpre (show k<st.length by omega) h2;exact .inl ⟨k,t,y,h5,h6,h3,by rw [Q50 hpre (h.tos k h5 t h6 y h3)]⟩
   ·have:k=i:=by omega
    subst this;rw [hiS] at h2;cases h2;exact .inr (List.mem_map.2 ⟨y,h3,rfl⟩)
 ·rw [heds];refine List.pairwise_append.2 ⟨h.eo,List.pairwise_map.2 (hso.imp fun {a b} hab=>.inr ⟨rfl,hab⟩),fun a ha b hb=>?_⟩;obtain ⟨k,t,y,h1,h2,h3,rfl⟩:=(h.em a).1 ha;obtain ⟨y',hy',rfl⟩:=List.mem_map.1 hb;exact .inl (by dsimp only;omega)
theorem Qbeu {P:σ→Prop} {N:Nat} (hso:∀ s,P s→(row s).Pairwise fun a b=>a.1<b.1) (hcl:∀ s,P s→∀ y∈row s,P y.2) (hbd:∀ l:List σ,l.Nodup→(∀ x∈l,P x)→l.length≤N) :
  ∀ {f i:Nat} {st:List σ} {ms:List Int} {es:List Qc},InG row mk i st ms es→(∀ x∈st,P x)→i≤st.length→N+1≤f+i →
   InG row mk (bsG row mk f i st ms es).1.length (bsG row mk f i st ms es).1 (bsG row mk f i st ms es).2.1 (bsG row mk f i st ms es).2.2∧(∀ x∈(bsG row mk f i st ms es).1,P x)∧st <+: (bsG row mk f i st ms es).1
 | 0,i,st,ms,es,h,hP,hi,hf=>by have:=hbd st h.nd hP;omega
 | f+1,i,st,ms,es,h,hP,hi,hf=>by
  rw [bsG];cases hs:st[i]? with
  | none =>
   have:i=st.length:=by have:=List.getElem?_eq_none_iff.1 hs;omega
   subst this;exact ⟨h,hP,List.prefix_refl _⟩
  | some s =>
   have hPs:=hP s (List.mem_of_getElem? hs);have hpre:st <+: ((row s).foldl (stG i) (st,es)).1:=Qvt (i:=i) (row s) (st,es);have hlt:=(List.getElem?_eq_some_iff.1 hs).1;have hle:=hpre.length_le;obtain ⟨k1,k2,k3⟩:=Qbeu hso hcl hbd (f:=f) (h.step hs (hso s hPs)) (Q7w (row s) (st,es) hP (hcl s hPs)) (by omega) (by omega);exact ⟨k1,k2,hpre.trans k3⟩
theorem InG.nil:InG row mk 0 [] [] []:=⟨.nil,fun k hk=>by omega,fun x=>by simp,.nil,fun x=>by simp,.nil⟩
theorem InG.one (s:σ):InG row mk 0 [s] [] []:=⟨by simp,fun k hk=>by omega,fun x=>by simp,.nil,fun x=>by simp,.nil⟩
section
variable {S:List σ} {ms:List Int} {es:List Qc} (h:InG row mk S.length S ms es) {al:List Int}
include h
theorem InG.right (h1:∀ x∈al,0≤x∧x<32) (h2:al.Pairwise (· < ·)) (h3:S.length≤4096) (h4:∀ s∈S,∀ y∈row s,y.1∈al):Right ⟨al,(S.length:Int),ms,es⟩ where
 al0:=h1
 al:=h2
 st:=⟨by dsimp only;omega,by dsimp only;omega⟩
 ma0:=fun x hx=>by
  obtain ⟨k,s,k1,rfl,_⟩:=(h.mm x).1 hx;dsimp only;omega
 ma:=h.so
 ed0:=fun x hx=>by
  obtain ⟨k,s,y,k1,k2,k3,rfl⟩:=(h.em x).1 hx;have:=List.idxOf_lt_length_of_mem (h.tos k k1 s k2 y k3);exact ⟨by dsimp only;omega,by dsimp only;omega,by dsimp only;omega,by dsimp only;omega,h4 s (List.mem_of_getElem? k2) y k3⟩
 ed:=h.eo
omit [LawfulBEq σ] in
theorem InG.out {a:Qa} (ha:a.zQ=es) {k:Nat} {s:σ} (hs:S[k]? = some s) (x:Qc):x∈outP a (k:Int)↔∃ y∈row s,x=⟨(k:Int),y.1,(S.idxOf y.2:Int)⟩:=by
 have hk:=(List.getElem?_eq_some_iff.1 hs).1;unfold outP;rw [List.mem_filter,ha,h.em];constructor
 ·rintro ⟨⟨k',s',y,k1,k2,k3,rfl⟩,hf⟩;have hkk:(k' : Int)=(k:Int):=by simpa using hf
  have:k'=k:=by omega
  subst this;rw [hs] at k2;cases k2;exact ⟨y,k3,rfl⟩
 ·rintro ⟨y,hy,rfl⟩;exact ⟨⟨k,s,y,hk,hs,hy,rfl⟩,by simp⟩
theorem InG.at {k:Nat} {s:σ} (hs:S[k]? = some s) {y:Int×σ} (hy:y∈row s):S[S.idxOf y.2]? = some y.2:=by
 have:=h.tos k (List.getElem?_eq_some_iff.1 hs).1 s hs y hy;rw [List.getElem?_eq_getElem (List.idxOf_lt_length_of_mem this),List.getElem_idxOf]
omit [LawfulBEq σ] in
theorem InG.to {a:Qa} (hR:Right a) (ha:a.zQ=es) {k:Nat} {s:σ} (hs:S[k]? = some s) {y:Int×σ} (hy:y∈row s):Qdl a (k:Int) y.1=(S.idxOf y.2:Int):=by
 have hx:=(h.out ha hs ⟨(k:Int),y.1,(S.idxOf y.2:Int)⟩).2 ⟨y,hy,rfl⟩;exact Qyz hR hx
theorem InG.from {a:Qa} (hR:Right a) (ha:a.zQ=es) (hn:a.zS=S.length) {k e:Int} (h0:0≤Qdl a k e):∃ (n:Nat) (s:σ) (y:Int×σ),k=(n:Int)∧S[n]? = some s∧y∈row s∧y.1=e∧Qdl a k e=(S.idxOf y.2:Int)∧S[S.idxOf y.2]? = some y.2:=by
 have hr:=Qqa hR k e;obtain ⟨n,rfl⟩ : ∃ n:Nat,k=(n:Int):=⟨k.toNat,by omega⟩;have hlt:n<S.length:=by omega
 have hs:S[n]? = some S[n]:=List.getElem?_eq_getElem hlt;obtain ⟨x,hx,rfl⟩:=(Qvr hR).1 h0;obtain ⟨y,hy,rfl⟩:=(h.out ha hs x).1 hx;exact ⟨n,S[n],y,rfl,hs,hy,rfl,h.to hR ha hs hy,h.at hs hy⟩
end
end
end Go.Abs
end
