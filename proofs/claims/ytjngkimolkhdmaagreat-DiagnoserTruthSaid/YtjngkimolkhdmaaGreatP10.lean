/-
  Part 10 of the proof: see the last text.
-/
import Derived.Test.YtjngkimolkhdmaaGreatP9
import Derived.Shelf.SlSortCmp.NoneTotal
import Derived.Shelf.SortM.Plain
import Derived.Shelf.SortM.SortNone
import Derived.Shelf.Small.Bits
import Derived.Shelf.Strings.BuilderK
import Derived.Shelf.Strings.BuilderRune
import Derived.Shelf.SlGeneric
import Derived.Shelf.Strconv.Itoa0
import Derived.Shelf.Strings.Builder1
import Derived.Shelf.Sort.Plain
import Derived.Shelf.SlSortCmp.Whole1
import Derived.Shelf.Slices.In.SortNone
import Derived.Ground.SlsfProg
import Derived.Ground.Names2Prog
import Derived.Test.YtjngkimolkhdmaaGreatProg
import Derived.KernelRfl
import Derived.WalkKit
import Derived.Shelf.SlIterI.Sorted
import Derived.RangeFuncBox
import Derived.RangeFuncLeaves
import Derived.Shelf.Abstract
import Derived.OwnWalkIn
import Derived.TacticsInMore
import Derived.RegionIn
import Derived.LoopNIn
import Derived.LoopIn
import Derived.BigCall
import Derived.Lib.OthersKept
import Derived.RegionTactic
import Derived.ChangeAlike
import Derived.Deep.AppendLies
import Derived.Deep.RegionLaw
import Derived.Deep.DeepCutAuto
import Derived.Deep.CutBlock
import Derived.OrdersIn
import Derived.TacticsIn
import Derived.RangeFuncCalls
import Derived.Sort.QuietTacIn
import Derived.Lib.OwnKind
import Derived.RangeFuncWrites
import Derived.OrdersHeld
import Derived.Deep.RegionHeld3
set_option linter.unusedVariables false
set_option linter.unusedSimpArgs false
set_option linter.unusedSectionVars false
section
namespace Go.Proofs
open Go.Shelf
def Tryz.lays169_ren:Go.Shelf.Ren:=⟨fun|169=>104|n=>n,fun|70=>163|9=>9|0=>0|72=>165|37=>146|127=>211|3=>3|5=>5|n=>n,fun|n=>n⟩
theorem Tryz.lays169:Go.Proofs.Lays.n169 Tryz.prog Tryz.lays169_ren:={
 mixed:=by kernel_rfl
 f169:=Tryz.func104.trans (congrArg some (by kernel_rfl))
 t0:=Tryz.underlying0
 a0:=Tryz.isAgg0
 z0:=Tryz.sizeOf0
 v0:=Tryz.zeroValue0
 t3:=Tryz.underlying3
 a3:=Tryz.isAgg3
 z3:=Tryz.sizeOf3
 v3:=Tryz.zeroValue3
 t9:=Tryz.underlying9
 a9:=Tryz.isAgg9
 z9:=Tryz.sizeOf9
 v9:=Tryz.zeroValue9
 t37:=Tryz.underlying146
 a37:=Tryz.isAgg146
 z37:=Tryz.sizeOf146
 v37:=Tryz.zeroValue146
 t70:=Tryz.underlying163
 a70:=Tryz.isAgg163
 z70:=Tryz.sizeOf163
 v70:=Tryz.zeroValue163
 t72:=Tryz.underlying165
 a72:=Tryz.isAgg165
 z72:=Tryz.sizeOf165
 v72:=Tryz.zeroValue165
 t127:=Tryz.underlying211
 a127:=Tryz.isAgg211
 z127:=Tryz.sizeOf211
 v127:=Tryz.zeroValue211 }
theorem Tryz.Builder_Extra_169:Builder.Extra Tryz.prog Tryz.lays169_ren:={
 sizeBuilder:=by kernel_rfl
 liesBuilder:=by kernel_rfl
 t5:=Tryz.underlying5
 a5:=Tryz.isAgg5
 z5:=Tryz.sizeOf5
 v5:=Tryz.zeroValue5
 infoByte:=by kernel_rfl
 cellsByte:=by kernel_rfl
 sizeByte:=by kernel_rfl
 neB5:=by decide }
def Tryz.lays125_ren:Go.Shelf.Ren:=⟨fun|125=>99|128=>141|129=>142|n=>n,fun|46=>160|3=>3|51=>206|53=>208|4=>4|5=>5|9=>9|n=>n,fun|n=>n⟩
theorem Tryz.lays125:Go.Proofs.Lays.n125 Tryz.prog Tryz.lays125_ren:={
 mixed:=by kernel_rfl
 f125:=Tryz.func99.trans (congrArg some (by kernel_rfl))
 f128:=Tryz.func141.trans (congrArg some (by kernel_rfl))
 f129:=Tryz.func142.trans (congrArg some (by kernel_rfl))
 t3:=Tryz.underlying3
 a3:=Tryz.isAgg3
 z3:=Tryz.sizeOf3
 v3:=Tryz.zeroValue3
 t4:=Tryz.underlying4
 a4:=Tryz.isAgg4
 z4:=Tryz.sizeOf4
 v4:=Tryz.zeroValue4
 t5:=Tryz.underlying5
 a5:=Tryz.isAgg5
 z5:=Tryz.sizeOf5
 v5:=Tryz.zeroValue5
 t9:=Tryz.underlying9
 a9:=Tryz.isAgg9
 z9:=Tryz.sizeOf9
 v9:=Tryz.zeroValue9
 t46:=Tryz.underlying160
 a46:=Tryz.isAgg160
 z46:=Tryz.sizeOf160
 v46:=Tryz.zeroValue160
 t51:=Tryz.underlying206
 a51:=Tryz.isAgg206
 z51:=Tryz.sizeOf206
 v51:=Tryz.zeroValue206
 t53:=Tryz.underlying208
 a53:=Tryz.isAgg208
 z53:=Tryz.sizeOf208
 v53:=Tryz.zeroValue208 }
theorem Tryz.bits_Len (x:Int) (w:World) (h0:0≤x) (h1:x≤18446744073709551615) :
  Calls Tryz.prog 99 #[.int .u64 x] w fun e w'=>e = .returned (.int .i64 (Lib.bitLen x.toNat))∧w'=w:=Any.bits_Len Tryz.lays125 x w h0 h1
open Go.RowKit in
theorem Tryz.Builder_String_any_k (B b:Nat) (l:List UInt8) (w:World) (h:Lib.IsBuilderF 165 5 B b (Lib.byteCells l) w) (hBw:B≤w.heap.size) :
  Calls Tryz.prog 104 #[.pointer (some ⟨b,0,none⟩)] w fun e w'=>e = .returned (.string ⟨l.toArray⟩)∧(Lib.IsBuilderF 165 5 B b (Lib.byteCells l) w'∧Below B w w'∧Lib.OthersKept 5 (some b) w w'):=Any.Builder_String_any_k Tryz.lays169 Tryz.Builder_Extra_169 B b l w h hBw
def Tryz.lays189_ren:Go.Shelf.Ren:=⟨fun|189=>94|125=>99|257=>131|128=>141|129=>142|294=>149|295=>150|296=>151|297=>152|298=>153|299=>154|216=>143|300=>155|301=>156|328=>167|329=>158|330=>159|331=>168|332=>169|215=>162|343=>171|n=>n,fun|28=>32|3=>3|46=>160|0=>0|51=>206|53=>208|4=>4|183=>200|182=>199|131=>122|5=>5|9=>9|218=>217|222=>221|228=>229|229=>181|n=>n,fun|n=>n⟩
theorem Tryz.lays189:Go.Proofs.Lays.n189 Tryz.prog Tryz.lays189_ren:={
 mixed:=by kernel_rfl
 f125:=Tryz.func99.trans (congrArg some (by kernel_rfl))
 f128:=Tryz.func141.trans (congrArg some (by kernel_rfl))
 f129:=Tryz.func142.trans (congrArg some (by kernel_rfl))
 f189:=Tryz.func94.trans (congrArg some (by kernel_rfl))
 f215:=Tryz.func162.trans (congrArg some (by kernel_rfl))
 f216:=Tryz.func143.trans (congrArg some (by kernel_rfl))
 f257:=Tryz.func131.trans (congrArg some (by kernel_rfl))
 f294:=Tryz.func149.trans (congrArg some (by kernel_rfl))
 f295:=Tryz.func150.trans (congrArg some (by kernel_rfl))
 f296:=Tryz.func151.trans (congrArg some (by kernel_rfl))
 f297:=Tryz.func152.trans (congrArg some (by kernel_rfl))
 f298:=Tryz.func153.trans (congrArg some (by kernel_rfl))
 f299:=Tryz.func154.trans (congrArg some (by kernel_rfl))
 f300:=Tryz.func155.trans (congrArg some (by kernel_rfl))
 f301:=Tryz.func156.trans (congrArg some (by kernel_rfl))
 f328:=Tryz.func167.trans (congrArg some (by kernel_rfl))
 f329:=Tryz.func158.trans (congrArg some (by kernel_rfl))
 f330:=Tryz.func159.trans (congrArg some (by kernel_rfl))
 f331:=Tryz.func168.trans (congrArg some (by kernel_rfl))
 f332:=Tryz.func169.trans (congrArg some (by kernel_rfl))
 f343:=Tryz.func171.trans (congrArg some (by kernel_rfl))
 t0:=Tryz.underlying0
 a0:=Tryz.isAgg0
 z0:=Tryz.sizeOf0
 v0:=Tryz.zeroValue0
 t3:=Tryz.underlying3
 a3:=Tryz.isAgg3
 z3:=Tryz.sizeOf3
 v3:=Tryz.zeroValue3
 t4:=Tryz.underlying4
 a4:=Tryz.isAgg4
 z4:=Tryz.sizeOf4
 v4:=Tryz.zeroValue4
 t5:=Tryz.underlying5
 a5:=Tryz.isAgg5
 z5:=Tryz.sizeOf5
 v5:=Tryz.zeroValue5
 t9:=Tryz.underlying9
 a9:=Tryz.isAgg9
 z9:=Tryz.sizeOf9
 v9:=Tryz.zeroValue9
 t28:=Tryz.underlying32
 a28:=Tryz.isAgg32
 z28:=Tryz.sizeOf32
 v28:=Tryz.zeroValue32
 t46:=Tryz.underlying160
 a46:=Tryz.isAgg160
 z46:=Tryz.sizeOf160
 v46:=Tryz.zeroValue160
 t51:=Tryz.underlying206
 a51:=Tryz.isAgg206
 z51:=Tryz.sizeOf206
 v51:=Tryz.zeroValue206
 t53:=Tryz.underlying208
 a53:=Tryz.isAgg208
 z53:=Tryz.sizeOf208
 v53:=Tryz.zeroValue208
 t131:=Tryz.underlying122
 a131:=Tryz.isAgg122
 z131:=Tryz.sizeOf122
 v131:=Tryz.zeroValue122
 t182:=Tryz.underlying199
 a182:=Tryz.isAgg199
 z182:=Tryz.sizeOf199
 v182:=Tryz.zeroValue199
 t183:=Tryz.underlying200
 a183:=Tryz.isAgg200
 z183:=Tryz.sizeOf200
 v183:=Tryz.zeroValue200
 t218:=Tryz.underlying217
 a218:=Tryz.isAgg217
 z218:=Tryz.sizeOf217
 v218:=Tryz.zeroValue217
 t222:=Tryz.underlying221
 a222:=Tryz.isAgg221
 z222:=Tryz.sizeOf221
 v222:=Tryz.zeroValue221
 t228:=Tryz.underlying229
 a228:=Tryz.isAgg229
 z228:=Tryz.sizeOf229
 v228:=Tryz.zeroValue229
 t229:=Tryz.underlying181
 a229:=Tryz.isAgg181
 z229:=Tryz.sizeOf181
 v229:=Tryz.zeroValue181 }
open Go.Sort Go.RowKit in
theorem Tryz.slices_Sort_int (blk off cap:Nat) (zs:List Int) (w:World) (hH:Holds (Value.int .i64) w blk off zs.toArray) (hblk:blk<w.heap.size) (hsz:zs.length<4611686018427387904) :
  Calls Tryz.prog 94 #[.slice (some ⟨blk,off,none⟩) zs.length cap] w fun e w' =>
   e = .returned (.tuple #[])∧∃ n os,w'=grow (putRow (Value.int .i64) (Sort.ahead w n) blk off (zs.mergeSort fun x y=>decide (x≤y)).toArray) os:=Any.slices_Sort_int Tryz.lays189 blk off cap zs w hH hblk hsz
open Go.RowKit Go.Sort in
theorem Tryz.slices_Sort_int_none (p:Option Addr) (cap:Nat) (w:World) :
  Calls Tryz.prog 94 #[.slice p 0 cap] w fun e w'=>e = .returned (.tuple #[])∧w'=w:=Any.slices_Sort_int_none Tryz.lays189 p cap w
def Tryz.laysSlF6_f60_ren:Go.Shelf.Ren:=⟨fun|6=>60|15=>99|14=>98|28=>141|29=>142|20=>133|21=>134|22=>135|23=>136|24=>137|25=>138|26=>139|27=>140|46=>157|47=>158|48=>159|49=>160|50=>161|57=>170|n=>n,fun|22=>45|24=>32|25=>116|3=>3|39=>160|0=>0|53=>206|55=>208|4=>4|46=>200|45=>199|50=>122|5=>5|9=>9|66=>217|70=>221|76=>229|77=>181|n=>n,fun|n=>n⟩
theorem Tryz.laysSlF6_f60:Go.Proofs.SlLaysF.n6 Tryz.prog Tryz.laysSlF6_f60_ren:={
 mixed:=by kernel_rfl
 f6:=⟨Tryz.f60.name,by decide,Tryz.func60.trans (congrArg some (by kernel_rfl))⟩
 f14:=⟨Tryz.f98.name,by decide,Tryz.func98.trans (congrArg some (by kernel_rfl))⟩
 f15:=Tryz.func99.trans (congrArg some (by kernel_rfl))
 f20:=⟨Tryz.f133.name,by decide,Tryz.func133.trans (congrArg some (by kernel_rfl))⟩
 f21:=⟨Tryz.f134.name,by decide,Tryz.func134.trans (congrArg some (by kernel_rfl))⟩
 f22:=⟨Tryz.f135.name,by decide,Tryz.func135.trans (congrArg some (by kernel_rfl))⟩
 f23:=⟨Tryz.f136.name,by decide,Tryz.func136.trans (congrArg some (by kernel_rfl))⟩
 f24:=⟨Tryz.f137.name,by decide,Tryz.func137.trans (congrArg some (by kernel_rfl))⟩
 f25:=⟨Tryz.f138.name,by decide,Tryz.func138.trans (congrArg some (by kernel_rfl))⟩
 f26:=⟨Tryz.f139.name,by decide,Tryz.func139.trans (congrArg some (by kernel_rfl))⟩
 f27:=⟨Tryz.f140.name,by decide,Tryz.func140.trans (congrArg some (by kernel_rfl))⟩
 f28:=Tryz.func141.trans (congrArg some (by kernel_rfl))
 f29:=Tryz.func142.trans (congrArg some (by kernel_rfl))
 f46:=⟨Tryz.f157.name,by decide,Tryz.func157.trans (congrArg some (by kernel_rfl))⟩
 f47:=Tryz.func158.trans (congrArg some (by kernel_rfl))
 f48:=Tryz.func159.trans (congrArg some (by kernel_rfl))
 f49:=⟨Tryz.f160.name,by decide,Tryz.func160.trans (congrArg some (by kernel_rfl))⟩
 f50:=⟨Tryz.f161.name,by decide,Tryz.func161.trans (congrArg some (by kernel_rfl))⟩
 f57:=⟨Tryz.f170.name,by decide,Tryz.func170.trans (congrArg some (by kernel_rfl))⟩
 t0:=Tryz.underlying0
 a0:=Tryz.isAgg0
 z0:=Tryz.sizeOf0
 v0:=Tryz.zeroValue0
 t3:=Tryz.underlying3
 a3:=Tryz.isAgg3
 z3:=Tryz.sizeOf3
 v3:=Tryz.zeroValue3
 t4:=Tryz.underlying4
 a4:=Tryz.isAgg4
 z4:=Tryz.sizeOf4
 v4:=Tryz.zeroValue4
 t5:=Tryz.underlying5
 a5:=Tryz.isAgg5
 z5:=Tryz.sizeOf5
 v5:=Tryz.zeroValue5
 t9:=Tryz.underlying9
 a9:=Tryz.isAgg9
 z9:=Tryz.sizeOf9
 v9:=Tryz.zeroValue9
 t22:=Tryz.underlying45
 a22:=Tryz.isAgg45
 z22:=Tryz.sizeOf45
 v22:=Tryz.zeroValue45
 a24:=Tryz.isAgg32
 z24:=Tryz.sizeOf32
 t25:=Tryz.underlying116
 a25:=Tryz.isAgg116
 z25:=Tryz.sizeOf116
 v25:=Tryz.zeroValue116
 t39:=Tryz.underlying160
 a39:=Tryz.isAgg160
 z39:=Tryz.sizeOf160
 v39:=Tryz.zeroValue160
 t45:=Tryz.underlying199
 a45:=Tryz.isAgg199
 z45:=Tryz.sizeOf199
 v45:=Tryz.zeroValue199
 t46:=Tryz.underlying200
 a46:=Tryz.isAgg200
 z46:=Tryz.sizeOf200
 v46:=Tryz.zeroValue200
 t50:=Tryz.underlying122
 a50:=Tryz.isAgg122
 z50:=Tryz.sizeOf122
 v50:=Tryz.zeroValue122
 t53:=Tryz.underlying206
 a53:=Tryz.isAgg206
 z53:=Tryz.sizeOf206
 v53:=Tryz.zeroValue206
 t55:=Tryz.underlying208
 a55:=Tryz.isAgg208
 z55:=Tryz.sizeOf208
 v55:=Tryz.zeroValue208
 t66:=Tryz.underlying217
 a66:=Tryz.isAgg217
 z66:=Tryz.sizeOf217
 v66:=Tryz.zeroValue217
 t70:=Tryz.underlying221
 a70:=Tryz.isAgg221
 z70:=Tryz.sizeOf221
 v70:=Tryz.zeroValue221
 t76:=Tryz.underlying229
 a76:=Tryz.isAgg229
 z76:=Tryz.sizeOf229
 v76:=Tryz.zeroValue229
 t77:=Tryz.underlying181
 a77:=Tryz.isAgg181
 z77:=Tryz.sizeOf181
 v77:=Tryz.zeroValue181 }
open Go.RowKit Go.Lib Go.Sort in
theorem Tryz.slices_SortFunc_eq {α:Type} [Inhabited α] (enc:α→Value) (h1:OneCell enc) (cf:α→α→Int) (hO:SWO (ltOf cf)) (g:Nat) (cb:Array Value) (blk off cap:Nat) (d:Array α) (w:World) (eg:∀ args w,(callFunc g args).run Tryz.prog w = .ok (.enter g args) w) (hcmp:CmpLays1 Tryz.prog g cb enc cf blk off d.size w) (hH:Holds enc w blk off d) (hblk:blk<w.heap.size) (hsz:d.size<4611686018427387904) :
  Calls Tryz.prog 60 #[.slice (some ⟨blk,off,none⟩) d.size cap,.func (.func g) #[] cb] w fun e w' =>
   e = .returned (.tuple #[])∧∃ n os,w'=sortWorld enc w blk off n (pdq (ltOf cf) d 0 d.size (Lib.bitLen d.size) true true) os:=Any.slices_SortFunc_eq Tryz.laysSlF6_f60 enc h1 cf hO g cb blk off cap d w eg hcmp hH hblk hsz
def Tryz.lays168_ren:Go.Shelf.Ren:=⟨fun|168=>103|240=>146|242=>147|276=>163|278=>164|n=>n,fun|0=>0|3=>3|4=>4|5=>5|9=>9|20=>20|21=>21|37=>146|46=>160|51=>206|70=>163|72=>165|75=>167|80=>170|164=>223|n=>n,fun|n=>n⟩
theorem Tryz.lays168:Go.Proofs.Lays.n168 Tryz.prog Tryz.lays168_ren:={
 mixed:=by kernel_rfl
 f168:=Tryz.func103.trans (congrArg some (by kernel_rfl))
 f240:=Tryz.func146.trans (congrArg some (by kernel_rfl))
 f242:=Tryz.func147.trans (congrArg some (by kernel_rfl))
 f276:=Tryz.func163.trans (congrArg some (by kernel_rfl))
 f278:=Tryz.func164.trans (congrArg some (by kernel_rfl))
 t0:=Tryz.underlying0
 a0:=Tryz.isAgg0
 z0:=Tryz.sizeOf0
 v0:=Tryz.zeroValue0
 t3:=Tryz.underlying3
 a3:=Tryz.isAgg3
 z3:=Tryz.sizeOf3
 v3:=Tryz.zeroValue3
 t4:=Tryz.underlying4
 a4:=Tryz.isAgg4
 z4:=Tryz.sizeOf4
 v4:=Tryz.zeroValue4
 t5:=Tryz.underlying5
 a5:=Tryz.isAgg5
 z5:=Tryz.sizeOf5
 v5:=Tryz.zeroValue5
 t9:=Tryz.underlying9
 a9:=Tryz.isAgg9
 z9:=Tryz.sizeOf9
 v9:=Tryz.zeroValue9
 t20:=Tryz.underlying20
 a20:=Tryz.isAgg20
 z20:=Tryz.sizeOf20
 v20:=Tryz.zeroValue20
 t21:=Tryz.underlying21
 a21:=Tryz.isAgg21
 z21:=Tryz.sizeOf21
 v21:=Tryz.zeroValue21
 t37:=Tryz.underlying146
 a37:=Tryz.isAgg146
 z37:=Tryz.sizeOf146
 v37:=Tryz.zeroValue146
 t46:=Tryz.underlying160
 a46:=Tryz.isAgg160
 z46:=Tryz.sizeOf160
 v46:=Tryz.zeroValue160
 t51:=Tryz.underlying206
 a51:=Tryz.isAgg206
 z51:=Tryz.sizeOf206
 v51:=Tryz.zeroValue206
 t70:=Tryz.underlying163
 a70:=Tryz.isAgg163
 z70:=Tryz.sizeOf163
 v70:=Tryz.zeroValue163
 t72:=Tryz.underlying165
 a72:=Tryz.isAgg165
 z72:=Tryz.sizeOf165
 v72:=Tryz.zeroValue165
 t75:=Tryz.underlying167
 a75:=Tryz.isAgg167
 z75:=Tryz.sizeOf167
 v75:=Tryz.zeroValue167
 t164:=Tryz.underlying223
 a164:=Tryz.isAgg223
 z164:=Tryz.sizeOf223
 v164:=Tryz.zeroValue223 }
theorem Tryz.Builder_Extra_168:Builder.Extra Tryz.prog Tryz.lays168_ren:={
 sizeBuilder:=by kernel_rfl
 liesBuilder:=by kernel_rfl
 t5:=Tryz.underlying5
 a5:=Tryz.isAgg5
 z5:=Tryz.sizeOf5
 v5:=Tryz.zeroValue5
 infoByte:=by kernel_rfl
 cellsByte:=by kernel_rfl
 sizeByte:=by kernel_rfl
 neB5:=by decide }
open Go.RowKit in
theorem Tryz.Builder_WriteRune_k (B b:Nat) (bs:List Value) (r:Int) (hr0 : -2147483648≤r) (hr1:r≤2147483647) (w:World) (h:Lib.IsBuilderF 165 5 B b bs w) (hlen:bs.length+4≤140737488355328) (hBw:B≤w.heap.size) :
  Calls Tryz.prog 103 #[.pointer (some ⟨b,0,none⟩),.int .i32 r] w fun e w'=>e = .returned (.tuple #[.int .i64 (Lib.runeCells r).length,.nilIface])∧(Lib.BuilderAtF 165 5 B b (.pointer (some ⟨b,0,none⟩)) (bs++Lib.runeCells r) w'∧Below B w w'∧Lib.OthersKept 5 (some b) w w'):=Any.Builder_WriteRune_k Tryz.lays168 Tryz.Builder_Extra_168 B b bs r hr0 hr1 w h hlen hBw
end Go.Proofs
end
section
namespace Go.Abs
open Go Go.Sort Go.RowKit
theorem Q2w (xs:List Int):rowV (eI .i64) xs=xs.map (Value.int .i64):=by
 unfold rowV
 induction xs with
 | nil=>rfl
 | cons x xs ih=>simp only [List.map_cons,List.flatten_cons,List.map_append,ih];rfl
theorem Qbd7 {P:Program} {c:Nat} (hb:Qhn P c=true)
  (hs:∀ (blk off cap:Nat) (zs:List Int) (w:World),Holds (Value.int .i64) w blk off zs.toArray→blk<w.heap.size→zs.length<4611686018427387904 →
   Calls P c #[.slice (some ⟨blk,off,none⟩) zs.length cap] w fun e w'=>e = .returned (.tuple #[])∧∃ n os,w'=grow (putRow (Value.int .i64) (Sort.ahead w n) blk off (zs.mergeSort fun x y=>decide (x≤y)).toArray) os)
  (hnone:∀ (p:Option Addr) (cap:Nat) (w:World),Calls P c (#[.slice p 0 cap] ++ #[]) w fun e' w'=>e' = .returned (.tuple #[])∧w'=w) :
  RowK P c (eI .i64) 1 [] (fun l=>if l.length≤lim then some (Qnu Qf1 l) else none):=by
 have hrow:Qbju P c (eI .i64) #[] (fun xs=>Qnu Qf1 xs):=by
  intro blk cap xs w hcell hblk hsz;refine Calls.mono (hs blk 0 cap xs w ?_ hblk hsz) ?_
  ·intro j hj;have hj' : j<xs.length:=by simpa using hj
   have:=hcell j (by rw [Q2w];simpa using hj');rw [Q2w] at this;rw [Nat.zero_add];refine ⟨?_,this.2⟩;rw [this.1,getElem!_pos xs.toArray j hj];simp [hj']
  ·rintro e w' ⟨rfl,n,os,rfl⟩;refine ⟨rfl,n,os,?_⟩;rw [Q2v,Q2w];congr 1;unfold putRow;congr 1;funext c;unfold putCells;congr 1;funext k x;simp only [List.size_toArray,List.length_map];split
   ·rename_i h;simp only [id];rw [getElem!_pos _ _ (by simp;omega),getElem!_pos _ _ (by simp;omega)];simp
   ·rfl
 intro xs ys h;dsimp only at h;split at h<;>cases h;rename_i hl;refine ⟨Qn9 _ _,fun h0=>?_,fun hl2 cap k0 M nb hM=>?_⟩
 ·subst h0;exact ⟨rfl,fun M nb=>Q88 (ex:=#[]) (exV:=[]) hb (fun _ _ _ h=>h) hnone⟩
 ·exact Qbbv (e:=eI .i64) (fun _=>rfl) (fun _=>rfl) (fun xs=>Qn9 _ _) (ex:=#[]) (exV:=[]) (fun _ _ _ h=>h) hb hrow xs cap k0 M nb hM (by unfold lim at hl;omega)
end Go.Abs
end
section
namespace Go.Proofs
open Go.Shelf Go.RowKit Go.Lib Go.Sort Go.Abs
theorem Tryz.rowK94:Go.Abs.RowK Tryz.prog 94 (eI .i64) 1 [] Qbiq :=
 Qbd7 (by kernel_rfl) Tryz.slices_Sort_int Tryz.slices_Sort_int_none
end Go.Proofs
end
section
namespace Go.Proofs
open Go.RowKit Go.Maps Go.Sort Go.Shelf
attribute [local go_sem] Oper.semAt_some
def Tryz.upto {α:Type} (f:Nat→α) (k:Nat):List α:=(List.range k).map f
theorem Tryz.upto_succ {α:Type} (f:Nat→α) (k:Nat):Tryz.upto f (k+1)=Tryz.upto f k++[f k]:=by simp [Tryz.upto,List.range_succ]
theorem Tryz.upto_length {α:Type} (f:Nat→α) (k:Nat):(Tryz.upto f k).length=k:=by simp [Tryz.upto]
theorem Tryz.upto_all (zs:List Int):Tryz.upto (fun j=>zs[j]?.getD 0) zs.length=zs:=by
 apply List.ext_getElem
 ·simp [Tryz.upto]
 ·intro i h1 h2;simp [Tryz.upto,h2]
theorem Tryz.upto_take (zs:List Int) {k:Nat} (hk:k≤zs.length):Tryz.upto (fun j=>zs[j]?.getD 0) k=zs.take k:=by
 apply List.ext_getElem
 ·simp [Tryz.upto,hk]
 ·intro i h1 h2;have:i<zs.length:=by simp [Tryz.upto] at h1;omega
  simp [Tryz.upto,this]
set_option maxRecDepth 100000 in
set_option maxHeartbeats 2000000 in
theorem Tryz.values1_in (F:Fence) (n:Nat) (h7:F.fn 97) (hro:F.round=none) (hn:1≤n) (l Bs n₀ b off len cap:Nat) (zs:List Int) (hreach:len*8≤140737488351232) (hb:b<n₀) (J Jx:List Int→World→Prop)
  (hY:∀ pre x W,J pre W→pre.length<len→YieldAt F (n-1) Tryz.prog l #[.int .i64 x] W fun e W' =>
   (e = .returned (.bool true)∧J (pre++[x]) W'∧Below n₀ W W')∨(e = .returned (.bool false)∧Jx (pre++[x]) W'))
  (W:World) (hBs:W.cell? ⟨Bs,0,none⟩=some (.slice (some ⟨b,off,none⟩) len cap)) (hc:∀ j,j<len→W.cell? ⟨b,off+j,none⟩=some (.int .i64 (zs[j]?.getD 0))) (h0:J [] W) :
  CallsIn F n Tryz.prog 97 #[.func (.yield l) #[] #[],.pointer (some ⟨Bs,0,none⟩)] W fun e W'=>(∃ v,e = .returned v) ∧
   ((∃ ys,ys=Tryz.upto (fun j=>zs[j]?.getD 0) len∧J ys W')∨(∃ pre,(∃ k,k≤len∧pre=Tryz.upto (fun j=>zs[j]?.getD 0) k)∧Jx pre W')):=by
 refine callsIn_of_wp Tryz.func97 rfl h7 ?_ hro;simp only [Tryz.ntmps97,List.size_toArray,List.length_cons,List.length_nil,Nat.reduceAdd,Nat.reduceSub,Array.replicate_succ,Array.replicate_zero,List.push_toArray,List.append_toArray,List.nil_append,List.cons_append]
 gi_wp2
 gi_loopw [7] (fun i wr=>∃ k:Nat,k≤len∧i = .int .i64 k∧J (Tryz.upto (fun j=>zs[j]?.getD 0) k) wr∧Below n₀ W wr)
  (fun i _=>len-(intOf i).toNat)
 case atStart=>exact ⟨0,Nat.zero_le _,rfl,h0,Below.refl _ _⟩
 case round =>
  obtain ⟨k,hk,rfl,hJs,hnx⟩:=hrel;have hcx:k<len→wr.cell? ⟨b,off+k,none⟩=some (.int .i64 (zs[k]?.getD 0)):=fun h=>(hnx.cell (p:=⟨b,off+k,none⟩) hb).trans (hc k h);by_cases hlt:k<len
  ·obtain ⟨fn,tmps,assign,body,hy,hR⟩:=hY _ (zs[k]?.getD 0) wr hJs (by rw [Tryz.upto_length];exact hlt);have hcx':=hcx hlt
   gi_wp2
   refine hR.mono ?_;rintro e W3 (⟨rfl,hJ3,hk3⟩|⟨rfl,hJx3⟩)
   ·gi_wp2
    go_roundw
    case rel=>exact ⟨k+1,by omega,by simp,by rw [Tryz.upto_succ];exact hJ3,hnx.trans hk3⟩
    case measure=>simp [intOf];omega
   ·gi_wp2
    refine bodyPost_ret (results_none rfl _ _ _) rfl ?_;exact ⟨⟨_,rfl⟩,.inr ⟨_,⟨k+1,by omega,(Tryz.upto_succ _ _).symm⟩,hJx3⟩⟩
  ·obtain rfl:k=len:=by omega
   gi_wp2
   go_end0
   exact ⟨⟨_,rfl⟩,.inl ⟨_,rfl,hJs⟩⟩
set_option maxRecDepth 100000 in
set_option maxHeartbeats 1000000 in
theorem Tryz.values1_nil_in (F:Fence) (n:Nat) (h7:F.fn 97) (hro:F.round=none) (l Bs:Nat) (a:Option Addr) (cap:Nat) (J:List Int→World→Prop) (W:World) (hBs:W.cell? ⟨Bs,0,none⟩=some (.slice a 0 cap)) (h0:J [] W) :
  CallsIn F n Tryz.prog 97 #[.func (.yield l) #[] #[],.pointer (some ⟨Bs,0,none⟩)] W fun e W'=>(∃ v,e = .returned v)∧J [] W':=by
 refine callsIn_of_wp Tryz.func97 rfl h7 ?_ hro;simp only [Tryz.ntmps97,List.size_toArray,List.length_cons,List.length_nil,Nat.reduceAdd,Nat.reduceSub,Array.replicate_succ,Array.replicate_zero,List.push_toArray,List.append_toArray,List.nil_append,List.cons_append]
 gi_wp2
 gi_loopw [7] (fun i wr=>i = .int .i64 0∧J [] wr) (fun _ _=>0)
 case atStart=>exact ⟨rfl,h0⟩
 case round =>
  obtain ⟨rfl,hJs⟩:=hrel
  gi_wp2
  go_end0
  exact ⟨⟨_,rfl⟩,hJs⟩
theorem Tryz.values_stops (F:Fence) (n:Nat) (h7:F.fn 97) (hro:F.round=none) (hn:1≤n) (Bs n₀:Nat) (sv:Value) (zs:List Int) (hreach:zs.length*8≤140737488351232) (w:World) (hBs:Bs<w.heap.size) (hn₀:n₀≤w.heap.size)
  (hc:w.cell? ⟨Bs,0,none⟩=some sv) (hI:Go.Abs.Ints n₀ w sv zs) :
  SeqStopsK F n Tryz.prog 97 #[.pointer (some ⟨Bs,0,none⟩)] (fun x:Int=>#[Value.int .i64 x]) (Below n₀) (fun ys=>ys=zs) (fun pre=>pre <+: zs) zs.length w:=fun l J Jx W hW _ _ hY h0=>by
 have hc':=(hW.cell (p:=⟨Bs,0,none⟩) hBs).trans hc;rcases hI.below (hW.mono hn₀) with ⟨a,cap,rfl,rfl⟩|⟨b,off,cap,rfl,hb,hcs⟩
 ·exact (Tryz.values1_nil_in F n h7 hro l Bs a cap J W hc' h0).mono fun e W' ⟨he,hj⟩=>⟨he,.inl ⟨_,rfl,hj⟩⟩
 ·refine (Tryz.values1_in F n h7 hro hn l Bs n₀ b off zs.length cap zs hreach hb J Jx hY W hc' hcs h0).mono ?_;rintro e W' ⟨he,⟨ys,rfl,hj⟩|⟨pre,⟨k,hk,rfl⟩,hj⟩⟩
  ·exact ⟨he,.inl ⟨_,Tryz.upto_all zs,hj⟩⟩
  ·exact ⟨he,.inr ⟨_,by rw [Tryz.upto_take zs hk];exact List.take_prefix _ _,hj⟩⟩
theorem Tryz.info3:(Tryz.prog.info? 3).map (fun i=>(i.zero,i.size,i.bytes))=some (some (.int .i64 0),1,8):=by kernel_rfl
set_option maxRecDepth 100000 in
set_option maxHeartbeats 2000000 in
theorem Tryz.appendSeq_in (F:Fence) (n:Nat) (h132:F.fn 132) (h97:F.fn 97) (hro:F.round=none) (hn:3≤n) (Bs:Nat) (sv:Value) (zs:List Int) (hlen:zs.length*8≤140737488351232) (w:World) (hBs:Bs<w.heap.size) (hc0:w.cell? ⟨Bs,0,none⟩=some sv) (hI:Go.Abs.Ints w.heap.size w sv zs) :
  CallsIn F n Tryz.prog 132 #[.slice none 0 0,.func (.func 97) #[] #[.pointer (some ⟨Bs,0,none⟩)]] w fun e W'=>∃ v,e = .returned v∧W'.ownsRow w.heap.size 3 1 v zs.length (zs.map (Value.int .i64))∧(v = .slice none 0 0↔zs=[])∧Below w.heap.size w W':=by
 have h1:1≤n:=by omega
 obtain ⟨i0,hi,hz0,hz1,hz2⟩:=info_parts Tryz.info3;refine callsIn_of_wp_marks Tryz.func132 rfl h132 ?_ hro;simp only [Tryz.ntmps132,List.size_toArray,List.length_cons,List.length_nil,Nat.reduceAdd,Nat.reduceSub,Array.replicate_succ,Array.replicate_zero,List.push_toArray,List.append_toArray,List.nil_append,List.cons_append]
 gi_wp2
 have bO:=Boxed.new w 32 (.slice none 0 0);have hB0:Below w.heap.size w (w.alloc (.cells #[.slice none 0 0] 32)):=(Below.refl _ w).alloc (Nat.le_refl _) _;refine wpIn_rangeFunc_ownG hro h1 (gf:=97) (lb:=#[.pointer (some ⟨Bs,0,none⟩)]) rfl h97 (enters_of Tryz.func97 (by kernel_rfl) rfl)
  (Tryz.values_stops F (n-1) h97 hro (by omega) Bs w.heap.size sv zs hlen _ (by simp;omega) (by simp) ((hB0.cell (p:=⟨Bs,0,none⟩) hBs).trans hc0) (hI.below hB0)) belowK_t (belowK_b (by simp)) (Below.refl _ _) (fun _=>rfl)
  (fun pre W=>(∃ v,Boxed W w.heap.size 32 v∧W.ownsRow w.heap.size 3 1 v pre.length (pre.map (Value.int .i64))∧(v = .slice none 0 0↔pre=[]))∧Below w.heap.size w W)
  (fun _ _ _=>False)
  (OwnFrom.and (Own.from (holdsRow_own w.heap.size w.heap.size 32 3 1 (fun pre=>pre.length) (fun pre=>pre.map (Value.int .i64)) (fun pre v=>v = .slice none 0 0↔pre=[])) _) (ownFrom_below (Nat.le_refl _) (by simp)))
  (fun _ _ _ _ _ hs _ _=>hs)
  ⟨⟨_,bO,World.ownsRow_nil _ _ _ _,by simp⟩,hB0⟩
  (fun x=>{ tmps:=#[.slice none 0 0,.func (.func 97) #[] #[.pointer (some ⟨Bs,0,none⟩)],.pointer (some ⟨w.heap.size,0,none⟩),undef,.slice none 0 0,.int .i64 x,.func (.func 97) #[] #[.pointer (some ⟨Bs,0,none⟩)],.int .i64 x,undef,undef,undef,undef,undef],defers:=[] }) ?assign ?body ?done ?stop
 case assign =>
  intro l x W K hK
  gi_wp2
  exact hK
 case body =>
  rintro l pre x W ⟨⟨v,hv,hrow,hnil⟩,hB⟩ hlt;have hc:=hv.cell
  gi_wp2_with (gi_at_builtin;refine wpListIn_append_own _ rfl _ _ 32 rfl w.heap.size 3 i0 (.int .i64 0) 1 8 Tryz.underlying32 hi hz0 hz1 hz2 rfl (by decide) _ _ _ rfl (hrow.alloc _) ⟨W.heap.size,0,none⟩ 1 1 [.int .i64 x] rfl rfl (cell_one_new _ _ _) (by simp [Value.oneCell']) (by have:maxLen=9223372036854775807:=rfl;omega) (by omega) (by have:=hB.size;simp;omega) ?_;intro v' w1 hown' hgrow _;obtain ⟨g',cap',rfl⟩:=ownsRow_succ hown';obtain ⟨hv1,hv2,hr2,hk2,hb2⟩:=hv.appended (by decide) hrow hB.size (Nat.le_refl _) hown' hgrow;have hc1:=hv1.cell;have hf1:=hv1.frozen)
  exact ⟨hk2.from _,hb2,⟨_,hv2,by simpa using hr2,by simp⟩,hB.trans hb2⟩
 case done =>
  rintro D ys W hD rfl ⟨⟨v,hv,hrow,hnil⟩,hB⟩ hK;have hc:=hv.cell
  gi_wp2
  refine ⟨by simp,.inl ⟨_,_,rfl,run_takeDeferred hK,?_⟩⟩;exact ⟨_,results_tmp rfl _ _ _,v,rfl,ownsRow_putObj hrow _ hK rfl,hnil,hB.trans (belowK_b (w:=w) (Nat.le_refl _) W D _ _ (by simp at hD;omega) hK rfl rfl)⟩
 case stop =>
  rintro D c pre W _ _ h _;exact h.elim
set_option maxHeartbeats 1000000 in
theorem Tryz.collect_in (F:Fence) (n:Nat) (h96:F.fn 96) (h132:F.fn 132) (h97:F.fn 97) (hro:F.round=none) (hn:4≤n) (Bs:Nat) (sv:Value) (zs:List Int) (hlen:zs.length*8≤140737488351232) (w:World) (hBs:Bs<w.heap.size) (hc0:w.cell? ⟨Bs,0,none⟩=some sv) (hI:Go.Abs.Ints w.heap.size w sv zs) :
  CallsIn F n Tryz.prog 96 #[.func (.func 97) #[] #[.pointer (some ⟨Bs,0,none⟩)]] w fun e W'=>∃ v,e = .returned v∧W'.ownsRow w.heap.size 3 1 v zs.length (zs.map (Value.int .i64))∧(v = .slice none 0 0↔zs=[])∧Below w.heap.size w W':=by
 have h1:1≤n:=by omega
 refine callsIn_of_wp Tryz.func96 rfl h96 ?_ hro;simp only [Tryz.ntmps96,List.size_toArray,List.length_cons,List.length_nil,Nat.reduceAdd,Nat.reduceSub,Array.replicate_succ,Array.replicate_zero,List.push_toArray,List.append_toArray,List.nil_append,List.cons_append]
 gi_wp2_with (gi_at_call 132;refine (Tryz.appendSeq_in F (n-1) h132 h97 hro (by omega) Bs sv zs hlen _ hBs hc0 hI).mono ?_;rintro e w' ⟨v,rfl,hrow,hnil,hb⟩)
 go_ret
 exact ⟨v,rfl,hrow,hnil,hb⟩
set_option maxRecDepth 100000 in
set_option maxHeartbeats 2000000 in
theorem Tryz.sorted_in (F:Fence) (n:Nat) (h58:F.fn 58) (h96:F.fn 96) (h132:F.fn 132) (h97:F.fn 97) (h94:F.fn 94) (hro:F.round=none) (hn:5≤n)
  (hs1:∀ (blk off cap:Nat) (ss:List Int) (W:World),Holds encZ W blk off ss.toArray→blk<W.heap.size→ss.length<4611686018427387904 →
   CallsIn F (n-1) Tryz.prog 94 #[.slice (some ⟨blk,off,none⟩) ss.length cap] W fun e w'=>e = .returned (.tuple #[])∧∃ k os,w'=grow (putRow encZ (Sort.ahead W k) blk off (ss.mergeSort fun x y=>decide (x≤y)).toArray) os)
  (hs2:∀ (p:Option Addr) (cap:Nat) (W:World),CallsIn F (n-1) Tryz.prog 94 #[.slice p 0 cap] W fun e w'=>e = .returned (.tuple #[])∧w'=W)
  (Bs:Nat) (sv:Value) (zs:List Int) (hlen:zs.length*8≤140737488351232) (w:World) (hBs:Bs<w.heap.size) (hc0:w.cell? ⟨Bs,0,none⟩=some sv) (hI:Go.Abs.Ints w.heap.size w sv zs) :
  CallsIn F n Tryz.prog 58 #[.func (.func 97) #[] #[.pointer (some ⟨Bs,0,none⟩)]] w fun e W'=>∃ v,e = .returned v∧W'.ownsRow w.heap.size 3 1 v zs.length ((zs.mergeSort fun x y=>decide (x≤y)).map encZ)∧Below w.heap.size w W':=by
 have h1:1≤n:=by omega
 refine callsIn_of_wp Tryz.func58 rfl h58 ?_ hro;simp only [Tryz.ntmps58,List.size_toArray,List.length_cons,List.length_nil,Nat.reduceAdd,Nat.reduceSub,Array.replicate_succ,Array.replicate_zero,List.push_toArray,List.append_toArray,List.nil_append,List.cons_append]
 gi_wp2_with (gi_at_call 96;refine (Tryz.collect_in F (n-1) h96 h132 h97 hro (by omega) Bs sv zs hlen _ hBs hc0 hI).mono ?_;rintro e W ⟨v,rfl,hrow,hnil,hb⟩)
 rcases hrow.2 with ⟨rfl,hz⟩|⟨gb,cap,cur,rfl,hbase,hgb,r1,r2,r3,r4⟩
 ·have hss:zs=[]:=List.eq_nil_of_length_eq_zero hz;subst hss
  gi_wp2_with (gi_at_call 94;refine (hs2 none 0 W).mono ?_;rintro e w' ⟨rfl,rfl⟩)
  go_ret
  exact ⟨_,rfl,by simpa using hrow,hb⟩
 ·have hH:Holds encZ W gb 0 zs.toArray:=holds_of_block_i hgb (by simpa using r4);have hgl:gb<W.heap.size:=(Array.getElem?_eq_some_iff.1 hgb).1;have cS:=hs1 gb 0 cap zs W hH hgl (by omega)
  gi_wp2_with (gi_at_call 94;refine cS.mono ?_;rintro e w' ⟨rfl,nn,os,rfl⟩)
  go_ret
  exact ⟨_,rfl,ownsRow_sorted_i (by simp) hbase hgb r1 r2 r3,hb.grown (grownBy_sorted_i _) hb.size (fun j hj=>by cases hj;exact hbase)⟩
theorem Tryz.sorted58 (Bs:Nat) (sv:Value) (zs:List Int) (hlen:zs.length*8≤140737488351232) (w:World) (hBs:Bs<w.heap.size) (hc0:w.cell? ⟨Bs,0,none⟩=some sv) (hI:Go.Abs.Ints w.heap.size w sv zs) :
  Calls Tryz.prog 58 #[.func (.func 97) #[] #[.pointer (some ⟨Bs,0,none⟩)]] w fun e W'=>∃ v,e = .returned v∧W'.ownsRow w.heap.size 3 1 v zs.length ((zs.mergeSort fun x y=>decide (x≤y)).map encZ)∧Below w.heap.size w W' :=
 (callsIn_wide (n:=5)).1 (Tryz.sorted_in Fence.wide 5 trivial trivial trivial trivial trivial rfl (by omega) (fun blk off cap ss W hH hblk hsz=>callsIn_wide.2 (Tryz.slices_Sort_int blk off cap ss W hH hblk hsz)) (fun p cap W=>callsIn_wide.2 (Tryz.slices_Sort_int_none p cap W)) Bs sv zs hlen w hBs hc0 hI)
end Go.Proofs
end
section
namespace Go.Proofs
open Go.Abs
theorem Tryz.valuesK:Qbfz Tryz.prog 59 97 1 4:=Qbf4 (by kernel_rfl)
theorem Tryz.overK:Qbim Tryz.prog 58 97 (eI .i64) 1 Qbf3 :=
 Qbf5 (by kernel_rfl) fun Bs sv zs w h1 h2 h3 h4=>Tryz.sorted58 Bs sv zs h1 w h2 h3 h4
end Go.Proofs
end
section
namespace Go.Abs
open Go Go.RowKit
theorem Q5v {P:Program} {f:FuncId} {args:List V} {x:D} (hx:x.scalar=true) (hb:Qhn P f=true)
  (h:∀ (w:World) (g:G) (us:List Value),(∀ b o,g.imm b o→b<w.heap.size)→RFs g w args us→Calls P f us.toArray w fun e w'=>e = .returned x.val∧Below w.heap.size w w') (M:Mem) (nb:Nat) (hfl0:V.dems args=args:=by rfl):ACalls P f args M nb (.d x) M nb:=by
 refine ACalls.mk' hb (Nat.le_refl _) hfl0 fun w g us hm hMon hus hfl hons=>?_;refine Calls.mono (h w g us (fun b o hi=>(hm.imm b o hi).1) hus) ?_;rintro e w' ⟨rfl,hbw⟩;have hI:Imm g.imm g.imm w w':=⟨fun _ _ h=>h,fun b o hi=>Qdz (hbw.block b (hm.imm b o hi).1)⟩;have hk:Kept g w g w' (There M) (fun _=>True):=⟨hI,fun _ _=>rfl,fun b _ hlt=>⟨rfl,hbw.block b hlt,fun _=>Iff.rfl⟩⟩;refine ⟨_,g,rfl,hm.kept hk hMon (fun _ _ _=>trivial) trivial (fun _ _=>trivial) (fun b o hi=>?_),?_,trivial,hMon,?_⟩
 ·obtain ⟨h1,h2⟩:=hm.imm b o hi;exact ⟨Nat.lt_of_lt_of_le h1 hbw.size,h2⟩
 ·simp only [RV];exact (Qbd1 hx).2 rfl
 ·exact ⟨hbw.os,hbw.tape,hbw.output,hbw.size,hI,fun _ _=>rfl,fun b hb _=>⟨rfl,hbw.block b hb,fun _=>Iff.rfl⟩⟩
theorem Qbit {g:G} {w:World} {l:List Int} {k:IntKind} {u:Value} (h:RF g w (.d (.lst 1 (l.map (fun n=>[.int k n])))) u) :
  ∃ a cap,u = .slice a l.length cap∧l.length≤cap∧(l=[]∨∃ b o,a=some ⟨b,o,none⟩∧∀ (i:Nat) n,l[i]? = some n→g.imm b (o+i)∧w.cell? ⟨b,o+i,none⟩=some (.int k n)):=by
 have h:=RF_d.1 h;simp only [RD,List.length_map] at h;obtain ⟨a,cap,rfl,hc,hl⟩:=h;refine ⟨a,cap,rfl,hc,?_⟩;rcases hl with hl|⟨b,o,rfl,hl⟩
 ·exact .inl (by simpa using hl)
 ·refine .inr ⟨b,o,rfl,fun i n hi=>?_⟩;have:=(Qw3 hl i [.int k n] (by simp [hi])).2;simp only [RDc,Nat.mul_one,RD] at this;obtain ⟨h1,⟨u,h2,rfl⟩,_⟩:=this;exact ⟨h1,h2⟩
end Go.Abs
end
section
namespace Go.Proofs
open Go.RowKit Go.Abs
def keyL (l:List Int):List UInt8:=l.flatMap fun x=>Lib.encodeRune (x+1)
theorem Qbd8:∀ l:List Int,(keyL l).length≤4*l.length
 | []=>by simp [keyL]
 | x::l=>by
  have h:=Lib.runeCells_le (x+1);rw [Lib.runeCells_length] at h;have ih:=Qbd8 l;simp only [keyL,List.flatMap_cons,List.length_append,List.length_cons] at *
  omega
set_option maxHeartbeats 4000000 in
set_option maxRecDepth 1000000 in
theorem Tryz.key_walk (l:List Int) (hl:l.length≤lim) (hx:∀ x∈l,0≤x∧x<50000) (a:Option Addr) (cap:Nat) (w:World)
  (hc:∀ (i:Nat) n,l[i]? = some n→∃ b o,a=some ⟨b,o,none⟩∧b<w.heap.size∧w.cell? ⟨b,o+i,none⟩=some (.int .i64 n)) :
  Calls Tryz.prog 70 #[.slice a l.length cap] w fun e w'=>e = .returned (.string (keyB l))∧Below w.heap.size w w':=by
 have hlim:l.length≤1099511627776:=hl
 go_enter Tryz.func70,Tryz.ntmps70
 go_wp2
 go_loopw [8] (fun vi wr=>∃ (k:Nat),vi = .int .i64 k∧k≤l.length∧Lib.IsBuilderF 165 5 w.heap.size w.heap.size (Lib.byteCells (keyL (l.take k))) wr∧Below w.heap.size w wr) (fun vi _=>l.length-(intOf vi).toNat)
 case atStart =>
  refine ⟨0,rfl,by omega,?_,((Below.refl _ w).alloc (Nat.le_refl _) _)⟩;exact Lib.IsBuilderF.of (Lib.fresh_isBuilder 165 5 w)
 case round =>
  obtain ⟨k,rfl,hk,hI,hbw⟩:=hrel;by_cases hlt:k<l.length
  ·obtain ⟨b,o,rfl,hb,hcell⟩:=hc k l[k] (List.getElem?_eq_getElem hlt);have hcr:wr.cell? ⟨b,o+k,none⟩=some (.int .i64 l[k]):=by
    rw [← hcell];simp only [World.cell?];rw [hbw.block b hb]
   have hxk:=hx l[k] (List.getElem_mem hlt);have w1:IntKind.i64.wrap (l[k]+1)=l[k]+1:=by simp [IntKind.wrap,IntKind.bits,IntKind.signed];omega
   have w2:IntKind.i32.wrap (l[k]+1)=l[k]+1:=by simp [IntKind.wrap,IntKind.bits,IntKind.signed];omega
   have hsz:w.heap.size≤wr.heap.size:=hbw.size;have hkl:=Qbd8 (l.take k);rw [List.length_take] at hkl
   go_wp2_with (go_at_call 103;refine (Tryz.Builder_WriteRune_k w.heap.size w.heap.size _ (l[k]+1) (by omega) (by omega) _ hI (by rw [Lib.byteCells_length];omega) hsz).mono ?_)
   rintro e W1 ⟨rfl,h1,b1,k1⟩
   go_wp2
   go_roundw
   case rel =>
    refine ⟨k+1,by simp,by omega,?_,hbw.trans b1⟩;have e1:keyL (l.take (k+1))=keyL (l.take k)++Lib.encodeRune (l[k]+1):=by
     rw [List.take_succ_eq_append_getElem hlt];simp only [keyL,List.flatMap_append,List.flatMap_cons,List.flatMap_nil,List.append_nil]
    rw [e1,Lib.byteCells_append,Lib.byteCells_encodeRune];exact Or.inr h1
   case measure =>
    simp [intOf];omega
  ·have hk2:k=l.length:=by omega
   subst hk2
   go_wp2_with (go_at_call 104;refine (Tryz.Builder_String_any_k w.heap.size w.heap.size _ _ hI hbw.size).mono ?_)
   rintro e W1 ⟨rfl,_,b1,_⟩
   go_wp2
   go_ret
   exact ⟨rfl,hbw.trans b1⟩
theorem Tryz.keyK:Go.Abs.K_projection_key Tryz.prog 70 keyS:=by
 intro l r h;unfold keyS at h;split at h<;>cases h;rename_i hc;intro M nb;refine Q5v rfl (by kernel_rfl) (fun w g us himm hus=>?_) M nb;obtain ⟨u,us',rfl,hu,hus'⟩:=hus;simp only [RFs] at hus';subst hus';obtain ⟨a,cap,rfl,hcap,hl⟩:=Qbit hu;refine Tryz.key_walk l hc.1 hc.2 a cap w fun i n hi=>?_;rcases hl with rfl|⟨b,o,rfl,hl⟩
 ·simp at hi
 ·exact ⟨b,o,rfl,himm _ _ (hl i n hi).1,(hl i n hi).2⟩
end Go.Proofs
end
section
namespace Go.Proofs
open Go.Shelf Go.RowKit Go.Lib Go.Sort Go.Abs
set_option maxRecDepth 100000
set_option maxHeartbeats 4000000
theorem Qbkp (W:World):W.drew.heap=W.heap:=rfl
theorem Qgw (W:World) (o:Obj) (n:Nat) (h:n=W.heap.size):(W.alloc o).heap[n]? = some o:=by subst h;exact heap_alloc_new _ _
theorem Qbq (W:World) (o:Obj) (n:Nat) (h:n<W.heap.size):(W.alloc o).heap[n]? = W.heap[n]?:=Lib.alloc_old _ _ _ h
theorem Tryz.graph_walk (al mk:Option Addr) (ca cm be oe ce:Nat) (w:World) (h0:w.cell? ⟨be,oe,none⟩=some (.int .i64 0)) (h1:w.cell? ⟨be,oe+1,none⟩=some (.int .i64 0)) (h2:w.cell? ⟨be,oe+2,none⟩=some (.int .i64 0)) (hb:be<w.heap.size) :
  Calls Tryz.prog 91 #[.agg #[.slice al 2 ca,.int .i64 2,.slice mk 0 cm,.slice (some ⟨be,oe,none⟩) 1 ce]] w fun e w'=>∃ B,e = .returned (.agg #[.slice al 2 ca,.int .i64 2,.slice mk 0 cm,.slice (some ⟨be,oe,none⟩) 1 ce,.slice (some ⟨B,0,none⟩) 3 3]) ∧
   w.heap.size≤B∧w'.heap[B]? = some (.cells #[.int .i64 0,.int .i64 1,.int .i64 1] 3 (0,0))∧Below w.heap.size w w':=by
 have hmk:∀ w,(Instr.makeSlice 32 (.int .i64 3) (.int .i64 3)).run Tryz.prog w = .ok (.slice (some ⟨w.heap.size,0,none⟩) 3 3) (w.alloc (.cells #[.int .i64 0,.int .i64 0,.int .i64 0] 3)):=fun _=>by kernel_rfl
 have hb1:be<w.heap.size+1:=by omega
 have hb2:be<w.heap.size+1+1:=by omega
 have hb3:be<w.heap.size+1+1+1:=by omega
 have hb4:be<w.heap.size+1+1+1+1:=by omega
 have hn0:be≠w.heap.size:=by omega
 have hn1:be≠w.heap.size+1:=by omega
 have hn2:be≠w.heap.size+1+1:=by omega
 have hn3:be≠w.heap.size+1+1+1:=by omega
 have hn4:be≠w.heap.size+1+1+1+1:=by omega
 go_enter Tryz.func91,Tryz.ntmps91
 go_wp2
 go_region
 all_goals
  go_wp2
  refine wp_loop_rounds 2 ?_;rw [rounds_succ]
  go_wp2
  rw [rounds_succ]
  go_wp2
  refine wp_loop_rounds 3 ?_;rw [rounds_succ]
  go_wp2
  go_region
  go_wp2
  rw [rounds_succ]
  go_wp2
  go_region
  go_wp2
  rw [rounds_succ]
  go_wp2
  (try simp only [Exit.inBlock,Exit.then])
  refine bodyPost_ret (by simp [results,show Tryz.f91.results = #[.cell 2 151] from rfl,loadVar,asAddr,Tryz.isAgg151,Tryz.sizeOf151,go_sem];rfl) rfl ?_;refine ⟨_,rfl,by omega,?_,?_⟩
  ·simp only [Qbkp]
   repeat (first|exact Qgw _ _ _ (by simp)|rw [Qbq _ _ _ (by simp;try omega)])
  ·first|exact ((((((((Below.refl _ w).alloc (Nat.le_refl _) _).alloc (by simp) _).alloc (by simp;omega) _).alloc (by simp;omega) _).alloc (by simp;omega) _).drew.drew.drew))|trace_state
end Go.Proofs
end
section
namespace Go.Proofs
open Go.Shelf Go.RowKit Go.Lib Go.Sort Go.Abs
set_option maxRecDepth 100000
set_option maxHeartbeats 4000000
theorem Tryz.int_parts:(Tryz.prog.info? 3).map (fun i=>(i.zero,i.size,i.bytes))=some (some (.int .i64 0),1,8):=by kernel_rfl
structure Far (w w' : World) (p:Nat→Prop):Prop where
 os:w'.os=w.os
 tape:w'.tape=w.tape
 output:w'.output=w.output
 size:w.heap.size≤w'.heap.size
 block:∀ k,k<w.heap.size→p k→w'.heap[k]? = w.heap[k]?
theorem Far.refl (w:World) (p:Nat→Prop):Far w w p:=⟨rfl,rfl,rfl,Nat.le_refl _,fun _ _ _=>rfl⟩
theorem Far.alloc {w w' : World} {p:Nat→Prop} (h:Far w w' p) (o:Obj):Far w (w'.alloc o) p :=
 ⟨h.os,h.tape,h.output,Nat.le_trans h.size (by simp),fun k hk hp=>(Below.heap_alloc _ _ _ (Nat.lt_of_lt_of_le hk h.size)).trans (h.block k hk hp)⟩
theorem Far.drew {w w' : World} {p:Nat→Prop} (h:Far w w' p):Far w w'.drew p:=⟨h.os,h.tape,h.output,h.size,h.block⟩
theorem Far.set {w w' : World} {p:Nat→Prop} (h:Far w w' p) (a:Addr) (u:Value) (ha:∀ k,k<w.heap.size→p k→k≠a.block):Far w (w'.setCell a u) p :=
 ⟨h.os,h.tape,h.output,Nat.le_trans h.size (by simp [World.setCell]),fun k hk hp=>(Below.heap_setCell _ _ _ _ (ha k hk hp)).trans (h.block k hk hp)⟩
theorem Far.trans {a b c:World} {p q:Nat→Prop} (h:Far a b p) (k:Far b c q) (hq:∀ i,i<a.heap.size→p i→q i):Far a c p :=
 ⟨k.os.trans h.os,k.tape.trans h.tape,k.output.trans h.output,Nat.le_trans h.size k.size,fun i hi hp=>(k.block i (Nat.lt_of_lt_of_le hi h.size) (hq i hi hp)).trans (h.block i hi hp)⟩
theorem Far.ofGrown {w w' : World} {row:Option Nat} (h:w.grownBy w' row):Far w w' (fun k=>some k≠row):=⟨h.os,h.tape,h.output,h.size,h.block⟩
theorem Far.cell {w w' : World} {p:Nat→Prop} (h:Far w w' p) {b:Nat} (hb:b<w.heap.size) (hp:p b) (i:Nat):w'.cell? ⟨b,i,none⟩=w.cell? ⟨b,i,none⟩:=by simp [World.cell?,h.block b hb hp]
theorem Qbd9 (w:World) (x:Value) (t:TypeId) (n:Nat) (hn:n=w.heap.size):∀ j u,[x][j]? = some u→(w.alloc (.cells #[x] t)).drew.cell? ((⟨n,0,none⟩ : Addr).add j)=some u:=by subst hn;exact cell_one_new w x t
theorem Q0n (w:World) (i:Nat):w.drew.heap[i]? = w.heap[i]?:=rfl
theorem Qd9 (w:World) (a:Addr) (u:Value) (k:Nat) (h:k≠a.block):(w.setCell a u).heap[k]? = w.heap[k]?:=Below.heap_setCell w a u k h
theorem Qsq (w:World) (a:Addr) (u:Value):(w.setCell a u).heap.size=w.heap.size:=by simp [World.setCell]
theorem Tryz.finish1_walk (al mk:Option Addr) (ca cm be oe ce B S:Nat) (w:World) (base:Nat) (hbase:base≤w.heap.size) (v:Value) (k:Nat) (xs:List Value) (hk:k≤10) (hown:w.ownsRow base 3 1 v k xs) (hvS:some S≠v.ownBlock) 
  (b0:w.cell? ⟨B,0,none⟩=some (.int .i64 0)) (b1:w.cell? ⟨B,1,none⟩=some (.int .i64 1)) (b2:w.cell? ⟨B,2,none⟩=some (.int .i64 1)) (hB:B<w.heap.size)
  (s0:Value) (hS:w.heap[S]? = some (.cells #[s0,.bool false] 4 (0,0))) (hBS:B≠S) :
  Calls Tryz.prog 92 #[.agg #[.slice al 2 ca,.int .i64 2,.slice mk 0 cm,.slice (some ⟨be,oe,none⟩) 1 ce,.slice (some ⟨B,0,none⟩) 3 3],.int .i64 1,.slice (some ⟨S,0,none⟩) 2 2,v] w fun e w'=>∃ g cap,e = .returned (.slice (some ⟨g,0,none⟩) (k+1) cap) ∧
   w'.ownsRow base 3 1 (.slice (some ⟨g,0,none⟩) (k+1) cap) (k+1) (xs++[.int .i64 1])∧w'.heap[S]? = some (.cells #[s0,.bool true] 4 (0,0))∧Far w w' (fun i=>i≠S∧some i≠v.ownBlock)∧(v.ownBlock=some g∨w.heap.size≤g):=by
 obtain ⟨i0,hi0,hz0,hz1,hz2⟩:=info_parts Tryz.int_parts;have hS1:w.cell? ⟨S,1,none⟩=some (.bool false):=by simp [World.cell?,hS]
 have hF1:w.frozen? ⟨S,1,none⟩=false:=by simp [World.frozen?,hS]
 have hSl:S<w.heap.size:=(Array.getElem?_eq_some_iff.1 hS).1;have hB1:B<w.heap.size+1:=by omega
 have hB2:B<w.heap.size+1+1:=by omega
 have hB3:B<w.heap.size+1+1+1:=by omega
 have hS1:S<w.heap.size+1:=by omega
 have hS2:S<w.heap.size+1+1:=by omega
 have hS3:S<w.heap.size+1+1+1:=by omega
 have hn0:B≠w.heap.size:=by omega
 have hn1:S≠w.heap.size:=by omega
 have hn0' : B≠w.heap.size+1:=by omega
 have hn1' : S≠w.heap.size+1:=by omega
 go_enter Tryz.func92,Tryz.ntmps92
 go_wp2
 refine wp_loop_rounds 2 ?_;rw [rounds_succ]
 go_wp2
 go_region
 all_goals
  go_wp2_with (
     at_builtin
     refine wpList_append_lies _ rfl (.tmp 45) (.tmp 50) _ rfl base 3 i0 _ 1 8 Tryz.underlying32 hi0 hz0 hz1 hz2 rfl (by omega) v k xs rfl ?_ _ 1 1 [.int .i64 1] rfl rfl ?_ ?_ (by omega) (by simp only [maxLen];omega) (by omega) ?_ _ rfl ?_
    )
  ·exact (((ownsRow_setCell_other hown (fun h=>hvS h.symm) _).alloc _).alloc _).alloc _
  ·exact Qbd9 _ _ _ _ (by simp)
  ·simp [Value.oneCell']
  ·simp;omega
  ·intro g cap w1 hown1 hgrow hat hlt
   go_wp2
   rw [rounds_succ]
   go_wp2
   go_ret
   refine ⟨g,cap,rfl,hown1,?_,?_,?_⟩
   ·rw [hgrow.block S (by simp;omega) hvS]
    (repeat rw [Q0n])
    rw [Qbq _ _ _ (by simp;omega),Qbq _ _ _ (by simp;omega),Qbq _ _ _ (by simp;omega)];exact heap_setCell_same _ _ _ _ _ _ hS
   ·refine Far.trans ?_ (Far.ofGrown hgrow) (fun i _ h=>h.2);exact ((((Far.refl w (fun i=>i≠S∧some i≠v.ownBlock)).set ⟨S,1,none⟩ _ (fun k _ h=>h.1)).alloc _).alloc _).alloc _ |>.drew
   ·rcases hat with h|h
    ·exact .inl h
    ·right;omega
theorem Tryz.finish0_walk (al mk:Option Addr) (ca cm be oe ce B S:Nat) (w:World) (base:Nat) (hbase:base≤w.heap.size) (v:Value) (k:Nat) (xs:List Value) (hk:k≤10) (hown:w.ownsRow base 3 1 v k xs) (hvS:some S≠v.ownBlock) (e0:w.cell? ⟨be,oe,none⟩=some (.int .i64 0)) (e1:w.cell? ⟨be,oe+1,none⟩=some (.int .i64 0)) (e2:w.cell? ⟨be,oe+2,none⟩=some (.int .i64 0)) (hbe:be<w.heap.size) (hbS:be≠S) 
  (b0:w.cell? ⟨B,0,none⟩=some (.int .i64 0)) (b1:w.cell? ⟨B,1,none⟩=some (.int .i64 1)) (b2:w.cell? ⟨B,2,none⟩=some (.int .i64 1)) (hB:B<w.heap.size)
  (s0:Value) (hS:w.heap[S]? = some (.cells #[.bool false,s0] 4 (0,0))) (hBS:B≠S) :
  Calls Tryz.prog 92 #[.agg #[.slice al 2 ca,.int .i64 2,.slice mk 0 cm,.slice (some ⟨be,oe,none⟩) 1 ce,.slice (some ⟨B,0,none⟩) 3 3],.int .i64 0,.slice (some ⟨S,0,none⟩) 2 2,v] w fun e w'=>∃ g cap,e = .returned (.slice (some ⟨g,0,none⟩) (k+1) cap) ∧
   w'.ownsRow base 3 1 (.slice (some ⟨g,0,none⟩) (k+1) cap) (k+1) (xs++[.int .i64 0])∧w'.heap[S]? = some (.cells #[.bool true,s0] 4 (0,0))∧Far w w' (fun i=>i≠S∧some i≠v.ownBlock)∧(v.ownBlock=some g∨w.heap.size≤g):=by
 obtain ⟨i0,hi0,hz0,hz1,hz2⟩:=info_parts Tryz.int_parts;have hS1:w.cell? ⟨S,0,none⟩=some (.bool false):=by simp [World.cell?,hS]
 have hF1:w.frozen? ⟨S,0,none⟩=false:=by simp [World.frozen?,hS]
 have hSl:S<w.heap.size:=(Array.getElem?_eq_some_iff.1 hS).1;have hB1:B<w.heap.size+1:=by omega
 have hB2:B<w.heap.size+1+1:=by omega
 have hB3:B<w.heap.size+1+1+1:=by omega
 have hS1:S<w.heap.size+1:=by omega
 have hS2:S<w.heap.size+1+1:=by omega
 have hS3:S<w.heap.size+1+1+1:=by omega
 have hn0:B≠w.heap.size:=by omega
 have hn1:S≠w.heap.size:=by omega
 have hn0' : B≠w.heap.size+1:=by omega
 have hn1' : S≠w.heap.size+1:=by omega
 have hbe1:be<w.heap.size+1:=by omega
 have hbe2:be<w.heap.size+1+1:=by omega
 have hbe3:be<w.heap.size+1+1+1:=by omega
 have hn2:be≠w.heap.size:=by omega
 have hn2' : be≠w.heap.size+1:=by omega
 go_enter Tryz.func92,Tryz.ntmps92
 go_wp2
 refine wp_loop_rounds 3 ?_;rw [rounds_succ]
 go_wp2
 go_region
 all_goals
  go_wp2
  go_region
 all_goals
  go_wp2
  rw [rounds_succ]
  go_wp2
  go_region
 all_goals
  go_wp2_with (
     at_builtin
     refine wpList_append_lies _ rfl (.tmp 45) (.tmp 50) _ rfl base 3 i0 _ 1 8 Tryz.underlying32 hi0 hz0 hz1 hz2 rfl (by omega) v k xs rfl ?_ _ 1 1 [.int .i64 0] rfl rfl ?_ ?_ (by omega) (by simp only [maxLen];omega) (by omega) ?_ _ rfl ?_
    )
  ·exact (((ownsRow_setCell_other hown (fun h=>hvS h.symm) _).alloc _).alloc _).alloc _
  ·exact Qbd9 _ _ _ _ (by simp)
  ·simp [Value.oneCell']
  ·simp;omega
  ·intro g cap w1 hown1 hgrow hat hlt
   go_wp2
   rw [rounds_succ]
   go_wp2
   go_ret
   refine ⟨g,cap,rfl,hown1,?_,?_,?_⟩
   ·rw [hgrow.block S (by simp;omega) hvS]
    (repeat rw [Q0n])
    rw [Qbq _ _ _ (by simp;omega),Qbq _ _ _ (by simp;omega),Qbq _ _ _ (by simp;omega)];exact heap_setCell_same _ _ _ _ _ _ hS
   ·refine Far.trans ?_ (Far.ofGrown hgrow) (fun i _ h=>h.2);exact ((((Far.refl w (fun i=>i≠S∧some i≠v.ownBlock)).set ⟨S,0,none⟩ _ (fun k _ h=>h.1)).alloc _).alloc _).alloc _ |>.drew.drew.drew
   ·rcases hat with h|h
    ·exact .inl h
    ·right;omega
end Go.Proofs
end
section
namespace Go.Proofs
open Go.Shelf Go.RowKit Go.Lib Go.Sort Go.Abs
set_option maxRecDepth 100000
set_option maxHeartbeats 4000000
theorem Tryz.ins_few (n:Nat) (hn:n≤1) (p:Option Addr) (cap:Nat) (fv:Value) (w:World) :
  Calls Tryz.prog 133 #[.slice p n cap,.int .i64 0,.int .i64 n,fv] w fun e w'=>e = .returned (.tuple #[])∧w'=w:=by
 obtain rfl|rfl:n=0∨n=1:=by omega
 all_goals
  go_enter Tryz.func133,Tryz.ntmps133
  go_wp2
  refine wp_loop_rounds 1 ?_;rw [rounds_succ]
  go_wp2
  go_end0
  exact ⟨rfl,rfl⟩
theorem Tryz.pdq_few (n:Nat) (hn:n≤1) (p:Option Addr) (cap:Nat) (lim:Int) (fv:Value) (w:World) :
  Calls Tryz.prog 98 #[.slice p n cap,.int .i64 0,.int .i64 n,.int .i64 lim,fv] w fun e w'=>e = .returned (.tuple #[])∧w'=w:=by
 have hi:=fun W=>Tryz.ins_few n hn p cap fv W;obtain rfl|rfl:n=0∨n=1:=by omega
 all_goals
  go_enter Tryz.func98,Tryz.ntmps98
  go_wp2
  refine wp_loop_rounds 1 ?_;rw [rounds_succ]
  go_wp2_with (go_at_call 133;refine (hi _).mono ?_;rintro e w' ⟨rfl,rfl⟩)
  (try simp only [Exit.inBlock,Exit.then]);refine bodyPost_ret (results_none rfl _ _ _) rfl ?_
  exact ⟨rfl,rfl⟩
theorem Tryz.sort_few (n:Nat) (hn:n≤1) (p:Option Addr) (cap:Nat) (fv:Value) (w:World) :
  Calls Tryz.prog 60 #[.slice p n cap,fv] w fun e w'=>e = .returned (.tuple #[])∧w'=w:=by
 have hp:=fun lim W=>Tryz.pdq_few n hn p cap lim fv W;obtain rfl|rfl:n=0∨n=1:=by omega
 all_goals
  go_enter Tryz.func60,Tryz.ntmps60
  go_wp2_with (first|(go_at_call 99;refine (Tryz.bits_Len _ _ (by omega) (by omega)).mono ?_;rintro e w' ⟨rfl,rfl⟩)|(go_at_call 98;refine (hp _ _).mono ?_;rintro e w' ⟨rfl,rfl⟩))
  go_end0
  exact ⟨rfl,rfl⟩
theorem Tryz.sortRK:Go.Abs.K_slices_SortFunc___int Tryz.prog 60 Qbis:=by
 intro l r h;unfold Qbis at h;split at h<;>cases h;rename_i hl;intro M nb;refine ACalls.mk' (by kernel_rfl) (Nat.le_refl _) rfl fun w g us hm hMon hus hfl hons=>?_;obtain ⟨u,us',rfl,hu,u2,us2,rfl,hu2,hus2⟩:=hus;have h0:us2=[]:=hus2;subst h0;have hu:=RF_d.1 hu;simp only [RD] at hu;obtain ⟨a,cap,rfl,_,_⟩:=hu;refine Calls.mono (Tryz.sort_few _ (by simpa using hl) a cap u2 w) ?_;rintro e w' ⟨rfl,rfl⟩;exact ⟨_,g,rfl,hm,⟨[],rfl,rfl⟩,trivial,hMon,Fr.refl _ _ _⟩
end Go.Proofs
end
section
namespace Go.Proofs
open Go.Shelf Go.RowKit Go.Lib Go.Sort Go.Abs
set_option maxRecDepth 100000
set_option maxHeartbeats 4000000
theorem Tryz.insI_few (n:Nat) (hn:n≤1) (p:Option Addr) (cap:Nat) (w:World) :
  Calls Tryz.prog 149 #[.slice p n cap,.int .i64 0,.int .i64 n] w fun e w'=>e = .returned (.tuple #[])∧w'=w:=by
 obtain rfl|rfl:n=0∨n=1:=by omega
 all_goals
  go_enter Tryz.func149,Tryz.ntmps149
  go_wp2
  refine wp_loop_rounds 1 ?_;rw [rounds_succ]
  go_wp2
  go_end0
  exact ⟨rfl,rfl⟩
theorem Tryz.pdqI_few (n:Nat) (hn:n≤1) (p:Option Addr) (cap:Nat) (lim:Int) (w:World) :
  Calls Tryz.prog 131 #[.slice p n cap,.int .i64 0,.int .i64 n,.int .i64 lim] w fun e w'=>e = .returned (.tuple #[])∧w'=w:=by
 have hi:=fun W=>Tryz.insI_few n hn p cap W;obtain rfl|rfl:n=0∨n=1:=by omega
 all_goals
  go_enter Tryz.func131,Tryz.ntmps131
  go_wp2
  refine wp_loop_rounds 1 ?_;rw [rounds_succ]
  go_wp2_with (go_at_call 149;refine (hi _).mono ?_;rintro e w' ⟨rfl,rfl⟩)
  (try simp only [Exit.inBlock,Exit.then]);refine bodyPost_ret (results_none rfl _ _ _) rfl ?_
  exact ⟨rfl,rfl⟩
theorem Tryz.sortI_few (n:Nat) (hn:n≤1) (p:Option Addr) (cap:Nat) (w:World) :
  Calls Tryz.prog 94 #[.slice p n cap] w fun e w'=>e = .returned (.tuple #[])∧w'=w:=by
 have hp:=fun lim W=>Tryz.pdqI_few n hn p cap lim W;obtain rfl|rfl:n=0∨n=1:=by omega
 all_goals
  go_enter Tryz.func94,Tryz.ntmps94
  go_wp2_with (first|(go_at_call 99;refine (Tryz.bits_Len _ _ (by omega) (by omega)).mono ?_;rintro e w' ⟨rfl,rfl⟩)|(go_at_call 131;refine (hp _ _).mono ?_;rintro e w' ⟨rfl,rfl⟩))
  go_end0
  exact ⟨rfl,rfl⟩
theorem Qyt {α:Type} [Inhabited α] (enc:α→Value) (w:World) (blk off m:Nat) (d:Array α) (os:Array Obj):Far w (sortWorld enc w blk off m d os) (fun k=>k≠blk):=by
 unfold sortWorld;refine ⟨rfl,rfl,rfl,by simp [grow],fun k hk hne=>?_⟩;rw [heap_grow_old _ _ (by simpa using hk)];have:blk≠k:=fun e=>hne e.symm;simp [putRow,mapBlock,Sort.ahead,Array.getElem?_modify,this]
theorem Tryz.less_walk (A B:Nat) (ca cb:Nat) (x y:Int) (w:World) (ha:w.cell? ⟨A,0,none⟩=some (.int .i64 x)) (hb:w.cell? ⟨B,0,none⟩=some (.int .i64 y)) :
  Calls Tryz.prog 95 #[.slice (some ⟨A,0,none⟩) 1 ca,.slice (some ⟨B,0,none⟩) 1 cb] w fun e w'=>e = .returned (.int .i64 (wrap64 (x-y)))∧∃ q,w'=w.drewN q:=by
 go_enter Tryz.func95,Tryz.ntmps95
 go_wp2
 go_region
 all_goals
  go_wp2
  go_ret
  first|exact ⟨rfl,1,rfl⟩|exact ⟨rfl,0,rfl⟩|exact ⟨rfl,2,rfl⟩|trace_state
def rowS (A0 A1 c0 c1:Nat) (b:Bool):Value:=if b then .slice (some ⟨A1,0,none⟩) 1 c1 else .slice (some ⟨A0,0,none⟩) 1 c0
theorem Tryz.two_sorted (g cap A0 A1 c0 c1:Nat) (w:World) (h0:w.cell? ⟨A0,0,none⟩=some (.int .i64 0)) (h1:w.cell? ⟨A1,0,none⟩=some (.int .i64 1)) (e0:A0≠g) (e1:A1≠g)
  (hA0:A0<w.heap.size) (hA1:A1<w.heap.size) (hg:g<w.heap.size)
  (k0:w.cell? ⟨g,0,none⟩=some (rowS A0 A1 c0 c1 true)) (k1:w.cell? ⟨g,1,none⟩=some (rowS A0 A1 c0 c1 false)) (f:∀ i,w.frozen? ⟨g,i,none⟩=false) :
  Calls Tryz.prog 60 #[.slice (some ⟨g,0,none⟩) 2 cap,.func (.func 95) #[] #[]] w fun e w'=>e = .returned (.tuple #[])∧Far w w' (fun k=>k≠g)∧w'.cell? ⟨g,0,none⟩=some (rowS A0 A1 c0 c1 false)∧w'.cell? ⟨g,1,none⟩=some (rowS A0 A1 c0 c1 true):=by
 have hH:Holds (rowS A0 A1 c0 c1) w g 0 #[true,false]:=by
  intro j hj;have:j=0∨j=1:=by simp at hj;omega
  rcases this with rfl|rfl
  ·exact ⟨k0,f 0⟩
  ·exact ⟨k1,f 1⟩
 refine Calls.mono (Tryz.slices_SortFunc_eq (rowS A0 A1 c0 c1) (fun b=>by cases b<;>rfl) (fun a b=>(if a then 1 else 0)-(if b then 1 else 0)) ⟨by decide,by decide,by decide⟩ 95 #[] g 0 cap #[true,false] w (enters_of Tryz.func95 (by kernel_rfl) rfl) ?_ hH hg (by simp)) ?_
 ·intro m os dk hs x y;have hF:=Qyt (rowS A0 A1 c0 c1) w g 0 m dk os;have c0':=(hF.cell hA0 e0 0).trans h0;have c1':=(hF.cell hA1 e1 0).trans h1;cases x<;>cases y
  ·exact (Tryz.less_walk _ _ _ _ _ _ _ c0' c0').mono (by rintro e w' ⟨rfl,q,rfl⟩;exact ⟨by kernel_rfl,q,#[],by rw [grow_empty]⟩)
  ·exact (Tryz.less_walk _ _ _ _ _ _ _ c0' c1').mono (by rintro e w' ⟨rfl,q,rfl⟩;exact ⟨by kernel_rfl,q,#[],by rw [grow_empty]⟩)
  ·exact (Tryz.less_walk _ _ _ _ _ _ _ c1' c0').mono (by rintro e w' ⟨rfl,q,rfl⟩;exact ⟨by kernel_rfl,q,#[],by rw [grow_empty]⟩)
  ·exact (Tryz.less_walk _ _ _ _ _ _ _ c1' c1').mono (by rintro e w' ⟨rfl,q,rfl⟩;exact ⟨by kernel_rfl,q,#[],by rw [grow_empty]⟩)
 ·rintro e w' ⟨rfl,n,os,rfl⟩;have hp:pdq (ltOf fun a b:Bool=>(if a then (1:Int) else 0)-(if b then 1 else 0)) #[true,false] 0 (#[true,false]:Array Bool).size (Lib.bitLen (#[true,false]:Array Bool).size) true true = #[false,true]:=by kernel_rfl
  have hK:=holds_putRow (rowS A0 A1 c0 c1) (Sort.ahead w n) g 0 #[true,false] #[false,true] hH rfl;refine ⟨rfl,Qyt _ _ _ _ _ _ _,?_,?_⟩
  ·unfold sortWorld;rw [hp,cell?_grow _ _ _ (by simpa using hg)];exact (hK 0 (by simp)).1
  ·unfold sortWorld;rw [hp,cell?_grow _ _ _ (by simpa using hg)];exact (hK 1 (by simp)).1
end Go.Proofs
end
section
namespace Go.Proofs
open Go.RowKit Go.Maps Go.Sort Go.Shelf
attribute [local go_sem] Oper.semAt_some
def Keep2 (b o:Nat) (A B:World):Prop:=B.heap[b]? = A.heap[b]? ∧ B.heap[o]? = A.heap[o]?
theorem Keep2.refl {b o:Nat} (A:World):Keep2 b o A A:=⟨rfl,rfl⟩
theorem Keep2.trans {b o:Nat} {A B C:World} (h:Keep2 b o A B) (k:Keep2 b o B C):Keep2 b o A C:=⟨k.1.trans h.1,k.2.trans h.2⟩
theorem Keep2.box {b o:Nat} {A B:World} (h:Keep2 b o A B) (i:Nat):B.cell? ⟨b,i,none⟩=A.cell? ⟨b,i,none⟩:=by simp [World.cell?,h.1]
theorem Keep2.row {b o:Nat} {A B:World} (h:Keep2 b o A B) (i:Nat):B.cell? ⟨o,i,none⟩=A.cell? ⟨o,i,none⟩:=by simp [World.cell?,h.2]
def stN (b:Bool):Int:=if b then 1 else 0
set_option maxRecDepth 100000 in
set_option maxHeartbeats 2000000 in
theorem Tryz.back_stops (F:Fence) (n:Nat) (h7:F.fn 130) (hro:F.round=none) (hn:1≤n) (Bs O cap:Nat) (w:World) (hBs:Bs<w.heap.size) (hO:O<w.heap.size)
  (hc:w.cell? ⟨Bs,0,none⟩=some (.slice (some ⟨O,0,none⟩) 2 cap)) (o0:w.cell? ⟨O,0,none⟩=some (.int .i64 0)) (o1:w.cell? ⟨O,1,none⟩=some (.int .i64 1)) :
  SeqStopsK F n Tryz.prog 130 #[.pointer (some ⟨Bs,0,none⟩)] (fun x:Bool=>#[Value.int .i64 (stN x),Value.int .i64 (stN x)]) (Keep2 Bs O) (fun ys=>ys=[true,false]) (fun _=>True) 2 w:=by
 intro l J Jx W hW _ _ hY h0;have c0:=(hW.cell (p:=⟨Bs,0,none⟩) hBs).trans hc;have c1:=(hW.cell (p:=⟨O,0,none⟩) hO).trans o0;have c2:=(hW.cell (p:=⟨O,1,none⟩) hO).trans o1;refine CallsIn.mono (R:=fun e W'=>(∃ v,e = .returned v)∧(J [true,false] W' ∨ ∃ pre,Jx pre W')) ?_ (fun e W' ⟨h1,h2⟩=>⟨h1,h2.elim (fun h=>.inl ⟨_,rfl,h⟩) (fun ⟨p,h⟩=>.inr ⟨p,trivial,h⟩)⟩);show CallsIn F n Tryz.prog 130 #[.func (.yield l) #[] #[],.pointer (some ⟨Bs,0,none⟩)] W _;refine callsIn_of_wp Tryz.func130 rfl h7 ?_ hro;simp only [Tryz.ntmps130,List.size_toArray,List.length_cons,List.length_nil,Nat.reduceAdd,Nat.reduceSub,Array.replicate_succ,Array.replicate_zero,List.push_toArray,List.append_toArray,List.nil_append,List.cons_append]
 gi_wp2
 gi_loopw [3] (fun i wr=>Keep2 Bs O W wr∧((i = .int .i64 1∧J [] wr)∨(i = .int .i64 0∧J [true] wr)∨(i = .int .i64 (-1)∧J [true,false] wr)))
  (fun i _=>(intOf i+1).toNat)
 case atStart=>exact ⟨Keep2.refl _,.inl ⟨rfl,h0⟩⟩
 case round =>
  obtain ⟨hk,⟨rfl,hJ⟩|⟨rfl,hJ⟩|⟨rfl,hJ⟩⟩:=hrel
  ·obtain ⟨fn,tmps,assign,body,hy,hR⟩:=hY _ true wr hJ (by simp);have d0:=(hk.box 0).trans c0;have d2:=(hk.row 1).trans c2;simp only [stN,if_true] at hy
   gi_wp2
   refine hR.mono ?_;rintro e W3 (⟨rfl,hJ3,hk3⟩|⟨rfl,hJx3⟩)
   ·gi_wp2
    go_roundw
    case rel=>exact ⟨hk.trans hk3,.inr (.inl ⟨by simp,hJ3⟩)⟩
    case measure=>simp [intOf]
   ·gi_wp2
    refine bodyPost_ret (results_none rfl _ _ _) rfl ?_;exact ⟨⟨_,rfl⟩,.inr ⟨_,hJx3⟩⟩
  ·obtain ⟨fn,tmps,assign,body,hy,hR⟩:=hY _ false wr hJ (by simp);have d0:=(hk.box 0).trans c0;have d1:=(hk.row 0).trans c1;simp only [stN,if_false,Bool.false_eq_true] at hy
   gi_wp2
   refine hR.mono ?_;rintro e W3 (⟨rfl,hJ3,hk3⟩|⟨rfl,hJx3⟩)
   ·gi_wp2
    go_roundw
    case rel=>exact ⟨hk.trans hk3,.inr (.inr ⟨by simp,hJ3⟩)⟩
    case measure=>simp [intOf]
   ·gi_wp2
    refine bodyPost_ret (results_none rfl _ _ _) rfl ?_;exact ⟨⟨_,rfl⟩,.inr ⟨_,hJx3⟩⟩
  ·gi_wp2
   go_end0
   exact ⟨⟨_,rfl⟩,.inl hJ⟩
end Go.Proofs
end
section
namespace Go.Proofs
open Go.Shelf Go.RowKit Go.Lib Go.Sort Go.Abs
set_option maxRecDepth 100000
set_option maxHeartbeats 1000000
theorem Tryz.index_at (ba oa ca:Nat) (w:World) (a0:w.cell? ⟨ba,oa,none⟩=some (.int .i64 0)) (a1:w.cell? ⟨ba,oa+1,none⟩=some (.int .i64 1)) :
  Calls Tryz.prog 118 #[.slice (some ⟨ba,oa,none⟩) 2 ca,.int .i64 0] w fun e w'=>e = .returned (.int .i64 0)∧Below w.heap.size w w':=by
 go_enter Tryz.func118,Tryz.ntmps118
 go_wp2
 refine wp_loop_rounds 1 ?_;rw [rounds_succ]
 go_wp2
 go_ret
 exact ⟨rfl,Below.refl _ _⟩
theorem Tryz.contains_at (ba oa ca:Nat) (w:World) (a0:w.cell? ⟨ba,oa,none⟩=some (.int .i64 0)) (a1:w.cell? ⟨ba,oa+1,none⟩=some (.int .i64 1)) :
  Calls Tryz.prog 87 #[.slice (some ⟨ba,oa,none⟩) 2 ca,.int .i64 0] w fun e w'=>e = .returned (.bool true)∧Below w.heap.size w w':=by
 go_enter Tryz.func87,Tryz.ntmps87
 go_wp2_with (go_at_call 118;refine (Tryz.index_at ba oa ca _ a0 a1).mono ?_;rintro e w1 ⟨rfl,hb1⟩)
 go_ret
 exact ⟨rfl,hb1⟩
theorem Tryz.set_at (ba oa ca:Nat) (w:World) (a0:w.cell? ⟨ba,oa,none⟩=some (.int .i64 0)) (a1:w.cell? ⟨ba,oa+1,none⟩=some (.int .i64 1)) :
  Calls Tryz.prog 110 #[.slice (some ⟨ba,oa,none⟩) 2 ca,.int .i64 32] w fun e w'=>e = .returned (.int .i64 0)∧Below w.heap.size w w':=by
 go_enter Tryz.func110,Tryz.ntmps110
 go_wp2
 refine wp_loop_rounds 3 ?_;rw [rounds_succ]
 go_wp2
 rw [rounds_succ]
 go_wp2
 rw [rounds_succ]
 go_wp2
 go_ret
 exact ⟨rfl,Below.refl _ _⟩
theorem Tryz.set_none (p:Option Addr) (ca:Nat) (n:Int) (w:World) :
  Calls Tryz.prog 110 #[.slice p 0 ca,.int .i64 n] w fun e w'=>e = .returned (.int .i64 0)∧Below w.heap.size w w':=by
 go_enter Tryz.func110,Tryz.ntmps110
 go_wp2
 refine wp_loop_rounds 1 ?_;rw [rounds_succ]
 go_wp2
 go_ret
 exact ⟨rfl,Below.refl _ _⟩
theorem Tryz.edges_at (ba oa ca be oe ce cm:Nat) (mk:Option Addr) (w:World) (hba:ba<w.heap.size) (hbe:be<w.heap.size) (a0:w.cell? ⟨ba,oa,none⟩=some (.int .i64 0)) (a1:w.cell? ⟨ba,oa+1,none⟩=some (.int .i64 1))
  (e0:w.cell? ⟨be,oe,none⟩=some (.int .i64 0)) (e1:w.cell? ⟨be,oe+1,none⟩=some (.int .i64 0)) (e2:w.cell? ⟨be,oe+2,none⟩=some (.int .i64 0)) :
  Calls Tryz.prog 111 #[.agg #[.slice (some ⟨ba,oa,none⟩) 2 ca,.int .i64 2,.slice mk 0 cm,.slice (some ⟨be,oe,none⟩) 1 ce]] w fun e w'=>e = .returned (.int .i64 0)∧Below w.heap.size w w':=by
 have hb1:be<w.heap.size+1:=by omega
 have hb2:be<w.heap.size+1+1:=by omega
 have hn0:be≠w.heap.size:=by omega
 have hn1:be≠w.heap.size+1:=by omega
 have ha1:ba<w.heap.size+1:=by omega
 have ha2:ba<w.heap.size+1+1:=by omega
 have hm0:ba≠w.heap.size:=by omega
 have hm1:ba≠w.heap.size+1:=by omega
 have hX:=fun o1 o2=>(((Below.refl w.heap.size w).alloc (Nat.le_refl _) o1).alloc (by simp) o2);have hc:=fun W h0 h1=>Tryz.contains_at ba oa ca W h0 h1
 go_enter Tryz.func111,Tryz.ntmps111
 go_wp2
 refine wp_loop_rounds 2 ?_;rw [rounds_succ]
 go_wp2_with (go_at_call 87;refine (hc _ (((hX _ _).cell (p:=⟨ba,oa,none⟩) hba).trans a0) (((hX _ _).cell (p:=⟨ba,oa+1,none⟩) hba).trans a1)).mono ?_;rintro e w1 ⟨rfl,hb1⟩)
 rw [rounds_succ]
 go_wp2
 go_ret
 refine ⟨rfl,?_⟩;exact (((Below.refl _ w).alloc (Nat.le_refl _) _).alloc (by simp) _).trans (hb1.mono (by simp;omega))
theorem Qxr {w W:World} {x0 x1 x2 x3:Value} {t:TypeId} (h:Below (w.heap.size+1) (w.alloc (.cells #[x0,x1,x2,x3] t)) W) :
  W.cell? ⟨w.heap.size,0,none⟩=some x0∧W.cell? ⟨w.heap.size,1,none⟩=some x1∧W.cell? ⟨w.heap.size,2,none⟩=some x2∧W.cell? ⟨w.heap.size,3,none⟩=some x3:=by
 refine ⟨(h.cell (p:=⟨_,_,none⟩) (by simp)).trans ?_,(h.cell (p:=⟨_,_,none⟩) (by simp)).trans ?_,(h.cell (p:=⟨_,_,none⟩) (by simp)).trans ?_,(h.cell (p:=⟨_,_,none⟩) (by simp)).trans ?_⟩<;>(simp only [World.cell?,heap_alloc_new];rfl)
theorem Tryz.check_at (ba oa ca be oe ce cm:Nat) (mk:Option Addr) (w:World) (hba:ba<w.heap.size) (hbe:be<w.heap.size) (a0:w.cell? ⟨ba,oa,none⟩=some (.int .i64 0)) (a1:w.cell? ⟨ba,oa+1,none⟩=some (.int .i64 1))
  (e0:w.cell? ⟨be,oe,none⟩=some (.int .i64 0)) (e1:w.cell? ⟨be,oe+1,none⟩=some (.int .i64 0)) (e2:w.cell? ⟨be,oe+2,none⟩=some (.int .i64 0)) :
  Calls Tryz.prog 79 #[.agg #[.slice (some ⟨ba,oa,none⟩) 2 ca,.int .i64 2,.slice mk 0 cm,.slice (some ⟨be,oe,none⟩) 1 ce]] w fun e w'=>e = .returned (.int .i64 0)∧Below w.heap.size w w':=by
 have h0:Below w.heap.size w (w.alloc (.cells #[.slice (some ⟨ba,oa,none⟩) 2 ca,.int .i64 2,.slice mk 0 cm,.slice (some ⟨be,oe,none⟩) 1 ce] 35)):=(Below.refl _ w).alloc (Nat.le_refl _) _
 go_enter Tryz.func79,Tryz.ntmps79
 go_wp2_with (first
  | (go_at_call 110;have _:=hb1.size;refine (Tryz.set_none mk cm 2 _).mono ?_;rintro e' w2 ⟨rfl,hb2'⟩;have hb2:=hb1.trans (hb2'.mono (by have:=hb1.size;simp at this;omega));obtain ⟨g0',g1',g2',g3'⟩:=Qxr hb2)
  | (go_at_call 110;refine (Tryz.set_at ba oa ca _ ((h0.cell hba).trans a0) ((h0.cell hba).trans a1)).mono ?_;rintro e' w1 ⟨rfl,hb1⟩;replace hb1:=hb1.mono (B':=w.heap.size+1) (by simp);obtain ⟨g0,g1,g2,g3⟩:=Qxr hb1)
  | (go_at_call 111;refine (Tryz.edges_at ba oa ca be oe ce cm mk _ (by have:=hb2.size;simp at this;omega) (by have:=hb2.size;simp at this;omega) ((hb2.cell (p:=⟨_,_,none⟩) (by simp;omega)).trans ((h0.cell hba).trans a0)) ((hb2.cell (p:=⟨_,_,none⟩) (by simp;omega)).trans ((h0.cell hba).trans a1)) ((hb2.cell (p:=⟨_,_,none⟩) (by simp;omega)).trans ((h0.cell hbe).trans e0)) ((hb2.cell (p:=⟨_,_,none⟩) (by simp;omega)).trans ((h0.cell hbe).trans e1)) ((hb2.cell (p:=⟨_,_,none⟩) (by simp;omega)).trans ((h0.cell hbe).trans e2))).mono ?_;rintro e' w3 ⟨rfl,hb3⟩))
 go_ret
 exact ⟨rfl,(h0.trans (hb2.mono (by omega))).trans (hb3.mono (by have:=hb2.size;simp at this;omega))⟩
end Go.Proofs
end
section
namespace Go.Proofs
open Go.Shelf Go.RowKit Go.Lib Go.Sort Go.Abs
set_option maxRecDepth 100000
set_option maxHeartbeats 4000000
theorem Qbf6 {w:World} {n:Nat} {x0 x1 x2 x3 x4:Value} {t:TypeId} (h:w.heap[n]? = some (.cells #[x0,x1,x2,x3,x4] t (0,0))) :
  w.cell? ⟨n,0,none⟩=some x0∧w.cell? ⟨n,1,none⟩=some x1∧w.cell? ⟨n,2,none⟩=some x2∧w.cell? ⟨n,3,none⟩=some x3∧w.cell? ⟨n,4,none⟩=some x4:=by
 refine ⟨?_,?_,?_,?_,?_⟩<;>(simp only [World.cell?,h];rfl)
theorem Q2x {w:World} {n:Nat} {x0 x1:Value} {t:TypeId} (h:w.heap[n]? = some (.cells #[x0,x1] t (0,0))):w.cell? ⟨n,0,none⟩=some x0∧w.cell? ⟨n,1,none⟩=some x1:=by
 refine ⟨?_,?_⟩<;>(simp only [World.cell?,h];rfl)
theorem Qjx {w:World} {n:Nat} {x0:Value} {t:TypeId} (h:w.heap[n]? = some (.cells #[x0] t (0,0))):w.cell? ⟨n,0,none⟩=some x0:=by simp only [World.cell?,h];rfl
theorem Q7r {w:World} {n:Nat} {x0 x1 x2:Value} {t:TypeId} (h:w.heap[n]? = some (.cells #[x0,x1,x2] t (0,0))):w.cell? ⟨n,0,none⟩=some x0∧w.cell? ⟨n,1,none⟩=some x1∧w.cell? ⟨n,2,none⟩=some x2:=by
 refine ⟨?_,?_,?_⟩<;>(simp only [World.cell?,h];rfl)
theorem Q5w {w5 W w6:World} {n0 n1 i0 x0 x1 x2:Value} {o:Obj} {t1 t2 t3:TypeId} (hg:W.grownBy w6 none)
  (hW:W.heap=((((w5.alloc (.cells #[n0,n1] t1 (0,0))).alloc (.cells #[i0] t2 (0,0))).alloc (.cells #[x0,x1,x2] t3 (0,0))).alloc o).heap) :
  w6.heap[w5.heap.size]? = some (.cells #[n0,n1] t1 (0,0))∧w6.heap[w5.heap.size+1]? = some (.cells #[i0] t2 (0,0))∧w6.cell? ⟨w5.heap.size,0,none⟩=some n0∧w6.cell? ⟨w5.heap.size,1,none⟩=some n1∧w6.frozen? ⟨w5.heap.size,0,none⟩=false ∧
   w6.cell? ⟨w5.heap.size+1,0,none⟩=some i0∧w6.cell? ⟨w5.heap.size+1+1,0,none⟩=some x0∧w6.cell? ⟨w5.heap.size+1+1,1,none⟩=some x1∧w6.cell? ⟨w5.heap.size+1+1,2,none⟩=some x2:=by
 have hN6:w6.heap[w5.heap.size]? = some (.cells #[n0,n1] t1 (0,0)):=(hg.block w5.heap.size (by rw [hW];simp<;>omega) (by simp)).trans (by rw [hW];exact (Qbq _ _ _ (by simp<;>omega)).trans ((Qbq _ _ _ (by simp<;>omega)).trans ((Qbq _ _ _ (by simp)).trans (Qgw _ _ _ rfl))));have hI6:w6.heap[w5.heap.size+1]? = some (.cells #[i0] t2 (0,0)):=(hg.block (w5.heap.size+1) (by rw [hW];simp<;>omega) (by simp)).trans (by rw [hW];exact (Qbq _ _ _ (by simp<;>omega)).trans ((Qbq _ _ _ (by simp)).trans (Qgw _ _ _ (by simp))));have hx6:w6.heap[w5.heap.size+1+1]? = some (.cells #[x0,x1,x2] t3 (0,0)):=(hg.block (w5.heap.size+1+1) (by rw [hW];simp<;>omega) (by simp)).trans (by rw [hW];exact (Qbq _ _ _ (by simp)).trans (Qgw _ _ _ (by simp)));obtain ⟨k0,k1⟩:=Q2x hN6;obtain ⟨y0,y1,y2⟩:=Q7r hx6;exact ⟨hN6,hI6,k0,k1,by simp [World.frozen?,hN6],Qjx hI6,y0,y1,y2⟩
theorem Qp6 (w:World) (a:Addr) (u:Value) (b i:Nat) (h:b≠a.block):(w.setCell a u).cell? ⟨b,i,none⟩=w.cell? ⟨b,i,none⟩:=by simp only [World.cell?];rw [Qd9 _ _ _ _ h]
theorem Qbj5 {w5 W:World} {n0 n1 i0 x0 x1 x2:Value} {o:Obj} {t1 t2 t3:TypeId}
  (hW:W.heap=((((w5.alloc (.cells #[n0,n1] t1 (0,0))).alloc (.cells #[i0] t2 (0,0))).alloc (.cells #[x0,x1,x2] t3 (0,0))).alloc o).heap) :
  W.cell? ⟨w5.heap.size+1,0,none⟩=some i0∧W.cell? ⟨w5.heap.size+1+1,0,none⟩=some x0∧W.cell? ⟨w5.heap.size+1+1,2,none⟩=some x2:=by
 obtain ⟨_,_,k0,_,f,k1,y0,_,y2⟩:=Q5w (World.grownBy.refl W none) hW;exact ⟨k1,y0,y2⟩
theorem Qbiu {w5 W:World} {n0 n1 i0 x0 x1 x2:Value} {t1 t2 t3:TypeId}
  (hW:W.heap=(((w5.alloc (.cells #[n0,n1] t1 (0,0))).alloc (.cells #[i0] t2 (0,0))).alloc (.cells #[x0,x1,x2] t3 (0,0))).heap) :
  W.cell? ⟨w5.heap.size+1,0,none⟩=some i0∧W.cell? ⟨w5.heap.size+1+1,0,none⟩=some x0∧W.cell? ⟨w5.heap.size+1+1,2,none⟩=some x2:=by
 have hN:W.heap[w5.heap.size]? = some (.cells #[n0,n1] t1 (0,0)):=by rw [hW];exact (Qbq _ _ _ (by simp<;>omega)).trans ((Qbq _ _ _ (by simp)).trans (Qgw _ _ _ rfl))
 have hI:W.heap[w5.heap.size+1]? = some (.cells #[i0] t2 (0,0)):=by rw [hW];exact (Qbq _ _ _ (by simp)).trans (Qgw _ _ _ (by simp))
 have hx:W.heap[w5.heap.size+1+1]? = some (.cells #[x0,x1,x2] t3 (0,0)):=by rw [hW];exact Qgw _ _ _ (by simp)
 obtain ⟨y0,y1,y2⟩:=Q7r hx;exact ⟨Qjx hI,y0,y2⟩
theorem Qyu {w:World} {base g cap n:Nat} {t:TypeId} {xs:List Value} (h:w.ownsRow base t 1 (.slice (some ⟨g,0,none⟩) n cap) n xs) {i:Nat} {x:Value} (hx:xs[i]? = some x):w.cell? ⟨g,i,none⟩=some x:=by
 have:=h.cells (g:=g) rfl i x hx;cases i<;>simpa [Addr.add] using this
theorem Qbaq {w:World} {base g cap n:Nat} {t:TypeId} {xs:List Value} (h:w.ownsRow base t 1 (.slice (some ⟨g,0,none⟩) n cap) n xs) (hn:0<n):base≤g∧g<w.heap.size∧n≤cap:=by
 rcases h.2 with ⟨_,h0⟩|⟨g',cap',cur,hv,hb,hg,hc,_⟩
 ·omega
 ·cases hv;exact ⟨hb,(Array.getElem?_eq_some_iff.1 hg).1,hc⟩
theorem Qbkq {w5 W w6:World} {n1 i0 x0 x1 x2:Value} {o:Obj} {t1 t2 t3:TypeId} {g cap:Nat} (hown:w6.ownsRow w5.heap.size 3 1 (.slice (some ⟨g,0,none⟩) (0+1) cap) (0+1) ([]++[.int .i64 0])) (hg:W.grownBy w6 none)
  (hW:W.heap=((((w5.alloc (.cells #[.slice none 0 0,n1] t1 (0,0))).alloc (.cells #[i0] t2 (0,0))).alloc (.cells #[x0,x1,x2] t3 (0,0))).alloc o).heap) (ho:W.os=w5.os) (ht:W.tape=w5.tape) (hp:W.output=w5.output)
  (hat:(Value.slice none 0 0).ownBlock=some g∨g=W.heap.size) (v:Value) :
  Below w5.heap.size w5 (w6.setCell ⟨w5.heap.size,0,none⟩ v)∧w5.heap.size+4≤g∧g<(w6.setCell ⟨w5.heap.size,0,none⟩ v).heap.size∧1≤cap∧(w6.setCell ⟨w5.heap.size,0,none⟩ v).cell? ⟨g,0,none⟩=some (.int .i64 0) ∧
   (w6.setCell ⟨w5.heap.size,0,none⟩ v).heap[w5.heap.size]? = some (.cells #[v,n1] t1 (0,0))∧(w6.setCell ⟨w5.heap.size,0,none⟩ v).heap[w5.heap.size+1]? = some (.cells #[i0] t2 (0,0)):=by
 obtain ⟨hN,hI,_⟩:=Q5w hg hW;have hs:W.heap.size=w5.heap.size+4:=by rw [hW];simp
 have hgl:w5.heap.size+4≤g:=by
  rcases hat with h|h
  ·simp [Value.ownBlock] at h
  ·omega
 have q:=Qbaq hown (by omega);have e:(w6.setCell ⟨w5.heap.size,0,none⟩ v).heap.size=w6.heap.size:=Qsq _ _ _;refine ⟨⟨hg.os.trans ho,hg.tape.trans ht,hg.output.trans hp,by have:=hg.size;omega,fun k hk=>?_⟩,hgl,by omega,by omega,?_,?_,?_⟩
 ·refine (Qd9 _ _ _ _ (by simp;omega)).trans ((hg.block k (by omega) (by simp)).trans ?_);rw [hW];rw [Qbq _ _ _ (by simp;omega),Qbq _ _ _ (by simp;omega),Qbq _ _ _ (by simp;omega),Qbq _ _ _ (by omega)]
 ·exact (Qp6 _ _ _ _ _ (by simp;omega)).trans (Qyu hown (i:=0) rfl)
 ·exact heap_setCell_same _ _ _ _ _ _ hN
 ·exact (Qd9 _ _ _ _ (by simp)).trans hI
theorem Tryz.step17 {ops:Array Oper} {o:Oper} {a:Act} {K:Act→World→Prop} {Q:Exit→Act→World→Prop} {E:Prop} {w5 W:World} {n1 i0 x0 x1 x2:Value} {t1 t2 t3:TypeId} (hgd:o.guard=none)
  (ho:o.op = .call { callee:=.builtin .append,args:=#[.tmp 64,.tmp 67],argTypes:=#[32,32] }) (hs:a.eval (.tmp 64) = .slice none 0 0) (hx:a.eval (.tmp 67) = .slice (some ⟨w5.heap.size+1+1+1,0,none⟩) 1 1)
  (hW:W.heap=((((w5.alloc (.cells #[.slice none 0 0,n1] t1 (0,0))).alloc (.cells #[i0] t2 (0,0))).alloc (.cells #[x0,x1,x2] t3 (0,0))).alloc (.cells #[.int .i64 0] 3 (0,0))).heap) (hos:W.os=w5.os) (ht:W.tape=w5.tape) (hp:W.output=w5.output)
  (h:∀ g cap w6,(w6.cell? ⟨w5.heap.size,0,none⟩=some (.slice none 0 0)∧w6.frozen? ⟨w5.heap.size,0,none⟩=false ∧
   w6.cell? ⟨w5.heap.size+1,0,none⟩=some i0∧w6.cell? ⟨w5.heap.size+1+1,0,none⟩=some x0∧w6.cell? ⟨w5.heap.size+1+1,2,none⟩=some x2 ∧
   ∀ v,Below w5.heap.size w5 (w6.setCell ⟨w5.heap.size,0,none⟩ v)∧w5.heap.size+4≤g∧g<(w6.setCell ⟨w5.heap.size,0,none⟩ v).heap.size∧1≤cap∧(w6.setCell ⟨w5.heap.size,0,none⟩ v).cell? ⟨g,0,none⟩=some (.int .i64 0) ∧
   (w6.setCell ⟨w5.heap.size,0,none⟩ v).heap[w5.heap.size]? = some (.cells #[v,n1] t1 (0,0))∧(w6.setCell ⟨w5.heap.size,0,none⟩ v).heap[w5.heap.size+1]? = some (.cells #[i0] t2 (0,0))) →
   K (a.put o.dst (.slice (some ⟨g,0,none⟩) 1 cap)) w6) :
  if Region.wanted o (yielded ops a.tmps)=true then Oper.wp Tryz.prog o a W K Q else E:=by
 obtain ⟨i,hi,hz0,hz1,hz2⟩:=info_parts Tryz.int_parts;have hsz:W.heap.size=w5.heap.size+4:=by rw [hW];simp
 have hnew:W.heap[w5.heap.size+1+1+1]? = some (.cells #[.int .i64 0] 3 (0,0)):=by rw [hW];exact Qgw _ _ _ (by simp)
 refine step_append_lies W hgd (.tmp 64) (.tmp 67) 32 ho w5.heap.size 3 i _ 1 8 Tryz.underlying32 hi hz0 hz1 hz2 rfl (by omega) (.slice none 0 0) 0 [] hs ⟨rfl,.inl ⟨rfl,rfl⟩⟩ ⟨w5.heap.size+1+1+1,0,none⟩ 1 1 [.int .i64 0] hx rfl ?_ (by simp [Value.oneCell']) (by omega) (by simp only [maxLen];omega) (by omega) (by omega) _ rfl ?_
 ·intro j u hj
  match j,hj with
  | 0,hj =>
   simp at hj;subst hj;simpa [Addr.add] using Qjx hnew
 ·intro g cap w6 hown hg hat _;obtain ⟨_,_,n0,_,fN,i1,y0,_,y2⟩:=Q5w hg hW;exact h g cap w6 ⟨n0,fN,i1,y0,y2,fun v=>Qbkq hown hg hW hos ht hp hat v⟩
end Go.Proofs
end
section
namespace Go
theorem Q7s {F:Fence} {n:Nat} {P:Program} {l:Nat} {o:Oper} {a:Act} {K:Act→World→Prop} {Q:Exit→Act→World→Prop}:∀ r,o.uponIn F n P a K Q r→o.uponIn (F.inRound l) n P a K Q r:=by
 intro r h;have e:Oper.uponIn (F.inRound l) n P o a K Q r=Oper.uponIn F n P o a K Q r:=rfl;rw [e];exact h
theorem Q7t {F:Fence} {n:Nat} {P:Program} {ops:Array Oper} {Q:Exit→Act→World→Prop} {l:Nat} (hro:F.round=none) (hd:∀ (i:Nat) (o:Oper) c,ops[i]? = some o→o.op ≠ .defer c) {i:Nat} {K:Act→World→Prop} {a:Act} {w:World}
  (h:wpOpIn F n P ops Q i K a w):wpOpIn (F.inRound l) n P ops Q i K a w:=by
 unfold wpOpIn at h ⊢;cases ho:ops[i]? with
 | none=>rw [ho] at h;exact h
 | some o =>
  rw [ho] at h;dsimp only at h ⊢;split
  ·rename_i hw;rw [if_pos hw] at h;unfold Oper.wpIn at h ⊢;refine ⟨h.1,Q7s _ ?_⟩;have e:Oper.semAt (F.inRound l).round a.eval o=Oper.semAt F.round a.eval o:=by
    rw [hro,Fence.inRound_round,Oper.semAt_eq _ _ _ (fun c=>hd i o c ho),Oper.semAt_eq _ _ _ (fun c=>hd i o c ho)]
   rw [e];exact h.2
  ·rename_i hw;rw [if_neg hw] at h;exact h
theorem Qyv {F:Fence} {n:Nat} {P:Program} {md:Region.Mode} {ops:Array Oper} {Q:Exit→Act→World→Prop} {l:Nat} (hro:F.round=none) (hd:∀ (i:Nat) (o:Oper) c,ops[i]? = some o→o.op ≠ .defer c) :
  ∀ (fuel:Nat) (listed:Array Bool) (a:Act) (w:World),wpAnyIn F n P md ops Q fuel listed a w→wpAnyIn (F.inRound l) n P md ops Q fuel listed a w
 | 0,_,_,_,h=>h
 | fuel+1,listed,a,w,h=>⟨h.1,fun i hi=>by
   refine wpOpIn_mono (fun a' w' h'=>Qyv hro hd fuel _ a' w' h') (Q7t hro hd (h.2 i hi))⟩
def Qbea (l:List Oper):Bool:=l.all fun o=>match o.op with | .defer _=>false|_=>true
theorem Q7u {l:List Oper} (h:Qbea l=true):∀ (i:Nat) (o:Oper) c,l.toArray[i]? = some o→o.op ≠ .defer c:=by
 intro i o c hi e;have hm:o∈l:=by
  rw [List.getElem?_toArray] at hi;exact List.mem_of_getElem? hi
 have:=List.all_eq_true.1 h o hm;rw [e] at this;cases this
theorem Qfz {F:Fence} {n:Nat} {P:Program} {id lr:Nat} {Q:Exit→Act→World→Prop} {a:Act} {w:World} {l:List Oper} (hro:F.round=none) (hm:P.follows .mixedOrders=true) (hB:Region.lexB .any l.toArray=true) (hd:Qbea l=true)
  (h:wpQuietIn F n P l.toArray (fun w'=>∃ n,w'=w.drewN n) (fun a'=>∀ w',(∃ n,w'=w.drewN n)→Q .normal a' w') l a):(Code.region id l.toArray true).wpIn (F.inRound lr) n P Q a w:=by
 simp only [Region.lexB,Bool.and_eq_true] at hB;have h1:(fun w'=>∃ n,w'=w.drewN n) { w with drawn:=w.drawn+1 }:=⟨1,rfl⟩;refine wpIn_region_any hm (Qyv hro (Q7u hd) _ _ _ _ (wpAnyIn_of_quiet (C:=fun w'=>∃ n,w'=w.drewN n) (Q:=fun a'=>∀ w',(∃ n,w'=w.drewN n)→Q .normal a' w') hro (fun _ w' hw' h=>h w' hw') _ _ _ _ h1 ?_));have:=wpAnyQIn_lex (F:=F) (n:=n) (C:=fun w'=>∃ n,w'=w.drewN n) (md:=.any) hB.1 l.toArray.toList 0 (Array.replicate l.toArray.size false) a (by simp) (by simpa using hB.2) (by simpa using h);simpa using this
end Go
end
section
namespace Go.Proofs
open Go.Shelf Go.RowKit Go.Lib Go.Sort Go.Abs
set_option maxRecDepth 100000
def Qj4:List Bool→List Bool
 | []=>[]
 | [x]=>[x]
 | x::y::_=>if x=y then [x] else [x,y]
def clOf (g:List Bool) (b:Bool):Int:=match g with
 | []=>0
 | [x]=>if b=x then 1 else 0
 | x::y::_=>if b=x then 1 else if b=y then 2 else 0
structure CompI (w0:World) (L:Nat) (pre:List Bool) (W:World):Prop where
 below:Below L w0 W
 size:L+4≤W.heap.size
 cl:W.heap[L]? = some (.cells #[.int .i64 (clOf (Qj4 pre) false),.int .i64 (clOf (Qj4 pre) true)] 3 (0,0))
 bs:∃ ce,W.heap[L+3]? = some (.cells ce 32 (0,0))
 cb:W.heap[L+1]? = some (.cells #[.slice (some ⟨L,0,none⟩) 2 2] 32 (0,0))
 gb:∃ gv rows,W.heap[L+1+1]? = some (.cells #[gv] 45 (0,0))∧W.ownsRow (L+4) 32 1 gv (Qj4 pre).length rows ∧
  ∀ (i:Nat) b,(Qj4 pre)[i]? = some b→∃ R,rows[i]? = some (.slice (some ⟨R,0,none⟩) 1 1)∧L+4≤R∧R<W.heap.size∧gv.ownBlock≠some R∧W.heap[R]? = some (.cells #[.int .i64 (stN b)] 3 (0,0))
theorem CompI.own {w0:World} {L:Nat}:OwnFrom (L+4) (CompI w0 L):=by
 intro pre W W' row h hg hr;have hc:∀ (k:Nat) (o:Obj),W.heap[k]? = some o→o.isCells=true→W'.heap[k]? = some o:=by
  intro k o hk ho;refine (hg.block k (Array.getElem?_eq_some_iff.1 hk).1 ?_).trans hk;intro e;obtain ⟨_,o',h1,h2⟩:=hr k e.symm;rw [hk] at h1;cases h1;rw [ho] at h2;cases h2
 obtain ⟨gv,rows,h1,h2,h3⟩:=h.gb;refine ⟨h.below.grown hg (by have:=h.size;omega) (fun k e=>by have:=(hr k e).1;omega),Nat.le_trans h.size hg.size,hc _ _ h.cl rfl,h.bs.elim (fun ce h=>⟨ce,hc _ _ h rfl⟩),hc _ _ h.cb rfl,gv,rows,hc _ _ h1 rfl,?_,?_⟩
 ·refine h2.kept hg ?_;cases hv:gv.ownBlock with
  | none=>exact .inl rfl
  | some k =>
   right;intro e;obtain ⟨_,o,k1,k2⟩:=hr k e.symm;obtain ⟨c,fz,k3⟩:=ownsRow_kind h2 k hv;rw [k1] at k3;cases k3;simp [Obj.isCells] at k2
 ·intro i b hi;obtain ⟨R,r1,r2,r3,r4,r5⟩:=h3 i b hi;exact ⟨R,r1,r2,Nat.lt_of_lt_of_le r3 hg.size,r4,hc _ _ r5 rfl⟩
theorem Q09 (w:World) (x:Value) (t:TypeId) (n:Nat) (hn:n=w.heap.size):∀ j u,[x][j]? = some u→(w.alloc (.cells #[x] t)).cell? ((⟨n,0,none⟩ : Addr).add j)=some u:=by subst hn;exact cell_one_new w x t
theorem Quy {w:World} {base b n:Nat} {t:TypeId} {v:Value} {xs:List Value} (h:w.ownsRow base t 1 v n xs) (hb:b<base):v.ownBlock≠some b:=by
 rcases h.2 with ⟨rfl,_⟩|⟨g,cap,cur,rfl,hg,_⟩
 ·simp [Value.ownBlock]
 ·simp only [Value.ownBlock,ne_eq,Option.some.injEq];omega
theorem Qp7 {W X w7:World} {a:Addr} {v:Value} {o1 o2:Obj} {row:Option Nat} (hg:X.grownBy w7 row) (hX:X.heap=(((W.setCell a v).alloc o1).alloc o2).heap) {k:Nat} (hk:k<W.heap.size) (hr:some k≠row) :
  w7.heap[k]? = (W.setCell a v).heap[k]?:=by
 have hs:=Qsq W a v;refine (hg.block k (by rw [hX];simp;omega) hr).trans ?_;rw [hX];exact (Qbq _ _ _ (by simp<;>omega)).trans (Qbq _ _ _ (by simp<;>omega))
theorem Tryz.slice_parts:(Tryz.prog.info? 32).map (fun i=>(i.zero,i.size,i.bytes))=some (some (.slice none 0 0),1,24):=by kernel_rfl
end Go.Proofs
end
section
namespace Go.Proofs
open Go.Shelf Go.RowKit Go.Lib Go.Sort Go.Abs
theorem CompI.next {w0 W X w7:World} {L B Bs O:Nat} {pre:List Bool} {x:Bool} {gv:Value} {rows:List Value} {o2:Obj} {g7 cap7:Nat} (hI:CompI w0 L pre W)
  (hg1:Qj4 (pre++[x])=Qj4 pre++[x])
  (hcl:(W.setCell ⟨L,(stN x).toNat,none⟩ (.int .i64 ((Qj4 pre).length+1))).heap[L]? = some (.cells #[.int .i64 (clOf (Qj4 (pre++[x])) false),.int .i64 (clOf (Qj4 (pre++[x])) true)] 3 (0,0)))
  (hgb:W.heap[L+1+1]? = some (.cells #[gv] 45 (0,0))) (hown:W.ownsRow (L+4) 32 1 gv (Qj4 pre).length rows)
  (hrows:∀ (i:Nat) b,(Qj4 pre)[i]? = some b→∃ R,rows[i]? = some (.slice (some ⟨R,0,none⟩) 1 1)∧L+4≤R∧R<W.heap.size∧gv.ownBlock≠some R∧W.heap[R]? = some (.cells #[.int .i64 (stN b)] 3 (0,0)))
  (hg:X.grownBy w7 gv.ownBlock) (hX:X.heap=(((W.setCell ⟨L,(stN x).toNat,none⟩ (.int .i64 ((Qj4 pre).length+1))).alloc (.cells #[.int .i64 (stN x)] 3)).alloc o2).heap)
  (hos:X.os=W.os) (ht:X.tape=W.tape) (hp:X.output=W.output)
  (hown7:w7.ownsRow (L+4) 32 1 (.slice (some ⟨g7,0,none⟩) ((Qj4 pre).length+1) cap7) ((Qj4 pre).length+1) (rows++[.slice (some ⟨W.heap.size,0,none⟩) 1 1]))
  (hL:w0.heap.size=L) (hBs:Bs=L+3) (hO:O<L) :
  KeepsFrom B W (w7.setCell ⟨L+1+1,0,none⟩ (.slice (some ⟨g7,0,none⟩) ((Qj4 pre).length+1) cap7))∧Keep2 Bs O W (w7.setCell ⟨L+1+1,0,none⟩ (.slice (some ⟨g7,0,none⟩) ((Qj4 pre).length+1) cap7)) ∧
   CompI w0 L (pre++[x]) (w7.setCell ⟨L+1+1,0,none⟩ (.slice (some ⟨g7,0,none⟩) ((Qj4 pre).length+1) cap7)):=by
 have hz:=hI.size;have hBo:gv.ownBlock≠some Bs:=Quy hown (by omega);have hs:X.heap.size=W.heap.size+2:=by rw [hX];simp
 have hs7:=hg.size;have old:∀ k,k<W.heap.size→k≠L→k≠L+1+1→some k≠gv.ownBlock→(w7.setCell ⟨L+1+1,0,none⟩ (.slice (some ⟨g7,0,none⟩) ((Qj4 pre).length+1) cap7)).heap[k]? = W.heap[k]?:=fun k hk h1 h2 h3 =>
  (Qd9 _ _ _ _ h2).trans ((Qp7 hg hX hk h3).trans (Qd9 _ _ _ _ h1))
 have hgc:=hown.2;have hlow:∀ k,k<L+4→some k≠gv.ownBlock:=fun k hk=>(Quy hown hk).symm;refine ⟨⟨by rw [Qsq];omega,?_⟩,⟨old _ (by omega) (by omega) (by omega) (fun h=>hBo h.symm),old _ (by omega) (by omega) (by omega) (hlow _ (by omega))⟩,?_⟩
 ·intro k o hB hk ho;have hkl:=(Array.getElem?_eq_some_iff.1 hk).1;refine (old k hkl ?_ ?_ ?_).trans hk
  ·rintro rfl;rw [hI.cl] at hk;cases hk;simp [Obj.isCells] at ho
  ·rintro rfl;rw [hgb] at hk;cases hk;simp [Obj.isCells] at ho
  ·intro e;obtain ⟨c,fz,h⟩:=ownsRow_kind hown k e.symm;rw [h] at hk;cases hk;simp [Obj.isCells] at ho
 ·have hlen:rows.length=(Qj4 pre).length:=by have:=hown.1;omega
  have hR:∀ R e c,w7.heap[R]? = some (.cells c e (0,0))→e≠32→(Value.slice (some ⟨g7,0,none⟩) ((Qj4 pre).length+1) cap7).ownBlock≠some R:=by
   intro R e c h he h';obtain ⟨c',fz,h2⟩:=ownsRow_kind hown7 R h';rw [h] at h2;cases h2;exact he rfl
  have hb7:w7.heap[L+1+1]? = some (.cells #[gv] 45 (0,0)):=(Qp7 hg hX (by omega) (hlow _ (by omega))).trans ((Qd9 _ _ _ _ (by simp<;>omega)).trans hgb);refine ⟨⟨hg.os.trans (hos.trans hI.below.os),hg.tape.trans (ht.trans hI.below.tape),hg.output.trans (hp.trans hI.below.output),by rw [Qsq];omega,fun k hk=>(old k (by omega) (by omega) (by omega) (hlow _ (by omega))).trans (hI.below.block k hk)⟩,by rw [Qsq];omega,?_,?_,(old _ (by omega) (by omega) (by omega) (hlow _ (by omega))).trans hI.cb,.slice (some ⟨g7,0,none⟩) ((Qj4 pre).length+1) cap7,rows++[.slice (some ⟨W.heap.size,0,none⟩) 1 1],heap_setCell_same _ _ _ _ _ _ hb7,?_,?_⟩
  ·exact (Qd9 _ _ _ _ (by simp<;>omega)).trans ((Qp7 hg hX (by omega) (hlow _ (by omega))).trans hcl)
  ·obtain ⟨ce,hb⟩:=hI.bs;exact ⟨ce,(old _ (by omega) (by omega) (by omega) (hlow _ (by omega))).trans hb⟩
  ·rw [hg1,List.length_append];exact ownsRow_setCell_other hown7 (Quy hown7 (by simp)) _
  ·intro i b hi;rw [hg1] at hi;by_cases hlt:i<(Qj4 pre).length
   ·rw [List.getElem?_append_left hlt] at hi;obtain ⟨R,r1,r2,r3,r4,r5⟩:=hrows i b hi;have hk:=(old R r3 (by omega) (by omega) (fun h=>r4 h.symm)).trans r5;have hk7:=(Qp7 hg hX r3 (fun h=>r4 h.symm)).trans ((Qd9 _ _ _ _ (by simp<;>omega)).trans r5);exact ⟨R,by rw [List.getElem?_append_left (by omega)];exact r1,r2,by rw [Qsq];omega,hR R 3 _ hk7 (by decide),hk⟩
   ·have hi' : i=(Qj4 pre).length:=by
     have:=(List.getElem?_eq_some_iff.1 hi).1;simp at this;omega
    subst hi';rw [List.getElem?_append_right (Nat.le_refl _)] at hi;simp at hi;subst hi;have hnew:X.heap[W.heap.size]? = some (.cells #[.int .i64 (stN x)] 3 (0,0)):=by
     rw [hX];exact (Qbq _ _ _ (by simp)).trans (Qgw _ _ _ (by simp))
    have hne:some W.heap.size≠gv.ownBlock:=by
     intro h;obtain ⟨c,fz,h2⟩:=ownsRow_kind hown _ h.symm;have:=(Array.getElem?_eq_some_iff.1 h2).1;omega
    have h7:=(hg.block W.heap.size (by omega) hne).trans hnew;exact ⟨W.heap.size,by rw [List.getElem?_append_right (by omega)];simp [hlen],hz,by rw [Qsq];omega,hR _ 3 _ h7 (by decide),(Qd9 _ _ _ _ (by simp<;>omega)).trans h7⟩
end Go.Proofs
end
section
namespace Go
section
variable {P:Program} {ops:Array Oper} {Q:Exit→Act→World→Prop} {md:Region.Mode} {c:Nat} {N T:World→Prop}
def StG (c:Nat) (N T:World→Prop) (l:Array Bool) (w:World):Prop:=(l.getD c true=false→N w)∧T w
def Qww (P:Program) (md:Region.Mode) (ops:Array Oper) (Q:Exit→Act→World→Prop) (c:Nat) (N T:World→Prop):Nat→Array Bool→Act→World→Prop
 | 0,listed,a,w=>Region.ready md ops listed=[]∧Q .normal a w
 | fuel+1,listed,a,w=>(Region.ready md ops listed=[]→Q .normal a w) ∧
  ∀ i∈Region.ready md ops listed,wpOp P ops Q i (fun a' w'=>StG c N T (listed.setIfInBounds i true) w'∧Qww P md ops Q c N T fuel (listed.setIfInBounds i true) a' w') a w
theorem Q4r:∀ (fuel:Nat) (listed:Array Bool) (a:Act) (w:World),Qww P md ops Q c N T fuel listed a w→wpAny P md ops Q fuel listed a w
 | 0,_,_,_,h=>h
 | fuel+1,_,_,_,h=>⟨h.1,fun i hi=>wpOp_mono (fun a' w' h'=>Q4r fuel _ a' w' h'.2) (h.2 i hi)⟩
def SdG (c:Nat) (N T:World→Prop) (D:List Nat) (w:World):Prop:=(c∈D→N w)∧T w
theorem Q7v {i:Nat} {oi:Oper} {v:Value} {D:List Nat} (hi:ops[i]? = some oi) (hsel:∀ (j:Nat) (o:Oper) cs b,ops[j]? = some o→o.op ≠ .select cs b)
  (hQ:∀ c a w,Q (.panic c) (a.put oi.dst v) w→Q (.panic c) a w) (hic:i≠c)
  (hD:∀ k ok,k∈D→k≠i→ops[k]? = some ok→∃ e∈ok.after,Region.binds md e=true∧e.on∈D) :
  ∀ (fuel:Nat) (listed:Array Bool) (a:Act) (w:World),
   (∀ j oj,ops[j]? = some oj→j≠i→listed.getD j true=false→(∀ e∈oj.after,Region.binds md e=true→e.on≠i)→oi.apart ops oj=true) →
   (∀ k∈D,listed.getD k true=false) →
   i∈Region.ready md ops listed→YieldsIf P ops (SdG c N T D) oi v a→StG c N T listed w →
   Qww P md ops Q c N T fuel (listed.setIfInBounds i true) (a.put oi.dst v) w→Qww P md ops Q c N T (fuel+1) listed a w:=by
 have sd:∀ {listed:Array Bool} {w:World},(∀ k∈D,listed.getD k true=false)→StG c N T listed w→SdG c N T D w:=fun hU hS=>⟨fun h=>hS.1 (hU c h),hS.2⟩;have st:∀ {listed:Array Bool} {w:World},StG c N T listed w→StG c N T (listed.setIfInBounds i true) w:=fun hS=>⟨fun h=>hS.1 (by rwa [getD_set_ne true hic] at h),hS.2⟩;intro fuel
 induction fuel with
 | zero =>
  intro listed a w _ hU hr hy hS H;refine ⟨fun h=>(by rw [h] at hr;cases hr),fun j hj=>?_⟩;by_cases hji:j=i
  ·subst hji;exact hy.wpOp hi (sd hU hS) ⟨st hS,H⟩
  ·have:=ready_mono hj hji;rw [H.1] at this;cases this
 | succ fuel ih =>
  intro listed a w hfree hU hr hy hS H;refine ⟨fun h=>(by rw [h] at hr;cases hr),fun j hj=>?_⟩;by_cases hji:j=i
  ·subst hji;exact hy.wpOp hi (sd hU hS) ⟨st hS,H⟩
  ·have h1:=H.2 j (ready_mono hj hji);obtain ⟨hjun,oj,hoj,hall⟩:=mem_ready.1 hj;have hlist:∀ e∈oj.after,Region.binds md e=true→listed.getD e.on true=false→False:=fun e he hb h0=>by
    have h1:=hall e he hb;rcases Nat.lt_or_ge e.on listed.size with h'|h'
    ·simp [h'] at h0 h1;rw [h0] at h1;cases h1
    ·simp [Array.getElem?_eq_none h'] at h1
   have hnot:∀ e∈oj.after,Region.binds md e=true→e.on≠i:=fun e he hb heq=>hlist e he hb (by rw [heq];exact (mem_ready.1 hr).1);have hU' : ∀ k∈D,(listed.setIfInBounds j true).getD k true=false:=fun k hk=>by
    have hjk:j≠k:=by
     rintro rfl;obtain ⟨e,he,hb,hin⟩:=hD j oj hk hji hoj;exact hlist e he hb (hU _ hin)
    rw [getD_set_ne true hjk];exact hU k hk
   have h2:=wpOp_putIf hoj (hfree j oj hoj hji hjun hnot) (fun cs b=>hsel i oi cs b hi) (fun cs b=>hsel j oj cs b hoj) hQ hy h1;have hfree' : ∀ k ok,ops[k]? = some ok→k≠i→(listed.setIfInBounds j true).getD k true=false →
     (∀ e∈ok.after,Region.binds md e=true→e.on≠i)→oi.apart ops ok=true:=fun k ok hk hki hun hno=>by
    refine hfree k ok hk hki ?_ hno;by_cases hjk:j=k
    ·subst hjk;exact hjun
    ·rw [getD_set_ne true hjk] at hun;exact hun
   refine wpOp_mono (fun a' w' h3=>?_) h2;have hS' : StG c N T (listed.setIfInBounds j true) w':=⟨fun h=>h3.2.1.1 (by rw [Array.setIfInBounds_comm _ _ (Ne.symm hji),getD_set_ne true hic];exact h),h3.2.1.2⟩;refine ⟨hS',ih (listed.setIfInBounds j true) a' w' hfree' hU' (ready_mono hr (Ne.symm hji)) h3.1 hS' ?_⟩;rw [Array.setIfInBounds_comm _ _ hji];exact h3.2.2
def Qbj6 (md:Region.Mode) (ops:Array Oper) (i:Nat) (D:List Nat):Bool:=D.all fun k=>k==i||match ops[k]? with|none=>true|some ok=>ok.after.any fun e=>Region.binds md e&&D.contains e.on
theorem Qgz (i:Nat) (D:List Nat) {oi:Oper} {v:Value} {fuel:Nat} {listed:Array Bool} {a:Act} {w:World} (hi:ops[i]? = some oi)
  (hs:(Region.noSelect ops&&Region.free md ops listed i&&(Region.ready md ops listed).contains i&&Qbj6 md ops i D&&(D.all fun k=>!listed.getD k true)&&(i != c))=true)
  (hQ:∀ c a w,Q (.panic c) (a.put oi.dst v) w→Q (.panic c) a w) (hS:StG c N T listed w) (hw:Region.wanted oi (yielded ops a.tmps)=true)
  (hy:∀ w,SdG c N T D w→(execOp a.eval oi).run P w = .ok (.value v) w)
  (h:StG c N T (listed.setIfInBounds i true) w→Qww P md ops Q c N T fuel (listed.setIfInBounds i true) (a.put oi.dst v) w):Qww P md ops Q c N T (fuel+1) listed a w:=by
 simp only [Bool.and_eq_true] at hs;obtain ⟨⟨⟨⟨⟨h1,h2⟩,h3⟩,h4⟩,h5⟩,h6⟩:=hs;have hic:i≠c:=by simpa using h6
 refine Q7v hi (Region.noSelect_spec h1) hQ hic ?_ fuel listed a w (Region.free_spec hi h2) ?_ (by simpa using h3) (.inl ⟨hw,hy⟩) hS (h ⟨fun h=>hS.1 (by rwa [getD_set_ne true hic] at h),hS.2⟩)
 ·intro k ok hk hki hok;have:=List.all_eq_true.1 h4 k hk;rw [hok] at this;simp only [Bool.or_eq_true,beq_iff_eq] at this;rcases this with h|h
  ·exact absurd h hki
  ·have h' : ∃ (i:Nat),∃ h,Region.binds md ok.after[i]=true∧ok.after[i].on∈D:=by simpa using h
   obtain ⟨j,hj,hb⟩:=h';exact ⟨_,Array.getElem_mem hj,hb⟩
 ·intro k hk;have:=List.all_eq_true.1 h5 k hk;simpa using this
theorem Qvn (i:Nat) {o:Oper} {fuel:Nat} {listed:Array Bool} {a:Act} {w:World} (hr:Region.ready md ops listed=[i]) (ho:ops[i]? = some o)
  (h:∀ K' : Act→World→Prop,(∀ a w,StG c N T (listed.setIfInBounds i true) w→(StG c N T (listed.setIfInBounds i true) w→Qww P md ops Q c N T fuel (listed.setIfInBounds i true) a w)→K' a w)→if Region.wanted o (yielded ops a.tmps)=true then Oper.wp P o a w K' Q else K' (a.put o.dst undef) w) :
  Qww P md ops Q c N T (fuel+1) listed a w:=by
 refine ⟨fun h0=>absurd (hr ▸ h0) (by simp),fun j hj=>?_⟩;rw [hr] at hj;obtain rfl:j=i:=by simpa using hj
 exact wpOp_step ho (fun K' hK=>h K' (fun a w hS hW=>hK a w ⟨hS,hW hS⟩))
theorem Q89 {listed:Array Bool} {a:Act} {w:World} (hr:Region.ready md ops listed=[]) (h:Q .normal a w):∀ fuel,Qww P md ops Q c N T fuel listed a w
 | 0=>⟨hr,h⟩
 | _+1=>⟨fun _=>h,by rw [hr];simp⟩
theorem Q9a (c:Nat) (N T:World→Prop) {id:Nat} {a:Act} {w:World} (hm:P.follows .mixedOrders=true) (hN:N w.drew) (hT:T w.drew)
  (h:StG c N T (Array.replicate ops.size false) w.drew→Qww P .any ops Q c N T ops.size (Array.replicate ops.size false) a w.drew):(Code.region id ops true).wp P Q a w :=
 wp_region_any hm (Q4r _ _ _ _ (h ⟨fun _=>hN,hT⟩))
end
end Go
end
section
namespace Go.Proofs
open Go.Shelf Go.RowKit Go.Lib Go.Sort Go.Abs
attribute [local go_sem] Oper.semAt_some
set_option maxRecDepth 100000
set_option maxHeartbeats 4000000
theorem CompI.same {w0 W:World} {L:Nat} {pre pre' : List Bool} (h:CompI w0 L pre W) (e:Qj4 pre'=Qj4 pre):CompI w0 L pre' W:=by
 obtain ⟨h1,h2,h3,h4,h5,h6⟩:=h;rw [← e] at h3 h6;exact ⟨h1,h2,h3,h4,h5,h6⟩
theorem Qbf7 {w:World} {n:Nat} {x0 x1:Value} {t:TypeId} (h:w.heap[n]? = some (.cells #[x0,x1] t (0,0))):w.cell? ⟨n,0,none⟩=some x0∧w.frozen? ⟨n,0,none⟩=false:=⟨(Q2x h).1,by simp [World.frozen?,h]⟩
theorem Tryz.comp_walk (ba oa ca be oe ce cm:Nat) (mk:Option Addr) (w:World) (hba:ba<w.heap.size) (hbe:be<w.heap.size) (a0:w.cell? ⟨ba,oa,none⟩=some (.int .i64 0)) (a1:w.cell? ⟨ba,oa+1,none⟩=some (.int .i64 1))
  (e0:w.cell? ⟨be,oe,none⟩=some (.int .i64 0)) (e1:w.cell? ⟨be,oe+1,none⟩=some (.int .i64 0)) (e2:w.cell? ⟨be,oe+2,none⟩=some (.int .i64 0)) :
  Calls Tryz.prog 57 #[.agg #[.slice (some ⟨ba,oa,none⟩) 2 ca,.int .i64 2,.slice mk 0 cm,.slice (some ⟨be,oe,none⟩) 1 ce]] w fun e w' =>
   ∃ g cap A0 A1 c0 c1,e = .returned (.tuple #[.slice (some ⟨g,0,none⟩) 2 cap,.int .i64 0])∧Below w.heap.size w w'∧w.heap.size≤g∧w.heap.size≤A0∧w.heap.size≤A1 ∧
    2≤cap∧1≤c0∧1≤c1 ∧
    w'.cell? ⟨g,0,none⟩=some (.slice (some ⟨A0,0,none⟩) 1 c0)∧w'.cell? ⟨g,1,none⟩=some (.slice (some ⟨A1,0,none⟩) 1 c1)∧w'.cell? ⟨A0,0,none⟩=some (.int .i64 0)∧w'.cell? ⟨A1,0,none⟩=some (.int .i64 1):=by
 have h0:Below w.heap.size w (w.alloc (.cells #[.slice (some ⟨ba,oa,none⟩) 2 ca,.int .i64 2,.slice mk 0 cm,.slice (some ⟨be,oe,none⟩) 1 ce] 35)):=(Below.refl _ w).alloc (Nat.le_refl _) _;have mk49:∀ w,(Instr.makeSlice 49 (.int .i64 2) (.int .i64 2)).run Tryz.prog w = .ok (.slice (some ⟨w.heap.size,0,none⟩) 2 2) (w.alloc (.cells #[.bool false,.bool false] 4)):=fun _=>by kernel_rfl
 have mk45:∀ w,(Instr.makeSlice 45 (.int .i64 2) (.int .i64 2)).run Tryz.prog w = .ok (.slice (some ⟨w.heap.size,0,none⟩) 2 2) (w.alloc (.cells #[.slice none 0 0,.slice none 0 0] 32)):=fun _=>by kernel_rfl
 have mk32:∀ w,(Instr.makeSlice 32 (.int .i64 2) (.int .i64 2)).run Tryz.prog w = .ok (.slice (some ⟨w.heap.size,0,none⟩) 2 2) (w.alloc (.cells #[.int .i64 0,.int .i64 0] 3)):=fun _=>by kernel_rfl
 obtain ⟨i0,hi0,hz0,hz1,hz2⟩:=info_parts Tryz.int_parts;obtain ⟨i1,hj0,hj1,hj2,hj3⟩:=info_parts Tryz.slice_parts;refine (callsIn_wide (n:=6)).1 (callsIn_of_wp_marks Tryz.func57 rfl trivial (wpIn_wide.2 ?_) rfl);simp only [Tryz.ntmps57,List.size_toArray,List.length_cons,List.length_nil,Nat.reduceAdd,Nat.reduceSub,Array.replicate_succ,Array.replicate_zero,List.push_toArray,List.append_toArray,List.nil_append,List.cons_append]
 go_wp2_with (first
  | (
     go_at_call 79
     refine (Tryz.check_at ba oa ca be oe ce cm mk _ (by simp;omega) (by simp;omega) ((h0.cell hba).trans a0) ((h0.cell hba).trans a1) ((h0.cell hbe).trans e0) ((h0.cell hbe).trans e1) ((h0.cell hbe).trans e2)).mono ?_;rintro e' w1 ⟨rfl,hb1⟩;replace hb1:=hb1.mono (B':=w.heap.size+1) (by simp);obtain ⟨g0,g1,g2,g3⟩:=Qxr hb1;have z1:w.heap.size+1≤w1.heap.size:=by have:=hb1.size;simp at this;omega
    )
  | (
     go_at_call 91
     refine (Tryz.graph_walk _ _ _ _ be oe _ _ ((hb1.cell (p:=⟨_,_,none⟩) (by simp;omega)).trans ((h0.cell hbe).trans e0)) ((hb1.cell (p:=⟨_,_,none⟩) (by simp;omega)).trans ((h0.cell hbe).trans e1)) ((hb1.cell (p:=⟨_,_,none⟩) (by simp;omega)).trans ((h0.cell hbe).trans e2)) (by omega)).mono ?_;rintro e' w2 ⟨B,rfl,hBl,hB,hb2⟩;have hb3:=hb1.trans (hb2.mono z1);obtain ⟨g0',g1',g2',g3'⟩:=Qxr hb3;have z2:w1.heap.size≤w2.heap.size:=hb2.size;have hB2:B<w2.heap.size:=(Array.getElem?_eq_some_iff.1 hB).1;have E0:w2.cell? ⟨be,oe,none⟩=some (.int .i64 0):=(hb3.cell (p:=⟨_,_,none⟩) (by simp;omega)).trans ((h0.cell hbe).trans e0);have E1:w2.cell? ⟨be,oe+1,none⟩=some (.int .i64 0):=(hb3.cell (p:=⟨_,_,none⟩) (by simp;omega)).trans ((h0.cell hbe).trans e1);have E2:w2.cell? ⟨be,oe+2,none⟩=some (.int .i64 0):=(hb3.cell (p:=⟨_,_,none⟩) (by simp;omega)).trans ((h0.cell hbe).trans e2);have B0:w2.cell? ⟨B,0,none⟩=some (.int .i64 0):=by simp only [World.cell?,hB];rfl
     have B1:w2.cell? ⟨B,1,none⟩=some (.int .i64 1):=by simp only [World.cell?,hB];rfl
     have B2:w2.cell? ⟨B,2,none⟩=some (.int .i64 1):=by simp only [World.cell?,hB];rfl
     have k1:w.heap.size<w2.heap.size:=by omega
     have k2:w.heap.size<w2.heap.size+1:=by omega
     have k3:w.heap.size<w2.heap.size+1+1:=by omega
     have k4:w.heap.size≠w2.heap.size:=by omega
     have k5:w.heap.size≠w2.heap.size+1:=by omega
     have hX:=fun o1 o2=>((Below.refl w2.heap.size w2).alloc (Nat.le_refl _) o1).alloc (by simp) o2
    ))
 refine wp_loop_rounds 3 ?_;rw [rounds_succ]
 go_wp2_with (first
  | (
     go_at_call 92
     refine (Tryz.finish0_walk _ _ _ _ be oe _ B (w2.heap.size+1) _ w2.heap.size (by simp;omega) (.slice none 0 0) 0 [] (by omega) ⟨rfl,.inl ⟨rfl,rfl⟩⟩ (by simp [Value.ownBlock]) (((hX _ _).cell (p:=⟨_,_,none⟩) (by simp;omega)).trans E0) (((hX _ _).cell (p:=⟨_,_,none⟩) (by simp;omega)).trans E1) (((hX _ _).cell (p:=⟨_,_,none⟩) (by simp;omega)).trans E2) (by simp;omega) (by omega) (((hX _ _).cell (p:=⟨_,_,none⟩) (by simp;omega)).trans B0) (((hX _ _).cell (p:=⟨_,_,none⟩) (by simp;omega)).trans B1) (((hX _ _).cell (p:=⟨_,_,none⟩) (by simp;omega)).trans B2) (by simp;omega) (.bool false) (Qgw _ _ _ (by simp)) (by omega)).mono ?_;rintro e' w4 ⟨g4,cap4,rfl,hown4,hS4,hF4,hg4⟩;replace hg4:w2.heap.size+1+1≤g4:=by simpa [Value.ownBlock] using hg4
     have z4:w2.heap.size+1+1≤w4.heap.size:=by simpa using hF4.size
     have b4:Below w2.heap.size w2 w4:=⟨hF4.os,hF4.tape,hF4.output,by omega,fun k hk=>(hF4.block k (by simp;omega) ⟨by omega,by simp [Value.ownBlock]⟩).trans ((hX _ _).block k hk)⟩;have hG4:=(hF4.block w2.heap.size (by simp;omega) ⟨by omega,by simp [Value.ownBlock]⟩).trans ((Qbq _ _ _ (by simp)).trans (Qgw _ _ _ rfl));obtain ⟨y0,y1,y2,y3,y4⟩:=Qbf6 hG4;obtain ⟨s0,s1⟩:=Q2x hS4;have B0:=(b4.cell (p:=⟨_,_,none⟩) (by simp;omega)).trans B0;have B1:=(b4.cell (p:=⟨_,_,none⟩) (by simp;omega)).trans B1;have B2:=(b4.cell (p:=⟨_,_,none⟩) (by simp;omega)).trans B2;have hb4:=hb3.trans (b4.mono (by omega));obtain ⟨g0,g1,g2,g3⟩:=Qxr hb4;have q4:=Qbaq hown4 (by omega)
    ))
 rw [rounds_succ]
 go_wp2_with (
    go_at_call 92
    refine (Tryz.finish1_walk _ _ _ _ be oe _ B (w2.heap.size+1) w4 w2.heap.size (by omega) _ 1 _ (by omega) hown4 (by simp [Value.ownBlock];omega) B0 B1 B2 (by omega) (.bool true) hS4 (by omega)).mono ?_;rintro e' w5 ⟨g5,cap5,rfl,hown5,hS5,hF5,hg5⟩;have b5:Below w2.heap.size w2 w5:=⟨hF5.os.trans b4.os,hF5.tape.trans b4.tape,hF5.output.trans b4.output,Nat.le_trans b4.size hF5.size,fun k hk=>(hF5.block k (by omega) ⟨by omega,by simp [Value.ownBlock];omega⟩).trans (b4.block k hk)⟩;have hb5:=hb3.trans (b5.mono (by omega));obtain ⟨g0,g1,g2,g3⟩:=Qxr hb5;have q5:=Qbaq hown5 (by omega);have o0:=Qyu hown5 (i:=0) rfl;have o1:=Qyu hown5 (i:=1) rfl
   )
 have E0:=(b5.cell (p:=⟨_,_,none⟩) (by simp;omega)).trans E0;have E1:=(b5.cell (p:=⟨_,_,none⟩) (by simp;omega)).trans E1;have E2:=(b5.cell (p:=⟨_,_,none⟩) (by simp;omega)).trans E2;have z5:w2.heap.size+1+1≤w5.heap.size:=by have:=hF5.size;omega
 have k1:w.heap.size<w5.heap.size:=by omega
 have k2:w.heap.size<w5.heap.size+1:=by omega
 have k3:w.heap.size<w5.heap.size+1+1:=by omega
 have k3' : w.heap.size<w5.heap.size+1+1+1:=by omega
 have k4:w.heap.size≠w5.heap.size:=by omega
 have k5:w.heap.size≠w5.heap.size+1:=by omega
 have k6:w.heap.size≠w5.heap.size+1+1:=by omega
 have j1:be<w5.heap.size:=by omega
 have j2:be<w5.heap.size+1:=by omega
 have j3:be<w5.heap.size+1+1:=by omega
 have j4:be≠w5.heap.size:=by omega
 have j5:be≠w5.heap.size+1:=by omega
 have j6:be≠w5.heap.size+1+1:=by omega
 clear mk49 hX hF4 hS4 hF5 hS5 hG4 b4 B0 B1 B2 s0 s1 y0 y1 y2 y3 y4;rw [rounds_succ]
 go_wp2
 refine wp_loop_rounds 2 ?_;rw [rounds_succ]
 go_upto_block 3 with fail
 go_cut [11] from 55 to 69 (fun s11 wx=>∃ g6 cap6,Below w5.heap.size w5 wx∧w5.heap.size+4≤g6∧g6<wx.heap.size∧1≤cap6∧wx.cell? ⟨g6,0,none⟩=some (.int .i64 0) ∧
   wx.heap[w5.heap.size]? = some (.cells #[.slice (some ⟨g6,0,none⟩) 1 cap6,.slice none 0 0] 32 (0,0))∧wx.heap[w5.heap.size+1]? = some (.cells #[.slice (some ⟨w5.heap.size,0,none⟩) 2 2] 45 (0,0)))
 case first =>
  go_wp2
  refine wp_region_noPanic ?_;refine Q9a 13 (fun w=>w.cell? ⟨w5.heap.size,0,none⟩=some (.slice none 0 0)∧w.frozen? ⟨w5.heap.size,0,none⟩=false)
   (fun w=>w.cell? ⟨w5.heap.size+1,0,none⟩=some (.slice (some ⟨w5.heap.size,0,none⟩) 2 2)∧w.cell? ⟨w5.heap.size+1+1,0,none⟩=some (.int .i64 0)∧w.cell? ⟨w5.heap.size+1+1,2,none⟩=some (.int .i64 0)) (by kernel_rfl) ?_ ?_ (fun hG=>?_)
  ·refine Qbf7 (x1:=.slice none 0 0) (t:=32) ?_;exact (Qbq _ _ _ (by simp<;>omega)).trans ((Qbq _ _ _ (by simp)).trans (Qgw _ _ _ rfl))
  ·exact Qbiu rfl
  refine Qgz (v:=?_) 0 [0] rfl (by kernel_rfl) (by exact fun _ _ _ h=>h) hG (by rfl) ?_ (fun hG=>?_)
  rotate_left
  ·intro w hw;obtain ⟨hw1,hw2,hw3,hw4⟩:=hw
   go_simp
   try rfl
  simp only [Act.put,List.setIfInBounds_toArray,List.set_cons_zero,List.set_cons_succ];refine Qgz (v:=?_) 1 [1] rfl (by kernel_rfl) (by exact fun _ _ _ h=>h) hG (by rfl) ?_ (fun hG=>?_)
  rotate_left
  ·intro w hw;obtain ⟨hw1,hw2,hw3,hw4⟩:=hw
   go_simp
   try rfl
  simp only [Act.put,List.setIfInBounds_toArray,List.set_cons_zero,List.set_cons_succ];refine Qgz (v:=?_) 2 [2] rfl (by kernel_rfl) (by exact fun _ _ _ h=>h) hG (by rfl) ?_ (fun hG=>?_)
  rotate_left
  ·intro w hw;obtain ⟨hw1,hw2,hw3,hw4⟩:=hw
   go_simp
   try rfl
  simp only [Act.put,List.setIfInBounds_toArray,List.set_cons_zero,List.set_cons_succ];refine Qgz (v:=?_) 3 [3] rfl (by kernel_rfl) (by exact fun _ _ _ h=>h) hG (by rfl) ?_ (fun hG=>?_)
  rotate_left
  ·intro w hw;obtain ⟨hw1,hw2,hw3,hw4⟩:=hw
   go_simp
   try rfl
  simp only [Act.put,List.setIfInBounds_toArray,List.set_cons_zero,List.set_cons_succ];refine Qgz (v:=?_) 4 [4] rfl (by kernel_rfl) (by exact fun _ _ _ h=>h) hG (by rfl) ?_ (fun hG=>?_)
  rotate_left
  ·intro w hw;obtain ⟨hw1,hw2,hw3,hw4⟩:=hw
   go_simp
   try rfl
  simp only [Act.put,List.setIfInBounds_toArray,List.set_cons_zero,List.set_cons_succ];refine Qgz (v:=?_) 5 [5] rfl (by kernel_rfl) (by exact fun _ _ _ h=>h) hG (by rfl) ?_ (fun hG=>?_)
  rotate_left
  ·intro w hw;obtain ⟨hw1,hw2,hw3,hw4⟩:=hw
   go_simp
   try rfl
  simp only [Act.put,List.setIfInBounds_toArray,List.set_cons_zero,List.set_cons_succ];refine Qgz (v:=?_) 6 [6] rfl (by kernel_rfl) (by exact fun _ _ _ h=>h) hG (by rfl) ?_ (fun hG=>?_)
  rotate_left
  ·intro w hw;obtain ⟨hw1,hw2,hw3,hw4⟩:=hw
   go_simp
   try rfl
  simp only [Act.put,List.setIfInBounds_toArray,List.set_cons_zero,List.set_cons_succ];refine Qgz (v:=?_) 7 [7,11,13] rfl (by kernel_rfl) (by exact fun _ _ _ h=>h) hG (by rfl) ?_ (fun hG=>?_)
  rotate_left
  ·intro w hw;obtain ⟨hw1,hw2,hw3,hw4⟩:=hw;have hn:=(hw1 (by decide)).1
   go_simp
   try rfl
  simp only [Act.put,List.setIfInBounds_toArray,List.set_cons_zero,List.set_cons_succ];refine Qgz (v:=?_) 8 [8] rfl (by kernel_rfl) (by exact fun _ _ _ h=>h) hG (by rfl) ?_ (fun hG=>?_)
  rotate_left
  ·intro w hw;obtain ⟨hw1,hw2,hw3,hw4⟩:=hw
   go_simp
   try rfl
  simp only [Act.put,List.setIfInBounds_toArray,List.set_cons_zero,List.set_cons_succ];refine Qgz (v:=?_) 9 [9] rfl (by kernel_rfl) (by exact fun _ _ _ h=>h) hG (by rfl) ?_ (fun hG=>?_)
  rotate_left
  ·intro w hw;obtain ⟨hw1,hw2,hw3,hw4⟩:=hw
   go_simp
   try rfl
  simp only [Act.put,List.setIfInBounds_toArray,List.set_cons_zero,List.set_cons_succ];refine Qvn 10 (by kernel_rfl) rfl (fun K hK=>?_)
  go_simp
  refine hK _ _ ⟨fun _=>?_,Qbj5 rfl⟩ (fun hG=>?_)
  ·obtain ⟨_,_,k0,_,f,_⟩:=Q5w (w5:=w5) (World.grownBy.refl _ none) (W:=(((w5.alloc (.cells #[.slice none 0 0,.slice none 0 0] 32)).alloc (.cells #[.slice (some ⟨w5.heap.size,0,none⟩) 2 2] 45)).alloc (.cells #[.int .i64 0,.int .i64 0,.int .i64 0] 51)).drew.alloc (.cells #[.int .i64 0] 3)) rfl;exact ⟨k0,f⟩
  clear hK K
  try simp only [Act.put,List.setIfInBounds_toArray,List.set_cons_zero,List.set_cons_succ]
  refine Qvn 11 (by kernel_rfl) rfl (fun K hK=>?_);refine Tryz.step17 rfl rfl rfl rfl rfl rfl rfl rfl ?_;rintro g6 cap6 w6 ⟨n0,fN,i1,x0,x2,hc⟩;refine hK _ _ ⟨fun _=>⟨n0,fN⟩,i1,x0,x2⟩ (fun hG=>?_);clear hK K
  try simp only [Act.put,List.setIfInBounds_toArray,List.set_cons_zero,List.set_cons_succ]
  refine Qvn 12 (by kernel_rfl) rfl (fun K hK=>?_)
  go_simp
  refine hK _ _ ⟨fun _=>⟨n0,fN⟩,i1,x0,x2⟩ (fun hG=>?_);clear hK K
  try simp only [Act.put,List.setIfInBounds_toArray,List.set_cons_zero,List.set_cons_succ]
  refine Qvn 13 (by kernel_rfl) rfl (fun K hK=>?_)
  go_simp
  refine hK _ _ ⟨fun h=>absurd h (by decide),(Qp6 _ _ _ _ _ (by simp)).trans i1,(Qp6 _ _ _ _ _ (by simp;omega)).trans x0,(Qp6 _ _ _ _ _ (by simp;omega)).trans x2⟩ (fun hG=>?_);clear hK K;refine Q89 (by kernel_rfl) ?_ _;refine NoPanic.normal ?_
  go_wp2_with fail
  go_meet
  exact ⟨g6,cap6,hc _⟩
 case rest =>
  obtain ⟨g6,cap6,b6,q6,q6',q6c,r0,hN6,hI6⟩:=hcut;clear mk45;have hb6:=hb5.trans (b6.mono (by omega));obtain ⟨g0,g1,g2,g3⟩:=Qxr hb6;have z6:=b6.size;have k1:w.heap.size<wc.heap.size:=by omega
  have k2:w.heap.size<wc.heap.size+1:=by omega
  have k3:w.heap.size<wc.heap.size+1+1:=by omega
  have k4:w.heap.size≠wc.heap.size:=by omega
  have k5:w.heap.size≠wc.heap.size+1:=by omega
  go_wp2
  rw [rounds_succ]
  go_wp2
  have cO0:=(b6.cell (p:=⟨g5,0,none⟩) (by simp;omega)).trans o0;have cO1:=(b6.cell (p:=⟨g5,1,none⟩) (by simp;omega)).trans o1;refine (wpIn_wide (n:=6)).1 ?_;refine' wpIn_rangeFunc_ownG rfl (by omega) (gf:=130) (lb:=#[.pointer (some ⟨wc.heap.size+1+1+1,0,none⟩)]) rfl trivial (enters_of Tryz.func130 (by kernel_rfl) rfl)
   (Tryz.back_stops Fence.wide 5 trivial rfl (by omega) (wc.heap.size+1+1+1) g5 cap5 _ (by simp) (by simp;omega) ?bs ?p0 ?p1) (fun h k=>Keep2.trans h k) ?kb (Below.refl _ _) (fun _=>rfl)
   (CompI wc wc.heap.size) (fun _ _ _=>False) ?own (fun _ _ _ _ _ hs _ _=>hs) ?start _ ?assign ?body ?done ?stop
  case bs=>exact Qjx (Qgw _ _ _ (by simp))
  case p0=>exact (((((Below.refl wc.heap.size wc).alloc (Nat.le_refl _) _).alloc (by simp) _).alloc (by simp;omega) _).alloc (by simp;omega) _ |>.cell (p:=⟨_,_,none⟩) (by simp;omega)).trans cO0
  case p1=>exact (((((Below.refl wc.heap.size wc).alloc (Nat.le_refl _) _).alloc (by simp) _).alloc (by simp;omega) _).alloc (by simp;omega) _ |>.cell (p:=⟨_,_,none⟩) (by simp;omega)).trans cO1
  case kb =>
   intro W l o o' hl _ _ _;simp at hl;exact ⟨World.putObj_heap_other (by omega),World.putObj_heap_other (by omega)⟩
  case own =>
   have e:((((wc.alloc (Obj.cells #[Value.int IntKind.i64 0,Value.int IntKind.i64 0] 3)).alloc (Obj.cells #[Value.slice (some { block:=wc.heap.size,off:=0 }) 2 2] 32)).alloc (Obj.cells #[Value.slice none 0 0] 45)).alloc (Obj.cells #[Value.slice (some { block:=g5,off:=0 }) 2 cap5] 32)).heap.size=wc.heap.size+4:=by simp
   rw [e];exact CompI.own
  case start =>
   refine ⟨((((Below.refl wc.heap.size wc).alloc (Nat.le_refl _) _).alloc (by simp) _).alloc (by simp<;>omega) _).alloc (by simp<;>omega) _,by simp,?_,⟨_,Qgw _ _ _ (by simp)⟩,?_,.slice none 0 0,[],?_,⟨rfl,.inl ⟨rfl,rfl⟩⟩,fun i b hi=>by simp [Qj4] at hi⟩
   ·exact (Qbq _ _ _ (by simp<;>omega)).trans ((Qbq _ _ _ (by simp<;>omega)).trans ((Qbq _ _ _ (by simp)).trans (Qgw _ _ _ rfl)))
   ·exact (Qbq _ _ _ (by simp<;>omega)).trans ((Qbq _ _ _ (by simp)).trans (Qgw _ _ _ (by simp)))
   ·exact (Qbq _ _ _ (by simp)).trans (Qgw _ _ _ (by simp))
  case assign =>
   intro l x W K hK
   gi_wp2
   exact hK
  case stop =>
   rintro D c pre W _ _ h _;exact h.elim
  case body =>
   intro l pre x W hI hlt;have hz:=hI.size;have hb:=hI.below;obtain ⟨gv,rows,hgb,hown,hrows⟩:=hI.gb;have t0:=(hb.cell (p:=⟨w5.heap.size+1,0,none⟩) (by simp;omega)).trans (Qjx hI6);obtain ⟨n0,n1⟩:=Q2x hN6;have t1:=(hb.cell (p:=⟨w5.heap.size,0,none⟩) (by simp;omega)).trans n0;have t2:=(hb.cell (p:=⟨w5.heap.size,1,none⟩) (by simp;omega)).trans n1;have t3:=(hb.cell (p:=⟨g6,0,none⟩) (by simp;omega)).trans r0;obtain ⟨c0,c1⟩:=Q2x hI.cl;have f0:W.frozen? ⟨wc.heap.size,0,none⟩=false:=by simp [World.frozen?,hI.cl]
   have f1:W.frozen? ⟨wc.heap.size,1,none⟩=false:=by simp [World.frozen?,hI.cl]
   have fg:W.frozen? ⟨wc.heap.size+1+1,0,none⟩=false:=by simp [World.frozen?,hgb]
   have d0:=Qjx hI.cb;have d1:=Qjx hgb;have u1:wc.heap.size<W.heap.size:=by omega
   have u2:wc.heap.size+1<W.heap.size:=by omega
   have u3:wc.heap.size+1+1<W.heap.size:=by omega
   have u4:w5.heap.size<W.heap.size:=by omega
   have u5:w5.heap.size+1<W.heap.size:=by omega
   have u6:g6<W.heap.size:=by omega
   have v1:wc.heap.size≠W.heap.size:=by omega
   have v2:wc.heap.size+1≠W.heap.size:=by omega
   have v3:wc.heap.size+1+1≠W.heap.size:=by omega
   have v4:w5.heap.size≠W.heap.size:=by omega
   have v5:w5.heap.size+1≠W.heap.size:=by omega
   have v6:g6≠W.heap.size:=by omega
   have n1' : w5.heap.size≠wc.heap.size:=by omega
   have n2' : w5.heap.size+1≠wc.heap.size:=by omega
   have n3' : g6≠wc.heap.size:=by omega
   have n4' : wc.heap.size+1≠wc.heap.size:=by omega
   have n5' : wc.heap.size+1+1≠wc.heap.size:=by omega
   match pre,hlt with
   | [],_ =>
    have hgv:∃ a cap,gv = .slice a 0 cap:=by
     rcases hown.2 with ⟨rfl,_⟩|⟨g,cap,cur,rfl,_⟩
     ·exact ⟨_,_,rfl⟩
     ·exact ⟨_,_,rfl⟩
    obtain ⟨gva,gvc,rfl⟩:=hgv;cases x with
    | true =>
     simp only [Qj4,clOf,stN,if_true] at c0 c1 ⊢
     gi_wp2
     refine wpIn_loop_rounds 2 ?_;rw [roundsIn_succ]
     gi_wp2
     refine Qfz rfl (by kernel_rfl) (by kernel_rfl) (by kernel_rfl) ?_
     repeat (quiet_step_in (fail))
     refine wpQuietIn_nil ?_;rintro _ ⟨nq,rfl⟩
     gi_wp2
     refine wpIn_loop_rounds 1 ?_;rw [roundsIn_succ]
     gi_wp2
     rw [roundsIn_succ]
     gi_wp2_with fail
     refine ⟨trivial,(CallsIn.inRound l (callsIn_wide.2 (Tryz.sortI_few 1 (by omega) _ _ _))).mono ?_⟩;rintro e' w' ⟨rfl,rfl⟩;have hne:=Quy hown (b:=wc.heap.size) (by omega);have hown':=(ownsRow_setCell_other hown hne (a:=⟨wc.heap.size,1,none⟩) (.int .i64 1)).alloc (.cells #[.int .i64 1] 3);have m7:0+1≤maxLen:=by simp only [maxLen];omega
     gi_wp2_with (gi_at_builtin;refine wpListIn_append_own _ rfl (.tmp 126) (.tmp 128) 45 rfl (wc.heap.size+4) 32 i1 (.slice none 0 0) 1 24 Tryz.underlying45 hj0 hj1 hj2 hj3 rfl (by omega) (.slice gva 0 gvc) 0 rows rfl (hown'.alloc _) ⟨W.heap.size+1,0,none⟩ 1 1 [.slice (some ⟨W.heap.size,0,none⟩) 1 1] rfl rfl (Q09 _ _ _ _ (by simp)) (by simp [Value.oneCell']) m7 (by omega) (by simp;omega) ?_;intro v' w7 hown7 hgrow7 hnil7;obtain ⟨g7,cap7,rfl⟩:=ownsRow_succ hown7;have gb7:=(Qp7 hgrow7 rfl (k:=wc.heap.size+1+1) (by omega) (Quy hown (by omega)).symm).trans ((Qd9 _ _ _ _ (by simp<;>omega)).trans hgb);have gc7:=Qjx gb7;have gf7:w7.frozen? ⟨wc.heap.size+1+1,0,none⟩=false:=by simp [World.frozen?,gb7])
     exact CompI.next (pre:=[]) (x:=true) hI rfl (heap_setCell_same _ _ _ _ _ _ hI.cl) hgb hown hrows hgrow7 rfl rfl rfl rfl hown7 rfl rfl (by omega)
    | false =>
     simp only [Qj4,clOf,stN,Bool.false_eq_true,if_false] at c0 c1 ⊢
     gi_wp2
     refine wpIn_loop_rounds 2 ?_;rw [roundsIn_succ]
     gi_wp2
     refine Qfz rfl (by kernel_rfl) (by kernel_rfl) (by kernel_rfl) ?_
     repeat (quiet_step_in (fail))
     refine wpQuietIn_nil ?_;rintro _ ⟨nq,rfl⟩
     gi_wp2
     refine wpIn_loop_rounds 2 ?_;rw [roundsIn_succ]
     gi_wp2
     rw [roundsIn_succ]
     gi_wp2
     rw [roundsIn_succ]
     gi_wp2_with fail
     refine ⟨trivial,(CallsIn.inRound l (callsIn_wide.2 (Tryz.sortI_few 1 (by omega) _ _ _))).mono ?_⟩;rintro e' w' ⟨rfl,rfl⟩;have hne:=Quy hown (b:=wc.heap.size) (by omega);have hown':=(ownsRow_setCell_other hown hne (a:=⟨wc.heap.size,0,none⟩) (.int .i64 1)).alloc (.cells #[.int .i64 0] 3);have m7:0+1≤maxLen:=by simp only [maxLen];omega
     gi_wp2_with (gi_at_builtin;refine wpListIn_append_own _ rfl (.tmp 126) (.tmp 128) 45 rfl (wc.heap.size+4) 32 i1 (.slice none 0 0) 1 24 Tryz.underlying45 hj0 hj1 hj2 hj3 rfl (by omega) (.slice gva 0 gvc) 0 rows rfl (hown'.alloc _) ⟨W.heap.size+1,0,none⟩ 1 1 [.slice (some ⟨W.heap.size,0,none⟩) 1 1] rfl rfl (Q09 _ _ _ _ (by simp)) (by simp [Value.oneCell']) m7 (by omega) (by simp;omega) ?_;intro v' w7 hown7 hgrow7 hnil7;obtain ⟨g7,cap7,rfl⟩:=ownsRow_succ hown7;have gb7:=(Qp7 hgrow7 rfl (k:=wc.heap.size+1+1) (by omega) (Quy hown (by omega)).symm).trans ((Qd9 _ _ _ _ (by simp<;>omega)).trans hgb);have gc7:=Qjx gb7;have gf7:w7.frozen? ⟨wc.heap.size+1+1,0,none⟩=false:=by simp [World.frozen?,gb7])
     exact CompI.next (pre:=[]) (x:=false) hI rfl (heap_setCell_same _ _ _ _ _ _ hI.cl) hgb hown hrows hgrow7 rfl rfl rfl rfl hown7 rfl rfl (by omega)
   | [y],_ =>
    have hgv:∃ gg gcap,gv = .slice (some ⟨gg,0,none⟩) 1 gcap:=by
     cases y
     ·obtain ⟨g,c,h⟩:=ownsRow_succ (k:=0) hown;exact ⟨g,c,h⟩
     ·obtain ⟨g,c,h⟩:=ownsRow_succ (k:=0) hown;exact ⟨g,c,h⟩
    obtain ⟨gg,gcap,rfl⟩:=hgv;cases y with
    | true =>
     cases x with
     | true =>
      simp only [Qj4,clOf,stN,if_true,Bool.false_eq_true,if_false] at c0 c1 ⊢
      gi_wp2
      exact ⟨⟨Nat.le_refl _,fun _ _ _ h _=>h⟩,Keep2.refl _,hI.same rfl⟩
     | false =>
      simp only [Qj4,clOf,stN,if_true,Bool.false_eq_true,if_false] at c0 c1 ⊢
      gi_wp2
      refine wpIn_loop_rounds 2 ?_;rw [roundsIn_succ]
      gi_wp2
      refine Qfz rfl (by kernel_rfl) (by kernel_rfl) (by kernel_rfl) ?_
      repeat (quiet_step_in (fail))
      refine wpQuietIn_nil ?_;rintro _ ⟨nq,rfl⟩
      gi_wp2
      refine wpIn_loop_rounds 2 ?_;rw [roundsIn_succ]
      gi_wp2
      rw [roundsIn_succ]
      gi_wp2
      rw [roundsIn_succ]
      gi_wp2_with fail
      refine ⟨trivial,(CallsIn.inRound l (callsIn_wide.2 (Tryz.sortI_few 1 (by omega) _ _ _))).mono ?_⟩;rintro e' w' ⟨rfl,rfl⟩;have hne:=Quy hown (b:=wc.heap.size) (by omega);have hown':=(ownsRow_setCell_other hown hne (a:=⟨wc.heap.size,0,none⟩) (.int .i64 2)).alloc (.cells #[.int .i64 0] 3);have m7:1+1≤maxLen:=by simp only [maxLen];omega
      gi_wp2_with (gi_at_builtin;refine wpListIn_append_own _ rfl (.tmp 126) (.tmp 128) 45 rfl (wc.heap.size+4) 32 i1 (.slice none 0 0) 1 24 Tryz.underlying45 hj0 hj1 hj2 hj3 rfl (by omega) (.slice (some ⟨gg,0,none⟩) 1 gcap) 1 rows rfl (hown'.alloc _) ⟨W.heap.size+1,0,none⟩ 1 1 [.slice (some ⟨W.heap.size,0,none⟩) 1 1] rfl rfl (Q09 _ _ _ _ (by simp)) (by simp [Value.oneCell']) m7 (by omega) (by simp;omega) ?_;intro v' w7 hown7 hgrow7 hnil7;obtain ⟨g7,cap7,rfl⟩:=ownsRow_succ hown7;have gb7:=(Qp7 hgrow7 rfl (k:=wc.heap.size+1+1) (by omega) (Quy hown (by omega)).symm).trans ((Qd9 _ _ _ _ (by simp<;>omega)).trans hgb);have gc7:=Qjx gb7;have gf7:w7.frozen? ⟨wc.heap.size+1+1,0,none⟩=false:=by simp [World.frozen?,gb7])
      exact CompI.next (pre:=[true]) (x:=false) hI rfl (heap_setCell_same _ _ _ _ _ _ hI.cl) hgb hown hrows hgrow7 rfl rfl rfl rfl hown7 rfl rfl (by omega)
    | false =>
     cases x with
     | false =>
      simp only [Qj4,clOf,stN,if_true,Bool.false_eq_true,Bool.true_eq_false,reduceCtorEq,if_false] at c0 c1 ⊢
      gi_wp2
      exact ⟨⟨Nat.le_refl _,fun _ _ _ h _=>h⟩,Keep2.refl _,hI.same rfl⟩
     | true =>
      simp only [Qj4,clOf,stN,if_true,Bool.false_eq_true,Bool.true_eq_false,reduceCtorEq,if_false] at c0 c1 ⊢
      gi_wp2
      refine wpIn_loop_rounds 2 ?_;rw [roundsIn_succ]
      gi_wp2
      refine Qfz rfl (by kernel_rfl) (by kernel_rfl) (by kernel_rfl) ?_
      repeat (quiet_step_in (fail))
      refine wpQuietIn_nil ?_;rintro _ ⟨nq,rfl⟩
      gi_wp2
      refine wpIn_loop_rounds 1 ?_;rw [roundsIn_succ]
      gi_wp2
      rw [roundsIn_succ]
      gi_wp2_with fail
      refine ⟨trivial,(CallsIn.inRound l (callsIn_wide.2 (Tryz.sortI_few 1 (by omega) _ _ _))).mono ?_⟩;rintro e' w' ⟨rfl,rfl⟩;have hne:=Quy hown (b:=wc.heap.size) (by omega);have hown':=(ownsRow_setCell_other hown hne (a:=⟨wc.heap.size,1,none⟩) (.int .i64 2)).alloc (.cells #[.int .i64 1] 3);have m7:1+1≤maxLen:=by simp only [maxLen];omega
      gi_wp2_with (gi_at_builtin;refine wpListIn_append_own _ rfl (.tmp 126) (.tmp 128) 45 rfl (wc.heap.size+4) 32 i1 (.slice none 0 0) 1 24 Tryz.underlying45 hj0 hj1 hj2 hj3 rfl (by omega) (.slice (some ⟨gg,0,none⟩) 1 gcap) 1 rows rfl (hown'.alloc _) ⟨W.heap.size+1,0,none⟩ 1 1 [.slice (some ⟨W.heap.size,0,none⟩) 1 1] rfl rfl (Q09 _ _ _ _ (by simp)) (by simp [Value.oneCell']) m7 (by omega) (by simp;omega) ?_;intro v' w7 hown7 hgrow7 hnil7;obtain ⟨g7,cap7,rfl⟩:=ownsRow_succ hown7;have gb7:=(Qp7 hgrow7 rfl (k:=wc.heap.size+1+1) (by omega) (Quy hown (by omega)).symm).trans ((Qd9 _ _ _ _ (by simp<;>omega)).trans hgb);have gc7:=Qjx gb7;have gf7:w7.frozen? ⟨wc.heap.size+1+1,0,none⟩=false:=by simp [World.frozen?,gb7])
      exact CompI.next (pre:=[false]) (x:=true) hI rfl (heap_setCell_same _ _ _ _ _ _ hI.cl) hgb hown hrows hgrow7 rfl rfl rfl rfl hown7 rfl rfl (by omega)
  case done =>
   intro D ys W hD hys hI hK;subst hys;obtain ⟨gv,rows,hgb,hown,hrows⟩:=hI.gb;obtain ⟨gg,gcap,rfl⟩ : ∃ gg gcap,gv = .slice (some ⟨gg,0,none⟩) 2 gcap:=ownsRow_succ (k:=1) hown;have d1:=Qjx hgb;obtain ⟨R1,r11,r12,r13,r14,r15⟩:=hrows 0 true rfl;obtain ⟨R0,r01,r02,r03,r04,r05⟩:=hrows 1 false rfl;have k0:=Qyu hown (i:=0) r11;have k1:=Qyu hown (i:=1) r01;obtain ⟨q1,q2,q3⟩:=Qbaq hown (by decide);have hgc:∃ c,W.heap[gg]? = some (.cells c 32 (0,0)):=by
    rcases hown.2 with ⟨h,_⟩|⟨g,cap,cur,hv,hb,hg,hc,_⟩
    ·cases h
    ·cases hv;exact ⟨_,hg⟩
   obtain ⟨gcur,hgc⟩:=hgc;have hDg:D≠gg:=by rintro rfl;rw [hgc] at hK;cases hK
   have n1:R1≠gg:=fun e=>r14 (by simp [Value.ownBlock,e]);have n0:R0≠gg:=fun e=>r04 (by simp [Value.ownBlock,e])
   go_wp2_with (go_at_call 60;refine (Tryz.two_sorted gg gcap R0 R1 1 1 W (Qjx r05) (Qjx r15) n0 n1 r03 r13 q2 k0 k1 (fun i=>by simp [World.frozen?,hgc])).mono ?_;rintro e' w' ⟨rfl,hF,s0,s1⟩;have d1':=(hF.cell (by omega) (by omega) 0).trans d1)
   have hK':=(hF.block D (Array.getElem?_eq_some_iff.1 hK).1 hDg).trans hK;refine ⟨by simp,.inl ⟨_,_,rfl,run_takeDeferred hK',?_⟩⟩;have hsz:(w'.putObj D (.deferred none)).heap.size=w'.heap.size:=by simp [World.putObj]
   have hz:=hI.size;have hzF:=hF.size;have z6':=hb6.size;simp at z6';have hD' : wc.heap.size+4≤D:=by simpa using hD
   have pc:∀ k i,k≠D→(w'.putObj D (.deferred none)).cell? ⟨k,i,none⟩=w'.cell? ⟨k,i,none⟩:=fun k i h=>by simp only [World.cell?,World.putObj_heap_other h]
   have nR1:R1≠D:=by rintro rfl;rw [r15] at hK;cases hK
   have nR0:R0≠D:=by rintro rfl;rw [r05] at hK;cases hK
   have b7:Below wc.heap.size wc (w'.putObj D (.deferred none)):=⟨hF.os.trans hI.below.os,hF.tape.trans hI.below.tape,hF.output.trans hI.below.output,by omega,fun k hk=>(World.putObj_heap_other (by omega)).trans ((hF.block k (by omega) (by omega)).trans (hI.below.block k hk))⟩;refine ⟨_,results_tmp2 rfl _ _ _,gg,gcap,R0,R1,1,1,rfl,(h0.trans (hb6.mono (by omega))).trans (b7.mono (by omega)),by omega,by omega,by omega,q3,Nat.le_refl _,Nat.le_refl _,(pc _ _ (Ne.symm hDg)).trans s0,(pc _ _ (Ne.symm hDg)).trans s1,?_,?_⟩
   ·exact (pc _ _ nR0).trans ((hF.cell r03 n0 0).trans (Qjx r05))
   ·exact (pc _ _ nR1).trans ((hF.cell r13 n1 0).trans (Qjx r15))
end Go.Proofs
end
section
namespace Go.Proofs
open Go.RowKit Go.Lib Go.Sort Go.Abs
theorem Tryz.componentsK:Go.Abs.K_reach_Components Tryz.prog 57 Qbir:=by
 intro a1 r h M nb;unfold Qbir at h;split at h<;>cases h;rename_i ha;subst ha;refine ACalls.mk' (by kernel_rfl) (Nat.le_refl _) rfl fun w g us hm hMon hus hfl hons=>?_;obtain ⟨u,us',rfl,hu,hus'⟩:=hus;simp only [RFs] at hus';subst hus';have hu:=hu .free;simp only [Qd,eI,RV,RVs,RD,RDL,RDc,List.map_cons,List.map_nil,List.length_cons,List.length_nil] at hu;obtain ⟨vs,rfl,⟨u1,us1,rfl,⟨p1,ca,rfl,hc1,hl1⟩,u2,us2,rfl,rfl,u3,us3,rfl,⟨mk,cm,rfl,-,-⟩,u4,us4,rfl,⟨p4,ce,rfl,hc4,hl4⟩,rfl⟩,-⟩:=hu;obtain ⟨ba,oa,rfl,-,⟨i1,⟨_,a0,rfl⟩,-⟩,-,⟨i2,⟨_,a1,rfl⟩,-⟩,-⟩:=hl1.resolve_left (by simp);obtain ⟨be,oe,rfl,-,⟨j1,⟨_,e0,rfl⟩,j2,⟨_,e1,rfl⟩,j3,⟨_,e2,rfl⟩,-⟩,-⟩:=hl4.resolve_left (by simp);refine Calls.mono (Tryz.comp_walk ba oa ca be oe ce cm mk w (hm.imm _ _ i1).1 (hm.imm _ _ j1).1 a0 a1 e0 e1 e2) ?_;rintro e w' ⟨gb,cap,A0,A1,c0,c1,rfl,hB,hg,hA0,hA1,k1,k2,k3,m0,m1,m2,m3⟩;let g' : G:={ box:=g.box,imm:=fun b o=>g.imm b o∨(b=gb∧o<2)∨((b=A0∨b=A1)∧o=0),own:=fun b=>if b<w.heap.size then g.own b else .ext };have hI:Imm g.imm g'.imm w w':=⟨fun b o h=>.inl h,fun b o hi=>Qdz (hB.block b (hm.imm b o hi).1)⟩;have hown:∀ b,b<w.heap.size→g'.own b=g.own b∧w'.heap[b]? = w.heap[b]? ∧ ∀ o,g'.imm b o↔g.imm b o:=fun b hb=>⟨by simp [g',hb],hB.block b hb,fun o=>by simp only [g'];grind⟩;have hk:Kept g w g' w' (There M) (fun _=>True):=⟨hI,fun _ _=>rfl,fun b _ hlt=>hown b hlt⟩;have hnew:∀ b,w.heap.size≤b→g'.own b = .ext:=fun b h=>by simp only [g'];rw [if_neg (by omega)]
 have l0:gb<w'.heap.size:=Q8m (o:=0) (by rw [m0];rfl);have l1:A0<w'.heap.size:=Q8m (o:=0) (by rw [m2];rfl);have l2:A1<w'.heap.size:=Q8m (o:=0) (by rw [m3];rfl);refine ⟨_,g',rfl,hm.kept hk hMon (fun _ _ _=>trivial) trivial (fun _ _=>trivial) (fun b o hi=>?_),?_,?_,hMon,hB.os,hB.tape,hB.output,hB.size,hI,fun _ _=>rfl,fun b hb _=>hown b hb⟩
 ·rcases hi with hi|⟨rfl,_⟩|⟨rfl|rfl,_⟩
  ·obtain ⟨h1,h2⟩:=hm.imm b o hi;exact ⟨Nat.lt_of_lt_of_le h1 hB.size,fun k=>by rw [(hown b h1).1];exact h2 k⟩
  ·exact ⟨l0,fun k=>by rw [hnew _ hg];simp⟩
  ·exact ⟨l1,fun k=>by rw [hnew _ hA0];simp⟩
  ·exact ⟨l2,fun k=>by rw [hnew _ hA1];simp⟩
 ·have t0:g'.imm gb 0:=.inr (.inl ⟨rfl,by decide⟩);have t1:g'.imm gb 1:=.inr (.inl ⟨rfl,by decide⟩);have t2:g'.imm A0 0:=.inr (.inr ⟨.inl rfl,rfl⟩);have t3:g'.imm A1 0:=.inr (.inr ⟨.inr rfl,rfl⟩);simp only [RV,RVs,RD,RDL,RDc,eL,eI,List.map_cons,List.map_nil,List.length_cons,List.length_nil];refine ⟨[_,_],rfl,_,_,rfl,⟨_,_,rfl,k1,.inr ⟨gb,0,rfl,trivial,⟨t0,⟨_,m0,_,_,rfl,k2,.inr ⟨A0,0,rfl,trivial,⟨t2,⟨_,m2,rfl⟩,trivial⟩,trivial⟩⟩,trivial⟩,trivial,⟨t1,⟨_,m1,_,_,rfl,k3,.inr ⟨A1,0,rfl,trivial,⟨t3,⟨_,m3,rfl⟩,trivial⟩,trivial⟩⟩,trivial⟩,trivial⟩⟩,_,_,rfl,rfl,rfl⟩
 ·trivial
end Go.Proofs
end
section
namespace Go.Proofs
open Go Go.Abs
set_option maxRecDepth 10000
set_option maxHeartbeats 4000000
theorem Qtl:Qiu Tryz.prog 50 Qmz:=Qrb Quq
theorem Qyw:Qlw Tryz.prog 112 Qf4:=Qvt Qz0 Q9
theorem Qrq:Qj8 Tryz.prog 80 Qfs:=Qxe Qyw Q0s Q9
theorem Quz:Qjr Tryz.prog 110 Qg5:=Qse Qwf Q9
theorem Qxs:Qk1 Tryz.prog 118 Qii:=Qud Qyq Q9
theorem Qdw:Qcp Tryz.prog 87 Qbi:=Qrc Qxs Qus
theorem Qsr:Qh5 Tryz.prog 111 Qf9:=Qqe Qdw Qtk Q9
theorem Qlc:Qhd Tryz.prog 79 Qe5:=Qvu Quz Qsr Qzy
theorem Qld:Qhe Tryz.prog 36 Qf5:=Qvv Qlc Qrq Qzu
theorem Qwh:Qke Tryz.prog 125 Qkl:=Qs6 Qxq
theorem Qyx:Qlx Tryz.prog 129 Qji:=Qvw Qz3 Q9
theorem Qtm:Qiv Tryz.prog 90 Qi6:=Qrd Qrq Qwh Qyx Qux
theorem Qhu:Qex Tryz.prog 54 Qdv:=Qqf Qtm Qtg
theorem Qrr:Qj9 Tryz.prog 106 Qh1:=Qxf Q0u Q9
theorem Qss:Qh6 Tryz.prog 107 Qia:=Qqg Qti
theorem Qu0:Qjs Tryz.prog 74 Qg6:=Qsf Qrr Qss Qwe
theorem Q0w:Qow Tryz.prog 162 Qpb:=Qyh Q2s
theorem Q2y:Qqc Tryz.prog 143 Qj3:=Qzp Q0w Q3r
theorem Qxt:Qk2 Tryz.prog 144 Qij:=Que Qyr
theorem Qpq:Qgx Tryz.prog 100 Qe8:=Qn6 Q2y Qxt Qqm Q9
theorem Qjy:Qf7 Tryz.prog 64 Qe6:=Qs7 Qpq Qxm
theorem Qst:Qh7 Tryz.prog 76 Qib:=Qqh Qjy Qth
theorem Qsu:Qh8 Tryz.prog 108 Qga:=Qqi Qtj Q9
theorem Qgg:Qdx Tryz.prog 75 Qb3:=Qn7 Qsu Qqk
theorem Qpe:Qig Tryz.prog 63 Qgr:=Quf Qym
theorem Q0x:Qoy Tryz.prog 65 Qi7:=Qyi Q2q
theorem Qle:Qhf Tryz.prog 18 Qdl:=Qvx Qld Qpe Qjy Q0x Qzt Q9
theorem Qtn:Qiw Tryz.prog 101 Qi8:=Qre Quu Q9
theorem Qko:Qgn Tryz.prog 67 Qej:=Qug Qlc Qtn Qyn
theorem Qja:Qfu Tryz.prog 68 Qeo:=Qsg Qdw Qwd Q9
theorem Qm1:Qfp Tryz.prog 109 Qft:=Qlh Qdw Qne
theorem Qim:Qee Tryz.prog 77 Qdg:=Qmu Qgg Qm1 Qo8
theorem Qm2:Qfq Tryz.prog 145 Q6:=Qli Qng
theorem Qin:Qef Tryz.prog 102 Qdh:=Qmv Qdw Tryz.rowK94 Qm2 Qo9 Q9
theorem Qio:Qeg Tryz.prog 69 Qdi:=Qmw Qin Qo7
theorem Qjb:Qeu Tryz.prog 72 Qdm:=Qnb Qin Qpp Q9
theorem Qto:Qi0 Tryz.prog 29 Qgs:=Qrf Qko Qja Qio Qjb Qim Quo Q9
theorem Qpf:Qih Tryz.prog 55 Qgt:=Quh Qyk Q9
theorem Qjc:Qfv Tryz.prog 27 Qep:=Qsh Qle Qto Qld Qhu Qpf Qu0 Qgg Qst Qv9
theorem Qlf:Qet Tryz.prog 105 Qg1:=Qkk Qdw Qlk
theorem Ql4:Qfg Tryz.prog 71 Qhm:=Qk8 Qgg Qlf Qmy
theorem Qu1:Qjt Tryz.prog 20 Qnv:=Qsi Qko Qja Qio Tryz.keyK Ql4 Qjb Qv7 Q9
theorem Qyy:Qly Tryz.prog 13 Qrn:=Qvy Qle Qu1 Qhu Qpf Qzr Q9
theorem Qlg:Qhg Tryz.prog 56 Qjj:=Qvz Qzw
theorem Qp8:Qjh Tryz.prog 78 Qhh:=Qv0 Qzx Q9
theorem Qnx:Qhp Tryz.prog 31 Qkm:=Qs8 Qlg Qp8 Qxj
theorem Qwi:Qkf Tryz.prog 61 Qpc:=Qs9 Qxl
theorem Qyz:Qlz Tryz.prog 15 Qro:=Qv1 Qnx Qlg Tryz.componentsK Tryz.overK Tryz.valuesK Tryz.sortRK Qwi Qzs Q9
theorem Qy0:Ql0 Tryz.prog 82 Qrp:=Qv2 Qpe Qko Qja Qim Qdw Qzz Q9
theorem Qtp:Qi1 Tryz.prog 81 Qm0:=Qrg Qhu Qy0 Qur Q9
theorem Qwj:Qkg Tryz.prog 34 Qpd:=Qta Qle Qjc Qnx Qld Qlg Qtp Qxk
theorem Qu2:Qju Tryz.prog 23 Qnw:=Qsj Qv8 Q9
theorem Qxu:Qk3 Tryz.prog 62 Qp5:=Qui Qyl Q9
theorem Q5x:Qub Tryz.prog 17 Q0m:=Q2p Qxu Q7q
theorem Qtq:Qi2 Tryz.prog 11 Qi9:=Qrh Qyy Qyz Q5x Qu2 Qjc Qwj Qtl Qum
theorem Qsv:Qh9 Tryz.prog 51 Qgb:=Qqj Qtf Q9
theorem Qpg:Qge Tryz.prog 53 Qev:=Qnc Qpo Q9
theorem Qlr:Qgp Tryz.prog 88 Qfj:=Qri Qut
theorem Qm3:Qg2 Tryz.prog 121 Qcl:=Qsk Qwg Q9
theorem Qny:Qhq Tryz.prog 120 Qdj:=Qtb Qxp Q9
theorem Qtr:Qi3 Tryz.prog 119 Qgu:=Qrj Qny Qm3 Quv Q9
theorem Qts:Qi4 Tryz.prog 122 Qfk:=Qrk Quw Q9
theorem Qpr:Qgy Tryz.prog 89 Qe9:=Qn8 Qlr Qtr Qny Qm3 Qts Qql Q9
theorem Qu3:Qjv Tryz.prog 52 Qg7:=Qsl Qlr Qpr Qwc Q9
theorem Qu4:Qjw Tryz.prog 12 Qg8:=Qsm Qsv Qu3 Qpg Qv6
theorem Qm4:Qfr Tryz.prog 115 Qdy:=Qlj Qnf Q9
theorem Qy1:Ql1 Tryz.prog 116 Qjk:=Qv3 Qz1
theorem Qy2:Ql2 Tryz.prog 117 Qjl:=Qv4 Qz2
theorem Q0y:Qo3 Tryz.prog 86 Qla:=Qyj Qm4 Qy1 Qy2 Q2r
theorem Qxv:Qk4 Tryz.prog 166 Qik:=Quj Qys
theorem Qrs:Qhr Tryz.prog 165 Qfy:=Qpm Qsp Q9
theorem Qz4:Qm9 Tryz.prog 148 Qka:=Qxg Q0y Qrs Qxv Q0v
theorem Qxw:Qk6 Tryz.prog 113 Qil:=Quk Qz4 Qyo Q9
theorem Qwk:Qkh Tryz.prog 84 Qkn:=Qtc Qxw Qxo
theorem Qtt:Qi5 Tryz.prog 43 Qgv:=Qrl Qlc Qwk Qup
theorem Qph:Qgf Tryz.prog 21 Qew:=Qnd Qpn Q9
theorem Q2z:Qqd Tryz.prog 44 Qma:=Qzq Qjy Q3q Q9
theorem Qwl:Qki Tryz.prog 30 Qhs:=Qtd Qp8 Qxi Q9
theorem Qm5:Qg3 Tryz.prog 45 Qeq:=Qsn Qwa Q9
theorem Qxx:Qk7 Tryz.prog 114 Qlb:=Qul Qyp
theorem Qz5:Qna Tryz.prog 85 Qnh:=Qxh Qrr Qxx Q0t
theorem Qy3:Ql3 Tryz.prog 46 Qjm:=Qv5 Qz5 Qzv
theorem Qm6:Qg4 Tryz.prog 47 Qfw:=Qso Qwb
theorem Qz6:Qhk Tryz.prog 9 Qfl:=Qk9 Qtq Qu4 Qph Qjc Qwl Qtt Q2z Qm5 Qy3 Qm6 Qmx Q9
theorem Qwm:Qkj Tryz.prog 66 Qht:=Qte Qxn Q9
theorem Q6f:Qms Tryz.prog 19 Qd8:=Qrm Qm5 Qm6 Qwm Qun Q9
end Go.Proofs
end
