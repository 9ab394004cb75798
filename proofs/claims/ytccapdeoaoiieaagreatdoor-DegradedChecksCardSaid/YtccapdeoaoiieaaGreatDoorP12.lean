/-
  Part 12 of the proof: see the last text.
-/
import Derived.Test.YtccapdeoaoiieaaGreatDoorP11
import Derived.Shelf.Strings.BuilderK
import Derived.Shelf.Strconv.Itoa2
import Derived.Shelf.Strconv.Itoa3
import Derived.Ground.SlgmProg
import Derived.Shelf.SortM.Plain
import Derived.Shelf.SortM.SortNone
import Derived.Test.YtccapdeoaoiieaaGreatDoorProg
import Derived.KernelRfl
import Derived.WalkKit
import Derived.BigCall
import Derived.Lib.OthersKept
import Derived.Shelf.Small.Bits
import Derived.Shelf.Strings.BuilderRune
import Derived.Shelf.SlLaysF0
import Derived.Ground.SlsfProg
import Derived.OpenShut
import Derived.ProofKit
import Derived.Carry
import GoSem.Claim
import GoSem.ClaimJoined
import Derived.JoinedTies
import Derived.ChangeSame
import Derived.ChangeVars
import Derived.JoinedOf
import Derived.LaidLaws
import Derived.LaidHandle
import Derived.LaidMore
import Derived.SevenTiedAt
import Derived.Test.YtccapdeoaoiieaaGreatDoorRows
set_option linter.unusedVariables false
set_option linter.unusedSimpArgs false
set_option linter.unusedSectionVars false
section
namespace Go.Proofs
open Go.Shelf
def Tryz.lays169_ren:Go.Shelf.Ren:=⟨fun|169=>121|n=>n,fun|70=>205|9=>9|0=>0|72=>207|37=>82|127=>242|3=>3|5=>5|n=>n,fun|n=>n⟩
theorem Tryz.lays169:Go.Proofs.Lays.n169 Tryz.prog Tryz.lays169_ren:={
 mixed:=by kernel_rfl
 f169:=Tryz.func121.trans (congrArg some (by kernel_rfl))
 t0:=Tryz.underlying0
 a0:=Tryz.isAgg0
 z0:=Tryz.sizeOf0
 v0:=Tryz.zeroValue0
 t3:=Tryz.underlying3
 a3:=Tryz.isAgg3
 z3:=Tryz.sizeOf3
 v3:=Tryz.zeroValue3
 t9:=Tryz.underlying9
 a9:=Tryz.isAgg9
 z9:=Tryz.sizeOf9
 v9:=Tryz.zeroValue9
 t37:=Tryz.underlying82
 a37:=Tryz.isAgg82
 z37:=Tryz.sizeOf82
 v37:=Tryz.zeroValue82
 t70:=Tryz.underlying205
 a70:=Tryz.isAgg205
 z70:=Tryz.sizeOf205
 v70:=Tryz.zeroValue205
 t72:=Tryz.underlying207
 a72:=Tryz.isAgg207
 z72:=Tryz.sizeOf207
 v72:=Tryz.zeroValue207
 t127:=Tryz.underlying242
 a127:=Tryz.isAgg242
 z127:=Tryz.sizeOf242
 v127:=Tryz.zeroValue242 }
theorem Tryz.Builder_Extra_169:Builder.Extra Tryz.prog Tryz.lays169_ren:={
 sizeBuilder:=by kernel_rfl
 liesBuilder:=by kernel_rfl
 t5:=Tryz.underlying5
 a5:=Tryz.isAgg5
 z5:=Tryz.sizeOf5
 v5:=Tryz.zeroValue5
 infoByte:=by kernel_rfl
 cellsByte:=by kernel_rfl
 sizeByte:=by kernel_rfl
 neB5:=by decide }
open Go.RowKit in
theorem Tryz.Builder_String_any_k (B b:Nat) (l:List UInt8) (w:World) (h:Lib.IsBuilderF 207 5 B b (Lib.byteCells l) w) (hBw:B≤w.heap.size) :
  Calls Tryz.prog 121 #[.pointer (some ⟨b,0,none⟩)] w fun e w'=>e = .returned (.string ⟨l.toArray⟩)∧(Lib.IsBuilderF 207 5 B b (Lib.byteCells l) w'∧Below B w w'∧Lib.OthersKept 5 (some b) w w'):=Any.Builder_String_any_k Tryz.lays169 Tryz.Builder_Extra_169 B b l w h hBw
def Tryz.lays171_ren:Go.Shelf.Ren:=⟨fun|171=>131|243=>156|246=>176|283=>191|284=>192|285=>193|286=>194|129=>166|317=>200|318=>201|319=>202|320=>203|337=>205|338=>206|n=>n,fun|3=>3|9=>9|2=>2|4=>4|171=>277|0=>0|53=>253|37=>82|5=>5|173=>279|212=>287|51=>251|20=>20|213=>288|46=>222|232=>290|233=>291|n=>n,fun|17=>0|18=>1|19=>2|n=>n⟩
theorem Tryz.lays171:Go.Proofs.Lays.n171 Tryz.prog Tryz.lays171_ren:={
 mixed:=by kernel_rfl
 f129:=Tryz.func166.trans (congrArg some (by kernel_rfl))
 f171:=Tryz.func131.trans (congrArg some (by kernel_rfl))
 f243:=Tryz.func156.trans (congrArg some (by kernel_rfl))
 f246:=Tryz.func176.trans (congrArg some (by kernel_rfl))
 f283:=Tryz.func191.trans (congrArg some (by kernel_rfl))
 f284:=Tryz.func192.trans (congrArg some (by kernel_rfl))
 f285:=Tryz.func193.trans (congrArg some (by kernel_rfl))
 f286:=Tryz.func194.trans (congrArg some (by kernel_rfl))
 f317:=Tryz.func200.trans (congrArg some (by kernel_rfl))
 f318:=Tryz.func201.trans (congrArg some (by kernel_rfl))
 f319:=Tryz.func202.trans (congrArg some (by kernel_rfl))
 f320:=Tryz.func203.trans (congrArg some (by kernel_rfl))
 f337:=Tryz.func205.trans (congrArg some (by kernel_rfl))
 f338:=Tryz.func206.trans (congrArg some (by kernel_rfl))
 t0:=Tryz.underlying0
 a0:=Tryz.isAgg0
 z0:=Tryz.sizeOf0
 v0:=Tryz.zeroValue0
 t2:=Tryz.underlying2
 a2:=Tryz.isAgg2
 z2:=Tryz.sizeOf2
 v2:=Tryz.zeroValue2
 t3:=Tryz.underlying3
 a3:=Tryz.isAgg3
 z3:=Tryz.sizeOf3
 v3:=Tryz.zeroValue3
 t4:=Tryz.underlying4
 a4:=Tryz.isAgg4
 z4:=Tryz.sizeOf4
 v4:=Tryz.zeroValue4
 t5:=Tryz.underlying5
 a5:=Tryz.isAgg5
 z5:=Tryz.sizeOf5
 v5:=Tryz.zeroValue5
 t9:=Tryz.underlying9
 a9:=Tryz.isAgg9
 z9:=Tryz.sizeOf9
 v9:=Tryz.zeroValue9
 t20:=Tryz.underlying20
 a20:=Tryz.isAgg20
 z20:=Tryz.sizeOf20
 v20:=Tryz.zeroValue20
 t37:=Tryz.underlying82
 a37:=Tryz.isAgg82
 z37:=Tryz.sizeOf82
 v37:=Tryz.zeroValue82
 t46:=Tryz.underlying222
 a46:=Tryz.isAgg222
 z46:=Tryz.sizeOf222
 v46:=Tryz.zeroValue222
 t51:=Tryz.underlying251
 a51:=Tryz.isAgg251
 z51:=Tryz.sizeOf251
 v51:=Tryz.zeroValue251
 t53:=Tryz.underlying253
 a53:=Tryz.isAgg253
 z53:=Tryz.sizeOf253
 v53:=Tryz.zeroValue253
 t171:=Tryz.underlying277
 a171:=Tryz.isAgg277
 z171:=Tryz.sizeOf277
 v171:=Tryz.zeroValue277
 t173:=Tryz.underlying279
 a173:=Tryz.isAgg279
 z173:=Tryz.sizeOf279
 v173:=Tryz.zeroValue279
 t212:=Tryz.underlying287
 a212:=Tryz.isAgg287
 z212:=Tryz.sizeOf287
 v212:=Tryz.zeroValue287
 t213:=Tryz.underlying288
 a213:=Tryz.isAgg288
 z213:=Tryz.sizeOf288
 t232:=Tryz.underlying290
 a232:=Tryz.isAgg290
 z232:=Tryz.sizeOf290
 v232:=Tryz.zeroValue290
 t233:=Tryz.underlying291
 a233:=Tryz.isAgg291
 z233:=Tryz.sizeOf291
 v233:=Tryz.zeroValue291
 g17:=by kernel_rfl
 g18:=by kernel_rfl
 g19:=by kernel_rfl }
open Go.RowKit Go.Sort Go.Lib in
theorem Tryz.strconv_Itoa_small (i:Nat) (hi:i<100) (w:World) :
  Calls Tryz.prog 131 #[.int .i64 i] w fun e w'=>e = .returned (.string ⟨(Lib.decDigits i).toArray⟩)∧w'=w:=Any.strconv_Itoa_small Tryz.lays171 i hi w
def Tryz.laysSlM5_f69_ren:Go.Shelf.Ren:=⟨fun|5=>95|8=>134|7=>133|19=>165|20=>166|10=>157|11=>158|12=>159|13=>160|14=>161|15=>162|16=>144|17=>163|18=>164|30=>177|31=>178|32=>179|33=>180|34=>181|35=>172|40=>195|n=>n,fun|23=>32|25=>3|3=>3|32=>222|22=>32|0=>0|44=>251|46=>253|4=>4|36=>245|35=>244|41=>154|5=>5|9=>9|53=>264|57=>268|63=>281|64=>65|n=>n,fun|n=>n⟩
theorem Tryz.laysSlM5_f69:Go.Proofs.SlLaysM.n5 Tryz.prog Tryz.laysSlM5_f69_ren:={
 mixed:=by kernel_rfl
 f5:=⟨Tryz.f95.name,by decide,Tryz.func95.trans (congrArg some (by kernel_rfl))⟩
 f7:=⟨Tryz.f133.name,by decide,Tryz.func133.trans (congrArg some (by kernel_rfl))⟩
 f8:=Tryz.func134.trans (congrArg some (by kernel_rfl))
 f10:=⟨Tryz.f157.name,by decide,Tryz.func157.trans (congrArg some (by kernel_rfl))⟩
 f11:=⟨Tryz.f158.name,by decide,Tryz.func158.trans (congrArg some (by kernel_rfl))⟩
 f12:=⟨Tryz.f159.name,by decide,Tryz.func159.trans (congrArg some (by kernel_rfl))⟩
 f13:=⟨Tryz.f160.name,by decide,Tryz.func160.trans (congrArg some (by kernel_rfl))⟩
 f14:=⟨Tryz.f161.name,by decide,Tryz.func161.trans (congrArg some (by kernel_rfl))⟩
 f15:=⟨Tryz.f162.name,by decide,Tryz.func162.trans (congrArg some (by kernel_rfl))⟩
 f16:=⟨Tryz.f144.name,by decide,Tryz.func144.trans (congrArg some (by kernel_rfl))⟩
 f17:=⟨Tryz.f163.name,by decide,Tryz.func163.trans (congrArg some (by kernel_rfl))⟩
 f18:=⟨Tryz.f164.name,by decide,Tryz.func164.trans (congrArg some (by kernel_rfl))⟩
 f19:=Tryz.func165.trans (congrArg some (by kernel_rfl))
 f20:=Tryz.func166.trans (congrArg some (by kernel_rfl))
 f30:=⟨Tryz.f177.name,by decide,Tryz.func177.trans (congrArg some (by kernel_rfl))⟩
 f31:=Tryz.func178.trans (congrArg some (by kernel_rfl))
 f32:=Tryz.func179.trans (congrArg some (by kernel_rfl))
 f33:=⟨Tryz.f180.name,by decide,Tryz.func180.trans (congrArg some (by kernel_rfl))⟩
 f34:=⟨Tryz.f181.name,by decide,Tryz.func181.trans (congrArg some (by kernel_rfl))⟩
 f35:=⟨Tryz.f172.name,by decide,Tryz.func172.trans (congrArg some (by kernel_rfl))⟩
 f40:=⟨Tryz.f195.name,by decide,Tryz.func195.trans (congrArg some (by kernel_rfl))⟩
 t0:=Tryz.underlying0
 a0:=Tryz.isAgg0
 z0:=Tryz.sizeOf0
 v0:=Tryz.zeroValue0
 t3:=Tryz.underlying3
 a3:=Tryz.isAgg3
 z3:=Tryz.sizeOf3
 v3:=Tryz.zeroValue3
 t4:=Tryz.underlying4
 a4:=Tryz.isAgg4
 z4:=Tryz.sizeOf4
 v4:=Tryz.zeroValue4
 t5:=Tryz.underlying5
 a5:=Tryz.isAgg5
 z5:=Tryz.sizeOf5
 v5:=Tryz.zeroValue5
 t9:=Tryz.underlying9
 a9:=Tryz.isAgg9
 z9:=Tryz.sizeOf9
 v9:=Tryz.zeroValue9
 t22:=Tryz.underlying32
 a22:=Tryz.isAgg32
 z22:=Tryz.sizeOf32
 v22:=Tryz.zeroValue32
 t23:=Tryz.underlying32
 a23:=Tryz.isAgg32
 z23:=Tryz.sizeOf32
 v23:=Tryz.zeroValue32
 t25:=Tryz.underlying3
 a25:=Tryz.isAgg3
 z25:=Tryz.sizeOf3
 v25:=Tryz.zeroValue3
 t32:=Tryz.underlying222
 a32:=Tryz.isAgg222
 z32:=Tryz.sizeOf222
 v32:=Tryz.zeroValue222
 t35:=Tryz.underlying244
 a35:=Tryz.isAgg244
 z35:=Tryz.sizeOf244
 v35:=Tryz.zeroValue244
 t36:=Tryz.underlying245
 a36:=Tryz.isAgg245
 z36:=Tryz.sizeOf245
 v36:=Tryz.zeroValue245
 t41:=Tryz.underlying154
 a41:=Tryz.isAgg154
 z41:=Tryz.sizeOf154
 v41:=Tryz.zeroValue154
 t44:=Tryz.underlying251
 a44:=Tryz.isAgg251
 z44:=Tryz.sizeOf251
 v44:=Tryz.zeroValue251
 t46:=Tryz.underlying253
 a46:=Tryz.isAgg253
 z46:=Tryz.sizeOf253
 v46:=Tryz.zeroValue253
 t53:=Tryz.underlying264
 a53:=Tryz.isAgg264
 z53:=Tryz.sizeOf264
 v53:=Tryz.zeroValue264
 t57:=Tryz.underlying268
 a57:=Tryz.isAgg268
 z57:=Tryz.sizeOf268
 v57:=Tryz.zeroValue268
 t63:=Tryz.underlying281
 a63:=Tryz.isAgg281
 z63:=Tryz.sizeOf281
 v63:=Tryz.zeroValue281
 t64:=Tryz.underlying65
 a64:=Tryz.isAgg65
 z64:=Tryz.sizeOf65
 v64:=Tryz.zeroValue65 }
open Go.Sort Go.RowKit in
theorem Tryz.slices_Sort_int (blk off cap:Nat) (zs:List Int) (w:World) (hH:Holds (Value.int .i64) w blk off zs.toArray) (hblk:blk<w.heap.size) (hsz:zs.length<4611686018427387904) :
  Calls Tryz.prog 95 #[.slice (some ⟨blk,off,none⟩) zs.length cap] w fun e w' =>
   e = .returned (.tuple #[])∧∃ n os,w'=grow (putRow (Value.int .i64) (Sort.ahead w n) blk off (zs.mergeSort fun x y=>decide (x≤y)).toArray) os:=AnyM.slices_Sort_int Tryz.laysSlM5_f69 blk off cap zs w hH hblk hsz
open Go.RowKit Go.Sort in
theorem Tryz.slices_Sort_int_none (p:Option Addr) (cap:Nat) (w:World) :
  Calls Tryz.prog 95 #[.slice p 0 cap] w fun e w'=>e = .returned (.tuple #[])∧w'=w:=AnyM.slices_Sort_int_none Tryz.laysSlM5_f69 p cap w
def Tryz.lays167_ren:Go.Shelf.Ren:=⟨fun|167=>132|240=>154|276=>174|n=>n,fun|0=>0|4=>4|5=>5|9=>9|20=>20|37=>82|70=>205|72=>207|75=>209|80=>212|164=>261|n=>n,fun|n=>n⟩
theorem Tryz.lays167:Go.Proofs.Lays.n167 Tryz.prog Tryz.lays167_ren:={
 mixed:=by kernel_rfl
 f167:=Tryz.func132.trans (congrArg some (by kernel_rfl))
 f240:=Tryz.func154.trans (congrArg some (by kernel_rfl))
 f276:=Tryz.func174.trans (congrArg some (by kernel_rfl))
 t0:=Tryz.underlying0
 a0:=Tryz.isAgg0
 z0:=Tryz.sizeOf0
 v0:=Tryz.zeroValue0
 t4:=Tryz.underlying4
 a4:=Tryz.isAgg4
 z4:=Tryz.sizeOf4
 v4:=Tryz.zeroValue4
 t5:=Tryz.underlying5
 a5:=Tryz.isAgg5
 z5:=Tryz.sizeOf5
 v5:=Tryz.zeroValue5
 t9:=Tryz.underlying9
 a9:=Tryz.isAgg9
 z9:=Tryz.sizeOf9
 v9:=Tryz.zeroValue9
 t20:=Tryz.underlying20
 a20:=Tryz.isAgg20
 z20:=Tryz.sizeOf20
 v20:=Tryz.zeroValue20
 t37:=Tryz.underlying82
 a37:=Tryz.isAgg82
 z37:=Tryz.sizeOf82
 v37:=Tryz.zeroValue82
 t70:=Tryz.underlying205
 a70:=Tryz.isAgg205
 z70:=Tryz.sizeOf205
 v70:=Tryz.zeroValue205
 t72:=Tryz.underlying207
 a72:=Tryz.isAgg207
 z72:=Tryz.sizeOf207
 v72:=Tryz.zeroValue207
 t75:=Tryz.underlying209
 a75:=Tryz.isAgg209
 z75:=Tryz.sizeOf209
 v75:=Tryz.zeroValue209
 t164:=Tryz.underlying261
 a164:=Tryz.isAgg261
 z164:=Tryz.sizeOf261
 v164:=Tryz.zeroValue261 }
theorem Tryz.Builder_Extra_167:Builder.Extra Tryz.prog Tryz.lays167_ren:={
 sizeBuilder:=by kernel_rfl
 liesBuilder:=by kernel_rfl
 t5:=Tryz.underlying5
 a5:=Tryz.isAgg5
 z5:=Tryz.sizeOf5
 v5:=Tryz.zeroValue5
 infoByte:=by kernel_rfl
 cellsByte:=by kernel_rfl
 sizeByte:=by kernel_rfl
 neB5:=by decide }
def Tryz.lays166_ren:Go.Shelf.Ren:=⟨fun|166=>130|240=>154|276=>174|n=>n,fun|0=>0|3=>3|4=>4|5=>5|9=>9|20=>20|37=>82|70=>205|72=>207|75=>209|80=>212|164=>261|n=>n,fun|n=>n⟩
theorem Tryz.lays166:Go.Proofs.Lays.n166 Tryz.prog Tryz.lays166_ren:={
 mixed:=by kernel_rfl
 f166:=Tryz.func130.trans (congrArg some (by kernel_rfl))
 f240:=Tryz.func154.trans (congrArg some (by kernel_rfl))
 f276:=Tryz.func174.trans (congrArg some (by kernel_rfl))
 t0:=Tryz.underlying0
 a0:=Tryz.isAgg0
 z0:=Tryz.sizeOf0
 v0:=Tryz.zeroValue0
 t3:=Tryz.underlying3
 a3:=Tryz.isAgg3
 z3:=Tryz.sizeOf3
 v3:=Tryz.zeroValue3
 t4:=Tryz.underlying4
 a4:=Tryz.isAgg4
 z4:=Tryz.sizeOf4
 v4:=Tryz.zeroValue4
 t9:=Tryz.underlying9
 a9:=Tryz.isAgg9
 z9:=Tryz.sizeOf9
 v9:=Tryz.zeroValue9
 t20:=Tryz.underlying20
 a20:=Tryz.isAgg20
 z20:=Tryz.sizeOf20
 v20:=Tryz.zeroValue20
 t37:=Tryz.underlying82
 a37:=Tryz.isAgg82
 z37:=Tryz.sizeOf82
 v37:=Tryz.zeroValue82
 t70:=Tryz.underlying205
 a70:=Tryz.isAgg205
 z70:=Tryz.sizeOf205
 v70:=Tryz.zeroValue205
 t72:=Tryz.underlying207
 a72:=Tryz.isAgg207
 z72:=Tryz.sizeOf207
 v72:=Tryz.zeroValue207
 t75:=Tryz.underlying209
 a75:=Tryz.isAgg209
 z75:=Tryz.sizeOf209
 v75:=Tryz.zeroValue209
 t164:=Tryz.underlying261
 a164:=Tryz.isAgg261
 z164:=Tryz.sizeOf261
 v164:=Tryz.zeroValue261 }
theorem Tryz.Builder_Extra_166:Builder.Extra Tryz.prog Tryz.lays166_ren:={
 sizeBuilder:=by kernel_rfl
 liesBuilder:=by kernel_rfl
 t5:=Tryz.underlying5
 a5:=Tryz.isAgg5
 z5:=Tryz.sizeOf5
 v5:=Tryz.zeroValue5
 infoByte:=by kernel_rfl
 cellsByte:=by kernel_rfl
 sizeByte:=by kernel_rfl
 neB5:=by decide }
open Go.RowKit in
theorem Tryz.Builder_WriteByte_k (B b:Nat) (bs:List Value) (c:Int) (w:World) (h:Lib.IsBuilderF 207 5 B b bs w) (hlen:bs.length+1≤140737488355328) (hBw:B≤w.heap.size) :
  Calls Tryz.prog 132 #[.pointer (some ⟨b,0,none⟩),.int .u8 c] w fun e w'=>e = .returned .nilIface∧(Lib.BuilderAtF 207 5 B b (.pointer (some ⟨b,0,none⟩)) (bs++[.int .u8 c]) w'∧Below B w w'∧Lib.OthersKept 5 (some b) w w'):=Any.Builder_WriteByte_k Tryz.lays167 Tryz.Builder_Extra_167 B b bs c w h hlen hBw
open Go.RowKit in
theorem Tryz.Builder_WriteString_k (B b:Nat) (bs:List Value) (s:ByteArray) (w:World) (h:Lib.IsBuilderF 207 5 B b bs w) (hlen:bs.length+s.size≤140737488355328) (hBw:B≤w.heap.size) :
  Calls Tryz.prog 130 #[.pointer (some ⟨b,0,none⟩),.string s] w fun e w'=>e = .returned (.tuple #[.int .i64 s.size,.nilIface])∧(Lib.BuilderAtF 207 5 B b (.pointer (some ⟨b,0,none⟩)) (bs++Lib.strCells s) w'∧Below B w w'∧Lib.OthersKept 5 (some b) w w'):=Any.Builder_WriteString_k Tryz.lays166 Tryz.Builder_Extra_166 B b bs s w h hlen hBw
end Go.Proofs
end
section
namespace Go.Abs
open Go Go.RowKit
theorem Quw {P:Program} {f:FuncId} {args:List V} {x:D} (hx:x.scalar=true) (hb:Qh2 P f=true)
  (h:∀ (w:World) (g:G) (us:List Value),(∀ b o,g.imm b o→b<w.heap.size)→RFs g w args us→Calls P f us.toArray w fun e w'=>e = .returned x.val∧Below w.heap.size w w') (M:Mem) (nb:Nat) (hfl0:V.dems args=args:=by rfl):ACalls P f args M nb (.d x) M nb:=by
 refine ACalls.mk' hb (Nat.le_refl _) hfl0 fun w g us hm hMon hus hfl hons=>?_;refine Calls.mono (h w g us (fun b o hi=>(hm.imm b o hi).1) hus) ?_;rintro e w' ⟨rfl,hbw⟩;have hI:Imm g.imm g.imm w w':=⟨fun _ _ h=>h,fun b o hi=>Qdo (hbw.block b (hm.imm b o hi).1)⟩;have hk:Kept g w g w' (There M) (fun _=>True):=⟨hI,fun _ _=>rfl,fun b _ hlt=>⟨rfl,hbw.block b hlt,fun _=>Iff.rfl⟩⟩;refine ⟨_,g,rfl,hm.kept hk hMon (fun _ _ _=>trivial) trivial (fun _ _=>trivial) (fun b o hi=>?_),?_,trivial,hMon,?_⟩
 ·obtain ⟨h1,h2⟩:=hm.imm b o hi;exact ⟨Nat.lt_of_lt_of_le h1 hbw.size,h2⟩
 ·simp only [RV];exact (Qbbx hx).2 rfl
 ·exact ⟨hbw.os,hbw.tape,hbw.output,hbw.size,hI,fun _ _=>rfl,fun b hb _=>⟨rfl,hbw.block b hb,fun _=>Iff.rfl⟩⟩
theorem Qbcg {g:G} {w:World} {l:List Int} {k:IntKind} {u:Value} (h:RF g w (.d (.lst 1 (l.map (fun n=>[.int k n])))) u) :
  ∃ a cap,u = .slice a l.length cap∧l.length≤cap∧(l=[]∨∃ b o,a=some ⟨b,o,none⟩∧∀ (i:Nat) n,l[i]? = some n→g.imm b (o+i)∧w.cell? ⟨b,o+i,none⟩=some (.int k n)):=by
 have h:=RF_d.1 h;simp only [RD,List.length_map] at h;obtain ⟨a,cap,rfl,hc,hl⟩:=h;refine ⟨a,cap,rfl,hc,?_⟩;rcases hl with hl|⟨b,o,rfl,hl⟩
 ·exact .inl (by simpa using hl)
 ·refine .inr ⟨b,o,rfl,fun i n hi=>?_⟩;have:=(Qou hl i [.int k n] (by simp [hi])).2;simp only [RDc,Nat.mul_one,RD] at this;obtain ⟨h1,⟨u,h2,rfl⟩,_⟩:=this;exact ⟨h1,h2⟩
end Go.Abs
end
section
namespace Go.Abs
open Go Go.Sort Go.RowKit
theorem Q29 (xs:List Int):rowV (eI .i64) xs=xs.map (Value.int .i64):=by
 unfold rowV
 induction xs with
 | nil=>rfl
 | cons x xs ih=>simp only [List.map_cons,List.flatten_cons,List.map_append,ih];rfl
theorem Qbch {P:Program} {c:Nat} (hb:Qh2 P c=true)
  (hs:∀ (blk off cap:Nat) (zs:List Int) (w:World),Holds (Value.int .i64) w blk off zs.toArray→blk<w.heap.size→zs.length<4611686018427387904 →
   Calls P c #[.slice (some ⟨blk,off,none⟩) zs.length cap] w fun e w'=>e = .returned (.tuple #[])∧∃ n os,w'=grow (putRow (Value.int .i64) (Sort.ahead w n) blk off (zs.mergeSort fun x y=>decide (x≤y)).toArray) os)
  (hnone:∀ (p:Option Addr) (cap:Nat) (w:World),Calls P c (#[.slice p 0 cap] ++ #[]) w fun e' w'=>e' = .returned (.tuple #[])∧w'=w) :
  RowK P c (eI .i64) 1 [] (fun l=>if l.length≤lim then some (Qpe Qw5 l) else none):=by
 have hrow:Qbbz P c (eI .i64) #[] (fun xs=>Qpe Qw5 xs):=by
  intro blk cap xs w hcell hblk hsz;refine Calls.mono (hs blk 0 cap xs w ?_ hblk hsz) ?_
  ·intro j hj;have hj' : j<xs.length:=by simpa using hj
   have:=hcell j (by rw [Q29];simpa using hj');rw [Q29] at this;rw [Nat.zero_add];refine ⟨?_,this.2⟩;rw [this.1,getElem!_pos xs.toArray j hj];simp [hj']
  ·rintro e w' ⟨rfl,n,os,rfl⟩;refine ⟨rfl,n,os,?_⟩;rw [Q7y,Q29];congr 1;unfold putRow;congr 1;funext c;unfold putCells;congr 1;funext k x;simp only [List.size_toArray,List.length_map];split
   ·rename_i h;simp only [id];rw [getElem!_pos _ _ (by simp;omega),getElem!_pos _ _ (by simp;omega)];simp
   ·rfl
 intro xs ys h;dsimp only at h;split at h<;>cases h;rename_i hl;refine ⟨Quu _ _,fun h0=>?_,fun hl2 cap k0 M nb hM=>?_⟩
 ·subst h0;exact ⟨rfl,fun M nb=>Q28 (ex:=#[]) (exV:=[]) hb (fun _ _ _ h=>h) hnone⟩
 ·exact Q4d (e:=eI .i64) (fun _=>rfl) (fun _=>rfl) (fun xs=>Quu _ _) (ex:=#[]) (exV:=[]) (fun _ _ _ h=>h) hb hrow xs cap k0 M nb hM (by unfold lim at hl;omega)
end Go.Abs
end
section
namespace Go.Proofs
open Go.RowKit Go.Abs
theorem Tryz.rowK95:Go.Abs.RowK Tryz.prog 95 (eI .i64) 1 [] Qbgq :=
 Qbch (by kernel_rfl) Tryz.slices_Sort_int Tryz.slices_Sort_int_none
theorem Qbei {i:Nat} (h:i<100):(Lib.decDigits i).length≤2:=by
 by_cases h1:i<10
 ·rw [Lib.decDigits_one h1];simp
 ·rw [Lib.decDigits_two h1 h];simp
theorem Q87:∀ l:List Int,(∀ x∈l,0≤x∧x<100)→(Q5m l).length≤3*l.length
 | [],_=>by simp [Q5m]
 | x::l,h=>by
  have hx:=h x (by simp);have h1:=Qbei (i:=x.toNat) (by omega);have ih:=Q87 l fun y hy=>h y (by simp [hy]);simp only [Q5m,List.flatMap_cons,List.length_append,List.length_cons,List.length_nil] at *
  omega
set_option maxHeartbeats 4000000 in
set_option maxRecDepth 1000000 in
theorem Tryz.keyD_walk (l:List Int) (hl:l.length≤lim) (hx:∀ x∈l,0≤x∧x<100) (a:Option Addr) (cap:Nat) (w:World)
  (hc:∀ (i:Nat) n,l[i]? = some n→∃ b o,a=some ⟨b,o,none⟩∧b<w.heap.size∧w.cell? ⟨b,o+i,none⟩=some (.int .i64 n)) :
  Calls Tryz.prog 92 #[.slice a l.length cap] w fun e w'=>e = .returned (.string (Qbfq l))∧Below w.heap.size w w':=by
 have hlim:l.length≤1099511627776:=hl
 go_enter Tryz.func92,Tryz.ntmps92
 go_wp2
 go_loopw [8] (fun vi wr=>∃ (k:Nat),vi = .int .i64 k∧k≤l.length∧Lib.IsBuilderF 207 5 w.heap.size w.heap.size (Lib.byteCells (Q5m (l.take k))) wr∧Below w.heap.size w wr) (fun vi _=>l.length-(intOf vi).toNat)
 case atStart =>
  refine ⟨0,rfl,by omega,?_,((Below.refl _ w).alloc (Nat.le_refl _) _)⟩;exact Lib.IsBuilderF.of (Lib.fresh_isBuilder 207 5 w)
 case round =>
  obtain ⟨k,rfl,hk,hI,hbw⟩:=hrel;by_cases hlt:k<l.length
  ·obtain ⟨b,o,rfl,hb,hcell⟩:=hc k l[k] (List.getElem?_eq_getElem hlt);have hcr:wr.cell? ⟨b,o+k,none⟩=some (.int .i64 l[k]):=by
    rw [← hcell];simp only [World.cell?];rw [hbw.block b hb]
   have hxk:=hx l[k] (List.getElem_mem hlt);obtain ⟨n,hn⟩ : ∃ n:Nat,l[k]=(n:Int):=⟨l[k].toNat,by omega⟩;have hn100:n<100:=by omega
   rw [hn] at hcr;have hdl:=Qbei hn100;have hsz:w.heap.size≤wr.heap.size:=hbw.size;have hkl:=Q87 (l.take k) fun x hxm=>hx x (List.mem_of_mem_take hxm);rw [List.length_take] at hkl
   go_wp2_with (go_at_call 131;refine (Tryz.strconv_Itoa_small n hn100 _).mono ?_)
   rintro e W0 ⟨rfl,rfl⟩
   go_wp2_with (go_at_call 130;refine (Tryz.Builder_WriteString_k w.heap.size w.heap.size _ _ _ hI (by rw [Lib.byteCells_length];simp only [ByteArray.size,List.size_toArray];omega) hsz).mono ?_)
   rintro e W1 ⟨rfl,h1,b1,k1⟩;have hsz1:w.heap.size≤W1.heap.size:=Nat.le_trans hsz b1.size;have hlen2:(Lib.byteCells (Q5m (l.take k))++Lib.strCells ⟨(Lib.decDigits n).toArray⟩).length+1≤140737488355328:=by
    rw [show Lib.strCells ⟨(Lib.decDigits n).toArray⟩=Lib.byteCells (Lib.decDigits n) from rfl,List.length_append,Lib.byteCells_length,Lib.byteCells_length];omega
   go_wp2_with (go_at_call 132;refine (Tryz.Builder_WriteByte_k w.heap.size w.heap.size _ 32 _ (Or.inr h1) hlen2 hsz1).mono ?_)
   rintro e W2 ⟨rfl,h2,b2,k2⟩
   go_wp2
   go_roundw
   case rel =>
    refine ⟨k+1,by simp,by omega,?_,(hbw.trans b1).trans b2⟩;have e1:Q5m (l.take (k+1))=Q5m (l.take k)++Lib.decDigits n++[32]:=by
     rw [List.take_succ_eq_append_getElem hlt];simp only [Q5m,List.flatMap_append,List.flatMap_cons,List.flatMap_nil,List.append_nil,hn,Int.toNat_natCast,List.append_assoc]
    rw [e1,Lib.byteCells_append,Lib.byteCells_append];exact Or.inr h2
   case measure =>
    simp [intOf];omega
  ·have hk2:k=l.length:=by omega
   subst hk2
   go_wp2_with (go_at_call 121;refine (Tryz.Builder_String_any_k w.heap.size w.heap.size _ _ hI hbw.size).mono ?_)
   rintro e W1 ⟨rfl,_,b1,_⟩
   go_wp2
   go_ret
   refine ⟨?_,hbw.trans b1⟩
   first|rfl|(rw [List.take_length];rfl)|(simp [Qbfq,List.take_length])
theorem Tryz.keyD:Go.Abs.K_degraded_key Tryz.prog 92 keyI:=by
 intro l r h;unfold keyI at h;split at h<;>cases h;rename_i hc;intro M nb;refine Quw rfl (by kernel_rfl) (fun w g us himm hus=>?_) M nb;obtain ⟨u,us',rfl,hu,hus'⟩:=hus;simp only [RFs] at hus';subst hus';obtain ⟨a,cap,rfl,hcap,hl⟩:=Qbcg hu;refine Tryz.keyD_walk l hc.1 hc.2 a cap w fun i n hi=>?_;rcases hl with rfl|⟨b,o,rfl,hl⟩
 ·simp at hi
 ·exact ⟨b,o,rfl,himm _ _ (hl i n hi).1,(hl i n hi).2⟩
end Go.Proofs
end
section
namespace Go.Proofs
open Go.Shelf
def Tryz.lays125_ren:Go.Shelf.Ren:=⟨fun|125=>134|128=>165|129=>166|n=>n,fun|46=>222|3=>3|51=>251|53=>253|4=>4|5=>5|9=>9|n=>n,fun|n=>n⟩
theorem Tryz.lays125:Go.Proofs.Lays.n125 Tryz.prog Tryz.lays125_ren:={
 mixed:=by kernel_rfl
 f125:=Tryz.func134.trans (congrArg some (by kernel_rfl))
 f128:=Tryz.func165.trans (congrArg some (by kernel_rfl))
 f129:=Tryz.func166.trans (congrArg some (by kernel_rfl))
 t3:=Tryz.underlying3
 a3:=Tryz.isAgg3
 z3:=Tryz.sizeOf3
 v3:=Tryz.zeroValue3
 t4:=Tryz.underlying4
 a4:=Tryz.isAgg4
 z4:=Tryz.sizeOf4
 v4:=Tryz.zeroValue4
 t5:=Tryz.underlying5
 a5:=Tryz.isAgg5
 z5:=Tryz.sizeOf5
 v5:=Tryz.zeroValue5
 t9:=Tryz.underlying9
 a9:=Tryz.isAgg9
 z9:=Tryz.sizeOf9
 v9:=Tryz.zeroValue9
 t46:=Tryz.underlying222
 a46:=Tryz.isAgg222
 z46:=Tryz.sizeOf222
 v46:=Tryz.zeroValue222
 t51:=Tryz.underlying251
 a51:=Tryz.isAgg251
 z51:=Tryz.sizeOf251
 v51:=Tryz.zeroValue251
 t53:=Tryz.underlying253
 a53:=Tryz.isAgg253
 z53:=Tryz.sizeOf253
 v53:=Tryz.zeroValue253 }
theorem Tryz.bits_Len (x:Int) (w:World) (h0:0≤x) (h1:x≤18446744073709551615) :
  Calls Tryz.prog 134 #[.int .u64 x] w fun e w'=>e = .returned (.int .i64 (Lib.bitLen x.toNat))∧w'=w:=Any.bits_Len Tryz.lays125 x w h0 h1
def Tryz.lays168_ren:Go.Shelf.Ren:=⟨fun|168=>120|240=>154|242=>155|276=>174|278=>175|n=>n,fun|0=>0|3=>3|4=>4|5=>5|9=>9|20=>20|21=>21|37=>82|46=>222|51=>251|70=>205|72=>207|75=>209|80=>212|164=>261|n=>n,fun|n=>n⟩
theorem Tryz.lays168:Go.Proofs.Lays.n168 Tryz.prog Tryz.lays168_ren:={
 mixed:=by kernel_rfl
 f168:=Tryz.func120.trans (congrArg some (by kernel_rfl))
 f240:=Tryz.func154.trans (congrArg some (by kernel_rfl))
 f242:=Tryz.func155.trans (congrArg some (by kernel_rfl))
 f276:=Tryz.func174.trans (congrArg some (by kernel_rfl))
 f278:=Tryz.func175.trans (congrArg some (by kernel_rfl))
 t0:=Tryz.underlying0
 a0:=Tryz.isAgg0
 z0:=Tryz.sizeOf0
 v0:=Tryz.zeroValue0
 t3:=Tryz.underlying3
 a3:=Tryz.isAgg3
 z3:=Tryz.sizeOf3
 v3:=Tryz.zeroValue3
 t4:=Tryz.underlying4
 a4:=Tryz.isAgg4
 z4:=Tryz.sizeOf4
 v4:=Tryz.zeroValue4
 t5:=Tryz.underlying5
 a5:=Tryz.isAgg5
 z5:=Tryz.sizeOf5
 v5:=Tryz.zeroValue5
 t9:=Tryz.underlying9
 a9:=Tryz.isAgg9
 z9:=Tryz.sizeOf9
 v9:=Tryz.zeroValue9
 t20:=Tryz.underlying20
 a20:=Tryz.isAgg20
 z20:=Tryz.sizeOf20
 v20:=Tryz.zeroValue20
 t21:=Tryz.underlying21
 a21:=Tryz.isAgg21
 z21:=Tryz.sizeOf21
 v21:=Tryz.zeroValue21
 t37:=Tryz.underlying82
 a37:=Tryz.isAgg82
 z37:=Tryz.sizeOf82
 v37:=Tryz.zeroValue82
 t46:=Tryz.underlying222
 a46:=Tryz.isAgg222
 z46:=Tryz.sizeOf222
 v46:=Tryz.zeroValue222
 t51:=Tryz.underlying251
 a51:=Tryz.isAgg251
 z51:=Tryz.sizeOf251
 v51:=Tryz.zeroValue251
 t70:=Tryz.underlying205
 a70:=Tryz.isAgg205
 z70:=Tryz.sizeOf205
 v70:=Tryz.zeroValue205
 t72:=Tryz.underlying207
 a72:=Tryz.isAgg207
 z72:=Tryz.sizeOf207
 v72:=Tryz.zeroValue207
 t75:=Tryz.underlying209
 a75:=Tryz.isAgg209
 z75:=Tryz.sizeOf209
 v75:=Tryz.zeroValue209
 t164:=Tryz.underlying261
 a164:=Tryz.isAgg261
 z164:=Tryz.sizeOf261
 v164:=Tryz.zeroValue261 }
theorem Tryz.Builder_Extra_168:Builder.Extra Tryz.prog Tryz.lays168_ren:={
 sizeBuilder:=by kernel_rfl
 liesBuilder:=by kernel_rfl
 t5:=Tryz.underlying5
 a5:=Tryz.isAgg5
 z5:=Tryz.sizeOf5
 v5:=Tryz.zeroValue5
 infoByte:=by kernel_rfl
 cellsByte:=by kernel_rfl
 sizeByte:=by kernel_rfl
 neB5:=by decide }
open Go.RowKit in
theorem Tryz.Builder_WriteRune_k (B b:Nat) (bs:List Value) (r:Int) (hr0 : -2147483648≤r) (hr1:r≤2147483647) (w:World) (h:Lib.IsBuilderF 207 5 B b bs w) (hlen:bs.length+4≤140737488355328) (hBw:B≤w.heap.size) :
  Calls Tryz.prog 120 #[.pointer (some ⟨b,0,none⟩),.int .i32 r] w fun e w'=>e = .returned (.tuple #[.int .i64 (Lib.runeCells r).length,.nilIface])∧(Lib.BuilderAtF 207 5 B b (.pointer (some ⟨b,0,none⟩)) (bs++Lib.runeCells r) w'∧Below B w w'∧Lib.OthersKept 5 (some b) w w'):=Any.Builder_WriteRune_k Tryz.lays168 Tryz.Builder_Extra_168 B b bs r hr0 hr1 w h hlen hBw
end Go.Proofs
end
section
namespace Go.Proofs
open Go.RowKit Go.Abs
def keyL (l:List Int):List UInt8:=l.flatMap fun x=>Lib.encodeRune (x+1)
theorem Qbci:∀ l:List Int,(keyL l).length≤4*l.length
 | []=>by simp [keyL]
 | x::l=>by
  have h:=Lib.runeCells_le (x+1);rw [Lib.runeCells_length] at h;have ih:=Qbci l;simp only [keyL,List.flatMap_cons,List.length_append,List.length_cons] at *
  omega
set_option maxHeartbeats 4000000 in
set_option maxRecDepth 1000000 in
theorem Tryz.key_walk (l:List Int) (hl:l.length≤lim) (hx:∀ x∈l,0≤x∧x<50000) (a:Option Addr) (cap:Nat) (w:World)
  (hc:∀ (i:Nat) n,l[i]? = some n→∃ b o,a=some ⟨b,o,none⟩∧b<w.heap.size∧w.cell? ⟨b,o+i,none⟩=some (.int .i64 n)) :
  Calls Tryz.prog 84 #[.slice a l.length cap] w fun e w'=>e = .returned (.string (keyB l))∧Below w.heap.size w w':=by
 have hlim:l.length≤1099511627776:=hl
 go_enter Tryz.func84,Tryz.ntmps84
 go_wp2
 go_loopw [8] (fun vi wr=>∃ (k:Nat),vi = .int .i64 k∧k≤l.length∧Lib.IsBuilderF 207 5 w.heap.size w.heap.size (Lib.byteCells (keyL (l.take k))) wr∧Below w.heap.size w wr) (fun vi _=>l.length-(intOf vi).toNat)
 case atStart =>
  refine ⟨0,rfl,by omega,?_,((Below.refl _ w).alloc (Nat.le_refl _) _)⟩;exact Lib.IsBuilderF.of (Lib.fresh_isBuilder 207 5 w)
 case round =>
  obtain ⟨k,rfl,hk,hI,hbw⟩:=hrel;by_cases hlt:k<l.length
  ·obtain ⟨b,o,rfl,hb,hcell⟩:=hc k l[k] (List.getElem?_eq_getElem hlt);have hcr:wr.cell? ⟨b,o+k,none⟩=some (.int .i64 l[k]):=by
    rw [← hcell];simp only [World.cell?];rw [hbw.block b hb]
   have hxk:=hx l[k] (List.getElem_mem hlt);have w1:IntKind.i64.wrap (l[k]+1)=l[k]+1:=by simp [IntKind.wrap,IntKind.bits,IntKind.signed];omega
   have w2:IntKind.i32.wrap (l[k]+1)=l[k]+1:=by simp [IntKind.wrap,IntKind.bits,IntKind.signed];omega
   have hsz:w.heap.size≤wr.heap.size:=hbw.size;have hkl:=Qbci (l.take k);rw [List.length_take] at hkl
   go_wp2_with (go_at_call 120;refine (Tryz.Builder_WriteRune_k w.heap.size w.heap.size _ (l[k]+1) (by omega) (by omega) _ hI (by rw [Lib.byteCells_length];omega) hsz).mono ?_)
   rintro e W1 ⟨rfl,h1,b1,k1⟩
   go_wp2
   go_roundw
   case rel =>
    refine ⟨k+1,by simp,by omega,?_,hbw.trans b1⟩;have e1:keyL (l.take (k+1))=keyL (l.take k)++Lib.encodeRune (l[k]+1):=by
     rw [List.take_succ_eq_append_getElem hlt];simp only [keyL,List.flatMap_append,List.flatMap_cons,List.flatMap_nil,List.append_nil]
    rw [e1,Lib.byteCells_append,Lib.byteCells_encodeRune];exact Or.inr h1
   case measure =>
    simp [intOf];omega
  ·have hk2:k=l.length:=by omega
   subst hk2
   go_wp2_with (go_at_call 121;refine (Tryz.Builder_String_any_k w.heap.size w.heap.size _ _ hI hbw.size).mono ?_)
   rintro e W1 ⟨rfl,_,b1,_⟩
   go_wp2
   go_ret
   exact ⟨rfl,hbw.trans b1⟩
theorem Tryz.keyK:Go.Abs.K_projection_key Tryz.prog 84 keyS:=by
 intro l r h;unfold keyS at h;split at h<;>cases h;rename_i hc;intro M nb;refine Quw rfl (by kernel_rfl) (fun w g us himm hus=>?_) M nb;obtain ⟨u,us',rfl,hu,hus'⟩:=hus;simp only [RFs] at hus';subst hus';obtain ⟨a,cap,rfl,hcap,hl⟩:=Qbcg hu;refine Tryz.key_walk l hc.1 hc.2 a cap w fun i n hi=>?_;rcases hl with rfl|⟨b,o,rfl,hl⟩
 ·simp at hi
 ·exact ⟨b,o,rfl,himm _ _ (hl i n hi).1,(hl i n hi).2⟩
theorem Tryz.lenK:Go.Abs.K_bits_Len Tryz.prog 134 lenI:=by
 intro x r h;unfold lenI at h;split at h<;>cases h;rename_i hc;intro M nb;refine Quw rfl (by kernel_rfl) (fun w g us himm hus=>?_) M nb;obtain ⟨u,us',rfl,hu,hus'⟩:=hus;simp only [RFs] at hus';subst hus';have hu:=Qov hu;subst hu;refine Calls.mono (Tryz.bits_Len x w hc.1 hc.2) ?_;rintro e w' ⟨rfl,rfl⟩;exact ⟨rfl,Below.refl _ _⟩
end Go.Proofs
end
section
namespace Go.Proofs
open Go.Shelf
def Tryz.sortR_ren:Go.Shelf.Ren:=⟨fun|6=>141|15=>134|14=>171|28=>165|29=>166|20=>182|21=>183|22=>184|23=>185|24=>186|25=>187|26=>188|27=>189|46=>196|47=>178|48=>179|49=>197|50=>198|57=>204|n=>n,fun|22=>49|24=>121|25=>231|3=>3|39=>222|0=>0|53=>251|55=>253|4=>4|46=>245|45=>244|50=>154|5=>5|9=>9|66=>264|70=>268|76=>281|77=>65|n=>n,fun|n=>n⟩
theorem Tryz.sortR:Go.Proofs.SlLaysF0.n6 Tryz.prog Tryz.sortR_ren:={
 mixed:=by kernel_rfl
 f6:=⟨Tryz.f141.name,by decide,Tryz.func141.trans (congrArg some (by kernel_rfl))⟩
 f14:=⟨Tryz.f171.name,by decide,Tryz.func171.trans (congrArg some (by kernel_rfl))⟩
 f15:=Tryz.func134.trans (congrArg some (by kernel_rfl))
 f20:=⟨Tryz.f182.name,by decide,Tryz.func182.trans (congrArg some (by kernel_rfl))⟩
 f21:=⟨Tryz.f183.name,by decide,Tryz.func183.trans (congrArg some (by kernel_rfl))⟩
 f22:=⟨Tryz.f184.name,by decide,Tryz.func184.trans (congrArg some (by kernel_rfl))⟩
 f23:=⟨Tryz.f185.name,by decide,Tryz.func185.trans (congrArg some (by kernel_rfl))⟩
 f24:=⟨Tryz.f186.name,by decide,Tryz.func186.trans (congrArg some (by kernel_rfl))⟩
 f25:=⟨Tryz.f187.name,by decide,Tryz.func187.trans (congrArg some (by kernel_rfl))⟩
 f26:=⟨Tryz.f188.name,by decide,Tryz.func188.trans (congrArg some (by kernel_rfl))⟩
 f27:=⟨Tryz.f189.name,by decide,Tryz.func189.trans (congrArg some (by kernel_rfl))⟩
 f28:=Tryz.func165.trans (congrArg some (by kernel_rfl))
 f29:=Tryz.func166.trans (congrArg some (by kernel_rfl))
 f46:=⟨Tryz.f196.name,by decide,Tryz.func196.trans (congrArg some (by kernel_rfl))⟩
 f47:=Tryz.func178.trans (congrArg some (by kernel_rfl))
 f48:=Tryz.func179.trans (congrArg some (by kernel_rfl))
 f49:=⟨Tryz.f197.name,by decide,Tryz.func197.trans (congrArg some (by kernel_rfl))⟩
 f50:=⟨Tryz.f198.name,by decide,Tryz.func198.trans (congrArg some (by kernel_rfl))⟩
 f57:=⟨Tryz.f204.name,by decide,Tryz.func204.trans (congrArg some (by kernel_rfl))⟩
 t0:=Tryz.underlying0
 a0:=Tryz.isAgg0
 z0:=Tryz.sizeOf0
 v0:=Tryz.zeroValue0
 t3:=Tryz.underlying3
 a3:=Tryz.isAgg3
 z3:=Tryz.sizeOf3
 v3:=Tryz.zeroValue3
 t4:=Tryz.underlying4
 a4:=Tryz.isAgg4
 z4:=Tryz.sizeOf4
 v4:=Tryz.zeroValue4
 t5:=Tryz.underlying5
 a5:=Tryz.isAgg5
 z5:=Tryz.sizeOf5
 v5:=Tryz.zeroValue5
 t9:=Tryz.underlying9
 a9:=Tryz.isAgg9
 z9:=Tryz.sizeOf9
 v9:=Tryz.zeroValue9
 t22:=Tryz.underlying49
 a22:=Tryz.isAgg49
 z22:=Tryz.sizeOf49
 v22:=Tryz.zeroValue49
 t25:=Tryz.underlying231
 a25:=Tryz.isAgg231
 z25:=Tryz.sizeOf231
 v25:=Tryz.zeroValue231
 t39:=Tryz.underlying222
 a39:=Tryz.isAgg222
 z39:=Tryz.sizeOf222
 v39:=Tryz.zeroValue222
 t45:=Tryz.underlying244
 a45:=Tryz.isAgg244
 z45:=Tryz.sizeOf244
 v45:=Tryz.zeroValue244
 t46:=Tryz.underlying245
 a46:=Tryz.isAgg245
 z46:=Tryz.sizeOf245
 v46:=Tryz.zeroValue245
 t50:=Tryz.underlying154
 a50:=Tryz.isAgg154
 z50:=Tryz.sizeOf154
 v50:=Tryz.zeroValue154
 t53:=Tryz.underlying251
 a53:=Tryz.isAgg251
 z53:=Tryz.sizeOf251
 v53:=Tryz.zeroValue251
 t55:=Tryz.underlying253
 a55:=Tryz.isAgg253
 z55:=Tryz.sizeOf253
 v55:=Tryz.zeroValue253
 t66:=Tryz.underlying264
 a66:=Tryz.isAgg264
 z66:=Tryz.sizeOf264
 v66:=Tryz.zeroValue264
 t70:=Tryz.underlying268
 a70:=Tryz.isAgg268
 z70:=Tryz.sizeOf268
 v70:=Tryz.zeroValue268
 t76:=Tryz.underlying281
 a76:=Tryz.isAgg281
 z76:=Tryz.sizeOf281
 v76:=Tryz.zeroValue281
 t77:=Tryz.underlying65
 a77:=Tryz.isAgg65
 z77:=Tryz.sizeOf65
 v77:=Tryz.zeroValue65 }
end Go.Proofs
end
section
namespace Go.Proofs
open Go.Shelf Go.RowKit Go.Lib Go.Sort Go.Abs
abbrev RmOk:={x:Q4 // okRm x=true}
instance:Inhabited RmOk:=⟨⟨⟨0,0,0,0⟩,rfl⟩⟩
def cfR (x y:RmOk):Int:=x.1.State-y.1.State
theorem Q1x (x y:RmOk):ltOf cfR x y=ltRm x.1 y.1:=by
 unfold ltOf cfR ltRm;apply decide_eq_decide.2;omega
theorem swoR:SWO (ltOf cfR):={
 irrefl x:=by rw [Q1x];simp [ltRm]
 trans x y z h1 h2:=by rw [Q1x] at *;simp only [ltRm,decide_eq_true_eq] at *;omega
 ntrans x y z h1 h2:=by rw [Q1x] at *;simp only [ltRm,decide_eq_false_iff_not] at *;omega }
set_option maxHeartbeats 1000000 in
theorem Tryz.rems142 (x y:RmOk) (W:World):Calls Tryz.prog 142 #[.agg ((Q3 x.1).map D.val).toArray,.agg ((Q3 y.1).map D.val).toArray] W fun e w'=>e = .returned (.int .i64 (cfR x y))∧∃ q os',w'=grow (W.drewN q) os':=by
 obtain ⟨⟨a,b,c,d⟩,hx0⟩:=x;obtain ⟨⟨a',b',c',d'⟩,hy0⟩:=y;have hx:=hx0;have hy:=hy0;simp only [okRm,decide_eq_true_eq] at hx hy;have w1:IntKind.i64.wrap (a-a')=a-a':=by simp [IntKind.wrap,IntKind.bits,IntKind.signed];omega
 have hr:cfR ⟨⟨a,b,c,d⟩,hx0⟩ ⟨⟨a',b',c',d'⟩,hy0⟩=a-a':=rfl;generalize cfR ⟨⟨a,b,c,d⟩,hx0⟩ ⟨⟨a',b',c',d'⟩,hy0⟩=r at hr ⊢;simp only [Q3,List.map_cons,List.map_nil,D.val]
 go_enter Tryz.func142,Tryz.ntmps142
 go_wp2
 go_ret
 exact ⟨by rw [hr];rfl,0,_,by rw [alloc_eq_grow,alloc_eq_grow,grow_grow];rfl⟩
set_option maxHeartbeats 1000000 in
theorem Tryz.row141:Qbbz Tryz.prog 141 (fun x:RmOk=>Q3 x.1) #[.func (.func 142) #[] #[]] (fun xs=>(pdq (ltOf cfR) xs.toArray 0 xs.length (Lib.bitLen xs.length) true true).toList) :=
 Q3k Tryz.sortR Tryz.isAgg121 Tryz.sizeOf121 (fun x:RmOk=>Q3 x.1) (fun _=>rfl) (by decide) (fun _=>rfl) cfR swoR 142 #[] (enters_of Tryz.func142 (by kernel_rfl) rfl) (fun x y W=>Tryz.rems142 x y W)
theorem Tryz.none141 (p:Option Addr) (cap:Nat) (w:World):Calls Tryz.prog 141 (#[.slice p 0 cap] ++ #[.func (.func 142) #[] #[]]) w fun e' w'=>e' = .returned (.tuple #[])∧w'=w :=
 AnyF.slices_SortFunc_none Tryz.sortR p cap (.func (.func 142) #[] #[]) w
theorem Qbgs {g:G} {w:World} {f:Nat} {us:List Value} (h:RFs g w [.clo f []] us):us = #[Value.func (.func f) #[] #[]].toList:=by
 obtain ⟨u,us',rfl,h1,h2⟩:=h;have h1:=h1 .ext;simp only [RV,RVs] at h1;obtain ⟨vs,rfl,rfl⟩:=h1;have:us'=[]:=h2;subst this;rfl
theorem Tryz.rowK141:Go.Abs.RowK Tryz.prog 141 Q3 4 [.clo 142 []] Qbgr :=
 Qbcf (e:=Q3) (sz:=4) (N:=65536) (by decide) (fun _=>rfl) (fun _=>rfl) swoR Q1x (by kernel_rfl) (ex:=#[.func (.func 142) #[] #[]]) (exV:=[.clo 142 []]) (fun _ _ us h=>Qbgs h) Tryz.row141 Tryz.none141
end Go.Proofs
end
section

end
section
namespace Go.Proofs
open Go Go.Abs
set_option maxRecDepth 10000
set_option maxHeartbeats 4000000
theorem Q1i:Qqm Tryz.prog 172 Qw6:=Qzp Q25
theorem Qw8:Qn2 Tryz.prog 144 Qsr:=Q0p Q1i Q3i
theorem Ql4:Qe6 Tryz.prog 157 Qhe:=Qk3 Qw8 Qmo Qb8
theorem Qpt:Qgq Tryz.prog 133 Qj3:=Qof Ql4 Qq3 Qb8
theorem Qlz:Qgg Tryz.prog 95 Qiq:=Qrh Qpt Tryz.lenK Qut
theorem Qra:Qg4 Tryz.prog 96 Qkj:=Qoz Qrp Qb8
theorem Qw9:Qkq Tryz.prog 37 Qpf:=Qui Qx3
theorem Qzz:Qno Tryz.prog 113 Qkc:=Qxq Q0x Qb8
theorem Qtv:Qlc Tryz.prog 72 Qi2:=Qyw Qzz Q1g Qb8
theorem Qxa:Qkr Tryz.prog 114 Qhw:=Quj Qx6 Qb8
theorem Qy6:Qmd Tryz.prog 91 Qjm:=Qwu Qzx Qb8
theorem Qca:Qbx Tryz.prog 52 Qbs:=Qtf Qy6 Qw2
theorem Qux:Qi9 Tryz.prog 115 Qgz:=Qsc Qca Qvw Qb8
theorem Qmq:Qh6 Tryz.prog 73 Qgo:=Qxr Qxa Qux Q0u
theorem Qmr:Qh7 Tryz.prog 32 Qft:=Qxs Qtv Qmq Q0r
theorem Qx7:Qlf Tryz.prog 75 Qir:=Qvj Qy4 Qb8
theorem Qtw:Qld Tryz.prog 35 Qfe:=Qyx Qmr Qca Qmq Qx7 Q1f Qb8
theorem Qlo:Qhc Tryz.prog 79 Qjn:=Qwv Qzv
theorem Qy7:Qme Tryz.prog 145 Qr4:=Qww Qzy
theorem Qrq:Qhi Tryz.prog 110 Qk4:=Qpm Qw8 Qy7 Qso Qb8
theorem Qx8:Qlg Tryz.prog 70 Qq7:=Qvk Qrq Qy2
theorem Q1j:Qqp Tryz.prog 80 Qw7:=Qzq Q24
theorem Qz0:Qnp Tryz.prog 42 Qtq:=Qxt Qmr Qx8 Qlo Q1j Q0s Qb8
theorem Qx9:Qlh Tryz.prog 125 Qq8:=Qvl Qy5
theorem Qz1:Qnq Tryz.prog 129 Qtr:=Qxu Q0y Qb8
theorem Qvz:Qjv Tryz.prog 87 Qom:=Qtg Qtv Qx9 Qz1 Qw4
theorem Quy:Qja Tryz.prog 44 Qm9:=Qsd Qvz Qvq
theorem Qv0:Qjw Tryz.prog 111 Qon:=Qth Qw3 Qb8
theorem Qy8:Qmf Tryz.prog 81 Qr5:=Qwx Qmq Qv0 Qzw
theorem Qxb:Qks Tryz.prog 82 Qpg:=Quk Qca Qx5 Qb8
theorem Qoo:Qga Tryz.prog 153 Qi3:=Qmv Qo4
theorem Qjo:Qe8 Tryz.prog 119 Qgv:=Qog Qca Tryz.rowK95 Qoo Qq2 Qb8
theorem Qpu:Qgs Tryz.prog 83 Qj4:=Qoh Qjo Qq1
theorem Qms:Qff Tryz.prog 122 Qhq:=Qlm Qca Qmx
theorem Quz:Qjb Tryz.prog 90 Qna:=Qse Qvu Qb8
theorem Qfh:Qdm Tryz.prog 50 Qem:=Qpn Quz Qsm
theorem Qnw:Qfy Tryz.prog 85 Qil:=Qmm Qfh Qms Qol
theorem Qrb:Qg5 Tryz.prog 86 Qkk:=Qo0 Qjo Qrm Qb8
theorem Qxc:Qkt Tryz.prog 43 Qph:=Qul Qy8 Qxb Qpu Tryz.keyK Qnw Qrb Qx4 Qb8
theorem Qy9:Qmg Tryz.prog 45 Qr6:=Qwy Qzu Qb8
theorem Qz2:Qnr Tryz.prog 10 Qts:=Qxv Qz0 Qxc Quy Qy9 Q0q Qb8
theorem Q0z:Qoy Tryz.prog 94 Qvf:=Qyy Q1h Qb8
theorem Qz3:Qns Tryz.prog 108 Qtt:=Qxw Q0v
theorem Qz4:Qnt Tryz.prog 109 Qtu:=Qxx Q0w Qb8
theorem Qya:Qli Tryz.prog 68 Qq9:=Qvm Qz3 Qz4 Qy1
theorem Ql0:Qgh Tryz.prog 53 Qis:=Qri Quq
theorem Ql1:Qgi Tryz.prog 136 Qit:=Qrj Tryz.keyD Qur
theorem Qrc:Qg6 Tryz.prog 135 Qkl:=Qo1 Qlo Ql1 Qro
theorem Qu0:Qjc Tryz.prog 93 Qnb:=Qsf Qca Qvv
theorem Qmt:Qfg Tryz.prog 53 Qhr:=Qln Qmy
theorem Qmz:Qfs Tryz.prog 93 Qic:=Ql3 Qca Qnv
theorem Qss:Qh9 Tryz.prog 97 Qlw:=Qqw Qlo Qrc Qmt Qmz Qtn Qb8
theorem Qrr:Qhj Tryz.prog 167 Qk5:=Qpo Qsq
theorem Qtx:Qip Tryz.prog 137 Qmp:=Qrk Qrr Qlz Qus Qb8
theorem Qst:Qia Tryz.prog 98 Qlx:=Qqx Ql1 Qtx Qto Qb8
theorem Qop:Qgb Tryz.prog 168 Qi4:=Qmw Qca Qo5
theorem Qpv:Qgt Tryz.prog 138 Qj5:=Qoi Qfh Qop Qq4 Qb8
theorem Qu1:Qjd Tryz.prog 139 Qnc:=Qsg Qvx Qb8
theorem Qu2:Qje Tryz.prog 169 Qnd:=Qsh Qca Qvy Qb8
theorem Qpw:Qgu Tryz.prog 170 Qj6:=Qoj Qq5
theorem Qrs:Qhk Tryz.prog 140 Qk6:=Qpp Qfh Qu2 Qpw Qsp Qb8
theorem Qsu:Qib Tryz.prog 99 Qly:=Qqy Qpv Qu1 Qrs Tryz.rowK141 Qtp Qb8
theorem Qjp:Qgn Tryz.prog 62 Qfu:=Qxy Qz2 Qtw Qya Q0z Qss Qst Qsu Qlz Qra Q0t Qb8
theorem Qnf:Qhd Tryz.prog 21 Qez:=Qti Qjp Qw0 Qb8
theorem Qrd:Qg7 Tryz.prog 101 Qkm:=Qo2 Tryz.keyD Qrn
theorem Qrt:Qhl Tryz.prog 100 Qk7:=Qpq Qsn Qb8
theorem Qk8:Qf6 Tryz.prog 63 Qid:=Qqz Qrt Qrd Qtm
theorem Qi5:Qe0 Tryz.prog 63 Qgj:=Qnu Qps
theorem Qvg:Qmk Tryz.prog 49 Qj7:=Qzr Qjp Qk8 Qi5 Q23
theorem Qiv:Qfk Tryz.prog 54 Qg0:=Qsi Tryz.keyD Qvs
theorem Qmu:Qgy Tryz.prog 55 Qjh:=Qsj Qiv Qu0 Qvt
theorem Qka:Qgc Tryz.prog 24 Qeg:=Qum Qvg Ql0 Qiv Qmu Qx1 Qb8
theorem Qu3:Qjg Tryz.prog 51 Qne:=Qsk Qca Qvr
theorem Qoq:Qhu Tryz.prog 12 Qfb:=Qun Qvg Qfh Qu3 Ql0 Qiv Qmu Qxz Qb8
theorem Qvh:Qml Tryz.prog 22 Qie:=Qzs Qjp Qk8 Qi5 Q21
theorem Qhn:Qey Tryz.prog 18 Qf7:=Qq0 Qtl Qb8
theorem Qkn:Qfw Tryz.prog 38 Qhm:=Qpr Qhn Qsl Qb8
theorem Qv1:Qj1 Tryz.prog 8 Qj8:=Qtj Qoq Qhn Qnf Qvh Qka Qw9 Qkn Qwz
theorem Qor:Qhv Tryz.prog 34 Qfc:=Quo Qx2 Qb8
theorem Qyb:Qlj Tryz.prog 74 Qiu:=Qvn Qy3 Qb8
theorem Qv2:Qj2 Tryz.prog 33 Qf1:=Qtk Qor Qyb Qw1 Qb8
theorem Qre:Qg8 Tryz.prog 25 Qd9:=Qo3 Qrl Qb8
theorem Qyc:Qlk Tryz.prog 14 Qgw:=Qvo Qyz Qb8
theorem Qyd:Qll Tryz.prog 20 Qgx:=Qvp Qjp Qy0
theorem Q1k:Qqv Tryz.prog 36 Qj9:=Qzt Qka Q22
theorem Qxd:Qku Tryz.prog 23 Qhx:=Qup Qhn Qkn Qx0 Qb8
theorem Q00:Qij Tryz.prog 7 Qf2:=Qmn Qv1 Qoq Qyc Qyd Qnf Qvh Qxd Qka Qre Qmr Qv2 Qor Qtw Q1k Qok Qb8
end Go.Proofs
end
section
namespace Go.Abs
open Go Go.ChangeShapes Go.WideShapes Go.ChangeAt Go.RowKit
def live (w:World):Nat→Nat→Prop:=fun b o=>(w.cell? ⟨b,o,none⟩).isSome=true
def RDs (w:World):List D→List Value→Prop
 | [],vs=>vs=[]
 | x::xs,vs=>∃ u us,vs=u::us∧RD (live w) w x u∧RDs w xs us
theorem Q4l {w:World}:∀ {xs ys:List D} {us vs:List Value},RDs w xs us→RDs w ys vs→RDs w (xs++ys) (us++vs)
 | [],ys,us,vs,h,k=>by grind [RDs]
 | x::xs,ys,us,vs,⟨u,us',e,r,h⟩,k=>by subst e;exact ⟨u,us'++vs,by simp,r,Q4l h k⟩
def RDat (w:World) (cs:List Value) (off:Nat) (xs:List D):Prop:=RDs w xs ((cs.drop off).take xs.length)
theorem RDat.app {w:World} {cs:List Value} {off:Nat} {xs ys:List D} (h:RDat w cs off xs) {n:Nat} (hn:n=off+xs.length) (k:RDat w cs n ys):RDat w cs off (xs++ys):=by
 grind [Q4l,RDat,List.length_append,List.drop_drop]
theorem RDat.all {w:World} {cs:List Value} {xs:List D} (h:RDat w cs 0 xs) (hl:cs.length=xs.length):RDs w xs cs:=by
 grind [RDat,List.take_length]
theorem Qbcj {w:World} {b:Nat}:∀ {xs:List D} {vs:List Value} {o:Nat},RDs w xs vs→(∀ i v,vs[i]? = some v→w.cell? ⟨b,o+i,none⟩=some v)→RDc (live w) w b xs o
 | [],vs,o,_,_=>by simp [RDc]
 | x::xs,vs,o,⟨u,us,e,r,h⟩,hc=>by
  subst e;have h0:=hc 0 u rfl;rw [Nat.add_zero] at h0;refine ⟨by simp [live,h0],⟨u,h0,r⟩,Qbcj h fun i v hv=>?_⟩;have:=hc (i+1) v (by simpa using hv)
  grind
def Qxe {α:Type} (P:Program) (t:TypeId) (e:α→List D) (wf:α→Prop):Prop :=
 ∀ {H:Type} {enc:TypeId×Value→H} {w:World} {base:Nat} {spare:Nat→Bool} {held:Bool} {fuel:Nat} {cs:List Value} {x:DataW H×List MemPlace},
  DataW.trod enc P w base spare held fuel t cs=some x→∃ a,wf a∧RDs w (e a) cs
def wfI (k:IntKind) (n:Int):Prop:=(Lit.int k n).wf=true
def wfL {α:Type} (wf:α→Prop) (l:List α):Prop:=l.length≤maxLen∧∀ a∈l,wf a
variable {P:Program} {t:TypeId}
theorem Qbck {k:IntKind} (ht:P.underlying t=some (.int k)):Qxe P t (fun n:Int=>[.int k n]) (wfI k):=by
 intro H enc w base spare held fuel cs x h;obtain ⟨n,rfl,_,hw⟩:=DataW.trod_int ht h;exact ⟨n,hw,_,_,rfl,by simp [RD],rfl⟩
theorem Q9u (ht:P.underlying t=some .bool):Qxe P t (fun b:Bool=>[.bool b]) (fun _=>True):=by
 intro H enc w base spare held fuel cs x h;cases fuel with
 | zero=>simp [DataW.trod] at h
 | succ n =>
  unfold DataW.trod at h;rw [ht] at h;split at h<;>(first|(rename_i he _;cases he;done)|skip)<;>try (cases h;done)
  all_goals (rename_i b he;cases he)
  exact ⟨b,trivial,_,_,rfl,by simp [RD],rfl⟩
theorem Q68 (ht:P.underlying t=some .string):Qxe P t (fun s:ByteArray=>[.str s]) (fun s=>s.size≤maxLen):=by
 intro H enc w base spare held fuel cs x h;cases fuel with
 | zero=>simp [DataW.trod] at h
 | succ n =>
  unfold DataW.trod at h;rw [ht] at h;split at h<;>(first|(rename_i he _;cases he;done)|skip)<;>try (cases h;done)
  all_goals (rename_i he;cases he)
  split at h<;>cases h;rename_i hs;exact ⟨_,hs,_,_,rfl,by simp [RD],rfl⟩
theorem cells?_get {w:World} {base:Nat} {a:Addr} {n:Nat} {cs:List Value} (h:w.cells? base a n=some cs):cs.length=n∧∀ i v,cs[i]? = some v→w.cell? (a.add i)=some v:=by
 obtain ⟨h1,h2,h3⟩:=World.cells?_some h
 grind
theorem Qza {α:Type} {el:TypeId} {e:α→List D} {wf:α→Prop} {sz:Nat} (ht:P.underlying t=some (.slice el)) (he:Qxe P el e wf) (hsz:P.cellsOf el=sz) (hpos:0<sz) (hlen:∀ a,(e a).length=sz) :
  Qxe P t (fun l:List α=>[.lst sz (l.map e)]) (wfL wf):=by
 intro H enc w base spare held fuel cs x h;rcases DataW.trod_slice ht h with ⟨rfl,_⟩|⟨a,len,cap,Qf8,rest,n,_,rfl,_,hb,hl,hm,helen,hel,_,_⟩
 ·exact ⟨[],⟨by simp,by simp⟩,_,_,rfl,by simp only [RD,List.map_nil,List.length_nil];exact ⟨none,0,rfl,Nat.le_refl _,.inl trivial⟩,rfl⟩
 ·have key:∀ m,m≤len→∃ l:List α,l.length=m∧(∀ x∈l,wf x)∧∀ i y,l[i]? = some y→∃ vs,w.cells? base (a.add (i*sz)) sz=some vs∧RDs w (e y) vs:=by
   intro m
   induction m with
   | zero=>simp_all
   | succ m ih =>
    intro hm';obtain ⟨l,h1,h2,h3⟩:=ih (by omega);have h4:=hel m (by omega);have h5:Qf8[m]? = some Qf8[m]:=List.getElem?_eq_getElem (by omega);rw [h5,hsz,Option.bind_eq_some_iff] at h4;obtain ⟨vs,h6,h7⟩:=h4;obtain ⟨y,h8,h9⟩:=he h7;refine ⟨l++[y],by simp [h1],?_,fun i z hz=>?_⟩
    all_goals grind
  obtain ⟨l,h1,h2,h3⟩:=key len (Nat.le_refl _);have hmax:l.length≤maxLen:=by omega
  refine ⟨l,⟨hmax,h2⟩,_,_,rfl,?_,rfl⟩;simp only [RD,List.length_map,h1];refine ⟨some a,cap,rfl,hl,?_⟩;cases l with
  | nil=>exact .inl rfl
  | cons y l =>
   right;have hspot:a.spot=none:=by
    obtain ⟨vs,h4,h5⟩:=h3 0 y rfl;obtain ⟨h6,h7⟩:=cells?_get h4;have hv:vs[0]? = some vs[0]:=List.getElem?_eq_getElem (by omega);have:=h7 0 _ hv;cases hs:a.spot with
    | none=>rfl
    | some s =>
     grind [Go.World.cell?,Go.Addr.add]
   obtain ⟨b,o,sp⟩:=a;simp only at hspot;subst hspot;refine ⟨b,o,rfl,?_⟩;have row:∀ (l:List α) (j:Nat),(∀ i y,l[i]? = some y→∃ vs,w.cells? base ((⟨b,o,none⟩ : Addr).add ((j+i)*sz)) sz=some vs∧RDs w (e y) vs)→RDL (live w) w sz b (l.map e) (o+j*sz):=by
    intro l
    induction l with
    | nil=>intro j _;simp [RDL]
    | cons y l ih =>
     intro j h;obtain ⟨vs,h4,h5⟩:=h 0 y rfl;obtain ⟨h6,h7⟩:=cells?_get h4;refine ⟨hlen y,Qbcj h5 fun i v hv=>?_,?_⟩
     ·grind [Qgd,Nat.add_assoc]
     ·have:=ih (j+1) fun i y hy=>by
       have:=h (i+1) y (by simpa using hy)
       grind
      grind
   have:=row (y::l) 0 fun i y hy=>by simpa using h3 i y hy
   simpa using this
theorem Qhf {α:Type} {el:TypeId} {e:α→List D} {wf:α→Prop} {sz:Nat} (he:Qxe P el e wf) (hsz:P.cellsOf el=sz) (hlen:∀ a,(e a).length=sz)
  {H:Type} {enc:TypeId×Value→H} {w:World} {base:Nat} {spare:Nat→Bool} {held:Bool} {fuel off:Nat} {cs:List Value} {x:DataW H×List MemPlace}
  (h:DataW.trod enc P w base spare held fuel el ((cs.drop off).take (P.cellsOf el))=some x):∃ a,wf a∧RDat w cs off (e a):=by
 obtain ⟨a,h1,h2⟩:=he h
 grind [RDat]
theorem Qz5 {H:Type} {enc:TypeId×Value→H} {w:World} {base:Nat} {spare:Nat→Bool} {held:Bool} {fuel:Nat} {cs:List Value} {x:DataW H×List MemPlace} {fs:Array Field}
  (ht:P.underlying t=some (.struct fs)) (h:DataW.trod enc P w base spare held fuel t cs=some x) :
  cs.length=P.cellsOf t∧∃ n,∀ (i:Nat) (f:Field),fs[i]? = some f→∃ y,DataW.trod enc P w base spare held n f.type ((cs.drop f.offset).take (P.cellsOf f.type))=some y:=by
 obtain ⟨xs,n,_,_,h1,h2,h3⟩:=DataW.trod_struct ht h;refine ⟨h1,n,fun i f hf=>?_⟩
 grind
def Q5n {α:Type} (P:Program) (t:TypeId) (v:α→V) (wf:α→Prop):Prop :=
 ∀ {H:Type} {enc:TypeId×Value→H} {w:World} {base b0:Nat} {spare:Nat→Bool} {held:Bool} {u:Value} {d:DataW H} {ps:List MemPlace},
  Value.okWide P w .any b0 t u→DataW.Trod enc P w base spare held t u d ps→∃ a,wf a∧RF ⟨fun _=>0,live w,fun _=>.ext⟩ w (v a) u
theorem Qbgt {imm:Nat→Nat→Prop} {w:World} {x:D} {u:Value} (h:RD imm w x u):u.oneCell'=true:=by
 cases x with
 | int k n=>simp only [RD] at h;subst h;rfl
 | bool b=>simp only [RD] at h;subst h;rfl
 | str s=>simp only [RD] at h;subst h;rfl
 | lst sz l=>simp only [RD] at h;obtain ⟨a,cap,rfl,_⟩:=h;cases a<;>rfl
 | mp es c=>simp only [RD] at h;obtain ⟨b,rfl,_⟩:=h;rfl
theorem Qbcl {w:World} {g:G} (hg:g.imm=live w):∀ {xs:List D} {us:List Value} {ℓ:Owner} {i:Nat},RDs w xs us→RVs g w (xs.map V.d) ℓ i us∧∀ u∈us,u.oneCell'=true
 | [],us,ℓ,i,h=>by grind [RDs,RVs]
 | x::xs,us,ℓ,i,⟨u,us',e,r,h⟩=>by
  subst e;obtain ⟨h1,h2⟩:=Qbcl hg (ℓ:=ℓ) (i:=i+1) h;refine ⟨⟨u,us',rfl,by simpa [RV,hg] using r,h1⟩,fun v hv=>?_⟩;rcases List.mem_cons.1 hv with rfl|hv
  ·exact Qbgt r
  ·exact h2 v hv
theorem Qbfr {α:Type} {e:α→List D} {wf:α→Prop} (he:Qxe P t e wf) (hagg:(∃ fs,P.underlying t=some (.struct fs))∨∃ n el,P.underlying t=some (.array n el)):Q5n P t (fun a=>.agg ((e a).map V.d)) wf:=by
 intro H enc w base b0 spare held u d ps hok hd;obtain ⟨cs,rfl⟩ : ∃ cs,u = .agg cs:=by
  rcases hagg with ⟨fs,ht⟩|⟨n,el,ht⟩
  ·simp only [Value.okWide,ht] at hok;grind
  ·simp only [Value.okWide,ht] at hok;grind
 obtain ⟨fuel,hf⟩:=hd;obtain ⟨a,h1,h2⟩:=he hf;refine ⟨a,h1,fun ℓ=>?_⟩;simp only [RV];obtain ⟨h3,h4⟩:=Qbcl (g:=⟨fun _=>0,live w,fun _=>.ext⟩) rfl (ℓ:=ℓ) (i:=0) h2;exact ⟨cs.toList,by simp,h3,h4⟩
def Qbgu (P:Program) (f:FuncId) (ts:List TypeId):Prop :=
 ∀ {H:Type} {enc:TypeId×Value→H} {w:World} {b0:Nat} {us:List Value} {ds:List (DataW H)} {ps:List MemPlace},
  (∀ (j:Nat) t u,ts[j]? = some t→us[j]? = some u→Value.okWide P w .any b0 t u)→DataW.TrodAll enc P w 0 (fun _=>true) true ts us ds ps →
  ∃ vs,RFs ⟨fun _=>0,live w,fun _=>.ext⟩ w vs us∧(∀ x∈vs,Flat x)∧V.lt.go 0 vs=true∧∀ M nb,ACalls P f vs M nb (.d (.bool true)) M nb
theorem Qz6 (hl:laidOutB P=true) {W W' : World} {sp:Nat→Bool} {H:Type} {enc:TypeId×Value→H}:∀ {ts:List TypeId} {us:List Value} {ds:List (DataW H)} {ps:List MemPlace},
  (∀ t∈ts,P.readableRec t=true∧t<P.types.size)→DataW.TrodAll enc P W 0 (fun _=>true) true ts us ds ps→(∀ p∈ps,W.sameAt W' p)→(∀ p∈ps,sp p.block=true)→DataW.TrodAll enc P W' 0 sp true ts us ds ps
 | [],[],[],ps,_,h,_,_=>h
 | t::ts,u::us,d::ds,ps,hr,⟨p,q,h1,h2,e⟩,hs,hp=>by
  subst e;obtain ⟨r1,r2⟩:=hr t (by simp);exact ⟨p,q,WideElems.Trod_stays hl r1 r2 h1 (fun x hx=>hs x (by simp [hx])) (fun x hx=>hp x (by simp [hx])),Qz6 hl (fun t ht=>hr t (by simp [ht])) h2 (fun x hx=>hs x (by simp [hx])) (fun x hx=>hp x (by simp [hx])),rfl⟩
 | [],[],_::_,_,_,h,_,_=>h.elim
 | [],_::_,_,_,_,h,_,_=>h.elim
 | _::_,[],_,_,_,h,_,_=>h.elim
 | _::_,_::_,[],_,_,h,_,_=>h.elim
theorem Q3a {W:World} {sp:Nat→Bool} {held:Bool} {base:Nat} {H:Type} {enc:TypeId×Value→H}:∀ {ts:List TypeId} {us:List Value} {ds:List (DataW H)} {ps:List MemPlace},
  DataW.TrodAll enc P W base sp held ts us ds ps→ds.length=ts.length∧us.length=ts.length
 | [],[],[],ps,h=>⟨rfl,rfl⟩
 | t::ts,u::us,d::ds,ps,⟨p,q,h1,h2,e⟩=>by have:=Q3a h2;simp [this.1,this.2]
 | [],[],_::_,_,h=>h.elim
 | [],_::_,_,_,h=>h.elim
 | _::_,[],_,_,h=>h.elim
 | _::_,_::_,[],_,h=>h.elim
section
variable {α β γ δ:Type} {f:FuncId} {ta tb tc td:TypeId} {va:α→V} {vb:β→V} {vc:γ→V} {vd:δ→V} {wa:α→Prop} {wb:β→Prop} {wc:γ→Prop} {wd:δ→Prop}
theorem Qbg5 (ra:Q5n P ta va wa) (fa:∀ a,(va a).dem=va a) (la:∀ a,(va a).lt 0=true) (law:∀ a,wa a→∀ M nb,ACalls P f [va a] M nb (.d (.bool true)) M nb):Qbgu P f [ta]:=by
 intro H enc w b0 us ds ps hok hT
 match us,ds,hT with
 | [u],[d],⟨p,q,h1,h2,e⟩ =>
  obtain ⟨a,ha,hra⟩:=ra (hok 0 _ _ rfl rfl) h1;exact ⟨[va a],⟨u,[],rfl,hra,rfl⟩,fun x hx=>by rw [List.mem_singleton] at hx;subst hx;exact fa a,by simp [V.lt.go,la],law a ha⟩
 | [],_,hT=>cases ‹List (DataW H)› <;> exact hT.elim
 | [_],[],hT=>exact hT.elim
 | [_],_::_::_,⟨_,_,_,h2,_⟩=>exact h2.elim
 | _::_::_,[],hT=>exact hT.elim
 | _::_::_,[_],⟨_,_,_,h2,_⟩=>exact h2.elim
 | _::_::_,_::_::_,⟨_,_,_,h2,_⟩=>exact h2.elim
end
end Go.Abs
end
section
namespace Go.Proofs
open Go Go.Abs
set_option maxRecDepth 100000
def W_9 (x:ByteArray):Prop:=x.size≤maxLen
theorem R_9:Qxe Tryz.prog 9 eS W_9:=Q68 Tryz.underlying9
def W_4 (x:Bool):Prop:=True
theorem R_4:Qxe Tryz.prog 4 eB W_4:=Q9u Tryz.underlying4
def W_3 (x:Int):Prop:=wfI .i64 x
theorem R_3:Qxe Tryz.prog 3 (eI .i64) W_3:=Qbck Tryz.underlying3
def W_84 (x:Qq):Prop:=W_9 x.Name∧W_4 x.Controllable∧W_4 x.Observable∧W_4 x.zD∧W_3 x.Fault
theorem R_84:Qxe Tryz.prog 84 Qf9 W_84:=by
  intro H enc w base spare held fuel cs x h;obtain ⟨hl,n,hf⟩:=Qz5 Tryz.underlying84 h;obtain ⟨y0,h0⟩:=hf 0 _ rfl;obtain ⟨a0,w0,r0⟩:=Qhf (off:=0) (sz:=1) R_9 (by kernel_rfl) (fun _=>rfl) h0;obtain ⟨y1,h1⟩:=hf 1 _ rfl;obtain ⟨a1,w1,r1⟩:=Qhf (off:=1) (sz:=1) R_4 (by kernel_rfl) (fun _=>rfl) h1;obtain ⟨y2,h2⟩:=hf 2 _ rfl;obtain ⟨a2,w2,r2⟩:=Qhf (off:=2) (sz:=1) R_4 (by kernel_rfl) (fun _=>rfl) h2;obtain ⟨y3,h3⟩:=hf 3 _ rfl;obtain ⟨a3,w3,r3⟩:=Qhf (off:=3) (sz:=1) R_4 (by kernel_rfl) (fun _=>rfl) h3;obtain ⟨y4,h4⟩:=hf 4 _ rfl;obtain ⟨a4,w4,r4⟩:=Qhf (off:=4) (sz:=1) R_3 (by kernel_rfl) (fun _=>rfl) h4;exact ⟨⟨a0,a1,a2,a3,a4⟩,⟨w0,w1,w2,w3,w4⟩,RDat.all (xs:=Qf9 ⟨a0,a1,a2,a3,a4⟩) (RDat.app r0 rfl (RDat.app r1 rfl (RDat.app r2 rfl (RDat.app r3 rfl r4)))) (hl.trans (by kernel_rfl))⟩
def W_34 (x:List Qq):Prop:=wfL W_84 x
theorem R_34:Qxe Tryz.prog 34 (eL 5 Qf9) W_34:=Qza Tryz.underlying34 R_84 (by kernel_rfl) (by decide) (fun _=>rfl)
def W_32 (x:List Int):Prop:=wfL W_3 x
theorem R_32:Qxe Tryz.prog 32 (eL 1 (eI .i64)) W_32:=Qza Tryz.underlying32 R_3 (by kernel_rfl) (by decide) (fun _=>rfl)
def Qbgv (x:Qo):Prop:=W_3 x.From∧W_3 x.Event∧W_3 x.To
theorem Qbg4:Qxe Tryz.prog 150 Qh Qbgv:=by
  intro H enc w base spare held fuel cs x h;obtain ⟨hl,n,hf⟩:=Qz5 Tryz.underlying150 h;obtain ⟨y0,h0⟩:=hf 0 _ rfl;obtain ⟨a0,w0,r0⟩:=Qhf (off:=0) (sz:=1) R_3 (by kernel_rfl) (fun _=>rfl) h0;obtain ⟨y1,h1⟩:=hf 1 _ rfl;obtain ⟨a1,w1,r1⟩:=Qhf (off:=1) (sz:=1) R_3 (by kernel_rfl) (fun _=>rfl) h1;obtain ⟨y2,h2⟩:=hf 2 _ rfl;obtain ⟨a2,w2,r2⟩:=Qhf (off:=2) (sz:=1) R_3 (by kernel_rfl) (fun _=>rfl) h2;exact ⟨⟨a0,a1,a2⟩,⟨w0,w1,w2⟩,RDat.all (xs:=Qh ⟨a0,a1,a2⟩) (RDat.app r0 rfl (RDat.app r1 rfl r2)) (hl.trans (by kernel_rfl))⟩
def W_35 (x:List Qo):Prop:=wfL Qbgv x
theorem R_35:Qxe Tryz.prog 35 (eL 3 Qh) W_35:=Qza Tryz.underlying35 Qbg4 (by kernel_rfl) (by decide) (fun _=>rfl)
def W_37 (x:Qd):Prop:=W_32 x.zG∧W_3 x.zM∧W_32 x.zH∧W_35 x.zJ
theorem R_37:Qxe Tryz.prog 37 Ql9 W_37:=by
  intro H enc w base spare held fuel cs x h;obtain ⟨hl,n,hf⟩:=Qz5 Tryz.underlying37 h;obtain ⟨y0,h0⟩:=hf 0 _ rfl;obtain ⟨a0,w0,r0⟩:=Qhf (off:=0) (sz:=1) R_32 (by kernel_rfl) (fun _=>rfl) h0;obtain ⟨y1,h1⟩:=hf 1 _ rfl;obtain ⟨a1,w1,r1⟩:=Qhf (off:=1) (sz:=1) R_3 (by kernel_rfl) (fun _=>rfl) h1;obtain ⟨y2,h2⟩:=hf 2 _ rfl;obtain ⟨a2,w2,r2⟩:=Qhf (off:=2) (sz:=1) R_32 (by kernel_rfl) (fun _=>rfl) h2;obtain ⟨y3,h3⟩:=hf 3 _ rfl;obtain ⟨a3,w3,r3⟩:=Qhf (off:=3) (sz:=1) R_35 (by kernel_rfl) (fun _=>rfl) h3;exact ⟨⟨a0,a1,a2,a3⟩,⟨w0,w1,w2,w3⟩,RDat.all (xs:=Ql9 ⟨a0,a1,a2,a3⟩) (RDat.app r0 rfl (RDat.app r1 rfl (RDat.app r2 rfl r3))) (hl.trans (by kernel_rfl))⟩
def W_39 (x:Qk):Prop:=W_34 x.Events∧W_37 x.Plant∧W_37 x.First∧W_3 x.Class∧W_32 x.zC
theorem R_39:Qxe Tryz.prog 39 Qwl W_39:=by
  intro H enc w base spare held fuel cs x h;obtain ⟨hl,n,hf⟩:=Qz5 Tryz.underlying39 h;obtain ⟨y0,h0⟩:=hf 0 _ rfl;obtain ⟨a0,w0,r0⟩:=Qhf (off:=0) (sz:=1) R_34 (by kernel_rfl) (fun _=>rfl) h0;obtain ⟨y1,h1⟩:=hf 1 _ rfl;obtain ⟨a1,w1,r1⟩:=Qhf (off:=1) (sz:=4) R_37 (by kernel_rfl) (fun _=>rfl) h1;obtain ⟨y2,h2⟩:=hf 2 _ rfl;obtain ⟨a2,w2,r2⟩:=Qhf (off:=5) (sz:=4) R_37 (by kernel_rfl) (fun _=>rfl) h2;obtain ⟨y3,h3⟩:=hf 3 _ rfl;obtain ⟨a3,w3,r3⟩:=Qhf (off:=9) (sz:=1) R_3 (by kernel_rfl) (fun _=>rfl) h3;obtain ⟨y4,h4⟩:=hf 4 _ rfl;obtain ⟨a4,w4,r4⟩:=Qhf (off:=10) (sz:=1) R_32 (by kernel_rfl) (fun _=>rfl) h4;exact ⟨⟨a0,a1,a2,a3,a4⟩,⟨w0,w1,w2,w3,w4⟩,RDat.all (xs:=Qwl ⟨a0,a1,a2,a3,a4⟩) (RDat.app r0 rfl (RDat.app r1 rfl (RDat.app r2 rfl (RDat.app r3 rfl r4)))) (hl.trans (by kernel_rfl))⟩
theorem A_39:Q5n Tryz.prog 39 (fun (a:Qk)=>.agg [.d (.lst 5 (List.map Qf9 a.Events)),.d (.lst 1 (List.map (eI .i64) a.Plant.zG)),.d (.int .i64 a.Plant.zM),.d (.lst 1 (List.map (eI .i64) a.Plant.zH)),.d (.lst 3 (List.map Qh a.Plant.zJ)),.d (.lst 1 (List.map (eI .i64) a.First.zG)),.d (.int .i64 a.First.zM),.d (.lst 1 (List.map (eI .i64) a.First.zH)),.d (.lst 3 (List.map Qh a.First.zJ)),.d (.int .i64 a.Class),.d (.lst 1 (List.map (eI .i64) a.zC))]) W_39:=Qbfr R_39 (.inl ⟨_,Tryz.underlying39⟩)
end Go.Proofs
end
section
namespace Go.Abs
open Go Go.ChangeShapes Go.WideShapes Go.ChangeAt Go.RowKit
theorem Qbcm {X:World→Array Value→Prop} (hX:∀ (w w' : World) (args:Array Value),w.heap=w'.heap→X w args→X w' args) {C:Checked} {f:FuncId} {fn:Func} {s:ChangeSpec} {conds:List PathCond} {bt:TypeId} {os:Os} {H:Type} {enc:TypeId×Value→H}
  (own:ownKnob C.prog.godebug=none) (started:os.Started) (noInit:C.prog.inits.idxOf? f=none) (hfn:C.prog.funcs[f]? = some fn)
  (witness:∃ (w:World) (tape:Tape) (i:Input),w.os=os∧(w.forCall tape i).Shaped C.prog∧i.vars=[]∧Input.okWide C.prog (w.forCall tape i) .any w.heap.size f i ∧
   ((s.pre enc C.prog fn conds false (w.forCall tape i).memory i.args∧X (w.forCall tape i).memory i.args)∧sizedMet enc C.prog fn (OpenSpec.ofChange s) false (w.forCall tape i).memory i.args)∧({}:Assume).holds C.prog (lone (Frame.enter C.prog f i.args .normal) [] (w.forCall tape i)))
  (hvars:s.vars=[]) (hres:fn.resultTypes = #[bt]) (hbt:C.prog.underlying bt=some .bool)
  (hl:laidOutB C.prog=true) (hread:∀ t∈fn.params.toList,C.prog.readableRec t=true∧t<C.prog.types.size)
  (hspec:∀ ds:List (DataW H),ds.length=fn.params.size→s.fn H ds={ results:=[.lit (.bool true)],args:=ds })
  (ht:∀ W args,X W args→Tab C.prog ⟨fun _=>0,live W,fun _=>.ext⟩ W) (law:Qbgu C.prog f fn.params.toList) :
  ReturnsInHanded {} C os f .any (fun w args=>(s.pre enc C.prog fn conds false w args∧X w args)∧sizedMet enc C.prog fn (OpenSpec.ofChange s) false w args) (s.post enc C.prog fn false true false false):=by
 refine returnsInHanded_of_change_and hX own started noInit hfn witness ?_;intro W base args ds gs before hval hW hcnd hx1 hx2 hx3;have hW':=hW;obtain ⟨p,q,hA,hV,hps,hfz,hnd⟩:=hW;rw [hvars] at hV;obtain ⟨rfl,rfl⟩ : gs=[]∧q=[]:=by
  cases gs with
  | nil=>exact ⟨rfl,hV⟩
  | cons _ _=>exact hV.elim
 obtain ⟨vs,h1,h2,h3,h4⟩:=law (fun j t u ht hu=>hval j t u (by simpa using ht) (by simpa using hu)) hA;obtain ⟨hb,_,h5⟩:=h4 (fun _=>none) 0;have hlv:∀ b o,live W b o→b<W.heap.size:=by
  intro b o h;simp only [live] at h;obtain ⟨v,hv⟩:=Option.isSome_iff_exists.1 h;unfold World.cell? at hv;split at hv
  ·rename_i hh;exact (Array.getElem?_eq_some_iff.1 hh).1
  ·cases hv
 have hmr:MR ⟨fun _=>0,live W,fun _=>.ext⟩ W (fun _=>none) 0:=⟨fun k b h=>(by cases h),fun b o h=>⟨hlv b o h,fun k h=>by cases h⟩⟩;have h6:=h5 W ⟨fun _=>0,live W,fun _=>.ext⟩ args.toList (ht W args (by assumption)) hmr (fun k cs h=>by cases h) (RAs.of_flat h1) (ons_mono (fun k hk=>absurd hk (Nat.not_lt_zero k)) _ (ons_lt vs h3));refine Calls.mono h6 fun e W' ⟨v,g',he,_,hr,_,_,hf⟩=>?_;subst he;have hv:v = .bool true:=by simpa [RV,RD] using hr
 subst hv;have hbelow:Below W.heap.size W W':=⟨hf.os,hf.tape,hf.output,hf.size,fun k hk=>(hf.old k hk trivial).2.1⟩;have hrl:(Value.bool true).resultList fn.resultTypes.size=[.bool true]:=by rw [hres];rfl
 have hsp:s.fn H (ds++[])={ results:=[.lit (.bool true)],args:=ds }:=by
  rw [List.append_nil];exact hspec ds (by have:=(Q3a hA).1;simpa using this)
 have hlt:∀ p∈before,p.block<W.heap.size:=fun x hx=>hW'.lt x hx;have hst:∀ sp:Nat→Bool,(∀ p∈before,sp p.block=true)→DataW.TrodAll enc C.prog W' 0 sp true fn.params.toList args.toList ds before:=by
  intro sp hsp';have e:p=before:=by rw [hps,List.append_nil]
  subst e;exact Qz6 hl hread hA (fun x hx=>hbelow.same (hlt x hx)) hsp'
 refine ⟨_,rfl,ds,[],before,[],before,[],hW',?_,?_,?_,World.keptBut_mono (fun p hp=>⟨hp,.inr (.inl hp)⟩) (hbelow.frame (· ∈ before)),fun h=>by cases h⟩
 ·rw [hsp,hrl,hres];exact ⟨[],[],⟨1,by simp [DataW.trod,Value.cells,hbt]⟩,rfl,rfl⟩
 ·rw [hsp];exact hst _ fun p hp=>by simpa using hlt p hp
 ·rw [hsp,hvars];rfl
end Go.Abs
end
section
namespace Go.Proofs
open Go Go.Abs
theorem Qbcn {P:Program} {W:World} {n1 n2 name:String} {d1 d2:DataW Unit} {k:IntKind} {zs:List Int} {g:Nat} {t e:TypeId} {n:Nat}
  (hg:P.globalNamed name=some g) (hty:(P.globals[g]?).map (·.type)=some t) (ht:P.underlying t=some (.array n e)) (he:P.underlying e=some (.int k)) (hce:P.cellsOf e=1) (hct:P.cellsOf t=n)
  (h:laidMet P [(n1,d1),(n2,d2),(name,Lib.tabData k zs)] W):Lib.TabIs P W name k zs:=by
 obtain ⟨ps,h,_⟩:=h;obtain ⟨g1,t1,c1,f1,p1,q1,_,_,_,_,h,_⟩:=h;obtain ⟨g2,t2,c2,f2,p2,q2,_,_,_,_,h,_⟩:=h;obtain ⟨g',t',cs,fuel,p,q,hg',ht',hvar,hd,_,_⟩:=h;obtain rfl:=Option.some.inj (hg.symm.trans hg');obtain rfl:=Option.some.inj (hty.symm.trans ht');unfold Lib.TabIs;rw [hvar,← Lib.cells_of_tab ht he hce hct hd]
end Go.Proofs
namespace Go.Proofs.YtccapdeoaoiieaaGreatDoor
open Go Go.Abs
theorem tabK {W:World} (h:laidMetH Tryz.prog Rows.degradedChecksRow.laid W):Tab Tryz.prog ⟨fun _=>0,live W,fun _=>.ext⟩ W:=by
 intro gl hg
 have h0 : Tryz.prog.globalNamed "internal/strconv.uint64pow10" = some 0 := by kernel_rfl
 rw [h0] at hg;obtain rfl:=Option.some.inj hg;have h1:laidMet Tryz.prog Rows.degradedChecksRow.laid W:=h
 have h2 : Lib.TabIs Tryz.prog W "internal/strconv.uint64pow10" .u64 Lib.pow10Tab := Qbcn h0 (t := 287) (e := 253) (n := 20) (by kernel_rfl) Tryz.underlying287 Tryz.underlying253 (by kernel_rfl) (by kernel_rfl) h1
 refine ⟨?_,rfl,h2⟩;unfold Lib.TabIs World.var? at h2;rw [h0] at h2;simp only [Option.bind_some] at h2;split at h2
 ·rename_i hh;exact (Array.getElem?_eq_some_iff.1 hh).1
 ·cases h2
end Go.Proofs.YtccapdeoaoiieaaGreatDoor
end
section
namespace Go.Abs
open Go
set_option maxRecDepth 100000
set_option maxHeartbeats 4000000
theorem Q9v:Qj8=some true:=by kernel_rfl
theorem Qbco:Qhx ⟨[],[],[],[],0⟩ ⟨[],[],[],[],0⟩=some true:=by kernel_rfl
end Go.Abs
end
section
namespace Go.Abs
open Go
theorem Qp1 {X R:Type} {F:(X→Option R)→X→Option R} (I:X→Prop) (m:X→Nat) (Q:X→Option R→Prop)
  (step:∀ (k:X→Option R) (x:X),I x→(∀ y,I y→m y<m x→Q y (k y))→Q x (F k x)):∀ (fuel:Nat) (x:X),I x→m x<fuel→Q x (Qc0 F fuel x)
 | 0,x,_,h=>absurd h (Nat.not_lt_zero _)
 | fuel+1,x,hi,h=>step _ x hi fun y hy hm=>Qp1 I m Q step fuel y hy (by omega)
theorem Qbds {X R:Type} {F:(X→Option R)→X→Option R} {fuel:Nat} {x:X} (I:X→Prop) (m:X→Nat) (q:Option R) (hi:I x) (hm:m x<fuel)
  (step:∀ (k:X→Option R) (x:X),I x→(∀ y,I y→m y<m x→k y=q)→F k x=q):Qc0 F fuel x=q :=
 Qp1 I m (fun _ r=>r=q) step fuel x hi hm
theorem Qbcp {x:Int} (h1 : -9223372036854775808≤x) (h2:x≤9223372036854775807):IntKind.wrap .i64 x=x:=by
 simp [IntKind.wrap,IntKind.bits,IntKind.signed];omega
theorem Qif {n:Nat} (h:n<9223372036854775807):IntKind.wrap .i64 ((n:Int)+1)=((n+1:Nat):Int):=by
 grind [Qbcp]
theorem Qgk {α:Type} {l:List α} {n:Nat} (h:n<l.length):getO l (n:Int)=some l[n]:=by
 simp [getO,h]
theorem Qbcq {α:Type} {l m:List α} (h:l.length+m.length≤lim):appO l m=some (l++m):=by
 unfold appO;rw [if_pos h]
theorem Qos {R:Type} {F:(Int→Option R)→Int→Option R} {len fuel:Nat} (G:Nat→Option R) (hf:len<fuel)
  (step:∀ (k:Int→Option R) (n:Nat),n<len→k ((n+1:Nat):Int)=G (n+1)→F k (n:Int)=G n) (last:∀ k:Int→Option R,F k (len:Int)=G len):Qc0 F fuel 0=G 0:=by
 have:=Qp1 (F:=F) (fun x=>∃ n:Nat,x=(n:Int)∧n≤len) (fun x=>len-x.toNat) (fun x r=>∀ n:Nat,x=(n:Int)→r=G n) (fun k x hx ih=>by
  obtain ⟨n,rfl,hn⟩:=hx;intro m hm;obtain rfl:n=m:=by omega
  by_cases h:n<len
  ·exact step k n h (ih _ ⟨n+1,rfl,by omega⟩ (by omega) (n+1) rfl)
  grind) fuel 0 ⟨0,rfl,by omega⟩ (by simpa using hf)
 exact this 0 rfl
theorem Qty {n:Nat} (h0:0<n) (h:n<9223372036854775807):IntKind.wrap .i64 ((n:Int)-1)=((n-1:Nat):Int):=by
 grind [Qbcp]
theorem Q88 {X S R:Type} {F:(X→Option R)→X→Option R} {len:Nat} (mk:Nat→S→X) (G:Nat→S→Option R)
  (step:∀ (k:X→Option R) (n:Nat) (s:S),n<len→(∀ s',k (mk (n+1) s')=G (n+1) s')→F k (mk n s)=G n s) (last:∀ (k:X→Option R) (s:S),F k (mk len s)=G len s) :
  ∀ (fuel n:Nat) (s:S),n≤len→len-n<fuel→Qc0 F fuel (mk n s)=G n s
 | 0,n,s,_,h=>by omega
 | fuel+1,n,s,hn,h=>by
  show F (Qc0 F fuel) (mk n s)=_;by_cases hlt:n<len
  ·exact step _ n s hlt fun s'=>Q88 mk G step last fuel (n+1) s' (by omega) (by omega)
  grind
section
variable {α:Type} {p:α→Bool}
end
end Go.Abs
end
section
namespace Go.Abs
abbrev big : Nat := 1000000000000
def Q7z (a : Qd) : Prop := a.zG.length < big ∧ a.zH.length < big ∧ a.zJ.length < big
end Go.Abs
end
section
namespace Go.Abs
open Go
def Qen (n:Int):Option Int→List Int→Int
 | _,[]=>0
 | p,x::xs=>if x<0∨x≥n then 2 else if ∃ y,p=some y∧x≤y then 5 else Qen n (some x) xs
def Qiw (al:List Int) (st:Int):Option Qo→List Qo→Int
 | _,[]=>0
 | p,x::xs=>if x.From<0∨x.From≥st∨x.To<0∨x.To≥st then 2 else if x.Event∉al then 9 else if ∃ y,p=some y∧(x.From<y.From∨x.From=y.From∧x.Event≤y.Event) then 5 else Qiw al st (some x) xs
def Qkd (a:Qd):Int :=
 if Qen 32 none a.zG≠0 then Qen 32 none a.zG else if a.zM<0 then 2 else if a.zM>4096 then 3 else
 if Qen a.zM none a.zH≠0 then Qen a.zM none a.zH else Qiw a.zG a.zM none a.zJ
def ahead {α:Type} (l:List α) (n:Nat):Option α:=if n=0 then none else l[n-1]?
theorem Qi7 {α:Type} (l:List α):ahead l 0=none:=rfl
theorem Q4m {α:Type} (l:List α) {n:Nat} (h:n<l.length):ahead l (n+1)=some l[n]:=by simp [ahead,h]
theorem Qxf {α:Type} (l:List α) {n:Nat} (h0:0<n) (h:n≤l.length):ahead l n=some (l[n-1]'(by omega)):=by
 simp [ahead,show n≠0 from by omega,show n-1<l.length from by omega]
theorem Qxg {n:Int} {l:List Int} {k:Nat} (h:k<l.length):Qen n (ahead l k) (l.drop k)=if l[k]<0∨l[k]≥n then 2 else if ∃ y,ahead l k=some y∧l[k]≤y then 5 else Qen n (ahead l (k+1)) (l.drop (k+1)):=by
 rw [List.drop_eq_getElem_cons h,Qen,Q4m l h]
theorem Qz7 {al:List Int} {n:Int} {l:List Qo} {k:Nat} (h:k<l.length):Qiw al n (ahead l k) (l.drop k)=if l[k].From<0∨l[k].From≥n∨l[k].To<0∨l[k].To≥n then 2 else if l[k].Event∉al then 9 else if ∃ y,ahead l k=some y∧(l[k].From<y.From∨l[k].From=y.From∧l[k].Event≤y.Event) then 5 else Qiw al n (ahead l (k+1)) (l.drop (k+1)):=by
 rw [List.drop_eq_getElem_cons h,Qiw,Q4m l h]
theorem Q3b {l:List Int} {n:Int} (hl:l.length<big):Qhw l n=some (Qen n none l):=by
 unfold Qhw Qc7;refine (Qos (len:=l.length) (fun k=>some (Qen n (ahead l k) (l.drop k))) (by unfold Qb8;unfold big at hl;omega) ?_ ?_).trans (by simp [Qi7])
 ·intro k i hi ih;have hb:i<1000000000000:=by unfold big at hl;omega
  rw [Qxg hi]
  try dsimp only
  rw [if_pos (by omega),Qgk hi,Qif (by omega),ih];simp only [Option.bind_some];by_cases h1:l[i]<0
  ·simp [h1]
  ·by_cases h2:l[i]≥n
   ·simp [h1,h2]
   ·by_cases h0:0<i
    ·rw [Qty h0 (by omega),Qgk (by omega:i-1<l.length),Qxf l h0 (by omega)];by_cases h3:l[i]≤l[i-1]<;>simp [h1,h2,h3,h0]
    ·obtain rfl:i=0:=by omega
     simp [h1,h2,Qi7]
 ·intro k;simp [Qen]
theorem Q01 {l:List Int} {n:Int} (hl:l.length<big):Qfc l n=some (Qen n none l):=by
 unfold Qfc Qbq;refine (Qos (len:=l.length) (fun k=>some (Qen n (ahead l k) (l.drop k))) (by unfold Qb8;unfold big at hl;omega) ?_ ?_).trans (by simp [Qi7])
 ·intro k i hi ih;have hb:i<1000000000000:=by unfold big at hl;omega
  rw [Qxg hi]
  try dsimp only
  rw [if_pos (by omega),Qgk hi,Qif (by omega),ih];simp only [Option.bind_some];by_cases h1:l[i]<0
  ·simp [h1]
  ·by_cases h2:l[i]≥n
   ·simp [h1,h2]
   ·by_cases h0:0<i
    ·rw [Qty h0 (by omega),Qgk (by omega:i-1<l.length),Qxf l h0 (by omega)];by_cases h3:l[i]≤l[i-1]<;>simp [h1,h2,h3,h0]
    ·obtain rfl:i=0:=by omega
     simp [h1,h2,Qi7]
 ·intro k;simp [Qen]
theorem Qbdt {l:List Int} {v:Int} (hl:l.length<big):Qjm l v=some (if v∈l then (l.idxOf v:Int) else -1):=by
 unfold Qjm Qei;refine (Qos (len:=l.length) (fun k=>some (if v∈l.drop k then ((k+(l.drop k).idxOf v:Nat):Int) else -1)) (by unfold Qb8;unfold big at hl;omega) ?_ ?_).trans (by simp)
 ·intro k i hi ih;have hb:i<1000000000000:=by unfold big at hl;omega
  try dsimp only
  rw [if_pos (by omega),Qgk hi,Qif (by omega),ih,List.drop_eq_getElem_cons hi];simp only [Option.bind_some,List.mem_cons,List.idxOf_cons];by_cases h:v=l[i]
  ·simp [← h]
  ·have:¬ l[i]=v:=fun e=>h e.symm;have hbq:(l[i]==v)=false:=by simp [this]
   by_cases h2:v∈l.drop (i+1)<;>simp [h,h2,hbq];omega
 ·intro k;simp
theorem Q3c {l:List Int} {v:Int} (hl:l.length<big):Qbs l v=some (decide (v∈l)):=by
 unfold Qbs Qf;rw [Qbdt hl];simp only [Option.bind_some,Option.some.injEq];by_cases h:v∈l<;>simp [h]
theorem Qbej {l:List Int} {v:Int} (hl:l.length<big):Qiu l v=some (decide (v∈l)):=by
 unfold Qiu Qd2;refine (Qos (len:=l.length) (fun k=>some (decide (v∈l.drop k))) (by unfold Qb8;unfold big at hl;omega) ?_ ?_).trans (by simp)
 ·intro k i hi ih;have hb:i<1000000000000:=by unfold big at hl;omega
  try dsimp only
  rw [if_pos (by omega),Qgk hi,Qif (by omega),ih,List.drop_eq_getElem_cons hi];simp only [Option.bind_some,List.mem_cons];by_cases h:l[i]=v
  ·simp [h]
  ·have:¬ v=l[i]:=fun e=>h e.symm;simp [h,this]
 ·intro k;simp
theorem Q5o {a:Qd} (h:Q7z a):Qgz a=some (Qiw a.zG a.zM none a.zJ):=by
 obtain ⟨hal,_,hl⟩:=h;unfold Qgz Qc5;refine (Qos (len:=a.zJ.length) (fun k=>some (Qiw a.zG a.zM (ahead a.zJ k) (a.zJ.drop k))) (by unfold Qb8;unfold big at hl;omega) ?_ ?_).trans (by simp [Qi7])
 ·intro k i hi ih;have hb:i<1000000000000:=by unfold big at hl;omega
  rw [Qz7 hi];unfold letJ
  try dsimp only
  rw [if_pos (by omega),Qgk hi,Qif (by omega),ih];simp only [Option.bind_some,Q3c hal];generalize a.zJ[i]=x;by_cases h1:x.From<0
  ·simp [h1]
  by_cases h2:x.From≥a.zM
  ·simp [h1,h2]
  by_cases h3:x.To<0
  ·simp [h1,h2,h3]
  by_cases h4:x.To≥a.zM
  ·simp [h1,h2,h3,h4]
  by_cases h5:x.Event∈a.zG
  ·by_cases h0:0<i
   ·rw [Qty h0 (by omega),Qgk (by omega:i-1<a.zJ.length),Qxf a.zJ h0 (by omega)];generalize a.zJ[i-1]=y;have hi0:i≠0:=by omega
    by_cases h6:x.From<y.From
    ·simp [h1,h2,h3,h4,h5,h6,hi0]
    by_cases h7:y.From=x.From
    ·by_cases h8:x.Event≤y.Event<;>simp [h1,h2,h3,h4,h5,h6,h7,h8,hi0]
    ·have h7' : ¬ x.From=y.From:=fun e=>h7 e.symm;simp [h1,h2,h3,h4,h5,h6,h7,hi0,h7']
   ·obtain rfl:i=0:=by omega
    simp [h1,h2,h3,h4,h5,Qi7]
  ·simp [h1,h2,h3,h4,h5]
 ·intro k;unfold letJ;simp [Qiw]
theorem Q89 {a:Qd} (h:Q7z a):Qgo a=some (Qkd a):=by
 unfold Qgo Qbk Qkd;rw [Q3b h.1,Q3b h.2.1,Q5o h];simp only [Option.bind_some];by_cases h1:Qen 32 none a.zG=0
 ·by_cases h2:a.zM<0
  ·simp [h1,h2]
  by_cases h3:a.zM>4096
  ·simp [h1,h2,h3]
  by_cases h4:Qen a.zM none a.zH=0<;>simp [h1,h2,h3,h4]
 ·simp [h1]
theorem Q70 {a:Qd} (h:Q7z a):Qf1 a=some (Qkd a):=by
 obtain ⟨hal,hm,hl⟩:=h;have hE:∀ A:Option Int,A=some (Qiw a.zG a.zM none a.zJ)→(if (Qen 32 none a.zG != 0)=true then some (Qen 32 none a.zG) else if a.zM<0 then some 2 else if a.zM>4096 then some 3 else if (Qen a.zM none a.zH != 0)=true then some (Qen a.zM none a.zH) else A)=some (Qkd a):=by
  intro A hA;subst hA;unfold Qkd;by_cases h1:Qen 32 none a.zG=0
  ·by_cases h2:a.zM<0
   ·simp [h1,h2]
   by_cases h3:a.zM>4096
   ·simp [h1,h2,h3]
   by_cases h4:Qen a.zM none a.zH=0<;>simp [h1,h2,h3,h4]
  ·simp [h1]
 unfold Qf1 Qdg;rw [Q01 hal,Q01 hm];simp only [Option.bind_some];refine hE _ ?_
 ·exact (Qos (len:=a.zJ.length) (fun k=>some (Qiw a.zG a.zM (ahead a.zJ k) (a.zJ.drop k))) (by unfold Qb8;unfold big at hl;omega) (by
   intro k i hi ih;have hb:i<1000000000000:=by unfold big at hl;omega
   rw [Qz7 hi]
   try dsimp only
   rw [if_pos (by omega),Qgk hi,Qif (by omega),ih];simp only [Option.bind_some,Qbej hal];generalize a.zJ[i]=x;by_cases h1:x.From<0
   ·simp [h1]
   by_cases h2:x.From≥a.zM
   ·simp [h1,h2]
   by_cases h3:x.To<0
   ·simp [h1,h2,h3]
   by_cases h4:x.To≥a.zM
   ·simp [h1,h2,h3,h4]
   by_cases h5:x.Event∈a.zG
   ·by_cases h0:0<i
    ·rw [Qty h0 (by omega),Qgk (by omega:i-1<a.zJ.length),Qxf a.zJ h0 (by omega)];generalize a.zJ[i-1]=y;have hi0:i≠0:=by omega
     by_cases h6:x.From<y.From
     ·simp [h1,h2,h3,h4,h5,h6,h0]
     by_cases h7:y.From=x.From
     ·by_cases h8:x.Event≤y.Event<;>simp [h1,h2,h3,h4,h5,h6,h7,h8,h0]
     ·have h7' : ¬ x.From=y.From:=fun e=>h7 e.symm;simp [h1,h2,h3,h4,h5,h6,h7,h0,h7']
    ·obtain rfl:i=0:=by omega
     simp [h1,h2,h3,h4,h5,Qi7]
   ·simp [h1,h2,h3,h4,h5]) (by intro k;simp [Qiw])).trans (by simp [Qi7])
end Go.Abs
end
section
namespace Go.Abs
open Go
def Q1l (x y:Qo):Prop:=x.From<y.From∨x.From=y.From∧x.Event<y.Event
instance (x y:Qo):Decidable (Q1l x y):=by unfold Q1l;infer_instance
structure Qbfs (a:Qd):Prop where
 al0:∀ x∈a.zG,0≤x∧x<32
 al:a.zG.Pairwise (· < ·)
 st:0≤a.zM∧a.zM≤4096
 ma0:∀ x∈a.zH,0≤x∧x<a.zM
 ma:a.zH.Pairwise (· < ·)
 ed0:∀ x∈a.zJ,0≤x.From∧x.From<a.zM∧0≤x.To∧x.To<a.zM∧x.Event∈a.zG
 ed:a.zJ.Pairwise Q1l
theorem Qot {n:Int}:∀ {l:List Int} {p:Option Int},Qen n p l=0↔(∀ x∈l,0≤x∧x<n)∧l.Pairwise (· < ·)∧∀ y,p=some y→∀ x∈l,y<x
 | [],p=>by simp [Qen]
 | x::xs,p=>by
  rw [Qen];split
  ·rename_i h;refine ⟨fun h=>by omega,fun hh=>?_⟩;have:=hh.1 x (by simp);omega
  ·rename_i h;split
   ·rename_i h2;obtain ⟨y,hy,hxy⟩:=h2;refine ⟨fun h=>by omega,fun hh=>?_⟩;have:=hh.2.2 y hy x (by simp);omega
   ·rename_i h2;rw [Qot];constructor
    ·rintro ⟨k1,k2,k3⟩;refine ⟨fun z hz=>?_,List.pairwise_cons.2 ⟨fun z hz=>k3 x rfl z hz,k2⟩,fun y hy z hz=>?_⟩
     ·rcases List.mem_cons.1 hz with rfl|hz
      ·omega
      ·exact k1 z hz
     ·have hyx:y<x:=by
       rcases Int.lt_or_le y x with h|h
       ·exact h
       ·exact absurd ⟨y,hy,h⟩ h2
      rcases List.mem_cons.1 hz with rfl|hz
      ·exact hyx
      ·have:=k3 x rfl z hz;omega
    ·rintro ⟨k1,k2,k3⟩;obtain ⟨k4,k5⟩:=List.pairwise_cons.1 k2;exact ⟨fun z hz=>k1 z (by simp [hz]),k5,fun y hy z hz=>by cases hy;exact k4 z hz⟩
theorem Qu4 {al:List Int} {n:Int}:∀ {l:List Qo} {p:Option Qo},Qiw al n p l=0↔(∀ x∈l,0≤x.From∧x.From<n∧0≤x.To∧x.To<n∧x.Event∈al)∧l.Pairwise Q1l∧∀ y,p=some y→∀ x∈l,Q1l y x
 | [],p=>by simp [Qiw]
 | x::xs,p=>by
  have tr:∀ a b c:Qo,Q1l a b→Q1l b c→Q1l a c:=fun a b c h k=>by unfold Q1l at *;omega
  rw [Qiw];split
  ·rename_i h;refine ⟨fun h=>by omega,fun hh=>?_⟩;have:=hh.1 x (by simp);omega
  ·rename_i h;split
   ·rename_i h2;refine ⟨fun h=>by omega,fun hh=>?_⟩;exact absurd (hh.1 x (by simp)).2.2.2.2 h2
   ·rename_i hal;split
    ·rename_i h2;obtain ⟨y,hy,hxy⟩:=h2;refine ⟨fun h=>by omega,fun hh=>?_⟩;have:=hh.2.2 y hy x (by simp);unfold Q1l at this;omega
    ·rename_i h2;rw [Qu4];constructor
     ·rintro ⟨k1,k2,k3⟩;refine ⟨fun z hz=>?_,List.pairwise_cons.2 ⟨fun z hz=>k3 x rfl z hz,k2⟩,fun y hy z hz=>?_⟩
      ·rcases List.mem_cons.1 hz with rfl|hz
       ·exact ⟨by omega,by omega,by omega,by omega,Decidable.not_not.1 hal⟩
       ·exact k1 z hz
      ·have hyx:Q1l y x:=by
        apply Decidable.byContradiction;intro h;exact h2 ⟨y,hy,by unfold Q1l at h;omega⟩
       rcases List.mem_cons.1 hz with rfl|hz
       ·exact hyx
       ·exact tr _ _ _ hyx (k3 x rfl z hz)
     ·rintro ⟨k1,k2,k3⟩;obtain ⟨k4,k5⟩:=List.pairwise_cons.1 k2;exact ⟨fun z hz=>k1 z (by simp [hz]),k5,fun y hy z hz=>by cases hy;exact k4 z hz⟩
theorem Qbcr {a:Qd}:Qkd a=0↔Qbfs a:=by
 unfold Qkd;constructor
 ·intro h;split at h
  ·rename_i h1;exact absurd h h1
  rename_i h1;split at h
  ·omega
  split at h
  ·omega
  split at h
  ·rename_i h4;exact absurd h h4
  rename_i h4;have q1:=Qot.1 (Decidable.not_not.1 h1);have q2:=Qot.1 (Decidable.not_not.1 h4);have q3:=Qu4.1 h;exact ⟨q1.1,q1.2.1,⟨by omega,by omega⟩,q2.1,q2.2.1,q3.1,q3.2.1⟩
 ·intro h;have q1:Qen 32 none a.zG=0:=Qot.2 ⟨h.al0,h.al,fun y hy=>by cases hy⟩;have q2:Qen a.zM none a.zH=0:=Qot.2 ⟨h.ma0,h.ma,fun y hy=>by cases hy⟩;have q3:Qiw a.zG a.zM none a.zJ=0:=Qu4.2 ⟨h.ed0,h.ed,fun y hy=>by cases hy⟩;have:=h.st;rw [if_neg (by simp [q1]),if_neg (by omega),if_neg (by omega),if_neg (by simp [q2]),q3]
section
variable {a:Qd} (h:Qbfs a) (hs:Q7z a)
include h hs
end
end Go.Abs
end
section
namespace Go.Abs
open Go
theorem Q69 {l:List Int} {n:Int} (hl:l.length<big):Qir l n=some (Qen n none l):=by
 unfold Qir Qdz;refine (Qos (len:=l.length) (fun k=>some (Qen n (ahead l k) (l.drop k))) (by unfold Qb8;unfold big at hl;omega) ?_ ?_).trans (by simp [Qi7])
 ·intro k i hi ih;have hb:i<1000000000000:=by unfold big at hl;omega
  rw [Qxg hi]
  try dsimp only
  rw [if_pos (by omega),Qgk hi,Qif (by omega),ih];simp only [Option.bind_some];by_cases h1:l[i]<0
  ·simp [h1]
  ·by_cases h2:l[i]≥n
   ·simp [h1,h2]
   ·by_cases h0:0<i
    ·rw [Qty h0 (by omega),Qgk (by omega:i-1<l.length),Qxf l h0 (by omega)];by_cases h3:l[i]≤l[i-1]<;>simp [h1,h2,h3,h0]
    ·obtain rfl:i=0:=by omega
     simp [h1,h2,Qi7]
 ·intro k;simp [Qen]
theorem Qbcs {s:ByteArray} (hs:s.size<big):∃ b,Qkc s=some b:=by
 have hb:s.size<1000000000000:=hs;unfold Qkc Qex;refine Qp1 (fun x=>∃ n:Nat,x=(n:Int)∧n≤s.size) (fun x=>s.size-x.toNat) (fun x r=>∃ b,r=some b) ?_ Qb8 _ ⟨0,rfl,Nat.zero_le _⟩ (by unfold Qb8;omega);rintro k _ ⟨n,rfl,hn⟩ ih;by_cases hlt:n<s.size
 ·rw [if_pos (by omega)];have hc:∃ c,chrO s (n:Int)=some c:=by unfold chrO;rw [dif_pos ⟨by omega,by omega⟩];exact ⟨_,rfl⟩
  obtain ⟨c,hc⟩:=hc;rw [hc];simp only [Option.bind_some];have key:∀ (o:Option Bool) (K:Bool→Option Bool),(∃ x,o=some x)→(∀ x,∃ y,K x=some y)→∃ y,o.bind K=some y:=fun o K ⟨x,h⟩ h2=>by rw [h];exact h2 x
  refine key _ _ ?_ fun letter=>key _ _ ?_ fun z=>?_
  ·repeat' split
   all_goals exact ⟨_,rfl⟩
  ·repeat' split
   all_goals exact ⟨_,rfl⟩
  ·split
   ·exact ⟨_,rfl⟩
   ·rw [Qif (by omega)];exact ih _ ⟨n+1,rfl,by omega⟩ (by simp only [Int.toNat_natCast];omega)
 ·rw [if_neg (by omega)];split<;>exact ⟨_,rfl⟩
theorem Q9w {ev:List Qq} (hl:ev.length<big) (hn:∀ x∈ev,x.Name.size<big):∃ x,Qi2 ev=some x:=by
 have hb:ev.length<1000000000000:=hl;unfold Qi2 Qcw;split
 ·exact ⟨_,rfl⟩
 refine Qp1 (fun x=>∃ (n:Nat) (c:List (ByteArray×Bool)),x=((n:Int),c)∧n≤ev.length) (fun x=>ev.length-x.1.toNat) (fun x r=>∃ b,r=some b) ?_ Qb8 _ ⟨0,[],rfl,Nat.zero_le _⟩ (by simp only [Int.toNat_zero];unfold Qb8;omega);rintro k _ ⟨n,c,rfl,hle⟩ ih;dsimp only;by_cases hlt:n<ev.length
 ·rw [if_pos (by omega),Qgk hlt];obtain ⟨b,hb⟩:=Qbcs (hn _ (List.getElem_mem hlt));simp only [Option.bind_some,hb];have key:∀ (o:Option Bool) (K:Bool→Option Int),(∃ x,o=some x)→(∀ x,∃ y,K x=some y)→∃ y,o.bind K=some y:=fun o K ⟨x,h⟩ h2=>by rw [h];exact h2 x
  split
  ·split
   ·exact ⟨_,rfl⟩
   ·refine key _ _ ?_ fun z=>?_
    ·split<;>exact ⟨_,rfl⟩
    ·split
     ·exact ⟨_,rfl⟩
     ·refine key _ _ ?_ fun z=>?_
      ·repeat' split
       all_goals exact ⟨_,rfl⟩
      ·split
       ·exact ⟨_,rfl⟩
       ·rw [Qif (by omega)];exact ih _ ⟨n+1,_,rfl,by omega⟩ (by simp only [Int.toNat_natCast];omega)
  ·exact ⟨_,rfl⟩
 ·rw [if_neg (by omega)];exact ⟨_,rfl⟩
section
variable {ev:List Qq} {a:Qd}
theorem Qbct (hl:ev.length<big) (hn:∀ x∈ev,x.Name.size<big) (hs:Q7z a):∃ x,Qft ev a=some x∧(x=0→Qbfs a∧∀ e∈a.zG,0≤e∧e<(ev.length:Int)):=by
 obtain ⟨x,hx⟩:=Q9w hl hn;unfold Qft Qbl;rw [hx];simp only [Option.bind_some];by_cases h1:x=0
 ·subst h1;rw [if_neg (by simp),Q89 hs];simp only [Option.bind_some];by_cases h2:Qkd a=0
  ·rw [h2,if_neg (by simp)];have hr:=Qbcr.1 h2;have hal:=hs.1;unfold big at hal;by_cases h3:a.zG.length=0
   ·rw [if_neg (by omega)];exact ⟨0,by simp,fun _=>⟨hr,by rw [List.length_eq_zero_iff.1 h3];simp⟩⟩
   ·rw [if_pos (by omega),Qty (by omega) (by omega),Qgk (by omega)];simp only [Option.bind_some];by_cases h4:a.zG[a.zG.length-1]'(by omega)≥(ev.length:Int)
    ·rw [decide_eq_true h4,if_pos rfl];exact ⟨2,rfl,fun h=>absurd h (by decide)⟩
    ·rw [decide_eq_false h4,if_neg (by simp)];refine ⟨0,rfl,fun _=>⟨hr,fun e he=>⟨(hr.al0 e he).1,?_⟩⟩⟩;obtain ⟨i,hi,rfl⟩:=List.getElem_of_mem he;rcases Nat.lt_or_ge i (a.zG.length-1) with h|h
     ·have:=List.pairwise_iff_getElem.1 hr.al i (a.zG.length-1) hi (by omega) h;omega
     ·obtain rfl:i=a.zG.length-1:=by omega
      omega
  ·rw [if_pos (by simpa using h2)];exact ⟨_,rfl,fun h=>absurd h h2⟩
 ·rw [if_pos (by simpa using h1)];exact ⟨x,rfl,fun h=>absurd h h1⟩
def obsP (ev:List Qq) (e:Int):Bool:=match ev[e.toNat]? with
 | some x=>x.Observable
 | none=>false
theorem Qbcu {e:Int} (h:0≤e∧e<(ev.length:Int)):∃ x,getO ev e=some x∧obsP ev e=x.Observable:=by
 obtain ⟨n,rfl⟩ : ∃ n:Nat,e=(n:Int):=⟨e.toNat,by omega⟩;have hn:n<ev.length:=by omega
 exact ⟨_,Qgk hn,by simp [obsP,hn]⟩
end
section
variable {t:Qk}
theorem Q3d (hl:t.Plant.zG.length<big) (ha:∀ e∈t.Plant.zG,0≤e∧e<(t.Events.length:Int)):Qd9 t=some (t.Plant.zG.filter (obsP t.Events)):=by
 have hb:t.Plant.zG.length<1000000000000:=hl;unfold Qd9 Qcd;rw [Qbds (x:=(([]:List Int),(0:Int))) (fun x:List Int×Int=>∃ (n:Nat) (s:List Int),x=(s,(n:Int))∧n≤t.Plant.zG.length∧s.length≤n∧s++(t.Plant.zG.drop n).filter (obsP t.Events)=t.Plant.zG.filter (obsP t.Events)) (fun x=>t.Plant.zG.length-x.2.toNat) (some (t.Plant.zG.filter (obsP t.Events))) ⟨0,[],rfl,Nat.zero_le _,Nat.le_refl _,by simp⟩ (by simp only [Int.toNat_zero];unfold Qb8;omega) ?_]
 ·rfl
 rintro k _ ⟨n,s,rfl,hn,hs,he⟩ ih;dsimp only;by_cases hlt:n<t.Plant.zG.length
 ·obtain ⟨x,hx,ho⟩:=Qbcu (ha _ (List.getElem_mem hlt));rw [List.drop_eq_getElem_cons hlt,List.filter_cons] at he;rw [if_pos (by omega),Qgk hlt,Qif (by omega)];simp only [Option.bind_some,hx];rw [ho] at he;by_cases h1:x.Observable=true
  ·rw [if_pos h1] at he;rw [if_pos h1,Qbcq (by simp only [List.length_cons,List.length_nil];unfold lim;omega)];simp only [Option.bind_some];exact ih _ ⟨n+1,_,rfl,by omega,by simp;omega,by simpa using he⟩ (by simp only [Int.toNat_natCast];omega)
  ·rw [if_neg h1] at he;rw [if_neg h1];simp only [Option.bind_some];exact ih _ ⟨n+1,_,rfl,by omega,by omega,he⟩ (by simp only [Int.toNat_natCast];omega)
 ·rw [if_neg (by omega)];have:t.Plant.zG.drop n=[]:=List.drop_eq_nil_of_le (by omega);rw [this] at he;simpa using he
def Qz8 (t:Qk) (l:List Int):Bool:=l.all fun e=>decide (e∈t.Plant.zG.filter (obsP t.Events))
theorem Q3e {e:Int} {l:List Int}:Qz8 t (e::l)=(decide (e∈t.Plant.zG.filter (obsP t.Events))&&Qz8 t l):=rfl
def Qbdu (x:Int) (t:Qk):Int :=
 if x≠0 then x else if Qkd t.First≠0 then Qkd t.First else if Qz8 t t.First.zG=false then 13 else if t.Class<1∨t.Class>4 then 2 else Qen t.Plant.zM none t.zC
theorem Q7a:(if t.Class<1 then some true else some (decide (t.Class>4)))=some (decide (t.Class<1∨t.Class>4)):=by
 by_cases h:t.Class<1<;>simp [h]
structure Qbcv (t:Qk):Prop where
 ev:t.Events.length<big
 nm:∀ x∈t.Events,x.Name.size<big
 pl:Q7z t.Plant
 fi:Q7z t.First
 fo:t.zC.length<big
theorem Q71 (h:Qbcv t) {x:Int} (hx:Qft t.Events t.Plant=some x) (ha:x=0→∀ e∈t.Plant.zG,0≤e∧e<(t.Events.length:Int)):Qfe t=some (Qbdu x t):=by
 unfold Qfe Qcx Qbdu;rw [hx];simp only [Option.bind_some];by_cases h1:x=0
 ·subst h1;rw [if_neg (show ¬ ((0:Int) != 0)=true by simp),if_neg (show ¬ (0:Int)≠0 by simp),Q89 h.fi];simp only [Option.bind_some];by_cases h2:Qkd t.First=0
  ·rw [h2,if_neg (show ¬ ((0:Int) != 0)=true by simp),if_neg (show ¬ (0:Int)≠0 by simp)];have hf:=h.fi.1;unfold big at hf;refine (Qos (len:=t.First.zG.length) (fun k=>some (if Qz8 t (t.First.zG.drop k)=false then 13 else if t.Class<1∨t.Class>4 then 2 else Qen t.Plant.zM none t.zC)) (by unfold Qb8;omega) ?_ ?_).trans (by simp)
   ·intro k i hi ih;rw [List.drop_eq_getElem_cons hi,Q3e,if_pos (by omega),Qgk hi,Qif (by omega),ih];generalize t.First.zG[i]=e;simp only [Option.bind_some,Q3c h.pl.1];by_cases hm:e∈t.Plant.zG
    ·obtain ⟨y,hy,ho⟩:=Qbcu (ha rfl e hm);rw [decide_eq_true hm,if_pos rfl,hy];simp only [Option.bind_some,List.mem_filter,hm,true_and,ho];cases y.Observable<;>simp
    ·simp [hm]
   ·intro k;rw [if_neg (show ¬ ((t.First.zG.length:Int)<(t.First.zG.length:Int)) by omega),Q7a];simp only [Option.bind_some,Q69 h.fo];have:Qz8 t (t.First.zG.drop t.First.zG.length)=true:=by rw [List.drop_length];rfl
    rw [this];by_cases hc:t.Class<1∨t.Class>4
    ·simp [hc]
    ·simp [hc]
  ·simp [h2]
 ·simp [h1]
theorem Qbdv {fu:Nat} (hfu:1099511627776≤fu) (hl:t.First.zG.length<big) {l:List Int} (hb:l.length<big) (hm:l=t.Plant.zG.filter (obsP t.Events)) (w:Int) :
  Qc0 (fun k40 ((want38,i39):Int×Int)=>(if (i39<(t.First.zG.length:Int)) then ((((getO t.First.zG i39).bind fun x42=>((Qgw l x42).bind fun x45=>(if x45 then some want38 else some 13)))).bind fun (want47:Int)=>k40 (want47,(IntKind.wrap .i64 (i39+1)))) else some want38)) fu (w,0)=some (if Qz8 t t.First.zG then w else 13):=by
 have hf:=hl;unfold big at hf;refine (Q88 (len:=t.First.zG.length) (fun k (s:Int)=>(s,(k:Int))) (fun k s=>some (if Qz8 t (t.First.zG.drop k) then s else 13)) ?_ ?_ fu 0 w (by omega) (by omega)).trans (by simp)
 ·intro k i s hi ih;dsimp only at ih ⊢;rw [List.drop_eq_getElem_cons hi,Q3e,if_pos (by omega),Qgk hi,Qif (by omega)];simp only [Option.bind_some,show Qgw l _=some _ from Qbej hb];rw [← hm];by_cases he:t.First.zG[i]∈l
  ·rw [decide_eq_true he,if_pos rfl,Option.bind_some,ih];simp
  ·rw [decide_eq_false he,if_neg (by simp),Option.bind_some,ih];simp
 ·intro k s;dsimp only;rw [if_neg (by omega)];have:Qz8 t (t.First.zG.drop t.First.zG.length)=true:=by rw [List.drop_length];rfl
  rw [this];rfl
section
variable {x:Int} (hc:Qfe t=some x) (hx:x≠0)
include hc hx
theorem Qu5:∃ s,Qfu t=some (s,false,x):=by
 unfold Qfu Q5;rw [hc];simp only [Option.bind_some];rw [if_pos (by simpa using hx)];exact ⟨_,rfl⟩
theorem Q7b:Qgx t=some ([],x):=by
 obtain ⟨s,h⟩:=Qu5 hc hx;unfold Qgx Qd3;rw [h];simp [hx]
theorem Q3l:Qez t=some (⟨[],[],[],[],0⟩,x):=by
 obtain ⟨s,h⟩:=Qu5 hc hx;unfold Qez Qbr;rw [h];simp [hx]
theorem Qbdw:Qie t=some (⟨[],[]⟩,false,x):=by
 obtain ⟨s,h⟩:=Qu5 hc hx;unfold Qie Qdd;rw [h];simp [hx]
theorem Q7c:∃ s,Qj7 t=some (s,false,x):=by
 obtain ⟨s,h⟩:=Qu5 hc hx;unfold Qj7 Qdc;rw [h];simp [hx]
theorem Qz9:Qeg t=some (⟨[],0,[],[]⟩,x):=by
 obtain ⟨s,h⟩:=Q7c hc hx;unfold Qeg Q7;rw [h];simp [hx]
theorem Qbdx:Qj9 t=some (⟨[],0,[],[]⟩,x):=by
 unfold Qj9 Qfz;rw [Qz9 hc hx];simp [hx]
theorem Q5p (l:List Int):Qfb t l=some ([],false,x):=by
 obtain ⟨s,h⟩:=Q7c hc hx;unfold Qfb Qbw;rw [h];simp [hx]
end
end
def Qbft (t:Qk) (want57:Int):Option Bool :=
 ((Qfe t).bind fun x59=>(if (x59 != want57) then some false else (if (want57==0) then some true else ((Qgx t).bind fun (r63,r64)=>((Qez t).bind fun (r66,r67)=>((Qie t).bind fun (r69,r70,r71)=>((Qeg t).bind fun (r73,r74)=>((Qj9 t).bind fun (r76,r77)=>((Qfb t []).bind fun (r79,r80,r81)=>(((if ((r63.length:Int)==0) then (if (r64==want57) then ((Qhx r66 (Qb3.mk [] [] [] [] 0)).bind fun x85=>(if x85 then (if (r67==want57) then (if ((IntKind.wrap .i64 ((r69.Observation.length:Int)+(r69.Estimate.length:Int)))==0) then (if r70 then some false else (if (r71==want57) then (if ((IntKind.wrap .i64 (r73.zM+r76.zM))==0) then (if (r74==want57) then (if (r77==want57) then (if ((r79.length:Int)==0) then (if r80 then some false else some (r81==want57)) else some false) else some false) else some false) else some false) else some false)) else some false) else some false) else some false)) else some false) else some false)).bind fun (x96:Bool)=>some x96))))))))))
theorem Qbdy {t:Qk} {w:Int} (hc:Qfe t=some w):Qbft t w=some true:=by
 unfold Qbft;rw [hc];simp only [Option.bind_some,bne_self_eq_false,Bool.false_eq_true,if_false];by_cases hw:w=0
 ·simp [hw]
 ·have w1:IntKind.wrap .i64 (0+0)=0:=by decide
  have w2:IntKind.wrap .i64 0=0:=by decide
  simp only [Q7b hc hw,Q3l hc hw,Qbdw hc hw,Qz9 hc hw,Qbdx hc hw,Q5p hc hw,Option.bind_some];simp [hw,Qbco,w1,w2]
theorem Qbgw {t:Qk} {x:Int} (h:Qbcv t) (ha:x=0→∀ e∈t.Plant.zG,0≤e∧e<(t.Events.length:Int)) (K:Int→Option Bool) :
  (((if (x==0) then ((Qf1 t.First).bind fun x33=>some x33) else some x)).bind fun (want34:Int)=>(((if (want34==0) then ((Qd9 t).bind fun x37=>Qc0 (fun k40 ((want38,i39):Int×Int)=>(if (i39<(t.First.zG.length:Int)) then ((((getO t.First.zG i39).bind fun x42=>((Qgw x37 x42).bind fun x45=>(if x45 then some want38 else some 13)))).bind fun (want47:Int)=>k40 (want47,(IntKind.wrap .i64 (i39+1)))) else some want38)) Qb8 (want34,0)) else some want34)).bind fun (want48:Int)=>(((((if (want48==0) then (if (t.Class<1) then some true else some (decide (t.Class>4))) else some false)).bind fun (x51:Bool)=>(if x51 then some 2 else some want48))).bind fun (want53:Int)=>(((if (want53==0) then ((Qfc t.zC t.Plant.zM).bind fun x56=>some x56) else some want53)).bind fun (want57:Int)=>K want57))))=K (Qbdu x t):=by
 unfold Qbdu;obtain ⟨fu,hf,hfu⟩ : ∃ fu,Qb8=fu∧1099511627776≤fu:=⟨_,rfl,Nat.le_refl _⟩;rw [hf];by_cases h1:x=0
 ·subst h1;rw [if_neg (show ¬ ((0:Int)≠0) by simp)];simp only [beq_self_eq_true,if_true,Q70 h.fi,Option.bind_some];by_cases h2:Qkd t.First=0
  ·have hl:(t.Plant.zG.filter (obsP t.Events)).length<big:=Nat.lt_of_le_of_lt (List.length_filter_le _ _) h.pl.1;have hL:=Qbdv hfu h.fi.1 hl rfl 0;rw [if_neg (show ¬ Qkd t.First≠0 by simp [h2])];simp only [h2,beq_self_eq_true,if_true,Q3d h.pl.1 (ha rfl),Option.bind_some,hL,Q7a,Q01 h.fo];by_cases h3:Qz8 t t.First.zG=true
   ·by_cases h4:t.Class<1∨t.Class>4
    ·simp [h3,h4]
    ·simp [h3,h4]
   ·rw [Bool.not_eq_true] at h3;simp [h3]
  ·simp [h2]
 ·simp [h1]
theorem Qbfu {X R:Type} {F:(X→Option R)→X→Option R} {n:Nat} (hn:4≤n) (x:X):Qc0 F n x=F (F (F (F (Qc0 F (n-4))))) x:=by
 obtain ⟨m,rfl⟩ : ∃ m,n=m+4:=⟨n-4,by omega⟩
 rfl
theorem Q9x (t:Qk):Qf2 t=some true:=by
 unfold Qf2 Qf0;have hge:4≤Qb8:=by unfold Qb8;decide
 simp only [Q9v,Option.bind_some,if_true];by_cases h6:t.Events.length≤6∧t.zC.length≤6
 ·obtain ⟨h1,h2⟩:=h6;have n1:¬ ((t.Events.length:Int)>6):=by omega
  have n2:¬ ((t.zC.length:Int)>6):=by omega
  simp only [n1,n2,if_false,decide_false,Option.bind_some,Bool.false_eq_true];refine Qp1 (fun x=>∃ n:Nat,x=(n:Int)∧n≤t.Events.length∧∀ (m:Nat) (h:m<t.Events.length),m<n→t.Events[m].Name.size≤40) (fun x=>t.Events.length-x.toNat) (fun x r=>r=some true) ?_ Qb8 _ ⟨0,rfl,Nat.zero_le _,fun m h h0=>absurd h0 (Nat.not_lt_zero m)⟩ (by unfold Qb8;omega);rintro k _ ⟨n,rfl,hn,hnm⟩ ih;by_cases hlt:n<t.Events.length
  ·rw [if_pos (by omega),Qgk hlt];simp only [Option.bind_some];split
   ·rfl
   ·rename_i hsz;rw [Qif (by omega)];refine ih _ ⟨n+1,rfl,by omega,fun m h hm=>?_⟩ (by simp only [Int.toNat_natCast];omega);rcases Nat.lt_or_ge m n with h'|h'
    ·exact hnm m h h'
    ·obtain rfl:m=n:=by omega
     omega
  ·rw [if_neg (by omega),Qbfu hge];clear ih;have g0:getO [t.Plant,t.First] 0=some t.Plant:=rfl;have g1:getO [t.Plant,t.First] 1=some t.First:=rfl;have w1:IntKind.wrap .i64 (0+1)=1:=by decide
   have w2:IntKind.wrap .i64 (1+1)=2:=by decide
   have t0:((0:Int)<2)=True:=by decide
   have t1:((1:Int)<2)=True:=by decide
   have t2:((2:Int)<2)=False:=by decide
   by_cases hs:(t.Plant.zG.length≤8∧t.Plant.zH.length≤8∧t.Plant.zJ.length≤8)∧(t.First.zG.length≤8∧t.First.zH.length≤8∧t.First.zJ.length≤8)
   ·obtain ⟨⟨k1,k2,k3⟩,k4,k5,k6⟩:=hs;have m1:¬ ((t.Plant.zG.length:Int)>8):=by omega
    have m2:¬ ((t.Plant.zH.length:Int)>8):=by omega
    have m3:¬ ((t.Plant.zJ.length:Int)>8):=by omega
    have m4:¬ ((t.First.zG.length:Int)>8):=by omega
    have m5:¬ ((t.First.zH.length:Int)>8):=by omega
    have m6:¬ ((t.First.zJ.length:Int)>8):=by omega
    simp only [t0,t1,t2,g0,g1,w1,w2,Option.bind_some,m1,m2,m3,m4,m5,m6,if_true,if_false,decide_false,Bool.false_eq_true];have hb:40<big:=by unfold big;decide
    have hD:Qbcv t:=⟨by omega,fun y hy=>by
     obtain ⟨i,hi,rfl⟩:=List.getElem_of_mem hy;have:=hnm i hi (by omega);omega,⟨by omega,by omega,by omega⟩,⟨by omega,by omega,by omega⟩,by omega⟩
    obtain ⟨x,hx,hx0⟩:=Qbct hD.ev hD.nm hD.pl;have ha:x=0→∀ e∈t.Plant.zG,0≤e∧e<(t.Events.length:Int):=fun h=>(hx0 h).2;rw [hx,Option.bind_some];exact (Qbgw hD ha (fun w=>Qbft t w)).trans (Qbdy (Q71 hD hx ha))
   ·simp only [t0,t1,g0,g1,w1,Option.bind_some,if_true];by_cases m1:(t.Plant.zG.length:Int)>8
    ·simp [m1]
    by_cases m2:(t.Plant.zH.length:Int)>8
    ·simp [m1,m2]
    by_cases m3:(t.Plant.zJ.length:Int)>8
    ·simp [m1,m2,m3]
    by_cases m4:(t.First.zG.length:Int)>8
    ·simp [m1,m2,m3,m4]
    by_cases m5:(t.First.zH.length:Int)>8
    ·simp [m1,m2,m3,m4,m5]
    by_cases m6:(t.First.zJ.length:Int)>8
    ·simp [m1,m2,m3,m4,m5,m6]
    exact absurd ⟨⟨by omega,by omega,by omega⟩,by omega,by omega,by omega⟩ hs
 ·have:(if (t.Events.length:Int)>6 then some true else some (decide ((t.zC.length:Int)>6)))=some true:=by
   by_cases h1:(t.Events.length:Int)>6
   ·simp [h1]
   ·have h2:(t.zC.length:Int)>6:=by omega
    simp [h1,h2]
  rw [this];rfl
end Go.Abs
end
