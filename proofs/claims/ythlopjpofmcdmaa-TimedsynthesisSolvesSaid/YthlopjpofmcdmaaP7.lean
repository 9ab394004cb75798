/-
  Part 7 of the proof: see the last text.
-/
import Derived.Test.YthlopjpofmcdmaaP6
import Derived.Ground.SlgmProg
import Derived.Shelf.SortM.Plain
import Derived.Shelf.SortM.SortNone
import Derived.Test.YthlopjpofmcdmaaProg
import Derived.KernelRfl
import Derived.OpenShut
import Derived.ProofKit
import Derived.Carry
import GoSem.Claim
import GoSem.ClaimJoined
import Derived.JoinedTies
set_option linter.unusedVariables false
set_option linter.unusedSimpArgs false
set_option linter.unusedSectionVars false
section
namespace Go.Abs
open Go Go.Sort Go.RowKit
theorem Q94 (xs:List Int):rowV (eI .i64) xs = xs.map (Value.int .i64):=by
 unfold rowV
 induction xs with
 | nil=>rfl
 | cons x xs ih=>simp only [List.map_cons,List.flatten_cons,List.map_append,ih]; rfl
theorem Qbil {P:Program} {c:Nat} (hb:Qlz P c = true)
  (hs:∀ (blk off cap:Nat) (zs:List Int) (w:World),Holds (Value.int .i64) w blk off zs.toArray→blk < w.heap.size→zs.length < 4611686018427387904 →
   Calls P c #[.slice (some ⟨blk,off,none⟩) zs.length cap] w fun e w'=>e = .returned (.tuple #[])∧∃ n os,w' = grow (putRow (Value.int .i64) (Sort.ahead w n) blk off (zs.mergeSort fun x y=>decide (x≤y)).toArray) os)
  (hnone:∀ (p:Option Addr) (cap:Nat) (w:World),Calls P c (#[.slice p 0 cap] ++ #[]) w fun e' w'=>e' = .returned (.tuple #[])∧w' = w) :
  RowK P c (eI .i64) 1 [] (fun l=>if l.length≤lim then some (Q3l Qit l) else none):=by
 have hrow:Qbmd P c (eI .i64) #[] (fun xs=>Q3l Qit xs):=by
  intro blk cap xs w hcell hblk hsz
  refine Calls.mono (hs blk 0 cap xs w ?_ hblk hsz) ?_
  ·intro j hj
   have hj' : j < xs.length:=by simpa using hj
   have:=hcell j (by rw [Q94]; simpa using hj')
   rw [Q94] at this
   rw [Nat.zero_add]
   refine ⟨?_,this.2⟩
   rw [this.1,getElem!_pos xs.toArray j hj]
   simp [hj']
  ·rintro e w' ⟨rfl,n,os,rfl⟩
   refine ⟨rfl,n,os,?_⟩
   rw [Qbev,Q94]
   congr 1
   unfold putRow
   congr 1
   funext c
   unfold putCells
   congr 1
   funext k x
   simp only [List.size_toArray,List.length_map]
   split
   ·rename_i h
    simp only [id]
    rw [getElem!_pos _ _ (by simp; omega),getElem!_pos _ _ (by simp; omega)]
    simp
   ·rfl
 intro xs ys h
 dsimp only at h
 split at h <;> cases h
 rename_i hl
 refine ⟨Qzt _ _,fun h0=>?_,fun hl2 cap k0 M nb hM=>?_⟩
 ·subst h0
  exact ⟨rfl,fun M nb=>Qbeu (ex:=#[]) (exV:=[]) hb (fun _ _ _ h=>h) hnone⟩
 ·exact Qbgi (e:=eI .i64) (fun _=>rfl) (fun _=>rfl) (fun xs=>Qzt _ _) (ex:=#[]) (exV:=[]) (fun _ _ _ h=>h) hb hrow xs cap k0 M nb hM (by unfold lim at hl; omega)
end Go.Abs
end
section
namespace Go.Proofs
open Go.Shelf
def Try.laysSlM5_f56_ren:Go.Shelf.Ren:=⟨fun | 5=>73 | 8=>94 | 7=>93 | 19=>113 | 20=>114 | 10=>105 | 11=>106 | 12=>107 | 13=>108 | 14=>109 | 15=>110 | 16=>95 | 17=>111 | 18=>112 | 30=>120 | 31=>121 | 32=>122 | 33=>123 | 34=>124 | 35=>115 | 40=>133 | n=>n,fun | 23=>32 | 25=>3 | 3=>3 | 32=>142 | 22=>32 | 0=>0 | 44=>159 | 46=>161 | 4=>4 | 36=>153 | 35=>152 | 41=>127 | 5=>5 | 9=>9 | 53=>163 | 57=>167 | 63=>174 | 64=>66 | n=>n,fun | n=>n⟩
theorem Try.laysSlM5_f56:Go.Proofs.SlLaysM.n5 Try.prog Try.laysSlM5_f56_ren:={
 mixed:=by kernel_rfl
 f5:=⟨Try.f73.name,by decide,Try.func73.trans (congrArg some (by kernel_rfl))⟩
 f7:=⟨Try.f93.name,by decide,Try.func93.trans (congrArg some (by kernel_rfl))⟩
 f8:=Try.func94.trans (congrArg some (by kernel_rfl))
 f10:=⟨Try.f105.name,by decide,Try.func105.trans (congrArg some (by kernel_rfl))⟩
 f11:=⟨Try.f106.name,by decide,Try.func106.trans (congrArg some (by kernel_rfl))⟩
 f12:=⟨Try.f107.name,by decide,Try.func107.trans (congrArg some (by kernel_rfl))⟩
 f13:=⟨Try.f108.name,by decide,Try.func108.trans (congrArg some (by kernel_rfl))⟩
 f14:=⟨Try.f109.name,by decide,Try.func109.trans (congrArg some (by kernel_rfl))⟩
 f15:=⟨Try.f110.name,by decide,Try.func110.trans (congrArg some (by kernel_rfl))⟩
 f16:=⟨Try.f95.name,by decide,Try.func95.trans (congrArg some (by kernel_rfl))⟩
 f17:=⟨Try.f111.name,by decide,Try.func111.trans (congrArg some (by kernel_rfl))⟩
 f18:=⟨Try.f112.name,by decide,Try.func112.trans (congrArg some (by kernel_rfl))⟩
 f19:=Try.func113.trans (congrArg some (by kernel_rfl))
 f20:=Try.func114.trans (congrArg some (by kernel_rfl))
 f30:=⟨Try.f120.name,by decide,Try.func120.trans (congrArg some (by kernel_rfl))⟩
 f31:=Try.func121.trans (congrArg some (by kernel_rfl))
 f32:=Try.func122.trans (congrArg some (by kernel_rfl))
 f33:=⟨Try.f123.name,by decide,Try.func123.trans (congrArg some (by kernel_rfl))⟩
 f34:=⟨Try.f124.name,by decide,Try.func124.trans (congrArg some (by kernel_rfl))⟩
 f35:=⟨Try.f115.name,by decide,Try.func115.trans (congrArg some (by kernel_rfl))⟩
 f40:=⟨Try.f133.name,by decide,Try.func133.trans (congrArg some (by kernel_rfl))⟩
 t0:=Try.underlying0
 a0:=Try.isAgg0
 z0:=Try.sizeOf0
 v0:=Try.zeroValue0
 t3:=Try.underlying3
 a3:=Try.isAgg3
 z3:=Try.sizeOf3
 v3:=Try.zeroValue3
 t4:=Try.underlying4
 a4:=Try.isAgg4
 z4:=Try.sizeOf4
 v4:=Try.zeroValue4
 t5:=Try.underlying5
 a5:=Try.isAgg5
 z5:=Try.sizeOf5
 v5:=Try.zeroValue5
 t9:=Try.underlying9
 a9:=Try.isAgg9
 z9:=Try.sizeOf9
 v9:=Try.zeroValue9
 t22:=Try.underlying32
 a22:=Try.isAgg32
 z22:=Try.sizeOf32
 v22:=Try.zeroValue32
 t23:=Try.underlying32
 a23:=Try.isAgg32
 z23:=Try.sizeOf32
 v23:=Try.zeroValue32
 t25:=Try.underlying3
 a25:=Try.isAgg3
 z25:=Try.sizeOf3
 v25:=Try.zeroValue3
 t32:=Try.underlying142
 a32:=Try.isAgg142
 z32:=Try.sizeOf142
 v32:=Try.zeroValue142
 t35:=Try.underlying152
 a35:=Try.isAgg152
 z35:=Try.sizeOf152
 v35:=Try.zeroValue152
 t36:=Try.underlying153
 a36:=Try.isAgg153
 z36:=Try.sizeOf153
 v36:=Try.zeroValue153
 t41:=Try.underlying127
 a41:=Try.isAgg127
 z41:=Try.sizeOf127
 v41:=Try.zeroValue127
 t44:=Try.underlying159
 a44:=Try.isAgg159
 z44:=Try.sizeOf159
 v44:=Try.zeroValue159
 t46:=Try.underlying161
 a46:=Try.isAgg161
 z46:=Try.sizeOf161
 v46:=Try.zeroValue161
 t53:=Try.underlying163
 a53:=Try.isAgg163
 z53:=Try.sizeOf163
 v53:=Try.zeroValue163
 t57:=Try.underlying167
 a57:=Try.isAgg167
 z57:=Try.sizeOf167
 v57:=Try.zeroValue167
 t63:=Try.underlying174
 a63:=Try.isAgg174
 z63:=Try.sizeOf174
 v63:=Try.zeroValue174
 t64:=Try.underlying66
 a64:=Try.isAgg66
 z64:=Try.sizeOf66
 v64:=Try.zeroValue66 }
open Go.Sort Go.RowKit in
theorem Try.slices_Sort_int (blk off cap:Nat) (zs:List Int) (w:World) (hH:Holds (Value.int .i64) w blk off zs.toArray) (hblk:blk < w.heap.size) (hsz:zs.length < 4611686018427387904) :
  Calls Try.prog 73 #[.slice (some ⟨blk,off,none⟩) zs.length cap] w fun e w' =>
   e = .returned (.tuple #[])∧∃ n os,w' = grow (putRow (Value.int .i64) (Sort.ahead w n) blk off (zs.mergeSort fun x y=>decide (x≤y)).toArray) os:=AnyM.slices_Sort_int Try.laysSlM5_f56 blk off cap zs w hH hblk hsz
open Go.RowKit Go.Sort in
theorem Try.slices_Sort_int_none (p:Option Addr) (cap:Nat) (w:World) :
  Calls Try.prog 73 #[.slice p 0 cap] w fun e w'=>e = .returned (.tuple #[])∧w' = w:=AnyM.slices_Sort_int_none Try.laysSlM5_f56 p cap w
end Go.Proofs
end
section
namespace Go.Proofs
open Go.Abs
theorem Try.rowK73:Go.Abs.RowK Try.prog 73 (eI .i64) 1 [] Qbmg :=
 Qbil (by kernel_rfl) Try.slices_Sort_int Try.slices_Sort_int_none
end Go.Proofs
end
section
namespace Go.Proofs
open Go Go.Abs
set_option maxRecDepth 10000
set_option maxHeartbeats 4000000
theorem Q1n:Qhi Try.prog 35 Qpt:=Qxt Q3g
theorem Q3m:Qig Try.prog 85 Qgc:=Qzm Q49 Qby
theorem Q6d:Qkp Try.prog 116 Qhb:=Q3a Q67 Qby
theorem Q1o:Qhk Try.prog 98 Qfx:=Qxu Q6d Q3k
theorem Qzv:Qgz Try.prog 86 Qfj:=Qvx Q1o Q1m Qby
theorem Q68:Ql1 Try.prog 64 Qh8:=Q44 Q3m Qzv Q76
theorem Q5b:Qi2 Try.prog 31 Qgr:=Q1d Q59 Qby
theorem Qli:Qfi Try.prog 65 Qfk:=Qvy Q1l
theorem Q8p:Qs5 Try.prog 115 Qtw:=Q63 Q91
theorem Q95:Quu Try.prog 95 Qiu:=Q74 Q8p Qban
theorem Q6e:Qkr Try.prog 96 Qhc:=Q3b Q66
theorem Qua:Qf2 Try.prog 74 Qd8:=Qsh Q95 Q6e Qv4 Qby
theorem Qdx:Qc3 Try.prog 50 Qcw:=Q1e Qua Q6b
theorem Qzw:Qg2 Try.prog 30 Qfl:=Qvz Q5b Qdx Q68 Qli Q1i Qby
theorem Qzx:Qg4 Try.prog 37 Qfm:=Qv0 Qdx Q1j Qby
theorem Qnb:Qeb Try.prog 76 Qef:=Qlg Qpr
theorem Qx0:Qgo Try.prog 71 Qgs:=Qt5 Qzr Qby
theorem Qfg:Qdf Try.prog 40 Qct:=Qq3 Qx0 Qt8
theorem Qnc:Qed Try.prog 97 Qeg:=Qlh Qdx Qps
theorem Qq8:Qew Try.prog 77 Qdq:=Qm5 Qfg Qnc Qsn
theorem Qq9:Qey Try.prog 53 Qdr:=Qm6 Qfg Qdx Qnb Qq8 Qsl Qby
theorem Qf8:Qda Try.prog 39 Qco:=Qkm Qdx Qna Qby
theorem Qso:Qe9 Try.prog 38 Qc4:=Qpn Qf8 Qq9 Qtt Qby
theorem Qpu:Qem Try.prog 41 Qeo:=Qlq Qq7
theorem Q6f:Qk3 Try.prog 72 Qhd:=Q3c Q65
theorem Qlj:Qdz Try.prog 42 Qc1:=Qjn Qdx Q6f Qlr Qby
theorem Qhe:Qdu Try.prog 11 Qc5:=Qpo Qzw Qzx Qso Qf8 Qfg Qpu Qlj Qts Qby
theorem Qsp:Qfc Try.prog 48 Qhw:=Qpp Qtv
theorem Qzy:Qg6 Try.prog 47 Qlv:=Qv1 Qli Try.rowK73 Q1k Qby
theorem Qub:Qf4 Try.prog 17 Qiv:=Qsi Qzy Qsp Qv2
theorem Qtx:Qha Try.prog 45 Qfy:=Q3d Q64 Qby
theorem Qzz:Qow Try.prog 16 Qjr:=Q90 Qtx Qbdt
theorem Q1p:Qhm Try.prog 9 Qhx:=Qxv Qhe Qzz Qub Q1n Q3e
theorem Qty:Qfp Try.prog 33 Qcu:=Qq4 Qt7 Qby
theorem Qlw:Qfw Try.prog 69 Qeh:=Qxw Q3h
theorem Qpv:Qgb Try.prog 91 Qcm:=Qzn Q5a Qby
theorem Qrf:Qgq Try.prog 90 Qc6:=Q1f Q6c Qby
theorem Q1q:Qhp Try.prog 89 Qfz:=Qxx Qrf Qpv Q3i Qby
theorem Q1r:Qhr Try.prog 92 Qei:=Qxy Q3j Qby
theorem Quc:Qf6 Try.prog 70 Qd9:=Qsj Qlw Q1q Qrf Qpv Q1r Qv3 Qby
theorem Q3n:Qij Try.prog 36 Qgd:=Qzo Qlw Quc Q48 Qby
theorem Q3o:Qil Try.prog 10 Qge:=Qzp Qty Q3n Q46 Qby
theorem Qtz:Qfr Try.prog 43 Qd1:=Qq5 Qt9 Qby
theorem Qgg:Qd5 Try.prog 23 Qdn:=Q1g Q58 Qby
theorem Qra:Qe0 Try.prog 54 Qds:=Qm7 Qgg Qsm Qby
theorem Qt0:Qft Try.prog 22 Qd2:=Qq6 Qgg Qra Qt6 Qby
theorem Qf9:Qdb Try.prog 21 Qcp:=Qkn Qgg Qm9 Qby
theorem Qsq:Qfe Try.prog 44 Qdv:=Qpq Qf9 Qt0 Qtu Qby
theorem Q1s:Qht Try.prog 12 Qf0:=Qxz Qtz Qsq Q3f Qby
theorem Qrb:Qe2 Try.prog 13 Qdt:=Qm8 Qf9 Qgg Qsk Qby
theorem Q3p:Qin Try.prog 14 Qgf:=Qzq Qzz Q47 Qby
theorem Q5c:Qjl Try.prog 46 Qgt:=Q1h Q6a Qby
theorem Q69:Qm3 Try.prog 15 Qh9:=Q45 Qtx Q5c Q75
theorem Q5d:Qe6 Try.prog 3 Qdj:=Qhv Q1p Q3o Qhe Q1s Qrb Q3p Q69 Qzz Qis
end Go.Proofs
end
section
namespace Go.Abs
open Go Go.ChangeShapes Go.WideShapes Go.ChangeAt Go.RowKit
def live (w:World):Nat→Nat→Prop:=fun b o=>(w.cell? ⟨b,o,none⟩).isSome = true
def RDs (w:World):List D→List Value→Prop
 | [],vs=>vs = []
 | x :: xs,vs=>∃ u us,vs = u :: us∧RD (live w) w x u∧RDs w xs us
theorem Qbbg {w:World}:∀ {xs ys:List D} {us vs:List Value},RDs w xs us→RDs w ys vs→RDs w (xs ++ ys) (us ++ vs)
 | [],ys,us,vs,h,k=>by simp only [RDs] at h; subst h; simpa using k
 | x :: xs,ys,us,vs,⟨u,us',e,r,h⟩,k=>by subst e; exact ⟨u,us' ++ vs,by simp,r,Qbbg h k⟩
def RDat (w:World) (cs:List Value) (off:Nat) (xs:List D):Prop:=RDs w xs ((cs.drop off).take xs.length)
theorem RDat.app {w:World} {cs:List Value} {off:Nat} {xs ys:List D} (h:RDat w cs off xs) {n:Nat} (hn:n = off + xs.length) (k:RDat w cs n ys):RDat w cs off (xs ++ ys):=by
 subst hn
 have:=Qbbg h k
 unfold RDat
 rw [List.length_append,List.take_add,List.drop_drop]
 exact this
theorem RDat.nil {w:World} {cs:List Value} {off:Nat}:RDat w cs off []:=by simp [RDat,RDs]
theorem RDat.all {w:World} {cs:List Value} {xs:List D} (h:RDat w cs 0 xs) (hl:cs.length = xs.length):RDs w xs cs:=by
 unfold RDat at h
 rw [List.drop_zero,← hl,List.take_length] at h
 exact h
def Qbao {α:Type} (P:Program) (t:TypeId) (e:α→List D) (wf:α→Prop):Prop :=
 ∀ {H:Type} {enc:TypeId×Value→H} {w:World} {base:Nat} {spare:Nat→Bool} {held:Bool} {fuel:Nat} {cs:List Value} {x:DataW H×List MemPlace},
  DataW.trod enc P w base spare held fuel t cs = some x→∃ a,wf a∧RDs w (e a) cs
def wfI (k:IntKind) (n:Int):Prop:=(Lit.int k n).wf = true
variable {P:Program} {t:TypeId}
theorem Qbdu {k:IntKind} (ht:P.underlying t = some (.int k)):Qbao P t (fun n:Int=>[.int k n]) (wfI k):=by
 intro H enc w base spare held fuel cs x h
 obtain ⟨n,rfl,_,hw⟩:=DataW.trod_int ht h
 exact ⟨n,hw,_,_,rfl,by simp [RD],rfl⟩
theorem Qe4 {α:Type} {el:TypeId} {e:α→List D} {wf:α→Prop} {sz:Nat} (he:Qbao P el e wf) (hsz:P.cellsOf el = sz) (hlen:∀ a,(e a).length = sz)
  {H:Type} {enc:TypeId×Value→H} {w:World} {base:Nat} {spare:Nat→Bool} {held:Bool} {fuel off:Nat} {cs:List Value} {x:DataW H×List MemPlace}
  (h:DataW.trod enc P w base spare held fuel el ((cs.drop off).take (P.cellsOf el)) = some x):∃ a,wf a∧RDat w cs off (e a):=by
 obtain ⟨a,h1,h2⟩:=he h
 refine ⟨a,h1,?_⟩
 unfold RDat
 rw [hlen,← hsz]; exact h2
theorem Q96 {H:Type} {enc:TypeId×Value→H} {w:World} {base:Nat} {spare:Nat→Bool} {held:Bool} {fuel:Nat} {cs:List Value} {x:DataW H×List MemPlace} {fs:Array Field}
  (ht:P.underlying t = some (.struct fs)) (h:DataW.trod enc P w base spare held fuel t cs = some x) :
  cs.length = P.cellsOf t∧∃ n,∀ (i:Nat) (f:Field),fs[i]? = some f→∃ y,DataW.trod enc P w base spare held n f.type ((cs.drop f.offset).take (P.cellsOf f.type)) = some y:=by
 obtain ⟨xs,n,_,_,h1,h2,h3⟩:=DataW.trod_struct ht h
 refine ⟨h1,n,fun i f hf=>?_⟩
 have hi:i < fs.size:=(Array.getElem?_eq_some_iff.1 hf).1
 exact ⟨xs[i]'(by omega),by rw [h3 i f hf]; exact List.getElem?_eq_getElem (by omega)⟩
theorem Qbjt {H:Type} {enc:TypeId×Value→H} {w:World} {base:Nat} {spare:Nat→Bool} {held:Bool} {fuel:Nat} {cs:List Value} {x:DataW H×List MemPlace} {n:Nat} {el:TypeId}
  (ht:P.underlying t = some (.array n el)) (h:DataW.trod enc P w base spare held fuel t cs = some x) :
  cs.length = P.cellsOf t∧∃ m,∀ i,i < n→∃ y,DataW.trod enc P w base spare held m el ((cs.drop (i * P.cellsOf el)).take (P.cellsOf el)) = some y:=by
 obtain ⟨xs,m,_,_,h1,h2,h3⟩:=DataW.trod_array ht h
 exact ⟨h1,m,fun i hi=>⟨xs[i]'(by omega),by rw [h3 i hi]; exact List.getElem?_eq_getElem (by omega)⟩⟩
def Qbch {α:Type} (P:Program) (t:TypeId) (v:α→V) (wf:α→Prop):Prop :=
 ∀ {H:Type} {enc:TypeId×Value→H} {w:World} {base b0:Nat} {spare:Nat→Bool} {held:Bool} {u:Value} {d:DataW H} {ps:List MemPlace},
  Value.okWide P w .any b0 t u→DataW.Trod enc P w base spare held t u d ps→∃ a,wf a∧RF ⟨fun _=>0,live w,fun _=>.ext⟩ w (v a) u
theorem Qbmh {imm:Nat→Nat→Prop} {w:World} {x:D} {u:Value} (h:RD imm w x u):u.oneCell' = true:=by
 cases x with
 | int k n=>simp only [RD] at h; subst h; rfl
 | bool b=>simp only [RD] at h; subst h; rfl
 | str s=>simp only [RD] at h; subst h; rfl
 | lst sz l=>simp only [RD] at h; obtain ⟨a,cap,rfl,_⟩:=h; cases a <;> rfl
theorem Qbim {w:World} {g:G} (hg:g.imm = live w):∀ {xs:List D} {us:List Value} {ℓ:Owner} {i:Nat},RDs w xs us→RVs g w (xs.map V.d) ℓ i us∧∀ u∈us,u.oneCell' = true
 | [],us,ℓ,i,h=>by simp only [RDs] at h; subst h; simp [RVs]
 | x :: xs,us,ℓ,i,⟨u,us',e,r,h⟩=>by
  subst e
  obtain ⟨h1,h2⟩:=Qbim hg (ℓ:=ℓ) (i:=i + 1) h
  refine ⟨⟨u,us',rfl,by simpa [RV,hg] using r,h1⟩,fun v hv=>?_⟩
  rcases List.mem_cons.1 hv with rfl | hv
  ·exact Qbmh r
  ·exact h2 v hv
theorem Qbln {α:Type} {e:α→List D} {wf:α→Prop} (he:Qbao P t e wf) (hagg:(∃ fs,P.underlying t = some (.struct fs))∨∃ n el,P.underlying t = some (.array n el)):Qbch P t (fun a=>.agg ((e a).map V.d)) wf:=by
 intro H enc w base b0 spare held u d ps hok hd
 obtain ⟨cs,rfl⟩ : ∃ cs,u = .agg cs:=by
  rcases hagg with ⟨fs,ht⟩ | ⟨n,el,ht⟩
  ·simp only [Value.okWide,ht] at hok; obtain ⟨cs,rfl,_⟩:=hok; exact ⟨cs,rfl⟩
  ·simp only [Value.okWide,ht] at hok; obtain ⟨cs,rfl,_⟩:=hok; exact ⟨cs,rfl⟩
 obtain ⟨fuel,hf⟩:=hd
 obtain ⟨a,h1,h2⟩:=he hf
 refine ⟨a,h1,fun ℓ=>?_⟩
 simp only [RV]
 obtain ⟨h3,h4⟩:=Qbim (g:=⟨fun _=>0,live w,fun _=>.ext⟩) rfl (ℓ:=ℓ) (i:=0) h2
 exact ⟨cs.toList,by simp,h3,h4⟩
def Qbmi (P:Program) (f:FuncId) (ts:List TypeId):Prop :=
 ∀ {H:Type} {enc:TypeId×Value→H} {w:World} {b0:Nat} {us:List Value} {ds:List (DataW H)} {ps:List MemPlace},
  (∀ (j:Nat) t u,ts[j]? = some t→us[j]? = some u→Value.okWide P w .any b0 t u)→DataW.TrodAll enc P w 0 (fun _=>true) true ts us ds ps →
  ∃ vs,RFs ⟨fun _=>0,live w,fun _=>.ext⟩ w vs us∧(∀ x∈vs,Flat x)∧V.lt.go 0 vs = true∧∀ M nb,ACalls P f vs M nb (.d (.bool true)) M nb
theorem Q7a (hl:laidOutB P = true) {W W' : World} {sp:Nat→Bool} {H:Type} {enc:TypeId×Value→H}:∀ {ts:List TypeId} {us:List Value} {ds:List (DataW H)} {ps:List MemPlace},
  (∀ t∈ts,P.readableRec t = true∧t < P.types.size)→DataW.TrodAll enc P W 0 (fun _=>true) true ts us ds ps→(∀ p∈ps,W.sameAt W' p)→(∀ p∈ps,sp p.block = true)→DataW.TrodAll enc P W' 0 sp true ts us ds ps
 | [],[],[],ps,_,h,_,_=>h
 | t :: ts,u :: us,d :: ds,ps,hr,⟨p,q,h1,h2,e⟩,hs,hp=>by
  subst e
  obtain ⟨r1,r2⟩:=hr t (by simp)
  exact ⟨p,q,WideElems.Trod_stays hl r1 r2 h1 (fun x hx=>hs x (by simp [hx])) (fun x hx=>hp x (by simp [hx])),Q7a hl (fun t ht=>hr t (by simp [ht])) h2 (fun x hx=>hs x (by simp [hx])) (fun x hx=>hp x (by simp [hx])),rfl⟩
 | [],[],_ :: _,_,_,h,_,_=>h.elim
 | [],_ :: _,_,_,_,h,_,_=>h.elim
 | _ :: _,[],_,_,_,h,_,_=>h.elim
 | _ :: _,_ :: _,[],_,_,h,_,_=>h.elim
theorem Q97 {W:World} {sp:Nat→Bool} {held:Bool} {base:Nat} {H:Type} {enc:TypeId×Value→H}:∀ {ts:List TypeId} {us:List Value} {ds:List (DataW H)} {ps:List MemPlace},
  DataW.TrodAll enc P W base sp held ts us ds ps→ds.length = ts.length∧us.length = ts.length
 | [],[],[],ps,h=>⟨rfl,rfl⟩
 | t :: ts,u :: us,d :: ds,ps,⟨p,q,h1,h2,e⟩=>by have:=Q97 h2; simp [this.1,this.2]
 | [],[],_ :: _,_,h=>h.elim
 | [],_ :: _,_,_,h=>h.elim
 | _ :: _,[],_,_,h=>h.elim
 | _ :: _,_ :: _,[],_,h=>h.elim
theorem Qblo {C:Checked} {f:FuncId} {fn:Func} {s:ChangeSpec} {conds:List PathCond} {bt:TypeId} {os:Os} {H:Type} {enc:TypeId×Value→H}
  (own:ownKnob C.prog.godebug = none) (started:os.Started) (noInit:C.prog.inits.idxOf? f = none) (hfn:C.prog.funcs[f]? = some fn)
  (witness:∃ (w:World) (tape:Tape) (i:Input),w.os = os∧(w.forCall tape i).Shaped C.prog∧i.vars = []∧Input.okWide C.prog (w.forCall tape i) .any w.heap.size f i ∧
   s.pre6 enc C.prog fn conds false (w.forCall tape i).memory i.args∧({}:Assume).holds C.prog (lone (Frame.enter C.prog f i.args .normal) [] (w.forCall tape i)))
  (hvars:s.vars = []) (hres:fn.resultTypes = #[bt]) (hbt:C.prog.underlying bt = some .bool)
  (hl:laidOutB C.prog = true) (hread:∀ t∈fn.params.toList,C.prog.readableRec t = true∧t < C.prog.types.size)
  (hspec:∀ ds:List (DataW H),ds.length = fn.params.size→s.fn H ds = { results:=[.lit (.bool true)],args:=ds })
  (law:Qbmi C.prog f fn.params.toList) :
  ReturnsInHanded {} C os f .any (s.pre6 enc C.prog fn conds false) (s.post enc C.prog fn false true false false):=by
 refine returnsInHanded_of_change own started noInit hfn witness ?_
 intro W base args ds gs before hval hW hcnd _
 have hW':=hW
 obtain ⟨p,q,hA,hV,hps,hfz,hnd⟩:=hW
 rw [hvars] at hV
 obtain ⟨rfl,rfl⟩ : gs = []∧q = []:=by
  cases gs with
  | nil=>exact ⟨rfl,hV⟩
  | cons _ _=>exact hV.elim
 obtain ⟨vs,h1,h2,h3,h4⟩:=law (fun j t u ht hu=>hval j t u (by simpa using ht) (by simpa using hu)) hA
 obtain ⟨hb,_,h5⟩:=h4 (fun _=>none) 0
 have hlv:∀ b o,live W b o→b < W.heap.size:=by
  intro b o h
  simp only [live] at h
  obtain ⟨v,hv⟩:=Option.isSome_iff_exists.1 h
  unfold World.cell? at hv
  split at hv
  ·rename_i hh; exact (Array.getElem?_eq_some_iff.1 hh).1
  ·cases hv
 have hmr:MR ⟨fun _=>0,live W,fun _=>.ext⟩ W (fun _=>none) 0:=⟨fun k b h=>(by cases h),fun b o h=>⟨hlv b o h,fun k h=>by cases h⟩⟩
 have h6:=h5 W ⟨fun _=>0,live W,fun _=>.ext⟩ args.toList hmr (fun k cs h=>by cases h) (fun b=>⟨fun t p h=>(by cases h),fun p h=>(by cases h)⟩) h1 h2 (ons_mono (fun k hk=>absurd hk (Nat.not_lt_zero k)) _ (ons_lt vs h3))
 refine Calls.mono h6 fun e W' ⟨v,g',he,_,hr,_,_,hf⟩=>?_
 subst he
 have hv:v = .bool true:=by simpa [RV,RD] using hr
 subst hv
 have hbelow:Below W.heap.size W W':=⟨hf.os,hf.tape,hf.output,hf.size,fun k hk=>(hf.old k hk trivial).2.1⟩
 have hrl:(Value.bool true).resultList fn.resultTypes.size = [.bool true]:=by rw [hres]; rfl
 have hsp:s.fn H (ds ++ []) = { results:=[.lit (.bool true)],args:=ds }:=by
  rw [List.append_nil]
  exact hspec ds (by have:=(Q97 hA).1; simpa using this)
 have hlt:∀ p∈before,p.block < W.heap.size:=fun x hx=>hW'.lt x hx
 have hst:∀ sp:Nat→Bool,(∀ p∈before,sp p.block = true)→DataW.TrodAll enc C.prog W' 0 sp true fn.params.toList args.toList ds before:=by
  intro sp hsp'
  have e:p = before:=by rw [hps,List.append_nil]
  subst e
  exact Q7a hl hread hA (fun x hx=>hbelow.same (hlt x hx)) hsp'
 refine ⟨_,rfl,ds,[],before,[],before,[],hW',?_,?_,?_,World.keptBut_mono (fun p hp=>⟨hp,.inr (.inl hp)⟩) (hbelow.frame (· ∈ before)),fun h=>by cases h⟩
 ·rw [hsp,hrl,hres]
  exact ⟨[],[],⟨1,by simp [DataW.trod,Value.cells,hbt]⟩,rfl,rfl⟩
 ·rw [hsp]
  exact hst _ fun p hp=>by simpa using hlt p hp
 ·rw [hsp,hvars]; rfl
section
variable {α β γ δ:Type} {f:FuncId} {ta tb tc td:TypeId} {va:α→V} {vb:β→V} {vc:γ→V} {vd:δ→V} {wa:α→Prop} {wb:β→Prop} {wc:γ→Prop} {wd:δ→Prop}
theorem Qbmx (ra:Qbch P ta va wa) (fa:∀ a,(va a).dem = va a) (la:∀ a,(va a).lt 0 = true) (law:∀ a,wa a→∀ M nb,ACalls P f [va a] M nb (.d (.bool true)) M nb):Qbmi P f [ta]:=by
 intro H enc w b0 us ds ps hok hT
 match us,ds,hT with
 | [u],[d],⟨p,q,h1,h2,e⟩ =>
  obtain ⟨a,ha,hra⟩:=ra (hok 0 _ _ rfl rfl) h1
  exact ⟨[va a],⟨u,[],rfl,hra,rfl⟩,fun x hx=>by rw [List.mem_singleton] at hx; subst hx; exact fa a,by simp [V.lt.go,la],law a ha⟩
 | [],_,hT=>cases ‹List (DataW H)› <;> exact hT.elim
 | [_],[],hT=>exact hT.elim
 | [_],_ :: _ :: _,⟨_,_,_,h2,_⟩=>exact h2.elim
 | _ :: _ :: _,[],hT=>exact hT.elim
 | _ :: _ :: _,[_],⟨_,_,_,h2,_⟩=>exact h2.elim
 | _ :: _ :: _,_ :: _ :: _,⟨_,_,_,h2,_⟩=>exact h2.elim
end
theorem Qbkq {H:Type} {enc:TypeId×Value→H} {w:World} {base:Nat} {spare:Nat→Bool} {held:Bool} {fuel:Nat} {cs:List Value} {x:DataW H×List MemPlace} {n sz:Nat} {el:TypeId}
  (ht:P.underlying t = some (.array n el)) (hsz:P.cellsOf el = sz) (h:DataW.trod enc P w base spare held fuel t cs = some x) :
  cs.length = P.cellsOf t∧∃ m,∀ i,i < n→∃ y,DataW.trod enc P w base spare held m el ((cs.drop (i * sz)).take (P.cellsOf el)) = some y:=by
 obtain ⟨h1,m,h2⟩:=Qbjt ht h
 exact ⟨h1,m,fun i hi=>by have:=h2 i hi; rwa [show i * P.cellsOf el = i * sz from by rw [hsz]] at this⟩
end Go.Abs
end
section
namespace Go.Proofs
open Go Go.Abs
set_option maxRecDepth 100000
def W_22 (x:Int):Prop:=wfI .u8 x
theorem R_22:Qbao Try.prog 22 (eI .u8) W_22:=Qbdu Try.underlying22
def W_5 (x:Int):Prop:=wfI .u8 x
theorem R_5:Qbao Try.prog 5 (eI .u8) W_5:=Qbdu Try.underlying5
def W_23 (x:Int×Int×Int×Int×Int):Prop:=W_5 x.1∧W_5 x.2.1∧W_5 x.2.2.1∧W_5 x.2.2.2.1∧W_5 x.2.2.2.2
theorem R_23:Qbao Try.prog 23 (fun p:Int×Int×Int×Int×Int=>[.int .u8 p.1,.int .u8 p.2.1,.int .u8 p.2.2.1,.int .u8 p.2.2.2.1,.int .u8 p.2.2.2.2]) W_23:=by
  intro H enc w base spare held fuel cs x h
  obtain ⟨hl,n,hf⟩:=Qbkq (sz:=1) Try.underlying23 (by kernel_rfl) h
  obtain ⟨y0,h0⟩:=hf 0 (by decide)
  obtain ⟨a0,w0,r0⟩:=Qe4 (off:=0 * 1) (sz:=1) R_5 (by kernel_rfl) (fun _=>rfl) h0
  obtain ⟨y1,h1⟩:=hf 1 (by decide)
  obtain ⟨a1,w1,r1⟩:=Qe4 (off:=1 * 1) (sz:=1) R_5 (by kernel_rfl) (fun _=>rfl) h1
  obtain ⟨y2,h2⟩:=hf 2 (by decide)
  obtain ⟨a2,w2,r2⟩:=Qe4 (off:=2 * 1) (sz:=1) R_5 (by kernel_rfl) (fun _=>rfl) h2
  obtain ⟨y3,h3⟩:=hf 3 (by decide)
  obtain ⟨a3,w3,r3⟩:=Qe4 (off:=3 * 1) (sz:=1) R_5 (by kernel_rfl) (fun _=>rfl) h3
  obtain ⟨y4,h4⟩:=hf 4 (by decide)
  obtain ⟨a4,w4,r4⟩:=Qe4 (off:=4 * 1) (sz:=1) R_5 (by kernel_rfl) (fun _=>rfl) h4
  exact ⟨(a0,a1,a2,a3,a4),⟨w0,w1,w2,w3,w4⟩,RDat.all (xs:=(fun p:Int×Int×Int×Int×Int=>[.int .u8 p.1,.int .u8 p.2.1,.int .u8 p.2.2.1,.int .u8 p.2.2.2.1,.int .u8 p.2.2.2.2]) (a0,a1,a2,a3,a4)) (RDat.app r0 rfl (RDat.app r1 rfl (RDat.app r2 rfl (RDat.app r3 rfl r4)))) (hl.trans (by kernel_rfl))⟩
def W_24 (x:(Int×Int×Int×Int×Int)×(Int×Int×Int×Int×Int)×(Int×Int×Int×Int×Int)×(Int×Int×Int×Int×Int)×(Int×Int×Int×Int×Int)):Prop:=W_23 x.1∧W_23 x.2.1∧W_23 x.2.2.1∧W_23 x.2.2.2.1∧W_23 x.2.2.2.2
theorem R_24:Qbao Try.prog 24 (fun p:(Int×Int×Int×Int×Int)×(Int×Int×Int×Int×Int)×(Int×Int×Int×Int×Int)×(Int×Int×Int×Int×Int)×(Int×Int×Int×Int×Int)=>[.int .u8 p.1.1,.int .u8 p.1.2.1,.int .u8 p.1.2.2.1,.int .u8 p.1.2.2.2.1,.int .u8 p.1.2.2.2.2,.int .u8 p.2.1.1,.int .u8 p.2.1.2.1,.int .u8 p.2.1.2.2.1,.int .u8 p.2.1.2.2.2.1,.int .u8 p.2.1.2.2.2.2,.int .u8 p.2.2.1.1,.int .u8 p.2.2.1.2.1,.int .u8 p.2.2.1.2.2.1,.int .u8 p.2.2.1.2.2.2.1,.int .u8 p.2.2.1.2.2.2.2,.int .u8 p.2.2.2.1.1,.int .u8 p.2.2.2.1.2.1,.int .u8 p.2.2.2.1.2.2.1,.int .u8 p.2.2.2.1.2.2.2.1,.int .u8 p.2.2.2.1.2.2.2.2,.int .u8 p.2.2.2.2.1,.int .u8 p.2.2.2.2.2.1,.int .u8 p.2.2.2.2.2.2.1,.int .u8 p.2.2.2.2.2.2.2.1,.int .u8 p.2.2.2.2.2.2.2.2]) W_24:=by
  intro H enc w base spare held fuel cs x h
  obtain ⟨hl,n,hf⟩:=Qbkq (sz:=5) Try.underlying24 (by kernel_rfl) h
  obtain ⟨y0,h0⟩:=hf 0 (by decide)
  obtain ⟨a0,w0,r0⟩:=Qe4 (off:=0 * 5) (sz:=5) R_23 (by kernel_rfl) (fun _=>rfl) h0
  obtain ⟨y1,h1⟩:=hf 1 (by decide)
  obtain ⟨a1,w1,r1⟩:=Qe4 (off:=1 * 5) (sz:=5) R_23 (by kernel_rfl) (fun _=>rfl) h1
  obtain ⟨y2,h2⟩:=hf 2 (by decide)
  obtain ⟨a2,w2,r2⟩:=Qe4 (off:=2 * 5) (sz:=5) R_23 (by kernel_rfl) (fun _=>rfl) h2
  obtain ⟨y3,h3⟩:=hf 3 (by decide)
  obtain ⟨a3,w3,r3⟩:=Qe4 (off:=3 * 5) (sz:=5) R_23 (by kernel_rfl) (fun _=>rfl) h3
  obtain ⟨y4,h4⟩:=hf 4 (by decide)
  obtain ⟨a4,w4,r4⟩:=Qe4 (off:=4 * 5) (sz:=5) R_23 (by kernel_rfl) (fun _=>rfl) h4
  exact ⟨(a0,a1,a2,a3,a4),⟨w0,w1,w2,w3,w4⟩,RDat.all (xs:=(fun p:(Int×Int×Int×Int×Int)×(Int×Int×Int×Int×Int)×(Int×Int×Int×Int×Int)×(Int×Int×Int×Int×Int)×(Int×Int×Int×Int×Int)=>[.int .u8 p.1.1,.int .u8 p.1.2.1,.int .u8 p.1.2.2.1,.int .u8 p.1.2.2.2.1,.int .u8 p.1.2.2.2.2,.int .u8 p.2.1.1,.int .u8 p.2.1.2.1,.int .u8 p.2.1.2.2.1,.int .u8 p.2.1.2.2.2.1,.int .u8 p.2.1.2.2.2.2,.int .u8 p.2.2.1.1,.int .u8 p.2.2.1.2.1,.int .u8 p.2.2.1.2.2.1,.int .u8 p.2.2.1.2.2.2.1,.int .u8 p.2.2.1.2.2.2.2,.int .u8 p.2.2.2.1.1,.int .u8 p.2.2.2.1.2.1,.int .u8 p.2.2.2.1.2.2.1,.int .u8 p.2.2.2.1.2.2.2.1,.int .u8 p.2.2.2.1.2.2.2.2,.int .u8 p.2.2.2.2.1,.int .u8 p.2.2.2.2.2.1,.int .u8 p.2.2.2.2.2.2.1,.int .u8 p.2.2.2.2.2.2.2.1,.int .u8 p.2.2.2.2.2.2.2.2]) (a0,a1,a2,a3,a4)) (RDat.app r0 rfl (RDat.app r1 rfl (RDat.app r2 rfl (RDat.app r3 rfl r4)))) (hl.trans (by kernel_rfl))⟩
def W_26 (x:Qbj):Prop:=W_5 x.zM∧W_5 x.Marks∧W_24 x.To
theorem R_26:Qbao Try.prog 26 Qnn W_26:=by
  intro H enc w base spare held fuel cs x h
  obtain ⟨hl,n,hf⟩:=Q96 Try.underlying26 h
  obtain ⟨y0,h0⟩:=hf 0 _ rfl
  obtain ⟨a0,w0,r0⟩:=Qe4 (off:=0) (sz:=1) R_5 (by kernel_rfl) (fun _=>rfl) h0
  obtain ⟨y1,h1⟩:=hf 1 _ rfl
  obtain ⟨a1,w1,r1⟩:=Qe4 (off:=1) (sz:=1) R_5 (by kernel_rfl) (fun _=>rfl) h1
  obtain ⟨y2,h2⟩:=hf 2 _ rfl
  obtain ⟨a2,w2,r2⟩:=Qe4 (off:=2) (sz:=25) R_24 (by kernel_rfl) (fun _=>rfl) h2
  exact ⟨⟨a0,a1,a2⟩,⟨w0,w1,w2⟩,RDat.all (xs:=Qnn ⟨a0,a1,a2⟩) (RDat.app r0 rfl (RDat.app r1 rfl r2)) (hl.trans (by kernel_rfl))⟩
def W_28 (x:Qel):Prop:=W_22 x.Events∧W_26 x.Graph
theorem R_28:Qbao Try.prog 28 Qre W_28:=by
  intro H enc w base spare held fuel cs x h
  obtain ⟨hl,n,hf⟩:=Q96 Try.underlying28 h
  obtain ⟨y0,h0⟩:=hf 0 _ rfl
  obtain ⟨a0,w0,r0⟩:=Qe4 (off:=0) (sz:=1) R_22 (by kernel_rfl) (fun _=>rfl) h0
  obtain ⟨y1,h1⟩:=hf 1 _ rfl
  obtain ⟨a1,w1,r1⟩:=Qe4 (off:=1) (sz:=27) R_26 (by kernel_rfl) (fun _=>rfl) h1
  exact ⟨⟨a0,a1⟩,⟨w0,w1⟩,RDat.all (xs:=Qre ⟨a0,a1⟩) (RDat.app r0 rfl r1) (hl.trans (by kernel_rfl))⟩
def W_30 (x:Q4):Prop:=W_28 x.Part∧W_5 x.zC∧W_22 x.zB∧W_22 x.zD
theorem R_30:Qbao Try.prog 30 Qlu W_30:=by
  intro H enc w base spare held fuel cs x h
  obtain ⟨hl,n,hf⟩:=Q96 Try.underlying30 h
  obtain ⟨y0,h0⟩:=hf 0 _ rfl
  obtain ⟨a0,w0,r0⟩:=Qe4 (off:=0) (sz:=28) R_28 (by kernel_rfl) (fun _=>rfl) h0
  obtain ⟨y1,h1⟩:=hf 1 _ rfl
  obtain ⟨a1,w1,r1⟩:=Qe4 (off:=28) (sz:=1) R_5 (by kernel_rfl) (fun _=>rfl) h1
  obtain ⟨y2,h2⟩:=hf 2 _ rfl
  obtain ⟨a2,w2,r2⟩:=Qe4 (off:=29) (sz:=1) R_22 (by kernel_rfl) (fun _=>rfl) h2
  obtain ⟨y3,h3⟩:=hf 3 _ rfl
  obtain ⟨a3,w3,r3⟩:=Qe4 (off:=30) (sz:=1) R_22 (by kernel_rfl) (fun _=>rfl) h3
  exact ⟨⟨a0,a1,a2,a3⟩,⟨w0,w1,w2,w3⟩,RDat.all (xs:=Qlu ⟨a0,a1,a2,a3⟩) (RDat.app r0 rfl (RDat.app r1 rfl (RDat.app r2 rfl r3))) (hl.trans (by kernel_rfl))⟩
theorem A_30:Qbch Try.prog 30 (fun (a:Q4)=>.agg [.d (.int .u8 a.Part.Events),.d (.int .u8 a.Part.Graph.zM),.d (.int .u8 a.Part.Graph.Marks),.d (.int .u8 a.Part.Graph.To.1.1),.d (.int .u8 a.Part.Graph.To.1.2.1),.d (.int .u8 a.Part.Graph.To.1.2.2.1),.d (.int .u8 a.Part.Graph.To.1.2.2.2.1),.d (.int .u8 a.Part.Graph.To.1.2.2.2.2),.d (.int .u8 a.Part.Graph.To.2.1.1),.d (.int .u8 a.Part.Graph.To.2.1.2.1),.d (.int .u8 a.Part.Graph.To.2.1.2.2.1),.d (.int .u8 a.Part.Graph.To.2.1.2.2.2.1),.d (.int .u8 a.Part.Graph.To.2.1.2.2.2.2),.d (.int .u8 a.Part.Graph.To.2.2.1.1),.d (.int .u8 a.Part.Graph.To.2.2.1.2.1),.d (.int .u8 a.Part.Graph.To.2.2.1.2.2.1),.d (.int .u8 a.Part.Graph.To.2.2.1.2.2.2.1),.d (.int .u8 a.Part.Graph.To.2.2.1.2.2.2.2),.d (.int .u8 a.Part.Graph.To.2.2.2.1.1),.d (.int .u8 a.Part.Graph.To.2.2.2.1.2.1),.d (.int .u8 a.Part.Graph.To.2.2.2.1.2.2.1),.d (.int .u8 a.Part.Graph.To.2.2.2.1.2.2.2.1),.d (.int .u8 a.Part.Graph.To.2.2.2.1.2.2.2.2),.d (.int .u8 a.Part.Graph.To.2.2.2.2.1),.d (.int .u8 a.Part.Graph.To.2.2.2.2.2.1),.d (.int .u8 a.Part.Graph.To.2.2.2.2.2.2.1),.d (.int .u8 a.Part.Graph.To.2.2.2.2.2.2.2.1),.d (.int .u8 a.Part.Graph.To.2.2.2.2.2.2.2.2),.d (.int .u8 a.zC),.d (.int .u8 a.zB),.d (.int .u8 a.zD)]) W_30:=Qbln R_30 (.inl ⟨_,Try.underlying30⟩)
end Go.Proofs
end
section
namespace Go.Abs
open Go
theorem Qia {X R:Type} {F:(X→Option R)→X→Option R} (I:X→Prop) (m:X→Nat) (Q:X→Option R→Prop)
  (step:∀ (k:X→Option R) (x:X),I x→(∀ y,I y→m y < m x→Q y (k y))→Q x (F k x)):∀ (fuel:Nat) (x:X),I x→m x < fuel→Q x (Qb1 F fuel x)
 | 0,x,_,h=>absurd h (Nat.not_lt_zero _)
 | fuel + 1,x,hi,h=>step _ x hi fun y hy hm=>Qia I m Q step fuel y hy (by omega)
theorem Q7b {X R:Type} {F:(X→Option R)→X→Option R} {fuel:Nat} {x:X} (I:X→Prop) (m:X→Nat) (q:Option R) (hi:I x) (hm:m x < fuel)
  (step:∀ (k:X→Option R) (x:X),I x→(∀ y,I y→m y < m x→k y = q)→F k x = q):Qb1 F fuel x = q :=
 Qia I m (fun _ r=>r = q) step fuel x hi hm
theorem Qnd {x:Int} (h1 : -9223372036854775808≤x) (h2:x≤9223372036854775807):IntKind.wrap .i64 x = x:=by
 simp [IntKind.wrap,IntKind.bits,IntKind.signed]; omega
theorem Qcg {n:Nat} (h:n < 9223372036854775807):IntKind.wrap .i64 ((n:Int) + 1) = ((n + 1:Nat):Int):=by
 rw [Qnd (by omega) (by omega)]; omega
theorem Qbu {α:Type} {l:List α} {n:Nat} (h:n < l.length):getO l (n:Int) = some l[n]:=by
 simp [getO,h]
theorem Qbdv {α:Type} {l:List α} {i:Int} {x:α}:getO l i = some x↔0≤i∧l[i.toNat]? = some x:=by
 unfold getO; split
 ·rename_i h; simp [h]
 ·rename_i h; simp only [reduceCtorEq,false_iff,not_and]; exact fun h'=>absurd h' h
theorem Qce {α:Type} {l m:List α} (h:l.length + m.length≤lim):appO l m = some (l ++ m):=by
 unfold appO; rw [if_pos h]
theorem Qbdw {α:Type} {s t:List α} {k:Nat} (hs:k < s.length) (ht:k < t.length) (h:s.take k = t.take k) (he:s[k] = t[k]):s.take (k + 1) = t.take (k + 1):=by
 rw [List.take_add_one,List.take_add_one,h,List.getElem?_eq_getElem hs,List.getElem?_eq_getElem ht,he]
theorem Qt1 {R:Type} {F:(Int→Option R)→Int→Option R} {len fuel:Nat} (G:Nat→Option R) (hf:len < fuel)
  (step:∀ (k:Int→Option R) (n:Nat),n < len→k ((n + 1:Nat):Int) = G (n + 1)→F k (n:Int) = G n) (last:∀ k:Int→Option R,F k (len:Int) = G len):Qb1 F fuel 0 = G 0:=by
 have:=Qia (F:=F) (fun x=>∃ n:Nat,x = (n:Int)∧n≤len) (fun x=>len - x.toNat) (fun x r=>∀ n:Nat,x = (n:Int)→r = G n) (fun k x hx ih=>by
  obtain ⟨n,rfl,hn⟩:=hx
  intro m hm
  obtain rfl:n = m:=by omega
  by_cases h:n < len
  ·exact step k n h (ih _ ⟨n + 1,rfl,by omega⟩ (by omega) (n + 1) rfl)
  ·obtain rfl:n = len:=by omega
   exact last k) fuel 0 ⟨0,rfl,by omega⟩ (by simpa using hf)
 exact this 0 rfl
theorem Q98 {n:Nat} (h0:0 < n) (h:n < 9223372036854775807):IntKind.wrap .i64 ((n:Int) - 1) = ((n - 1:Nat):Int):=by
 rw [Qnd (by omega) (by omega)]; omega
theorem Qbju {X S R:Type} {F:(X→Option R)→X→Option R} {len:Nat} (mk:Nat→S→X) (G:Nat→S→Option R)
  (step:∀ (k:X→Option R) (n:Nat) (s:S),n < len→(∀ s',k (mk (n + 1) s') = G (n + 1) s')→F k (mk n s) = G n s) (last:∀ (k:X→Option R) (s:S),F k (mk len s) = G len s) :
  ∀ (fuel n:Nat) (s:S),n≤len→len - n < fuel→Qb1 F fuel (mk n s) = G n s
 | 0,n,s,_,h=>by omega
 | fuel + 1,n,s,hn,h=>by
  show F (Qb1 F fuel) (mk n s) = _
  by_cases hlt:n < len
  ·exact step _ n s hlt fun s'=>Qbju mk G step last fuel (n + 1) s' (by omega) (by omega)
  ·obtain rfl:n = len:=by omega
   exact last _ s
theorem Qbmj {i j:Nat} (hi:i < 1000000000000) (hj:j < 1000000000000):IntKind.wrap .i64 (Int.fdiv (IntKind.wrap .u64 (IntKind.wrap .i64 ((i:Int) + j))) (2 ^ (min (Int.toNat 1) (IntKind.bits .u64)))) = (((i + j) / 2:Nat):Int):=by
 have h1:IntKind.wrap .i64 ((i:Int) + j) = ((i + j:Nat):Int):=by rw [Qnd (by omega) (by omega)]; omega
 have h2:IntKind.wrap .u64 ((i + j:Nat):Int) = ((i + j:Nat):Int):=by
  simp [IntKind.wrap,IntKind.bits,IntKind.signed]; omega
 have h3:(2:Int) ^ (min (Int.toNat 1) (IntKind.bits .u64)) = 2:=by decide
 rw [h1,h2,h3,Int.fdiv_eq_ediv_of_nonneg _ (by omega),show ((i + j:Nat):Int) / 2 = (((i + j) / 2:Nat):Int) from by omega,Qnd (by omega) (by omega)]
theorem Qbgk:∀ {l m:List Int},l.Pairwise (· < ·)→m.Pairwise (· < ·)→(∀ x,x∈l↔x∈m)→l = m
 | l,m,h1,h2,h=>by
  have n1:l.Nodup:=h1.imp fun h=>by omega
  have n2:m.Nodup:=h2.imp fun h=>by omega
  have hp:l.Perm m:=(List.perm_ext_iff_of_nodup n1 n2).2 h
  exact List.Perm.eq_of_pairwise (le:=(· < ·)) (fun a b _ _ h1 h2=>by omega) h1 h2 hp
section
variable {α:Type} {p:α→Bool}
theorem Qbbh:∀ {l:List α},l.Pairwise (fun a b=>p b = true→p a = true)→∀ (n:Nat) (h:n < l.length),p l[n] = true↔n < (l.filter p).length
 | [],_,n,h=>by simp at h
 | x :: xs,hs,n,h=>by
  obtain ⟨h1,h2⟩:=List.pairwise_cons.1 hs
  cases n with
  | zero =>
   cases hx:p x with
   | true=>simp [hx]
   | false =>
    have:xs.filter p = []:=List.filter_eq_nil_iff.2 fun y hy hp=>by have:=h1 y hy hp; rw [hx] at this; cases this
    simp [hx,this]
  | succ n =>
   have ih:=Qbbh h2 n (by simpa using h)
   cases hx:p x with
   | true=>simp [hx,ih]
   | false =>
    have:xs.filter p = []:=List.filter_eq_nil_iff.2 fun y hy hp=>by have:=h1 y hy hp; rw [hx] at this; cases this
    rw [this] at ih
    simp [hx,this] at ih ⊢
    exact ih
end
theorem Qhy {X S R:Type} {F:(X→Option R)→X→Option R} {len:Nat} (mk:Nat→S→X) (I:Nat→S→Prop) (G:Nat→S→Option R)
  (step:∀ (k:X→Option R) (n:Nat) (s:S),n < len→I n s→(∀ s',I (n + 1) s' → k (mk (n + 1) s') = G (n + 1) s')→F k (mk n s) = G n s) (last:∀ (k:X→Option R) (s:S),I len s→F k (mk len s) = G len s) :
  ∀ (fuel n:Nat) (s:S),n≤len→len - n < fuel→I n s→Qb1 F fuel (mk n s) = G n s
 | 0,n,s,_,h,_=>by omega
 | fuel + 1,n,s,hn,h,hi=>by
  show F (Qb1 F fuel) (mk n s) = _
  by_cases hlt:n < len
  ·exact step _ n s hlt hi fun s' hi'=>Qhy mk I G step last fuel (n + 1) s' (by omega) (by omega) hi'
  ·obtain rfl:n = len:=by omega
   exact last _ s hi
theorem Qib:∀ {l:List Int} {a b:Int},l.Pairwise (· < ·)→(∀ x∈l,a≤x∧x < b)→l.length≤(b - a).toNat
 | [],_,_,_,_=>by simp
 | x :: xs,a,b,h,hr=>by
  obtain ⟨h1,h2⟩:=List.pairwise_cons.1 h
  have:=Qib (a:=x + 1) (b:=b) h2 fun y hy=>⟨by have:=h1 y hy; omega,(hr y (by simp [hy])).2⟩
  have:=hr x (by simp)
  simp only [List.length_cons]
  omega
end Go.Abs
end
section
namespace Go.Abs
abbrev big : Nat := 1000000000000
def small (a : Qf) : Prop := a.zJ.length < big ∧ a.zK.length < big ∧ a.zL.length < big
end Go.Abs
end
section
namespace Go.Abs
open Go
def Qdd (n:Int):Option Int→List Int→Int
 | _,[]=>0
 | p,x :: xs=>if x < 0∨x≥n then 2 else if ∃ y,p = some y∧x≤y then 5 else Qdd n (some x) xs
def Qix (al:List Int) (st:Int):Option Qe→List Qe→Int
 | _,[]=>0
 | p,x :: xs=>if x.From < 0∨x.From≥st∨x.To < 0∨x.To≥st then 2 else if x.Event∉al then 9 else if ∃ y,p = some y∧(x.From < y.From∨x.From = y.From∧x.Event≤y.Event) then 5 else Qix al st (some x) xs
def Qui (a:Qf):Int :=
 if Qdd 32 none a.zJ≠0 then Qdd 32 none a.zJ else if a.zM < 0 then 2 else if a.zM > 4096 then 3 else
 if Qdd a.zM none a.zK≠0 then Qdd a.zM none a.zK else Qix a.zJ a.zM none a.zL
def ahead {α:Type} (l:List α) (n:Nat):Option α:=if n = 0 then none else l[n - 1]?
theorem Qsw {α:Type} (l:List α):ahead l 0 = none:=rfl
theorem Qbbi {α:Type} (l:List α) {n:Nat} (h:n < l.length):ahead l (n + 1) = some l[n]:=by simp [ahead,h]
theorem Q99 {α:Type} (l:List α) {n:Nat} (h0:0 < n) (h:n≤l.length):ahead l n = some (l[n - 1]'(by omega)):=by
 simp [ahead,show n≠0 from by omega,show n - 1 < l.length from by omega]
theorem Q8j {n:Int} {l:List Int} {k:Nat} (h:k < l.length):Qdd n (ahead l k) (l.drop k) = if l[k] < 0∨l[k]≥n then 2 else if ∃ y,ahead l k = some y∧l[k]≤y then 5 else Qdd n (ahead l (k + 1)) (l.drop (k + 1)):=by
 rw [List.drop_eq_getElem_cons h,Qdd,Qbbi l h]
theorem Qbci {al:List Int} {n:Int} {l:List Qe} {k:Nat} (h:k < l.length):Qix al n (ahead l k) (l.drop k) = if l[k].From < 0∨l[k].From≥n∨l[k].To < 0∨l[k].To≥n then 2 else if l[k].Event∉al then 9 else if ∃ y,ahead l k = some y∧(l[k].From < y.From∨l[k].From = y.From∧l[k].Event≤y.Event) then 5 else Qix al n (ahead l (k + 1)) (l.drop (k + 1)):=by
 rw [List.drop_eq_getElem_cons h,Qix,Qbbi l h]
theorem Qbaa {l:List Int} {n:Int} (hl:l.length < big):Qgc l n = some (Qdd n none l):=by
 unfold Qgc Qb8
 refine (Qt1 (len:=l.length) (fun k=>some (Qdd n (ahead l k) (l.drop k))) (by unfold Qby; unfold big at hl; omega) ?_ ?_).trans (by simp [Qsw])
 ·intro k i hi ih
  have hb:i < 1000000000000:=by unfold big at hl; omega
  rw [Q8j hi]
  try dsimp only
  rw [if_pos (by omega),Qbu hi,Qcg (by omega),ih]
  simp only [Option.bind_some]
  by_cases h1:l[i] < 0
  ·simp [h1]
  ·by_cases h2:l[i]≥n
   ·simp [h1,h2]
   ·by_cases h0:0 < i
    ·rw [Q98 h0 (by omega),Qbu (by omega:i - 1 < l.length),Q99 l h0 (by omega)]
     by_cases h3:l[i]≤l[i - 1] <;> simp [h1,h2,h3,h0]
    ·obtain rfl:i = 0:=by omega
     simp [h1,h2,Qsw]
 ·intro k; simp [Qdd]
theorem Qbjv {l:List Int} {v:Int} (hl:l.length < big):Qhb l v = some (if v∈l then (l.idxOf v:Int) else -1):=by
 unfold Qhb Qcy
 refine (Qt1 (len:=l.length) (fun k=>some (if v∈l.drop k then ((k + (l.drop k).idxOf v:Nat):Int) else -1)) (by unfold Qby; unfold big at hl; omega) ?_ ?_).trans (by simp)
 ·intro k i hi ih
  have hb:i < 1000000000000:=by unfold big at hl; omega
  try dsimp only
  rw [if_pos (by omega),Qbu hi,Qcg (by omega),ih,List.drop_eq_getElem_cons hi]
  simp only [Option.bind_some,List.mem_cons,List.idxOf_cons]
  by_cases h:v = l[i]
  ·simp [← h]
  ·have:¬ l[i] = v:=fun e=>h e.symm
   have hbq:(l[i] == v) = false:=by simp [this]
   by_cases h2:v∈l.drop (i + 1) <;> simp [h,h2,hbq]
   omega
 ·intro k; simp
theorem Qbew {l:List Int} {v:Int} (hl:l.length < big):Qfx l v = some (decide (v∈l)):=by
 unfold Qfx Qca
 rw [Qbjv hl]
 simp only [Option.bind_some,Option.some.injEq]
 by_cases h:v∈l <;> simp [h]
theorem Qbkr {l:List Int} {v:Int} (hl:l.length < big):Qc6 l v = some (decide (v∈l)):=by
 unfold Qc6 Qbm
 refine (Qt1 (len:=l.length) (fun k=>some (decide (v∈l.drop k))) (by unfold Qby; unfold big at hl; omega) ?_ ?_).trans (by simp)
 ·intro k i hi ih
  have hb:i < 1000000000000:=by unfold big at hl; omega
  try dsimp only
  rw [if_pos (by omega),Qbu hi,Qcg (by omega),ih,List.drop_eq_getElem_cons hi]
  simp only [Option.bind_some,List.mem_cons]
  by_cases h:l[i] = v
  ·simp [h]
  ·have:¬ v = l[i]:=fun e=>h e.symm
   simp [h,this]
 ·intro k; simp
theorem Qbcj {a:Qf} (h:small a):Qfj a = some (Qix a.zJ a.zM none a.zL):=by
 obtain ⟨hal,_,hl⟩:=h
 unfold Qfj Qb3
 refine (Qt1 (len:=a.zL.length) (fun k=>some (Qix a.zJ a.zM (ahead a.zL k) (a.zL.drop k))) (by unfold Qby; unfold big at hl; omega) ?_ ?_).trans (by simp [Qsw])
 ·intro k i hi ih
  have hb:i < 1000000000000:=by unfold big at hl; omega
  rw [Qbci hi]
  unfold letJ
  try dsimp only
  rw [if_pos (by omega),Qbu hi,Qcg (by omega),ih]
  simp only [Option.bind_some,Qbew hal]
  generalize a.zL[i] = x
  by_cases h1:x.From < 0
  ·simp [h1]
  by_cases h2:x.From≥a.zM
  ·simp [h1,h2]
  by_cases h3:x.To < 0
  ·simp [h1,h2,h3]
  by_cases h4:x.To≥a.zM
  ·simp [h1,h2,h3,h4]
  by_cases h5:x.Event∈a.zJ
  ·by_cases h0:0 < i
   ·rw [Q98 h0 (by omega),Qbu (by omega:i - 1 < a.zL.length),Q99 a.zL h0 (by omega)]
    generalize a.zL[i - 1] = y
    have hi0:i≠0:=by omega
    by_cases h6:x.From < y.From
    ·simp [h1,h2,h3,h4,h5,h6,hi0]
    by_cases h7:y.From = x.From
    ·by_cases h8:x.Event≤y.Event <;> simp [h1,h2,h3,h4,h5,h6,h7,h8,hi0]
    ·have h7' : ¬ x.From = y.From:=fun e=>h7 e.symm
     simp [h1,h2,h3,h4,h5,h6,h7,hi0,h7']
   ·obtain rfl:i = 0:=by omega
    simp [h1,h2,h3,h4,h5,Qsw]
  ·simp [h1,h2,h3,h4,h5]
 ·intro k; unfold letJ; simp [Qix]
theorem Qbjw {a:Qf} (h:small a):Qh8 a = some (Qui a):=by
 unfold Qh8 Qc9 Qui
 rw [Qbaa h.1,Qbaa h.2.1,Qbcj h]
 simp only [Option.bind_some]
 by_cases h1:Qdd 32 none a.zJ = 0
 ·by_cases h2:a.zM < 0
  ·simp [h1,h2]
  by_cases h3:a.zM > 4096
  ·simp [h1,h2,h3]
  by_cases h4:Qdd a.zM none a.zK = 0 <;> simp [h1,h2,h3,h4]
 ·simp [h1]
end Go.Abs
end
section
namespace Go.Abs
open Go
def Qsr (x y:Qe):Prop:=x.From < y.From∨x.From = y.From∧x.Event < y.Event
instance (x y:Qe):Decidable (Qsr x y):=by unfold Qsr; infer_instance
structure Right (a:Qf):Prop where
 al0:∀ x∈a.zJ,0≤x∧x < 32
 al:a.zJ.Pairwise (· < ·)
 st:0≤a.zM∧a.zM≤4096
 ma0:∀ x∈a.zK,0≤x∧x < a.zM
 ma:a.zK.Pairwise (· < ·)
 ed0:∀ x∈a.zL,0≤x.From∧x.From < a.zM∧0≤x.To∧x.To < a.zM∧x.Event∈a.zJ
 ed:a.zL.Pairwise Qsr
theorem Qgn {n:Int}:∀ {l:List Int} {p:Option Int},Qdd n p l = 0↔(∀ x∈l,0≤x∧x < n)∧l.Pairwise (· < ·)∧∀ y,p = some y→∀ x∈l,y < x
 | [],p=>by simp [Qdd]
 | x :: xs,p=>by
  rw [Qdd]
  split
  ·rename_i h
   refine ⟨fun h=>by omega,fun hh=>?_⟩
   have:=hh.1 x (by simp); omega
  ·rename_i h
   split
   ·rename_i h2
    obtain ⟨y,hy,hxy⟩:=h2
    refine ⟨fun h=>by omega,fun hh=>?_⟩
    have:=hh.2.2 y hy x (by simp); omega
   ·rename_i h2
    rw [Qgn]
    constructor
    ·rintro ⟨k1,k2,k3⟩
     refine ⟨fun z hz=>?_,List.pairwise_cons.2 ⟨fun z hz=>k3 x rfl z hz,k2⟩,fun y hy z hz=>?_⟩
     ·rcases List.mem_cons.1 hz with rfl | hz
      ·omega
      ·exact k1 z hz
     ·have hyx:y < x:=by
       rcases Int.lt_or_le y x with h | h
       ·exact h
       ·exact absurd ⟨y,hy,h⟩ h2
      rcases List.mem_cons.1 hz with rfl | hz
      ·exact hyx
      ·have:=k3 x rfl z hz; omega
    ·rintro ⟨k1,k2,k3⟩
     obtain ⟨k4,k5⟩:=List.pairwise_cons.1 k2
     exact ⟨fun z hz=>k1 z (by simp [hz]),k5,fun y hy z hz=>by cases hy; exact k4 z hz⟩
theorem Qz0 {al:List Int} {n:Int}:∀ {l:List Qe} {p:Option Qe},Qix al n p l = 0↔(∀ x∈l,0≤x.From∧x.From < n∧0≤x.To∧x.To < n∧x.Event∈al)∧l.Pairwise Qsr∧∀ y,p = some y→∀ x∈l,Qsr y x
 | [],p=>by simp [Qix]
 | x :: xs,p=>by
  have tr:∀ a b c:Qe,Qsr a b→Qsr b c→Qsr a c:=fun a b c h k=>by unfold Qsr at *; omega
  rw [Qix]
  split
  ·rename_i h
   refine ⟨fun h=>by omega,fun hh=>?_⟩
   have:=hh.1 x (by simp); omega
  ·rename_i h
   split
   ·rename_i h2
    refine ⟨fun h=>by omega,fun hh=>?_⟩
    exact absurd (hh.1 x (by simp)).2.2.2.2 h2
   ·rename_i hal
    split
    ·rename_i h2
     obtain ⟨y,hy,hxy⟩:=h2
     refine ⟨fun h=>by omega,fun hh=>?_⟩
     have:=hh.2.2 y hy x (by simp)
     unfold Qsr at this; omega
    ·rename_i h2
     rw [Qz0]
     constructor
     ·rintro ⟨k1,k2,k3⟩
      refine ⟨fun z hz=>?_,List.pairwise_cons.2 ⟨fun z hz=>k3 x rfl z hz,k2⟩,fun y hy z hz=>?_⟩
      ·rcases List.mem_cons.1 hz with rfl | hz
       ·exact ⟨by omega,by omega,by omega,by omega,Decidable.not_not.1 hal⟩
       ·exact k1 z hz
      ·have hyx:Qsr y x:=by
        apply Decidable.byContradiction
        intro h
        exact h2 ⟨y,hy,by unfold Qsr at h; omega⟩
       rcases List.mem_cons.1 hz with rfl | hz
       ·exact hyx
       ·exact tr _ _ _ hyx (k3 x rfl z hz)
     ·rintro ⟨k1,k2,k3⟩
      obtain ⟨k4,k5⟩:=List.pairwise_cons.1 k2
      exact ⟨fun z hz=>k1 z (by simp [hz]),k5,fun y hy z hz=>by cases hy; exact k4 z hz⟩
theorem Qbdx {a:Qf}:Qui a = 0↔Right a:=by
 unfold Qui
 constructor
 ·intro h
  split at h
  ·rename_i h1; exact absurd h h1
  rename_i h1
  split at h
  ·omega
  split at h
  ·omega
  split at h
  ·rename_i h4; exact absurd h h4
  rename_i h4
  have q1:=Qgn.1 (Decidable.not_not.1 h1)
  have q2:=Qgn.1 (Decidable.not_not.1 h4)
  have q3:=Qz0.1 h
  exact ⟨q1.1,q1.2.1,⟨by omega,by omega⟩,q2.1,q2.2.1,q3.1,q3.2.1⟩
 ·intro h
  have q1:Qdd 32 none a.zJ = 0:=Qgn.2 ⟨h.al0,h.al,fun y hy=>by cases hy⟩
  have q2:Qdd a.zM none a.zK = 0:=Qgn.2 ⟨h.ma0,h.ma,fun y hy=>by cases hy⟩
  have q3:Qix a.zJ a.zM none a.zL = 0:=Qz0.2 ⟨h.ed0,h.ed,fun y hy=>by cases hy⟩
  have:=h.st
  rw [if_neg (by simp [q1]),if_neg (by omega),if_neg (by omega),if_neg (by simp [q2]),q3]
def outP (a:Qf) (s:Int):List Qe:=a.zL.filter fun x=>x.From == s
def Qlk (a:Qf) (s e:Int):Int:=match a.zL.find? fun x=>x.From == s && x.Event == e with
 | some x=>x.To
 | none=>-1
section
variable {a:Qf} (h:Right a) (hs:small a)
include h hs
omit h in
theorem Qbbj {s e:Int}:Qcm a s e = some (Qlk a s e):=by
 have hb:a.zL.length < 1000000000000:=hs.2.2
 unfold Qcm Qbc
 refine (Qt1 (len:=a.zL.length) (fun k=>some (match (a.zL.drop k).find? (fun x=>x.From == s && x.Event == e) with | some x=>x.To | none=>-1)) (by unfold Qby; omega) ?_ ?_).trans (by simp [Qlk])
 ·intro k i hi ih
  rw [if_pos (by omega),Qbu hi,Qcg (by omega),ih,List.drop_eq_getElem_cons hi]
  simp only [Option.bind_some,List.find?_cons]
  cases h1:a.zL[i].From == s <;> cases h2:a.zL[i].Event == e <;> simp [h1,h2]
 ·intro k; simp
end
theorem Qbex {a:Qf} (h:Right a) (s e:Int):Qlk a s e = -1∨0≤Qlk a s e∧Qlk a s e < a.zM∧0≤s∧s < a.zM∧e∈a.zJ:=by
 unfold Qlk
 split
 ·rename_i x hx
  have hm:=List.mem_of_find?_eq_some hx
  have hp:=List.find?_some hx
  obtain ⟨k1,k2,k3,k4,k5⟩:=h.ed0 x hm
  simp at hp
  exact .inr ⟨k3,k4,by omega,by omega,hp.2 ▸ k5⟩
 ·exact .inl rfl
theorem Qbdy {a:Qf} (h:Right a) {s e:Int}:0≤Qlk a s e↔∃ x∈outP a s,x.Event = e:=by
 unfold Qlk outP
 split
 ·rename_i x hx
  have hm:=List.mem_of_find?_eq_some hx
  have hp:=List.find?_some hx
  simp at hp
  refine ⟨fun _=>⟨x,by simp [hm,hp.1],hp.2⟩,fun _=>(h.ed0 x hm).2.2.1⟩
 ·rename_i hx
  have:=List.find?_eq_none.1 hx
  refine ⟨fun h=>by omega,?_⟩
  rintro ⟨x,h1,h2⟩
  simp at h1
  exact absurd (by simp [h1.2,h2]) (this x h1.1)
theorem Q6g {a:Qf} (h:Right a) (s:Int):(outP a s).map (·.Event) = a.zJ.filter fun e=>decide (0≤Qlk a s e):=by
 refine Qbgk ?_ (h.al.filter _) fun e=>?_
 ·rw [List.pairwise_map]
  have h1:(outP a s).Pairwise Qsr:=h.ed.filter _
  have h2:∀ x∈outP a s,x.From = s:=fun x hx=>by unfold outP at hx; simp at hx; exact hx.2
  exact List.Pairwise.imp_of_mem (fun {x y} hx hy hk=>by have:=h2 x hx; have:=h2 y hy; unfold Qsr at hk; omega) h1
 ·simp only [List.mem_map,List.mem_filter,decide_eq_true_eq,Qbdy h]
  constructor
  ·rintro ⟨x,hx,rfl⟩
   refine ⟨?_,x,hx,rfl⟩
   unfold outP at hx; simp at hx; exact (h.ed0 x hx.1).2.2.2.2
  ·rintro ⟨_,x,hx,rfl⟩; exact ⟨x,hx,rfl⟩
theorem Qbdz {a:Qf} (h:Right a) {s:Int} {x:Qe} (hx:x∈outP a s):Qlk a s x.Event = x.To:=by
 unfold outP at hx
 simp at hx
 unfold Qlk
 split
 ·rename_i y hy
  have hm:=List.mem_of_find?_eq_some hy
  have hp:=List.find?_some hy
  simp at hp
  have:x = y:=by
   rcases Classical.em (x = y) with e | hne
   ·exact e
   ·exfalso
    have hk:Qsr x y∨Qsr y x:=by
     have:=List.pairwise_iff_getElem.1 h.ed
     obtain ⟨i,hi,rfl⟩:=List.getElem_of_mem hx.1
     obtain ⟨j,hj,rfl⟩:=List.getElem_of_mem hm
     rcases Nat.lt_trichotomy i j with hij | hij | hij
     ·exact .inl (this i j hi hj hij)
     ·subst hij; exact absurd rfl hne
     ·exact .inr (this j i hj hi hij)
    unfold Qsr at hk; omega
  rw [this]
 ·rename_i hn
  exact absurd (by simp [hx.2]) (List.find?_eq_none.1 hn x hx.1)
end Go.Abs
end
section
namespace Go.Abs
open Go
theorem Right.small {a:Qf} (h:Right a):small a∧a.zJ.length≤32∧a.zK.length≤4096∧a.zL.length≤131072:=by
 have h1:=Qib h.al h.al0
 have h2:=Qib h.ma h.ma0
 have h3:(a.zL.map fun x=>x.From * 32 + x.Event).Pairwise (· < ·):=by
  rw [List.pairwise_map]
  refine List.Pairwise.imp_of_mem (fun {x y} hx hy hk=>?_) h.ed
  have:=h.al0 _ (h.ed0 x hx).2.2.2.2
  have:=h.al0 _ (h.ed0 y hy).2.2.2.2
  unfold Qsr at hk; omega
 have h4:=Qib (a:=0) (b:=131072) h3 (by
  intro z hz
  obtain ⟨x,hx,rfl⟩:=List.mem_map.1 hz
  have:=h.al0 _ (h.ed0 x hx).2.2.2.2
  have:=h.ed0 x hx
  have:=h.st
  omega)
 rw [List.length_map] at h4
 have:=h.st
 refine ⟨⟨?_,?_,?_⟩,?_,?_,?_⟩ <;> (try unfold big) <;> omega
theorem Qbgl {α β:Type} {l:List α} {f:α→β} {fuel:Nat} (hl:l.length < big) (hf:l.length < fuel) {F:(List β×Int→Option (List β))→List β×Int→Option (List β)}
  (hF:∀ (k:List β×Int→Option (List β)) (acc:List β) (n:Nat) (h:n < l.length),F k (acc,(n:Int)) = (appO acc [f l[n]]).bind fun x=>k (x,IntKind.wrap .i64 ((n:Int) + 1)))
  (hlast:∀ (k:List β×Int→Option (List β)) (acc:List β),F k (acc,(l.length:Int)) = some acc):Qb1 F fuel ([],0) = some (l.map f):=by
 have hb:l.length < 1000000000000:=hl
 refine (Qhy (len:=l.length) (fun n (acc:List β)=>(acc,(n:Int))) (fun n acc=>acc.length≤n) (fun n acc=>some (acc ++ (l.drop n).map f)) ?_ ?_ fuel 0 [] (Nat.zero_le _) (by omega) (Nat.le_refl _)).trans (by simp)
 ·intro k n acc hn hi ih
  rw [hF k acc n hn,Qce (by simp only [List.length_cons,List.length_nil]; unfold lim; omega),Option.bind_some,Qcg (by omega),ih _ (by simp; omega),List.drop_eq_getElem_cons hn]
  simp only [List.map_cons,List.append_assoc,List.cons_append,List.nil_append]
 ·intro k acc _; rw [hlast]; simp
theorem Q7c {α β:Type} {l:List α} {f:α→Option β} {fuel:Nat} (hl:l.length < big) (hf:l.length < fuel) {F:(List β×Int→Option (List β))→List β×Int→Option (List β)}
  (hF:∀ (k:List β×Int→Option (List β)) (acc:List β) (n:Nat) (h:n < l.length),acc.length≤n→F k (acc,(n:Int)) = k (acc ++ (f l[n]).toList,IntKind.wrap .i64 ((n:Int) + 1)))
  (hlast:∀ (k:List β×Int→Option (List β)) (acc:List β),F k (acc,(l.length:Int)) = some acc):Qb1 F fuel ([],0) = some (l.filterMap f):=by
 have hb:l.length < 1000000000000:=hl
 refine (Qhy (len:=l.length) (fun n (acc:List β)=>(acc,(n:Int))) (fun n acc=>acc.length≤n) (fun n acc=>some (acc ++ (l.drop n).filterMap f)) ?_ ?_ fuel 0 [] (Nat.zero_le _) (by omega) (Nat.le_refl _)).trans (by simp)
 ·intro k n acc hn hi ih
  have hlen:(f l[n]).toList.length≤1:=by cases f l[n] <;> simp
  rw [hF k acc n hn hi,Qcg (by omega),ih _ (by simp only [List.length_append]; omega),List.drop_eq_getElem_cons hn]
  rw [List.filterMap_cons]
  cases f l[n] <;> simp only [Option.toList_none,Option.toList_some,List.append_nil,List.append_assoc,List.cons_append,List.nil_append]
 ·intro k acc _; rw [hlast]; simp
end Go.Abs
end
section
namespace Go.Abs
open Go
def ins (o:List Int) (t:Int):List Int:=if t∈o then o else o ++ [t]
def Q8q (a:Qf) (s:Int):List Int:=(outP a s).map (·.To)
def bfs (a:Qf):Nat→Nat→List Int→List Int
 | 0,_,o=>o
 | fuel + 1,i,o=>match o[i]? with
  | some s=>bfs a fuel (i + 1) ((Q8q a s).foldl ins o)
  | none=>o
def Quj (a:Qf):List Int:=bfs a (a.zM.toNat + 1) 0 (if 0 < a.zM then [0] else [])
structure Fnd (a:Qf) (o:List Int):Prop where
 nd:o.Nodup
 rg:∀ s∈o,0≤s∧s < a.zM
theorem Fnd.len {a:Qf} {o:List Int} (h:Fnd a o):o.length≤a.zM.toNat:=by
 have hO:Go.Sort.SWO Qit:=⟨fun x=>by simp [Qit],fun x y z h1 h2=>by simp [Qit] at *; omega,fun x y z h1 h2=>by simp [Qit] at *; omega⟩
 have hp:=Qzs Qit o
 have hs:=Qzu hO o
 have hn:(Q3l Qit o).Nodup:=(hp.nodup_iff).2 h.nd
 have hlt:(Q3l Qit o).Pairwise (· < ·):=by
  have:(Q3l Qit o).Pairwise fun x y=>Qit y x = false∧x≠y:=hs.and hn
  exact this.imp fun ⟨h1,h2⟩=>by simp [Qit] at h1; omega
 have:=Qib hlt (a:=0) (b:=a.zM) fun x hx=>h.rg x (hp.mem_iff.1 hx)
 rw [Qzt] at this
 simpa using this
theorem Qbey {o:List Int} {t x:Int}:x∈ins o t↔x∈o∨x = t:=by
 unfold ins; split
 ·rename_i h; constructor
  ·exact .inl
  ·rintro (h' | rfl)
   ·exact h'
   ·exact h
 ·simp
theorem Qbez (o:List Int) (t:Int):o <+: ins o t:=by
 unfold ins; split
 ·exact List.prefix_refl o
 ·exact List.prefix_append o [t]
theorem Fnd.ins {a:Qf} {o:List Int} (h:Fnd a o) {t:Int} (ht:0≤t∧t < a.zM):Fnd a (ins o t):=by
 refine ⟨?_,fun s hs=>?_⟩
 ·unfold Go.Abs.ins; split
  ·exact h.nd
  ·rename_i hn
   rw [List.nodup_append]
   exact ⟨h.nd,by simp,fun x hx y hy=>by simp at hy; subst hy; exact fun e=>hn (e ▸ hx)⟩
 ·rcases Qbey.1 hs with hs | rfl
  ·exact h.rg s hs
  ·exact ht
theorem Qbab {a:Qf}:∀ {ts o:List Int},Fnd a o→(∀ t∈ts,0≤t∧t < a.zM)→Fnd a (ts.foldl ins o)∧o <+: ts.foldl ins o∧(∀ t∈ts,t∈ts.foldl ins o)∧∀ x∈ts.foldl ins o,x∈o∨x∈ts
 | [],o,h,_=>⟨h,List.prefix_refl o,by simp,fun x hx=>.inl hx⟩
 | t :: ts,o,h,ht=>by
  obtain ⟨h1,h2,h3,h4⟩:=Qbab (ts:=ts) (h.ins (ht t (by simp))) fun t ht'=>ht t (by simp [ht'])
  refine ⟨h1,(Qbez o t).trans h2,fun x hx=>?_,fun x hx=>?_⟩
  ·rcases List.mem_cons.1 hx with rfl | hx
   ·exact h2.subset (Qbey.2 (.inr rfl))
   ·exact h3 x hx
  ·rcases h4 x hx with h5 | h5
   ·rcases Qbey.1 h5 with h6 | rfl
    ·exact .inl h6
    ·exact .inr (by simp)
   ·exact .inr (by simp [h5])
theorem Qbac {a:Qf} (h:Right a) (s:Int):∀ t∈Q8q a s,0≤t∧t < a.zM:=by
 intro t ht
 unfold Q8q outP at ht
 obtain ⟨x,hx,rfl⟩:=List.mem_map.1 ht
 have:=h.ed0 x ((List.mem_filter.1 hx).1)
 omega
theorem Q36 {α:Type} {l m:List α} (h:l <+: m) {i:Nat} {x:α} (hx:l[i]? = some x):m[i]? = some x:=by
 obtain ⟨t,rfl⟩:=h
 have:=(List.getElem?_eq_some_iff.1 hx).1
 rw [List.getElem?_append_left this]; exact hx
theorem Qbfv {a:Qf} (h:Right a):∀ (fuel i:Nat) (o:List Int),Fnd a o→i≤o.length→a.zM.toNat + 1≤fuel + i→(∀ j s,j < i→o[j]? = some s→∀ t∈Q8q a s,t∈o) →
  Fnd a (bfs a fuel i o)∧o <+: bfs a fuel i o∧∀ s∈bfs a fuel i o,∀ t∈Q8q a s,t∈bfs a fuel i o
 | 0,i,o,hf,hi,hfu,_=>by have:=hf.len; omega
 | fuel + 1,i,o,hf,hi,hfu,hc=>by
  unfold bfs
  cases hg:o[i]? with
  | none =>
   dsimp only
   refine ⟨hf,List.prefix_refl o,fun s hs t ht=>?_⟩
   obtain ⟨j,hj⟩:=List.getElem?_of_mem hs
   have hlt:=(List.getElem?_eq_some_iff.1 hj).1
   exact hc j s (by have:=List.getElem?_eq_none_iff.1 hg; omega) hj t ht
  | some s =>
   dsimp only
   obtain ⟨h1,h2,h3,_⟩:=Qbab hf (Qbac h s)
   have hlen:i < o.length:=(List.getElem?_eq_some_iff.1 hg).1
   have hle:=h2.length_le
   obtain ⟨k1,k2,k3⟩:=Qbfv h fuel (i + 1) ((Q8q a s).foldl ins o) h1 (by omega) (by omega) (fun j s' hj hs' t ht=>by
    by_cases hji:j < i
    ·have hjl:j < o.length:=by omega
     have:o[j]? = some s':=by
      have:=Q36 h2 (List.getElem?_eq_getElem hjl)
      rw [hs'] at this; rw [List.getElem?_eq_getElem hjl]; exact this.symm
     exact h2.subset (hc j s' hji this t ht)
    ·obtain rfl:j = i:=by omega
     have:=Q36 h2 hg
     rw [hs'] at this; cases this
     exact h3 t ht)
   exact ⟨k1,h2.trans k2,k3⟩
theorem Q77 {a:Qf} (h:Right a):Fnd a (Quj a)∧(if 0 < a.zM then [0] else []) <+: Quj a∧∀ s∈Quj a,∀ t∈Q8q a s,t∈Quj a :=
 Qbfv h _ 0 _ ⟨by split <;> simp,fun s hs=>by split at hs <;> simp at hs; subst hs; omega⟩ (Nat.zero_le _) (by omega) fun j s hj=>by omega
def Q5j (m:List Int):Nat→List Int→List Int
 | _,[]=>[]
 | i,s :: t=>(if s∈m then [(i:Int)] else []) ++ Q5j m (i + 1) t
def rowP (a:Qf) (F:List Int) (i:Nat) (s:Int):List Qe:=(outP a s).map fun x=>⟨(i:Int),x.Event,(F.idxOf x.To:Int)⟩
def Q5k (a:Qf) (F:List Int):Nat→List Int→List Qe
 | _,[]=>[]
 | i,s :: t=>rowP a F i s ++ Q5k a F (i + 1) t
def Q5l (a:Qf):Qf:=⟨a.zJ,((Quj a).length:Int),Q5j a.zK 0 (Quj a),Q5k a (Quj a) 0 (Quj a)⟩
theorem Q3q {m:List Int}:∀ {l:List Int} {i:Nat},∀ x∈Q5j m i l,(i:Int)≤x∧x < (i + l.length:Nat)
 | [],i,x,hx=>by simp [Q5j] at hx
 | s :: t,i,x,hx=>by
  simp only [Q5j,List.mem_append] at hx
  rcases hx with hx | hx
  ·split at hx <;> simp at hx
   subst hx; simp only [List.length_cons]; omega
  ·have:=Q3q x hx; simp only [List.length_cons]; omega
theorem Q7d {m:List Int}:∀ {l:List Int} {i:Nat},(Q5j m i l).Pairwise (· < ·)
 | [],i=>.nil
 | s :: t,i=>by
  simp only [Q5j]
  rw [List.pairwise_append]
  refine ⟨by split <;> simp,Q7d,fun x hx y hy=>?_⟩
  have:=Q3q y hy
  split at hx <;> simp at hx
  omega
theorem Q6h {a:Qf} {F:List Int}:∀ {l:List Int} {i:Nat},∀ x∈Q5k a F i l,(i:Int)≤x.From∧x.From < (i + l.length:Nat)∧∃ s∈l,∃ y∈outP a s,x.Event = y.Event∧x.To = (F.idxOf y.To:Int)
 | [],i,x,hx=>by simp [Q5k] at hx
 | s :: t,i,x,hx=>by
  simp only [Q5k,List.mem_append] at hx
  rcases hx with hx | hx
  ·obtain ⟨y,hy,rfl⟩:=List.mem_map.1 hx
   simp only [List.length_cons]
   exact ⟨by omega,by omega,s,by simp,y,hy,rfl,rfl⟩
  ·obtain ⟨h1,h2,s',h3,h4⟩:=Q6h x hx
   simp only [List.length_cons]
   exact ⟨by omega,by omega,s',by simp [h3],h4⟩
theorem Q7e {a:Qf} (h:Right a) {F:List Int}:∀ {l:List Int} {i:Nat},(Q5k a F i l).Pairwise Qsr
 | [],i=>.nil
 | s :: t,i=>by
  simp only [Q5k]
  rw [List.pairwise_append]
  refine ⟨?_,Q7e h,fun x hx y hy=>?_⟩
  ·unfold rowP
   rw [List.pairwise_map]
   have h1:(outP a s).Pairwise Qsr:=h.ed.filter _
   have h2:∀ x∈outP a s,x.From = s:=fun x hx=>by unfold outP at hx; simp at hx; exact hx.2
   exact List.Pairwise.imp_of_mem (fun {x y} hx hy hk=>by have:=h2 x hx; have:=h2 y hy; unfold Qsr at hk; exact .inr ⟨rfl,by show x.Event < y.Event; omega⟩) h1
  ·obtain ⟨z,_,rfl⟩:=List.mem_map.1 hx
   have:=(Q6h y hy).1
   unfold Qsr; simp only; omega
theorem Qbd0 {a:Qf} (h:Right a):Right (Q5l a):=by
 obtain ⟨h1,h2,h3⟩:=Q77 h
 have hl:=h1.len
 have hst:=h.st
 refine ⟨h.al0,h.al,⟨by simp only [Q5l]; omega,by simp only [Q5l]; omega⟩,fun x hx=>?_,Q7d,fun x hx=>?_,Q7e h⟩
 ·have:=Q3q x hx; simp only [Q5l]; omega
 ·obtain ⟨k1,k2,s,hs,y,hy,k3,k4⟩:=Q6h x hx
  have hy' : y.To∈Quj a:=h3 s hs y.To (List.mem_map.2 ⟨y,hy,rfl⟩)
  have:=List.idxOf_lt_length_iff.2 hy'
  simp only [Q5l]
  refine ⟨by omega,by omega,by omega,by omega,?_⟩
  rw [k3]
  unfold outP at hy
  exact (h.ed0 y ((List.mem_filter.1 hy).1)).2.2.2.2
end Go.Abs
end
section
namespace Go.Abs
open Go
theorem Qbfw {l:List Int} (hl:l.length≤lim):Qeh l = some ⟨l,0,[],[]⟩:=by
 unfold Qeh Q6
 rw [Qce (by simpa using hl)]; rfl
theorem Qbe0 {l:List Int} {v:Int} (hl:l.length < big):Qei l v = some (if v∈l then (l.idxOf v:Int) else -1):=by
 have hb:l.length < 1000000000000:=hl
 unfold Qei Qcc
 refine (Qt1 (len:=l.length) (fun k=>some (if v∈l.drop k then ((k + (l.drop k).idxOf v:Nat):Int) else -1)) (by unfold Qby; omega) ?_ ?_).trans (by simp)
 ·intro k i hi ih
  rw [if_pos (by omega),Qbu hi,Qcg (by omega),ih,List.drop_eq_getElem_cons hi]
  simp only [Option.bind_some,List.mem_cons,List.idxOf_cons]
  by_cases h:v = l[i]
  ·simp [← h]
  ·have h' : ¬ l[i] = v:=fun e=>h e.symm
   have hbq:(l[i] == v) = false:=by simp [h']
   by_cases h2:v∈l.drop (i + 1) <;> simp [h,h2,hbq]
   omega
 ·intro k; simp
theorem Q8k {a:Qf} (h:Right a) (s:Int):Q8q a s = (a.zJ.filter fun e=>decide (0≤Qlk a s e)).map (Qlk a s):=by
 rw [← Q6g h,List.map_map]
 unfold Q8q
 exact List.map_congr_left fun x hx=>(Qbdz h hx).symm
theorem Qbbk {a:Qf} (s:Int):∀ (al o:List Int),al.foldl (fun o e=>if 0≤Qlk a s e then ins o (Qlk a s e) else o) o = ((al.filter fun e=>decide (0≤Qlk a s e)).map (Qlk a s)).foldl ins o
 | [],o=>rfl
 | e :: al,o=>by
  by_cases hx:0≤Qlk a s e <;> simp [List.filter_cons,hx,Qbbk s al]
theorem Qbjx {a:Qf} {fuel i:Nat} {o:List Int} (hi:i < o.length):bfs a (fuel + 1) i o = bfs a fuel (i + 1) ((Q8q a o[i]).foldl ins o):=by
 conv=>lhs; unfold bfs
 rw [List.getElem?_eq_getElem hi]
theorem Qblp {a:Qf} {fuel:Nat} {o:List Int}:bfs a fuel o.length o = o:=by
 cases fuel with
 | zero=>rfl
 | succ n=>unfold bfs; simp
section
variable {a:Qf} (h:Right a)
include h
theorem Qbgm (fuel:Nat) (hfu:1099511627776≤fuel) {s:Int} {o:List Int} {i:Nat} (hf:Fnd a o) (hi:o[i]? = some s) :
  Qb1 (fun k12 ((out10,k11):(List Int)×Int)=>(if (k11 < (a.zJ.length:Int)) then ((((getO out10 (i:Int)).bind fun x14=>((getO a.zJ k11).bind fun x16=>((Qcm a x14 x16).bind fun x19=>(((if (x19≥0) then ((Qc6 out10 x19).bind fun x22=>some (!x22)) else some false)).bind fun (x23:Bool)=>(if x23 then ((appO out10 [x19]).bind fun x25=>some x25) else some out10)))))).bind fun (out27:List Int)=>k12 (out27,(IntKind.wrap .i64 (k11 + 1)))) else some out10)) fuel (o,0) = some ((Q8q a s).foldl ins o):=by
 have hs:=h.small.1
 have hst:=h.st
 have hb:a.zJ.length < 1000000000000:=hs.1
 rw [Q8k h,← Qbbk]
 refine (Qhy (len:=a.zJ.length) (fun n (acc:List Int)=>(acc,(n:Int))) (fun n acc=>Fnd a acc∧acc[i]? = some s) (fun n acc=>some ((a.zJ.drop n).foldl (fun o e=>if 0≤Qlk a s e then ins o (Qlk a s e) else o) acc)) ?_ ?_ fuel 0 o (Nat.zero_le _) (by omega) ⟨hf,hi⟩).trans (by simp)
 ·intro k n acc hn ⟨k1,k2⟩ ih
  have hlen:=k1.len
  have hg:getO acc (i:Int) = some s:=by rw [Qbdv]; exact ⟨by omega,by simpa using k2⟩
  dsimp only
  rw [if_pos (by omega),hg,Qbu hn]
  simp only [Option.bind_some]
  rw [Qbbj hs,Qcg (by omega)]
  simp only [Option.bind_some]
  rw [Qbkr (by unfold big; omega),List.drop_eq_getElem_cons hn,List.foldl_cons]
  rcases Qbex h s a.zJ[n] with hr | hr
  ·rw [hr]; simp only [show ¬ ((-1:Int)≥0) from by omega,show ¬ ((0:Int) ≤ -1) from by omega,if_false,Option.bind_some,Bool.false_eq_true]
   exact ih _ ⟨k1,k2⟩
  ·have hge:Qlk a s a.zJ[n]≥0:=hr.1
   by_cases hm:Qlk a s a.zJ[n]∈acc
   ·simp only [hge,hm,decide_true,Bool.not_true,if_true,Option.bind_some,Bool.false_eq_true,if_false,hr.1,ins]
    exact ih _ ⟨k1,k2⟩
   ·simp only [hge,hm,decide_false,Bool.not_false,if_true,Option.bind_some,hr.1,ins,if_false]
    rw [Qce (by simp only [List.length_cons,List.length_nil]; unfold lim; omega)]
    simp only [Option.bind_some]
    have hi':=k1.ins (t:=Qlk a s a.zJ[n]) ⟨hr.1,hr.2.1⟩
    unfold ins at hi'
    rw [if_neg hm] at hi'
    exact ih _ ⟨hi',Q36 (List.prefix_append acc _) k2⟩
 ·intro k acc _
  dsimp only
  rw [if_neg (by omega)]; simp
theorem Qbe1:Qfz a = some (Quj a):=by
 have hs:=h.small.1
 have hst:=h.st
 unfold Qfz Qcb
 obtain ⟨fuel,hfu,hge⟩ : ∃ f,Qby = f∧1099511627776≤f:=⟨_,rfl,Nat.le_refl _⟩
 rw [hfu]
 have hloop:∀ o:List Int,Fnd a o→Qb1 (fun (k8:List Int×Int→Option (List Int)) ((out6,i7):(List Int)×Int)=>(if (i7 < (out6.length:Int)) then ((Qb1 (fun k12 ((out10,k11):(List Int)×Int)=>(if (k11 < (a.zJ.length:Int)) then ((((getO out10 i7).bind fun x14=>((getO a.zJ k11).bind fun x16=>((Qcm a x14 x16).bind fun x19=>(((if (x19≥0) then ((Qc6 out10 x19).bind fun x22=>some (!x22)) else some false)).bind fun (x23:Bool)=>(if x23 then ((appO out10 [x19]).bind fun x25=>some x25) else some out10)))))).bind fun (out27:List Int)=>k12 (out27,(IntKind.wrap .i64 (k11 + 1)))) else some out10)) fuel (out6,0)).bind fun (out28:List Int)=>k8 (out28,(IntKind.wrap .i64 (i7 + 1)))) else some out6)) fuel (o,0) = some (bfs a (a.zM.toNat + 1) 0 o):=by
  intro o ho
  have:=Qia (F:=fun (k8:List Int×Int→Option (List Int)) ((out6,i7):(List Int)×Int)=>(if (i7 < (out6.length:Int)) then ((Qb1 (fun k12 ((out10,k11):(List Int)×Int)=>(if (k11 < (a.zJ.length:Int)) then ((((getO out10 i7).bind fun x14=>((getO a.zJ k11).bind fun x16=>((Qcm a x14 x16).bind fun x19=>(((if (x19≥0) then ((Qc6 out10 x19).bind fun x22=>some (!x22)) else some false)).bind fun (x23:Bool)=>(if x23 then ((appO out10 [x19]).bind fun x25=>some x25) else some out10)))))).bind fun (out27:List Int)=>k12 (out27,(IntKind.wrap .i64 (k11 + 1)))) else some out10)) fuel (out6,0)).bind fun (out28:List Int)=>k8 (out28,(IntKind.wrap .i64 (i7 + 1)))) else some out6))
   (fun x=>∃ i:Nat,x.2 = (i:Int)∧i≤x.1.length∧Fnd a x.1) (fun x=>a.zM.toNat + 1 - x.2.toNat) (fun x r=>r = some (bfs a (a.zM.toNat + 1 - x.2.toNat) x.2.toNat x.1)) (by
    rintro k ⟨o,i⟩ ⟨i,rfl,hi,hf⟩ ih
    replace hi:i≤o.length:=hi
    replace hf:Fnd a o:=hf
    have hl:=hf.len
    dsimp only
    by_cases hlt:i < o.length
    ·rw [if_pos (by omega),Qbgm h fuel hge hf (List.getElem?_eq_getElem hlt),Option.bind_some,Qcg (by omega)]
     obtain ⟨q1,q2,_,_⟩:=Qbab hf (Qbac h o[i])
     have hle:=q2.length_le
     rw [ih _ ⟨i + 1,rfl,by simp only; omega,q1⟩ (by simp only; omega)]
     simp only [Int.toNat_natCast]
     rw [show a.zM.toNat + 1 - i = (a.zM.toNat + 1 - (i + 1)) + 1 from by omega,Qbjx hlt]
    ·rw [if_neg (by omega)]
     obtain rfl:i = o.length:=by omega
     simp only [Int.toNat_natCast,Qblp]) fuel (o,0) ⟨0,rfl,Nat.zero_le _,ho⟩ (by simp only; omega)
  simpa using this
 by_cases h0:0 < a.zM
 ·rw [if_pos (by omega),Qce (by simp only [List.length_cons,List.length_nil]; unfold lim; omega)]
  simp only [Option.bind_some]
  rw [show ([] ++ [0]:List Int) = [0] from rfl,hloop [0] ⟨by simp,fun s hs=>by simp at hs; subst hs; omega⟩]
  simp only [Option.bind_some,Quj,if_pos h0]
 ·rw [if_neg (by omega)]
  simp only [Option.bind_some]
  rw [hloop [] ⟨by simp,fun s hs=>by simp at hs⟩]
  simp only [Option.bind_some,Quj,if_neg h0]
theorem Qbbl (fuel:Nat) (hfu:1099511627776≤fuel) {F:List Int} (hF:Fnd a F) (hcl:∀ s∈F,∀ t∈Q8q a s,t∈F) {s:Int} {i:Nat} (hi:F[i]? = some s) (ms:List Int) (es:List Qe) (hes:es.length≤200000) :
  Qb1 (fun (k24:Int×List Qe→Option (List Int×List Qe)) ((k22,out23):Int×(List Qe))=>(if (k22 < (a.zJ.length:Int)) then ((((getO F (i:Int)).bind fun x26=>((getO a.zJ k22).bind fun x28=>((Qcm a x26 x28).bind fun x31=>(if (x31≥0) then ((getO a.zJ k22).bind fun x33=>((Qei F x31).bind fun x36=>((appO out23 [(Qe.mk (i:Int) x33 x36)]).bind fun x37=>some x37))) else some out23))))).bind fun (out39:List Qe)=>k24 ((IntKind.wrap .i64 (k22 + 1)),out39)) else some (ms,out23))) fuel (0,es) = some (ms,es ++ rowP a F i s):=by
 have hs:=h.small.1
 have hst:=h.st
 have hal:=h.small.2.1
 have hb:a.zJ.length < 1000000000000:=hs.1
 have hFl:=hF.len
 have hrow:rowP a F i s = (a.zJ.filter fun e=>decide (0≤Qlk a s e)).map fun e=>⟨(i:Int),e,(F.idxOf (Qlk a s e):Int)⟩:=by
  rw [← Q6g h,List.map_map]
  unfold rowP
  exact List.map_congr_left fun x hx=>by simp only [Function.comp]; rw [Qbdz h hx]
 rw [hrow]
 refine (Qhy (len:=a.zJ.length) (fun n (acc:List Qe)=>((n:Int),acc)) (fun n acc=>acc.length≤200000 + n) (fun n acc=>some (ms,acc ++ ((a.zJ.drop n).filter fun e=>decide (0≤Qlk a s e)).map fun e=>⟨(i:Int),e,(F.idxOf (Qlk a s e):Int)⟩)) ?_ ?_ fuel 0 es (Nat.zero_le _) (by omega) (by omega)).trans (by simp)
 ·intro k n acc hn k1 ih
  have hg:getO F (i:Int) = some s:=by rw [Qbdv]; exact ⟨by omega,by simpa using hi⟩
  dsimp only
  rw [if_pos (by omega),hg,Qbu hn]
  simp only [Option.bind_some]
  rw [Qbbj hs,Qcg (by omega)]
  simp only [Option.bind_some]
  rw [List.drop_eq_getElem_cons hn,List.filter_cons]
  by_cases hr:0≤Qlk a s a.zJ[n]
  ·have hm:Qlk a s a.zJ[n]∈F:=hcl s (List.mem_of_getElem? hi) _ (by rw [Q8k h]; exact List.mem_map.2 ⟨_,List.mem_filter.2 ⟨List.getElem_mem hn,by simpa using hr⟩,rfl⟩)
   rw [if_pos hr,Qbe0 (by unfold big; omega),if_pos hm]
   simp only [Option.bind_some]
   rw [Qce (by simp only [List.length_cons,List.length_nil]; unfold lim; omega)]
   simp only [Option.bind_some]
   rw [ih _ (by simp only [List.length_append,List.length_cons,List.length_nil]; omega)]
   simp only [hr,decide_true,if_true,List.map_cons,List.append_assoc,List.cons_append,List.nil_append]
  ·rw [if_neg (by omega)]
   simp only [Option.bind_some]
   rw [ih _ (by omega)]
   simp only [hr,decide_false,Bool.false_eq_true,if_false]
 ·intro k acc _
  dsimp only
  rw [if_neg (by omega)]; simp
theorem Qbjy {F:List Int} {i:Nat} {s:Int}:(rowP a F i s).length≤32:=by
 have:=h.small.2.1
 have h1:(rowP a F i s).length = ((outP a s).map (·.Event)).length:=by simp [rowP]
 rw [h1,Q6g h]
 exact Nat.le_trans (List.length_filter_le _ _) this
theorem Qbad:Qd9 a = some (Q5l a):=by
 have hs:=h.small.1
 have hst:=h.st
 have hal:=h.small.2.1
 have hb:a.zJ.length < 1000000000000:=hs.1
 obtain ⟨hF,_,hcl⟩:=Q77 h
 have hFl:=hF.len
 unfold Qd9 Qbq
 obtain ⟨fuel,hfu,hge⟩ : ∃ f,Qby = f∧1099511627776≤f:=⟨_,rfl,Nat.le_refl _⟩
 rw [hfu,Qbe1 h,Option.bind_some,Qbfw (by unfold lim; omega),Option.bind_some]
 unfold Q5l
 generalize Quj a = F at hF hcl hFl
 show Option.bind (Qb1 _ fuel (((0:Nat):Int),[],[],[],[],[])) _ = _
 rw [Qhy (len:=F.length) (R:=List Int×List Int×List Qe×List Int×List Qe) (fun n (acc:List Int×List Qe)=>((n:Int),([]:List Int),([]:List Int),([]:List Qe),acc.1,acc.2)) (fun n acc=>acc.1.length≤n∧acc.2.length≤32 * n)
  (fun n acc=>some (([]:List Int),([]:List Int),([]:List Qe),acc.1 ++ Q5j a.zK n (F.drop n),acc.2 ++ Q5k a F n (F.drop n))) ?_ ?_ fuel 0 ([],[]) (Nat.zero_le _) (by omega) ⟨Nat.zero_le _,Nat.zero_le _⟩]
 ·simp
 ·rintro k n ⟨ms,es⟩ hn ⟨k1,k2⟩ ih
  replace k1:ms.length≤n:=k1
  replace k2:es.length≤32 * n:=k2
  have hg:=List.getElem?_eq_getElem hn
  dsimp only
  rw [if_pos (by omega),Qbu hn]
  simp only [Option.bind_some]
  rw [Qbkr hs.2.1]
  simp only [Option.bind_some]
  have hrl:=Qbjy h (F:=F) (i:=n) (s:=F[n])
  rw [List.drop_eq_getElem_cons hn]
  simp only [Q5j,Q5k]
  by_cases hm:F[n]∈a.zK
  ·simp only [hm,decide_true,if_true]
   rw [Qce (by simp only [List.length_cons,List.length_nil]; unfold lim; omega)]
   simp only [Option.bind_some]
   have:=Qbbl h fuel hge hF hcl hg (ms ++ [(n:Int)]) es (by omega)
   rw [Qbu hn] at this
   simp only [Option.bind_some] at this
   rw [this]
   simp only [Option.bind_some]
   rw [Qcg (by omega),ih (ms ++ [(n:Int)],es ++ rowP a F n F[n]) ⟨by simp only [List.length_append,List.length_cons,List.length_nil]; omega,by simp only [List.length_append]; omega⟩]
   simp only [List.append_assoc]
  ·simp only [hm,decide_false,Bool.false_eq_true,if_false,Option.bind_some]
   have:=Qbbl h fuel hge hF hcl hg ms es (by omega)
   rw [Qbu hn] at this
   simp only [Option.bind_some] at this
   rw [this]
   simp only [Option.bind_some]
   rw [Qcg (by omega),ih (ms,es ++ rowP a F n F[n]) ⟨by simp only; omega,by simp only [List.length_append]; omega⟩]
   simp only [List.append_assoc,List.nil_append]
 ·rintro k ⟨ms,es⟩ _
  dsimp only
  rw [if_neg (by omega)]
  simp [Q5j,Q5k]
end
end Go.Abs
end
section
namespace Go.Abs
open Go
structure Evs (l:List Int):Prop where
 rg:∀ x∈l,0≤x∧x < 5
 so:l.Pairwise (· < ·)
theorem Evs.len {l:List Int} (h:Evs l):l.length≤5:=by have:=Qib h.so h.rg; simpa using this
def Qbin:List Int→Bool
 | []=>true
 | x :: xs=>xs.all (fun y=>decide (x < y)) && Qbin xs
theorem Qbae:∀ {l:List Int},Qbin l = true→l.Pairwise (· < ·)
 | [],_=>.nil
 | x :: xs,h=>by
  simp only [Qbin,Bool.and_eq_true,List.all_eq_true,decide_eq_true_eq] at h
  exact List.pairwise_cons.2 ⟨h.1,Qbae h.2⟩
def evB (s:Nat):Bool:=match Qcu (s:Int) with
 | some l=>Qbin l && l.all fun x=>decide (0≤x) && decide (x < 5)
 | none=>false
theorem Qblq:(List.range 256).all evB = true:=by kernel_rfl
theorem Qbio {s:Int} (h0:0≤s) (h1:s < 256):∃ l,Qcu s = some l∧Evs l:=by
 have:=List.all_eq_true.1 Qblq s.toNat (List.mem_range.2 (by omega))
 unfold evB at this
 rw [show ((s.toNat:Nat):Int) = s from by omega] at this
 split at this
 ·rename_i l hl
  simp only [Bool.and_eq_true,List.all_eq_true,decide_eq_true_eq] at this
  exact ⟨l,hl,fun x hx=>this.2 x hx,Qbae this.1⟩
 ·cases this
structure Mks (n:Nat) (ms:List Int):Prop where
 rg:∀ x∈ms,0≤x∧x < n
 so:ms.Pairwise (· < ·)
structure Eds (al:List Int) (N:Int) (i k:Nat) (es:List Qe):Prop where
 rg:∀ x∈es,0≤x.From∧0≤x.To∧x.To < N∧x.Event∈al∧(x.From < i∨x.From = i∧∃ j:Nat,j < k∧al[j]? = some x.Event)
 so:es.Pairwise Qsr
 ln:es.length≤5 * i + k
theorem Mks.up {n:Nat} {ms:List Int} (h:Mks n ms):Mks (n + 1) ms:=⟨fun x hx=>by have:=h.rg x hx; omega,h.so⟩
theorem Mks.add {n:Nat} {ms:List Int} (h:Mks n ms):Mks (n + 1) (ms ++ [(n:Int)]):=by
 refine ⟨fun x hx=>?_,?_⟩
 ·rcases List.mem_append.1 hx with hx | hx
  ·have:=h.rg x hx; omega
  ·simp at hx; omega
 ·rw [List.pairwise_append]
  exact ⟨h.so,by simp,fun x hx y hy=>by simp at hy; have:=h.rg x hx; omega⟩
theorem Mks.len {n:Nat} {ms:List Int} (h:Mks n ms):ms.length≤n:=by have:=Qib h.so h.rg; simpa using this
section
variable {al:List Int} (hal:Evs al) {N:Int} {i k:Nat} {es:List Qe}
theorem Eds.up (h:Eds al N i k es):Eds al N i (k + 1) es:=⟨fun x hx=>by
 obtain ⟨h1,h2,h3,h4,h5⟩:=h.rg x hx
 refine ⟨h1,h2,h3,h4,?_⟩
 rcases h5 with h5 | ⟨h5,j,h6,h7⟩
 ·exact .inl h5
 ·exact .inr ⟨h5,j,by omega,h7⟩,h.so,by have:=h.ln; omega⟩
theorem Eds.next (h:Eds al N i k es) (hk:k≤5):Eds al N (i + 1) 0 es:=⟨fun x hx=>by
 obtain ⟨h1,h2,h3,h4,h5⟩:=h.rg x hx
 exact ⟨h1,h2,h3,h4,.inl (by rcases h5 with h5 | ⟨h5,_⟩ <;> omega)⟩,h.so,by have:=h.ln; omega⟩
include hal in
theorem Eds.add (h:Eds al N i k es) (hk:k < al.length) {t:Int} (ht:0≤t∧t < N):Eds al N i (k + 1) (es ++ [⟨(i:Int),al[k],t⟩]):=by
 refine ⟨fun x hx=>?_,?_,by have:=h.ln; simp only [List.length_append,List.length_cons,List.length_nil]; omega⟩
 ·rcases List.mem_append.1 hx with hx | hx
  ·exact h.up.rg x hx
  ·simp at hx; subst hx
   exact ⟨by simp only; omega,ht.1,ht.2,List.getElem_mem hk,.inr ⟨rfl,k,by omega,List.getElem?_eq_getElem hk⟩⟩
 ·rw [List.pairwise_append]
  refine ⟨h.so,by simp,fun x hx y hy=>?_⟩
  simp at hy; subst hy
  obtain ⟨_,_,_,_,h5⟩:=h.rg x hx
  rcases h5 with h5 | ⟨h5,j,h6,h7⟩
  ·exact .inl h5
  ·refine .inr ⟨h5,?_⟩
   obtain ⟨h8,h9⟩:=List.getElem?_eq_some_iff.1 h7
   rw [← h9]
   exact List.pairwise_iff_getElem.1 hal.so j k h8 hk h6
end
structure Qbip (g:Qbj):Prop where
 st:0≤g.zM∧g.zM < 256
 to:∀ x∈[g.To.1.1,g.To.1.2.1,g.To.1.2.2.1,g.To.1.2.2.2.1,g.To.1.2.2.2.2,g.To.2.1.1,g.To.2.1.2.1,g.To.2.1.2.2.1,g.To.2.1.2.2.2.1,g.To.2.1.2.2.2.2,g.To.2.2.1.1,g.To.2.2.1.2.1,g.To.2.2.1.2.2.1,g.To.2.2.1.2.2.2.1,g.To.2.2.1.2.2.2.2,g.To.2.2.2.1.1,g.To.2.2.2.1.2.1,g.To.2.2.2.1.2.2.1,g.To.2.2.2.1.2.2.2.1,g.To.2.2.2.1.2.2.2.2,g.To.2.2.2.2.1,g.To.2.2.2.2.2.1,g.To.2.2.2.2.2.2.1,g.To.2.2.2.2.2.2.2.1,g.To.2.2.2.2.2.2.2.2],0≤x∧x < 256
theorem Qbfx {al:List Int} (hal:Evs al) (fuel:Nat) (hfu:1099511627776≤fuel) {L:List Int} (hL:L.length = 25) (hL2:∀ x∈L,0≤x∧x < 256) {N:Int} (hN:1≤N∧N≤5) {i:Nat} (hi:(i:Int) < N) {ms:List Int} {es:List Qe} (hes:Eds al N i 0 es) :
  ∃ es',Eds al N (i + 1) 0 es' ∧ Qb1 (fun (k25:Int×List Qe→Option (List Int×List Qe)) ((k23,a24):Int×(List Qe))=>(((if (k23 < (al.length:Int)) then some (decide (k23 < 5)) else some false)).bind fun (x27:Bool)=>(if x27 then ((((inO 5 (i:Int)).bind fun _=>((inO 5 k23).bind fun _=>((rowO L (Int.toNat (i:Int) * 5 + Int.toNat k23 * 1)).bind fun x31=>((remO .i64 (IntKind.wrap .i64 x31) (IntKind.wrap .i64 (N + 2))).bind fun s33=>(if (s33 < N) then ((getO al k23).bind fun x36=>((appO a24 [(Qe.mk (i:Int) x36 s33)]).bind fun x38=>some x38)) else some a24)))))).bind fun (a40:List Qe)=>k25 ((IntKind.wrap .i64 (k23 + 1)),a40)) else some (ms,a24)))) fuel (0,es) = some (ms,es'):=by
 have hl:=hal.len
 have:=Qia (F:=fun (k25:Int×List Qe→Option (List Int×List Qe)) ((k23,a24):Int×(List Qe))=>(((if (k23 < (al.length:Int)) then some (decide (k23 < 5)) else some false)).bind fun (x27:Bool)=>(if x27 then ((((inO 5 (i:Int)).bind fun _=>((inO 5 k23).bind fun _=>((rowO L (Int.toNat (i:Int) * 5 + Int.toNat k23 * 1)).bind fun x31=>((remO .i64 (IntKind.wrap .i64 x31) (IntKind.wrap .i64 (N + 2))).bind fun s33=>(if (s33 < N) then ((getO al k23).bind fun x36=>((appO a24 [(Qe.mk (i:Int) x36 s33)]).bind fun x38=>some x38)) else some a24)))))).bind fun (a40:List Qe)=>k25 ((IntKind.wrap .i64 (k23 + 1)),a40)) else some (ms,a24))))
  (fun x=>∃ k:Nat,x.1 = (k:Int)∧k≤al.length∧Eds al N i k x.2) (fun x=>al.length - x.1.toNat) (fun _ r=>∃ es',r = some (ms,es')∧Eds al N (i + 1) 0 es') (by
   rintro kk ⟨k,es⟩ ⟨k,rfl,hk,he⟩ ih
   replace he:Eds al N i k es:=he
   replace hk:k≤al.length:=hk
   dsimp only
   by_cases hlt:k < al.length
   ·rw [if_pos (by omega)]
    simp only [Option.bind_some,show decide ((k:Int) < 5) = true from by simp; omega,if_true]
    rw [show inO 5 (i:Int) = some () from by unfold inO; rw [if_pos (by omega)],show inO 5 (k:Int) = some () from by unfold inO; rw [if_pos (by omega)]]
    simp only [Option.bind_some,Int.toNat_natCast]
    have hidx:i * 5 + k * 1 < L.length:=by omega
    have hx:=hL2 _ (List.getElem_mem hidx)
    rw [show rowO L (i * 5 + k * 1) = some L[i * 5 + k * 1] from by unfold rowO; exact List.getElem?_eq_getElem hidx]
    simp only [Option.bind_some]
    rw [Qnd (x:=L[i * 5 + k * 1]) (by omega) (by omega),Qnd (x:=N + 2) (by omega) (by omega),show remO .i64 L[i * 5 + k * 1] (N + 2) = some (L[i * 5 + k * 1].tmod (N + 2)) from by unfold remO; rw [if_neg (by omega)]]
    simp only [Option.bind_some]
    have hmod:0≤L[i * 5 + k * 1].tmod (N + 2):=Int.tmod_nonneg _ hx.1
    have hln:=he.ln
    by_cases hm:L[i * 5 + k * 1].tmod (N + 2) < N
    ·rw [if_pos hm,Qbu hlt]
     simp only [Option.bind_some]
     rw [Qce (by simp only [List.length_cons,List.length_nil]; unfold lim; omega)]
     simp only [Option.bind_some]
     rw [Qcg (by omega)]
     exact ih _ ⟨k + 1,rfl,hlt,he.add hal hlt ⟨hmod,hm⟩⟩ (by simp only; omega)
    ·rw [if_neg hm]
     simp only [Option.bind_some]
     rw [Qcg (by omega)]
     exact ih _ ⟨k + 1,rfl,hlt,he.up⟩ (by simp only; omega)
   ·rw [if_neg (by omega)]
    exact ⟨es,rfl,he.next (by omega)⟩) fuel (0,es) ⟨0,rfl,Nat.zero_le _,hes⟩ (by simp only; omega)
 obtain ⟨es',h1,h2⟩:=this
 exact ⟨es',h2,h1⟩
theorem Qbe2 {al:List Int} (hal:Evs al):Right ⟨al,0,[],[]⟩ :=
 ⟨fun x hx=>by have:=hal.rg x hx; omega,hal.so,⟨by simp,by simp⟩,by simp,.nil,by simp,.nil⟩
theorem Qblr {al:List Int} (hal:Evs al) {g:Qbj} (hg:Qbip g):∃ m,Right m∧m.zJ = al∧Qgd al g = some (Q5l m)∧m.zM≤5:=by
 have hl:=hal.len
 obtain ⟨hst,hto⟩:=hg
 unfold Qgd Qcj
 obtain ⟨fuel,hfu,hge⟩ : ∃ f,Qby = f∧1099511627776≤f:=⟨_,rfl,Nat.le_refl _⟩
 rw [hfu,Qbfw (by unfold lim; omega)]
 simp only [Option.bind_some]
 by_cases h250:g.zM≥250
 ·rw [if_pos h250]
  exact ⟨⟨al,0,[],[]⟩,Qbe2 hal,rfl,rfl,by simp⟩
 rw [if_neg h250]
 have hL:[g.To.1.1,g.To.1.2.1,g.To.1.2.2.1,g.To.1.2.2.2.1,g.To.1.2.2.2.2,g.To.2.1.1,g.To.2.1.2.1,g.To.2.1.2.2.1,g.To.2.1.2.2.2.1,g.To.2.1.2.2.2.2,g.To.2.2.1.1,g.To.2.2.1.2.1,g.To.2.2.1.2.2.1,g.To.2.2.1.2.2.2.1,g.To.2.2.1.2.2.2.2,g.To.2.2.2.1.1,g.To.2.2.2.1.2.1,g.To.2.2.2.1.2.2.1,g.To.2.2.2.1.2.2.2.1,g.To.2.2.2.1.2.2.2.2,g.To.2.2.2.2.1,g.To.2.2.2.2.2.1,g.To.2.2.2.2.2.2.1,g.To.2.2.2.2.2.2.2.1,g.To.2.2.2.2.2.2.2.2].length = 25:=rfl
 generalize [g.To.1.1,g.To.1.2.1,g.To.1.2.2.1,g.To.1.2.2.2.1,g.To.1.2.2.2.2,g.To.2.1.1,g.To.2.1.2.1,g.To.2.1.2.2.1,g.To.2.1.2.2.2.1,g.To.2.1.2.2.2.2,g.To.2.2.1.1,g.To.2.2.1.2.1,g.To.2.2.1.2.2.1,g.To.2.2.1.2.2.2.1,g.To.2.2.1.2.2.2.2,g.To.2.2.2.1.1,g.To.2.2.2.1.2.1,g.To.2.2.2.1.2.2.1,g.To.2.2.2.1.2.2.2.1,g.To.2.2.2.1.2.2.2.2,g.To.2.2.2.2.1,g.To.2.2.2.2.2.1,g.To.2.2.2.2.2.2.1,g.To.2.2.2.2.2.2.2.1,g.To.2.2.2.2.2.2.2.2] = L at hto hL ⊢
 have hmod:0≤g.zM.tmod 5∧g.zM.tmod 5 < 5:=⟨Int.tmod_nonneg _ hst.1,Int.tmod_lt_of_pos _ (by omega)⟩
 have hN:1≤IntKind.wrap .i64 (1 + (IntKind.wrap .i64 (Int.tmod g.zM 5)))∧IntKind.wrap .i64 (1 + (IntKind.wrap .i64 (Int.tmod g.zM 5)))≤5:=by
  rw [Qnd (x:=g.zM.tmod 5) (by omega) (by omega),Qnd (by omega) (by omega)]; omega
 generalize IntKind.wrap .i64 (1 + (IntKind.wrap .i64 (Int.tmod g.zM 5))) = N at hN ⊢
 have hloop:=Qia (F:=(fun (k15:Int×List Int×List Int×List Qe×Int×List Int×List Qe→Option (List Int×List Int×List Qe×Int×List Int×List Qe)) ((i8,c9,c10,c11,a12,a13,a14):Int×(List Int)×(List Int)×(List Qe)×Int×(List Int)×(List Qe))=>(if (i8 < a12) then ((((((shrO .u8 g.Marks i8).bind fun s17=>(if ((andI .u8 s17 1) == 1) then ((appO a13 [i8]).bind fun x20=>some x20) else some a13))).bind fun (a22:List Int)=>Qb1 (fun k25 ((k23,a24):Int×(List Qe))=>(((if (k23 < (al.length:Int)) then some (decide (k23 < 5)) else some false)).bind fun (x27:Bool)=>(if x27 then ((((inO 5 i8).bind fun _=>((inO 5 k23).bind fun _=>((rowO L (Int.toNat i8 * 5 + Int.toNat k23 * 1)).bind fun x31=>((remO .i64 (IntKind.wrap .i64 x31) (IntKind.wrap .i64 (a12 + 2))).bind fun s33=>(if (s33 < a12) then ((getO al k23).bind fun x36=>((appO a24 [(Qe.mk i8 x36 s33)]).bind fun x38=>some x38)) else some a24)))))).bind fun (a40:List Qe)=>k25 ((IntKind.wrap .i64 (k23 + 1)),a40)) else some (a22,a24)))) fuel (0,a14))).bind fun ((a41,a42):(List Int)×(List Qe))=>k15 ((IntKind.wrap .i64 (i8 + 1)),c9,c10,c11,a12,a41,a42)) else some (c9,c10,c11,a12,a13,a14))))
  (fun x=>∃ (i:Nat) (ms:List Int) (es:List Qe),x = ((i:Int),[],[],[],N,ms,es)∧(i:Int)≤N∧Mks i ms∧Eds al N i 0 es) (fun x=>(N - x.1).toNat)
  (fun _ r=>∃ (i:Nat) (ms:List Int) (es:List Qe),r = some ([],[],[],N,ms,es)∧(i:Int) = N∧Mks i ms∧Eds al N i 0 es) (by
   rintro k _ ⟨i,ms,es,rfl,hi,hm,he⟩ ih
   dsimp only
   by_cases hlt:(i:Int) < N
   ·rw [if_pos hlt,show shrO .u8 g.Marks (i:Int) = some (g.Marks.fdiv (2 ^ (min (Int.toNat (i:Int)) (IntKind.bits .u8)))) from by unfold shrO; rw [if_neg (by omega)]]
    simp only [Option.bind_some]
    have hml:=hm.len
    by_cases hb:(andI .u8 (g.Marks.fdiv (2 ^ (min (Int.toNat (i:Int)) (IntKind.bits .u8)))) 1 == 1) = true
    ·rw [if_pos hb,Qce (by simp only [List.length_cons,List.length_nil]; unfold lim; omega)]
     simp only [Option.bind_some]
     obtain ⟨es',h1,h2⟩:=Qbfx hal fuel hge hL hto hN hlt (ms:=ms ++ [(i:Int)]) he
     rw [h2]
     simp only [Option.bind_some]
     rw [Qcg (by omega)]
     exact ih _ ⟨i + 1,_,_,rfl,by omega,hm.add,h1⟩ (by simp only; omega)
    ·rw [if_neg hb]
     simp only [Option.bind_some]
     obtain ⟨es',h1,h2⟩:=Qbfx hal fuel hge hL hto hN hlt (ms:=ms) he
     rw [h2]
     simp only [Option.bind_some]
     rw [Qcg (by omega)]
     exact ih _ ⟨i + 1,_,_,rfl,by omega,hm.up,h1⟩ (by simp only; omega)
   ·rw [if_neg hlt]
    exact ⟨i,ms,es,rfl,by omega,hm,he⟩) fuel (0,[],[],[],N,[],[]) ⟨0,[],[],rfl,by omega,⟨by simp,.nil⟩,⟨by simp,.nil,by simp⟩⟩ (by simp only; omega)
 obtain ⟨i,ms,es,h1,h2,h3,h4⟩:=hloop
 rw [h1]
 simp only [Option.bind_some]
 have hr:Right ⟨al,N,ms,es⟩:=⟨fun x hx=>by have:=hal.rg x hx; omega,hal.so,⟨by simp only; omega,by simp only; omega⟩,fun x hx=>by have:=h3.rg x hx; simp only; omega,h3.so,fun x hx=>by
  obtain ⟨k1,k2,k3,k4,k5⟩:=h4.rg x hx
  refine ⟨k1,?_,k2,k3,k4⟩
  rcases k5 with k5 | ⟨_,j,k6,_⟩
  ·simp only; omega
  ·omega,h4.so⟩
 rw [Qbad hr]
 exact ⟨_,hr,rfl,rfl,by simp only; omega⟩
end Go.Abs
end
section
namespace Go.Abs
open Go
theorem Qbfy {α β:Type} {o:Option α} {K:α→Option β} {r:Option β} {P:α→Prop} (h:∃ v,o = some v∧P v) (hk:∀ v,P v→K v = r):o.bind K = r:=by
 obtain ⟨v,rfl,hv⟩:=h
 exact hk v hv
def upto (n:Int):List Int:=(List.range n.toNat).map fun (i:Nat)=>(i:Int)
theorem Q37 {n x:Int}:x∈upto n↔0≤x∧x < n:=by
 simp only [upto,List.mem_map,List.mem_range]
 constructor
 ·rintro ⟨i,hi,rfl⟩; omega
 ·rintro ⟨h1,h2⟩; exact ⟨x.toNat,by omega,by omega⟩
theorem Q7f (n:Int):(upto n).Pairwise (· < ·):=by
 unfold upto
 rw [List.pairwise_map]
 exact List.pairwise_lt_range.imp fun h=>by omega
theorem Qb6 (n:Int):(upto n).length = n.toNat:=by simp [upto]
theorem Qll {n:Int} {i:Nat} (h:i < (upto n).length):(upto n)[i] = (i:Int):=by simp [upto]
theorem Qes {X S R α:Type} {F:(X→Option R)→X→Option R} {fuel:Nat} {l:List α} (mk:Int→S→X) (stp:S→α→S) (I:Nat→S→Prop) (K:S→Option R) (hl:l.length < big) (hf:1099511627776≤fuel)
  (step:∀ (k:X→Option R) (n:Nat) (s:S) (h:n < l.length),I n s→F k (mk n s) = k (mk (IntKind.wrap .i64 ((n:Int) + 1)) (stp s l[n])))
  (keep:∀ (n:Nat) (s:S) (h:n < l.length),I n s→I (n + 1) (stp s l[n]))
  (last:∀ (k:X→Option R) (s:S),I l.length s→F k (mk l.length s) = K s) {s0:S} (h0:I 0 s0):Qb1 F fuel (mk 0 s0) = K (l.foldl stp s0):=by
 have hb:l.length < 1000000000000:=hl
 have:=Qhy (F:=F) (len:=l.length) (fun n s=>mk n s) I (fun n s=>K ((l.drop n).foldl stp s)) (fun k n s hn hi ih=>by
  rw [step k n s hn hi,Qcg (by omega),ih _ (keep n s hn hi),List.drop_eq_getElem_cons hn,List.foldl_cons]) (fun k s hi=>by rw [last k s hi]; simp) fuel 0 s0 (Nat.zero_le _) (by omega) h0
 simpa using this
theorem Qbjz {S α:Type} {l:List α} {stp:S→α→S} {I:Nat→S→Prop} (keep:∀ (n:Nat) (s:S) (h:n < l.length),I n s→I (n + 1) (stp s l[n])) {s0:S} (h0:I 0 s0):I l.length (l.foldl stp s0):=by
 have:∀ (m n:Nat) (s:S),n + m = l.length→I n s→I l.length ((l.drop n).foldl stp s):=by
  intro m
  induction m with
  | zero =>
   intro n s hn hi
   obtain rfl:n = l.length:=by omega
   simpa using hi
  | succ m ih =>
   intro n s hn hi
   have hlt:n < l.length:=by omega
   rw [List.drop_eq_getElem_cons hlt,List.foldl_cons]
   exact ih (n + 1) _ (by omega) (keep n s hlt hi)
 simpa using this l.length 0 s0 (by omega) h0
theorem Q7g {X R α:Type} {F:(X→Option R)→X→Option R} {fuel:Nat} {l:List α} (mk:Int→X) (p:α→Bool) (hit:α→Option R) (K:Option R) (hl:l.length < big) (hf:1099511627776≤fuel)
  (step:∀ (k:X→Option R) (n:Nat) (h:n < l.length),F k (mk n) = if p l[n] then hit l[n] else k (mk (IntKind.wrap .i64 ((n:Int) + 1))))
  (last:∀ (k:X→Option R),F k (mk l.length) = K):Qb1 F fuel (mk 0) = match l.find? p with | some x=>hit x | none=>K:=by
 have hb:l.length < 1000000000000:=hl
 have:=Qhy (F:=F) (len:=l.length) (fun n (_:Unit)=>mk n) (fun _ _=>True) (fun n _=>match (l.drop n).find? p with | some x=>hit x | none=>K) (fun k n s hn hi ih=>by
  rw [step k n hn,Qcg (by omega),ih () trivial,List.drop_eq_getElem_cons hn,List.find?_cons]
  cases p l[n] <;> simp) (fun k s hi=>by rw [last k]; simp) fuel 0 () (Nat.zero_le _) (by omega) trivial
 simpa using this
theorem Qbfz {X α:Type} {F:(X→Option Bool)→X→Option Bool} {fuel:Nat} {l:List α} (mk:Int→X) (p:α→Bool) (hl:l.length < big) (hf:1099511627776≤fuel)
  (step:∀ (k:X→Option Bool) (n:Nat) (h:n < l.length),F k (mk n) = if p l[n] then some true else k (mk (IntKind.wrap .i64 ((n:Int) + 1))))
  (last:∀ (k:X→Option Bool),F k (mk l.length) = some false):Qb1 F fuel (mk 0) = some (l.any p):=by
 rw [Q7g mk p (fun _=>some true) (some false) hl hf step last]
 cases h:l.find? p with
 | none =>
  show some false = some (l.any p)
  rw [List.any_eq_false.2 (List.find?_eq_none.1 h)]
 | some x =>
  show some true = some (l.any p)
  rw [List.any_eq_true.2 ⟨x,List.mem_of_find?_eq_some h,List.find?_some h⟩]
def at0 {α:Type} (d:α) (l:List α) (x:Int):α:=l.getD x.toNat d
abbrev lf (L:List Bool) (x:Int):Bool:=at0 false L x
abbrev ati (l:List Int) (x:Int):Int:=at0 0 l x
theorem Qne {α:Type} {d:α} {l:List α} {x:Int} (h0:0≤x) (h1:x < l.length):getO l x = some (at0 d l x):=by
 have h:x.toNat < l.length:=by omega
 unfold getO at0
 rw [if_pos h0,List.getD_eq_getElem?_getD,List.getElem?_eq_getElem h]; rfl
theorem Qrc {α:Type} {l:List α} {x:Int} {y:α} (h0:0≤x) (h1:x < l.length):setO l x y = some (l.set x.toNat y):=by
 unfold setO; rw [if_pos ⟨h0,by omega⟩]
theorem Qrg {n:Nat} {x:Int} (h0:0≤x) (h1:x < n):inO n x = some ():=by
 unfold inO; rw [if_pos ⟨h0,h1⟩]
theorem Q3r {α:Type} {l:List α} {n:Nat} (h:l.length = n):lenO l n = some ():=by
 unfold lenO; rw [if_pos h]
theorem Qbf0 {α:Type} {d:α} {l:List α} {x y:Int} {v:α} (hx:0≤x∧x < l.length) (hy:0≤y):at0 d (l.set x.toNat v) y = if y = x then v else at0 d l y:=by
 unfold at0
 simp only [List.getD_eq_getElem?_getD,List.getElem?_set]
 by_cases h:y = x
 ·subst h; rw [if_pos rfl,if_pos (by omega),if_pos rfl]; rfl
 ·rw [if_neg (by omega),if_neg h]
theorem Qbck {l:List Int} {x y v:Int} (hx:0≤x∧x < l.length) (hy:0≤y):ati (l.set x.toNat v) y = if y = x then v else ati l y:=Qbf0 hx hy
theorem Qbmk {l:List Bool} {x y:Int} {v:Bool} (hx:0≤x∧x < l.length) (hy:0≤y):lf (l.set x.toNat v) y = if y = x then v else lf l y:=Qbf0 hx hy
theorem Qbml {α β:Type} {d:α} {e:β} {f:α→β} {l:List α} {x:Int} (h0:0≤x) (h1:x < l.length):at0 e (l.map f) x = f (at0 d l x):=by
 have h:x.toNat < l.length:=by omega
 unfold at0
 simp [List.getD_eq_getElem?_getD,h]
theorem Qbiq {α:Type} {d:α} {v:α} {n:Nat} {x:Int} (h0:0≤x) (h1:x < n):at0 d (List.replicate n v) x = v:=by
 have h:x.toNat < n:=by omega
 unfold at0
 simp [List.getD_eq_getElem?_getD,h]
theorem Q6i {α:Type} {d:α} {f:Int→α} {n x:Int} (h0:0≤x) (h1:x < n):at0 d ((upto n).map f) x = f x:=by
 have h:x.toNat < n.toNat:=by omega
 unfold at0 upto
 simp only [List.map_map,List.getD_eq_getElem?_getD,List.getElem?_map,List.getElem?_range h,Option.map_some,Option.getD_some,Function.comp]
 congr 1; omega
theorem Qbks {α:Type} {d:α} {l:List α} {n:Nat} (h:n < l.length):at0 d l (n:Int) = l[n]:=by
 unfold at0; simp [List.getD_eq_getElem?_getD,h]
theorem Qbir {α:Type} {d:α} {l m:List α} (hl:l.length = m.length) (h:∀ x:Int,0≤x→x < l.length→at0 d l x = at0 d m x):l = m:=by
 apply List.ext_getElem hl
 intro i h1 h2
 have:=h i (by omega) (by omega)
 rwa [Qbks h1,Qbks h2] at this
theorem Qbd1 {α:Type} {f:Int→α} {n:Int} {l:List α} (hl:l.length = n.toNat):(upto n).foldl (fun c i=>c.set i.toNat (f i)) l = (upto n).map f:=by
 have key:∀ (m:Nat),m≤n.toNat→((upto n).take m).foldl (fun c i=>c.set i.toNat (f i)) l = ((upto n).take m).map f ++ l.drop m:=by
  intro m
  induction m with
  | zero=>intro _; simp
  | succ m ih =>
   intro hm
   have h1:m < (upto n).length:=by rw [Qb6]; omega
   rw [List.take_succ_eq_append_getElem h1,List.foldl_append,ih (by omega),List.foldl_cons,List.foldl_nil,List.map_append,Qll h1]
   simp only [Int.toNat_natCast,List.map_cons,List.map_nil]
   have h2:(((upto n).take m).map f).length = m:=by rw [List.length_map,List.length_take,Qb6]; omega
   rw [List.set_append_right _ _ (by omega),h2,Nat.sub_self]
   have h3:m < l.length:=by omega
   rw [List.drop_eq_getElem_cons h3,List.set_cons_zero,List.append_assoc,List.singleton_append]
 have:=key n.toNat (Nat.le_refl _)
 rw [List.take_of_length_le (by rw [Qb6]; omega)] at this
 rw [this,List.drop_of_length_le (by omega),List.append_nil]
theorem Q8y {α β:Type} {f:β→Nat} {g:β→α}:∀ {l:List β} {c:List α},(l.foldl (fun c x=>c.set (f x) (g x)) c).length = c.length
 | [],c=>rfl
 | x :: l,c=>by rw [List.foldl_cons,Q8y (l:=l),List.length_set]
end Go.Abs
end
section
namespace Go.Abs
open Go
theorem Qbgn:Qhx = some true:=by kernel_rfl
end Go.Abs
end
section
namespace Go.Abs
open Go
theorem Qbd2 {α:Type} [DecidableEq α] {s t:List α} {ne:α→α→Bool} (hne:∀ x y,ne x y = decide (x≠y)) (hl:s.length = t.length) (h:s.length < 1000000000000) :
  Qb1 (fun k5 (i4:Int)=>(if (i4 < (s.length:Int)) then ((getO s i4).bind fun x7=>((getO t i4).bind fun x9=>(if ne x7 x9 then some false else k5 (IntKind.wrap .i64 (i4 + 1))))) else some true)) Qby 0 = some (decide (s = t)):=by
 refine Q7b (fun i:Int=>∃ n:Nat,i = n∧n≤s.length∧s.take n = t.take n) (fun i=>s.length - i.toNat) _ ⟨0,rfl,by omega,by simp⟩ (by unfold Qby; omega) ?_
 rintro k _ ⟨n,rfl,hn,he⟩ ih
 by_cases hlt:n < s.length
 ·rw [if_pos (by omega),Qbu hlt,Qbu (by omega:n < t.length)]
  simp only [Option.bind_some,hne]
  by_cases hx:s[n] = t[n]
  ·rw [if_neg (by simp [hx]),Qcg (by omega)]
   exact ih _ ⟨n + 1,rfl,by omega,Qbdw hlt (by omega) he hx⟩ (by omega)
  ·rw [if_pos (by simp [hx])]
   have:s≠t:=fun e=>hx (by subst e; rfl)
   simp [this]
 ·rw [if_neg (by omega)]
  have e:n = s.length:=by omega
  have:s = t:=by
   rw [e,List.take_length,hl,List.take_length] at he; exact he
  simp [this]
theorem Qbls (x y:Qe):(!((x.From == y.From) && ((x.Event == y.Event) && ((x.To == y.To) && true)))) = decide (x≠y):=by
 cases x; cases y
 simp only [Qe.mk.injEq,Bool.and_true,ne_eq,decide_not]
 congr 1
 rw [Bool.eq_iff_iff]; simp
theorem Qbaf {s t:List Int} (h:s.length < 1000000000000):Qfy s t = some (decide (s = t)):=by
 unfold Qfy Qbl
 by_cases hl:s.length = t.length
 ·rw [if_neg (by simp [hl])]
  exact Qbd2 (ne:=fun x y=>x != y) (fun x y=>by rw [Bool.eq_iff_iff]; simp) hl h
 ·rw [if_pos (by simp; omega)]
  have:s≠t:=fun e=>hl (by rw [e])
  simp [this]
theorem Qbmm {R:Type} (b:Bool) (A B:R):(if b then A else B) = if (!b) then B else A:=by cases b <;> rfl
theorem Qbgo {s t:List Qe} (h:s.length < 1000000000000):Qgt s t = some (decide (s = t)):=by
 unfold Qgt Qcv
 by_cases hl:s.length = t.length
 ·rw [if_neg (by simp [hl])]
  have:=Qbd2 (ne:=fun x y=>!((x.From == y.From) && ((x.Event == y.Event) && ((x.To == y.To) && true)))) Qbls hl h
  simp only [← Qbmm] at this
  exact this
 ·rw [if_pos (by simp; omega)]
  have:s≠t:=fun e=>hl (by rw [e])
  simp [this]
theorem Qbis {a b:Qf} (h:small a):Qh9 a b = some (decide (a = b)):=by
 unfold Qh9 Qdc
 rw [Qbaf h.1,Qbaf h.2.1,Qbgo h.2.2]
 obtain ⟨al,s,m,e⟩:=a
 obtain ⟨al',s',m',e'⟩:=b
 simp only [Option.bind_some,Qf.mk.injEq]
 by_cases h1:s = s' <;> by_cases h2:al = al' <;> by_cases h3:m = m' <;> by_cases h4:e = e' <;> simp [h1,h2,h3,h4]
end Go.Abs
end
section
namespace Go.Abs
open Go
theorem Qblt (x y:Int):Qiu x y = some (decide (x < y)):=by
 unfold Qiu Qd7 Qtw Qdh
 simp
theorem Qbj0 (x:Int):Qhc x = some false:=by
 unfold Qhc Qcq
 simp
theorem Qbit {l:List Int} (h:l.Pairwise (· < ·)) (v:Int):l.Pairwise fun a b=>decide (b < v) = true→decide (a < v) = true :=
 h.imp fun h=>by simp; omega
theorem Qbiu {l:List Int} {v:Int} (hs:l.Pairwise (· < ·)) (hl:l.length < big):∃ n,Qd8 l v = some (n,decide (v∈l)):=by
 have hc:=fun n h=>Qbbh (p:=fun x:Int=>decide (x < v)) (Qbit hs v) n h
 have hcl:(l.filter fun x=>decide (x < v)).length≤l.length:=List.length_filter_le _ _
 generalize (l.filter fun x=>decide (x < v)).length = c at hc hcl
 have hb:l.length < 1000000000000:=hl
 unfold Qd8 Qbp
 obtain ⟨fuel,hfu,hge⟩ : ∃ f,Qby = f∧1099511627776≤f:=⟨_,rfl,Nat.le_refl _⟩
 rw [hfu]
 have hloop:=Qia (F:=fun (k5:Int×Int→Option Int) ((i3,j4):Int×Int)=>(if (i3 < j4) then ((getO l (IntKind.wrap .i64 (Int.fdiv (IntKind.wrap .u64 (IntKind.wrap .i64 (i3 + j4))) (2 ^ (min (Int.toNat 1) (IntKind.bits .u64)))))).bind fun x7=>((Qiu x7 v).bind fun x10=>(if x10 then k5 ((IntKind.wrap .i64 ((IntKind.wrap .i64 (Int.fdiv (IntKind.wrap .u64 (IntKind.wrap .i64 (i3 + j4))) (2 ^ (min (Int.toNat 1) (IntKind.bits .u64))))) + 1)),j4) else k5 (i3,(IntKind.wrap .i64 (Int.fdiv (IntKind.wrap .u64 (IntKind.wrap .i64 (i3 + j4))) (2 ^ (min (Int.toNat 1) (IntKind.bits .u64))))))))) else some i3))
  (fun x=>∃ i j:Nat,x = ((i:Int),(j:Int))∧i≤c∧c≤j∧j≤l.length) (fun x=>(x.2 - x.1).toNat) (fun _ r=>r = some (c:Int)) (by
   rintro k _ ⟨i,j,rfl,h1,h2,h3⟩ ih
   dsimp only
   by_cases hij:i < j
   ·rw [if_pos (by omega),Qbmj (by omega) (by omega)]
    have hm:(i + j) / 2 < l.length:=by omega
    rw [Qbu hm]
    simp only [Option.bind_some]
    rw [Qblt]
    simp only [Option.bind_some]
    have hcm:=hc ((i + j) / 2) hm
    by_cases hlt:l[(i + j) / 2] < v
    ·rw [if_pos (by simpa using hlt),Qcg (by omega)]
     have:(i + j) / 2 < c:=hcm.1 (by simpa using hlt)
     exact ih _ ⟨_,_,rfl,by omega,h2,h3⟩ (by simp only; omega)
    ·rw [if_neg (by simpa using hlt)]
     have:¬ (i + j) / 2 < c:=fun h=>hlt (by simpa using hcm.2 h)
     exact ih _ ⟨_,_,rfl,h1,by omega,by omega⟩ (by simp only; omega)
   ·rw [if_neg (by omega)]
    have:i = c:=by omega
    rw [this]) fuel (0,(l.length:Int)) ⟨0,l.length,rfl,by omega,hcl,Nat.le_refl _⟩ (by simp only; omega)
 rw [hloop]
 simp only [Option.bind_some]
 have hmem:v∈l↔∃ h:c < l.length,l[c] = v:=by
  constructor
  ·intro hv
   obtain ⟨j,hj,rfl⟩:=List.getElem_of_mem hv
   have h1:¬ j < c:=fun h=>by have:=(hc j hj).2 h; simp at this
   have h2:c < l.length:=by omega
   refine ⟨h2,?_⟩
   have h3:¬ l[c] < l[j]:=fun h=>by have:=(hc c h2).1 (by simpa using h); omega
   rcases Nat.lt_or_ge c j with h | h
   ·have:=List.pairwise_iff_getElem.1 hs c j h2 hj h; omega
   ·have:c = j:=by omega
    subst this; rfl
  ·rintro ⟨h,rfl⟩; exact List.getElem_mem h
 by_cases hlt:c < l.length
 ·rw [if_pos (by omega),Qbu hlt]
  simp only [Option.bind_some]
  by_cases he:l[c] = v
  ·rw [if_pos (by simpa using he)]
   exact ⟨_,by rw [decide_eq_true (hmem.2 ⟨hlt,he⟩)]⟩
  ·rw [if_neg (by simpa using he),Qbj0]
   exact ⟨_,by rw [decide_eq_false (fun h=>he (hmem.1 h).2)]; rfl⟩
 ·rw [if_neg (by omega)]
  exact ⟨_,by rw [decide_eq_false (fun h=>hlt (hmem.1 h).1)]⟩
theorem Qbj1 {l:List Int} (hl:l.length≤lim):Qhd l = some l:=by
 unfold Qhd Qcz
 rw [Qce (by simpa using hl)]
 cases l <;> simp [nilO]
structure Num (a:Qf) (o num:List Int):Prop where
 len:num.length = a.zM.toNat
 at1:∀ s:Nat,s < a.zM.toNat→num[s]? = some (if (s:Int)∈o then (o.idxOf (s:Int):Int) else -1)
theorem Num.set {a:Qf} {o num:List Int} (h:Num a o num) {t:Int} (ht:0≤t∧t < a.zM) (hn:t∉o):∃ num',setO num t (o.length:Int) = some num' ∧ Num a (o ++ [t]) num':=by
 refine ⟨num.set t.toNat (o.length:Int),by unfold setO; rw [if_pos ⟨ht.1,by rw [h.len]; omega⟩],by rw [List.length_set]; exact h.len,fun s hs=>?_⟩
 rw [List.getElem?_set]
 by_cases he:t.toNat = s
 ·subst he
  rw [if_pos rfl,if_pos (by rw [h.len]; omega),show ((t.toNat:Nat):Int) = t from by omega,if_pos (by simp),List.idxOf_append,if_neg hn]
  simp
 ·rw [if_neg he,h.at1 s hs]
  have hne:(s:Int)≠t:=by omega
  by_cases hm:(s:Int)∈o
  ·rw [if_pos hm,if_pos (by simp [hm]),List.idxOf_append,if_pos hm]
  ·rw [if_neg hm,if_neg (by simp [hm,hne])]
section
variable {a:Qf} (h:Right a)
include h
end
end Go.Abs
end
section
namespace Go.Abs
open Go
theorem Qdo {l:List Int} {v:Int} (hs:l.Pairwise (· < ·)) (hl:l.length < big):Qcw l v = some (decide (v∈l)):=by
 unfold Qcw Qp
 obtain ⟨n,h⟩:=Qbiu (v:=v) hs hl
 rw [h]; rfl
theorem Q6j {l:List Int} {n:Int} (hl:l.length < big):Qgr l n = some (Qdd n none l):=by
 unfold Qgr Qcf
 refine (Qt1 (len:=l.length) (fun k=>some (Qdd n (ahead l k) (l.drop k))) (by unfold Qby; unfold big at hl; omega) ?_ ?_).trans (by simp [Qsw])
 ·intro k i hi ih
  have hb:i < 1000000000000:=by unfold big at hl; omega
  rw [Q8j hi]
  try dsimp only
  rw [if_pos (by omega),Qbu hi,Qcg (by omega),ih]
  simp only [Option.bind_some]
  by_cases h1:l[i] < 0
  ·simp [h1]
  ·by_cases h2:l[i]≥n
   ·simp [h1,h2]
   ·by_cases h0:0 < i
    ·rw [Q98 h0 (by omega),Qbu (by omega:i - 1 < l.length),Q99 l h0 (by omega)]
     by_cases h3:l[i]≤l[i - 1] <;> simp [h1,h2,h3,h0]
    ·obtain rfl:i = 0:=by omega
     simp [h1,h2,Qsw]
 ·intro k; simp [Qdd]
theorem Q8z {l:List Int} {v:Int} (hl:l.length < big):Qdn l v = some (decide (v∈l)):=by
 have hb:l.length < 1000000000000:=hl
 unfold Qdn Qv
 obtain ⟨fuel,hfu,hge⟩ : ∃ f,Qby = f∧1099511627776≤f:=⟨_,rfl,Nat.le_refl _⟩
 rw [hfu]
 refine (Qbfz (fun x=>x) (fun y=>y == v) hl hge (fun k n hn=>?_) (fun k=>?_)).trans ?_
 ·try dsimp only
  rw [if_pos (by omega),Qbu hn]; rfl
 ·try dsimp only
  rw [if_neg (by omega)]
 ·congr 1; rw [Bool.eq_iff_iff,List.any_eq_true]; simp
theorem Qbgp {α:Type} {l:List α} {f:α→Option Bool} {p:α→Bool} (hf:∀ x∈l,f x = some (p x)) (hl:l.length < big) {fuel:Nat} (hge:1099511627776≤fuel) :
  ∃ i:Int,Qb1 (fun (k:Int→Option Int) (x:Int)=>(if (x < (l.length:Int)) then ((getO l x).bind fun x6=>((f x6).bind fun x9=>(if x9 then some x else k (IntKind.wrap .i64 (x + 1))))) else some (-1))) fuel 0 = some i∧decide (i≥0) = l.any p:=by
 have hb:l.length < 1000000000000:=hl
 have:=Qia (F:=fun (k:Int→Option Int) (x:Int)=>(if (x < (l.length:Int)) then ((getO l x).bind fun x6=>((f x6).bind fun x9=>(if x9 then some x else k (IntKind.wrap .i64 (x + 1))))) else some (-1)))
  (fun x=>∃ n:Nat,x = n∧n≤l.length) (fun x=>l.length - x.toNat) (fun x r=>∀ n:Nat,x = n→∃ i:Int,r = some i∧decide (i≥0) = (l.drop n).any p) (by
   rintro k _ ⟨n,rfl,hn⟩ ih m hm
   obtain rfl:n = m:=by omega
   by_cases hlt:n < l.length
   ·rw [if_pos (by omega),Qbu hlt]
    simp only [Option.bind_some,hf _ (List.getElem_mem hlt)]
    rw [List.drop_eq_getElem_cons hlt,List.any_cons]
    cases hp:p l[n] with
    | true=>exact ⟨n,by simp,by simp⟩
    | false =>
     rw [Qcg (by omega)]
     obtain ⟨i,h1,h2⟩:=ih ((n + 1:Nat):Int) ⟨n + 1,rfl,hlt⟩ (by omega) (n + 1) rfl
     exact ⟨i,by simpa using h1,by rw [h2]; simp⟩
   ·rw [if_neg (by omega)]
    exact ⟨-1,rfl,by rw [List.drop_of_length_le (by omega)]; rfl⟩) fuel 0 ⟨0,rfl,Nat.zero_le _⟩ (by simp; omega) 0 rfl
 simpa using this
theorem Q3s {l:List Qe} {f:Qe→Option Bool} {p:Qe→Bool} (hf:∀ x∈l,f x = some (p x)) (hl:l.length < big):Qct l f = some (l.any p):=by
 unfold Qct Qr Qgs Qbv
 obtain ⟨fuel,hfu,hge⟩ : ∃ f,Qby = f∧1099511627776≤f:=⟨_,rfl,Nat.le_refl _⟩
 rw [hfu]
 obtain ⟨i,h1,h2⟩:=Qbgp hf hl hge
 rw [h1,Option.bind_some,h2]
structure SetP (n:Int) (l:List Int):Prop where
 rg:∀ x∈l,0≤x∧x < n
 so:l.Pairwise (· < ·)
theorem Quk {n:Int} {l:List Int}:Qdd n none l = 0↔SetP n l :=
 ⟨fun h=>⟨(Qgn.1 h).1,(Qgn.1 h).2.1⟩,fun h=>Qgn.2 ⟨h.rg,h.so,fun _ h=>by cases h⟩⟩
structure RightP (p:Qb):Prop where
 a:Right p.zA
 fo:SetP p.zA.zM p.zC
 un:SetP 32 p.zB
 fc:SetP 32 p.zD
 ti:0≤p.Tick∧p.Tick < 32
 tu:p.Tick∉p.zB
 tf:p.Tick∉p.zD
def Qbkt (p:Qb):Prop:=small p.zA∧p.zC.length < big∧p.zB.length < big∧p.zD.length < big
theorem SetP.small {n:Int} {l:List Int} (h:SetP n l) (hn:n≤4096):l.length≤4096:=by
 have:=Qib h.so h.rg; omega
theorem RightP.small {p:Qb} (h:RightP p):Qbkt p:=by
 have h1:=h.fo.small h.a.st.2
 have h2:=h.un.small (by omega)
 have h3:=h.fc.small (by omega)
 refine ⟨h.a.small.1,?_,?_,?_⟩ <;> (unfold big; omega)
def Qbf1 (p:Qb):Int :=
 if Qui p.zA≠0 then Qui p.zA else if Qdd p.zA.zM none p.zC≠0 then Qdd p.zA.zM none p.zC else
 if Qdd 32 none p.zB≠0 then Qdd 32 none p.zB else if Qdd 32 none p.zD≠0 then Qdd 32 none p.zD else
 if p.Tick < 0∨p.Tick≥32 then 2 else if p.Tick∈p.zB∨p.Tick∈p.zD then 13 else 0
theorem Qbgq {p:Qb}:Qbf1 p = 0↔RightP p:=by
 unfold Qbf1
 constructor
 ·intro h
  by_cases h1:Qui p.zA = 0
  ·by_cases h2:Qdd p.zA.zM none p.zC = 0
   ·by_cases h3:Qdd 32 none p.zB = 0
    ·by_cases h4:Qdd 32 none p.zD = 0
     ·by_cases h5:p.Tick < 0∨p.Tick≥32
      ·rw [if_neg (by simp [h1]),if_neg (by simp [h2]),if_neg (by simp [h3]),if_neg (by simp [h4]),if_pos h5] at h; omega
      ·by_cases h6:p.Tick∈p.zB∨p.Tick∈p.zD
       ·rw [if_neg (by simp [h1]),if_neg (by simp [h2]),if_neg (by simp [h3]),if_neg (by simp [h4]),if_neg h5,if_pos h6] at h; omega
       ·exact ⟨Qbdx.1 h1,Quk.1 h2,Quk.1 h3,Quk.1 h4,by omega,fun h=>h6 (.inl h),fun h=>h6 (.inr h)⟩
     ·rw [if_neg (by simp [h1]),if_neg (by simp [h2]),if_neg (by simp [h3]),if_pos h4] at h; exact absurd h h4
    ·rw [if_neg (by simp [h1]),if_neg (by simp [h2]),if_pos h3] at h; exact absurd h h3
   ·rw [if_neg (by simp [h1]),if_pos h2] at h; exact absurd h h2
  ·rw [if_pos h1] at h; exact absurd h h1
 ·intro h
  have:=h.ti
  rw [if_neg (by simp [Qbdx.2 h.a]),if_neg (by simp [Quk.2 h.fo]),if_neg (by simp [Quk.2 h.un]),if_neg (by simp [Quk.2 h.fc]),if_neg (by omega),if_neg (fun hh=>hh.elim h.tu h.tf)]
theorem Qbcl {p:Qb} (h:Qbkt p):Qfl p = some (Qbf1 p):=by
 obtain ⟨hs,hf,hu,hc⟩:=h
 have nb:∀ x:Int,x = 0→¬ ((x != 0) = true):=fun x h=>by simp [h]
 have pb:∀ x:Int,x≠0→((x != 0) = true):=fun x h=>by simpa using h
 have nn:∀ x:Int,x = 0→¬ (x≠0):=fun x h=>by simp [h]
 unfold Qfl Qb4 Qbf1
 rw [Qbjw hs,Option.bind_some]
 by_cases h1:Qui p.zA = 0
 ·rw [if_neg (nb _ h1),if_neg (nn _ h1),Q6j hf,Option.bind_some]
  by_cases h2:Qdd p.zA.zM none p.zC = 0
  ·rw [if_neg (nb _ h2),if_neg (nn _ h2)]
   obtain ⟨n,hn⟩ : ∃ n,Qby = n + 3:=⟨1099511627773,rfl⟩
   rw [hn]
   simp only [Qb1]
   have e0:getO [p.zB,p.zD] 0 = some p.zB:=rfl
   have e1:IntKind.wrap .i64 ((0:Int) + 1) = 1:=by decide
   have e2:getO [p.zB,p.zD] 1 = some p.zD:=rfl
   have e3:IntKind.wrap .i64 ((1:Int) + 1) = 2:=by decide
   simp only [e0,e1,e2,e3]
   rw [if_pos (show (0:Int) < 2 by omega),Option.bind_some,Q6j hu,Option.bind_some]
   by_cases h3:Qdd 32 none p.zB = 0
   ·rw [if_neg (nb _ h3),if_neg (nn _ h3),if_pos (show (1:Int) < 2 by omega),Option.bind_some,Q6j hc,Option.bind_some]
    by_cases h4:Qdd 32 none p.zD = 0
    ·rw [if_neg (nb _ h4),if_neg (nn _ h4),if_neg (show ¬ (2:Int) < 2 by omega)]
     unfold Qfk Q1
     by_cases h5:p.Tick < 0
     ·rw [if_neg (show ¬ p.Tick≥0 by omega),if_pos (show p.Tick < 0∨p.Tick≥32 from .inl h5)]; rfl
     ·rw [if_pos (show p.Tick≥0 by omega),Option.bind_some]
      by_cases h6:p.Tick≥32
      ·rw [if_neg (show ¬ decide (p.Tick < 32) = true by simpa using h6),if_pos (show p.Tick < 0∨p.Tick≥32 from .inr h6)]
      ·rw [if_pos (show decide (p.Tick < 32) = true by simpa using h6),if_neg (show ¬ (p.Tick < 0∨p.Tick≥32) by omega),Qdo (Quk.1 h3).so hu,Qdo (Quk.1 h4).so hc]
       by_cases h7:p.Tick∈p.zB
       ·simp [h7]
       ·by_cases h8:p.Tick∈p.zD <;> simp [h7,h8]
    ·rw [if_pos (pb _ h4),if_pos h4]
   ·rw [if_pos (pb _ h3),if_pos h3]
  ·rw [if_pos (pb _ h2),if_pos h2]
 ·rw [if_pos (pb _ h1),if_pos h1]
def Q78 (p:Qb):List (List Qe):=(upto p.zA.zM).map (outP p.zA)
def tsk (p:Qb) (L:List Bool):Ql:=⟨p,Q78 p,L⟩
def Qjo (p:Qb) (L:List Bool) (s:Int):Bool:=(outP p.zA s).any fun y=>lf L y.To && decide (y.Event∈p.zD)
def Qhz (p:Qb) (L:List Bool) (s:Int):Bool:=(outP p.zA s).any fun y=>(y.Event == p.Tick) && !lf L y.To
def escP (p:Qb) (L:List Bool) (s:Int):Int×Int :=
 match (outP p.zA s).find? (fun y=>!lf L y.To && decide (y.Event∈p.zB)) with
 | some y=>(2,y.Event)
 | none=>if Qhz p L s && !Qjo p L s then (4,p.Tick) else (0,-1)
section
variable {p:Qb} (hp:RightP p) {L:List Bool} (hL:L.length = p.zA.zM.toNat) {s:Int} (hs:0≤s∧s < p.zA.zM)
include hp
theorem Qz1:∀ y∈outP p.zA s,(0≤y.To∧y.To < p.zA.zM)∧y.From = s∧y∈p.zA.zL:=fun y hy=>by
 have h1:=List.mem_filter.1 hy
 have h2:=hp.a.ed0 y h1.1
 exact ⟨⟨h2.2.2.1,h2.2.2.2.1⟩,by simpa using h1.2,h1.1⟩
theorem Q7h (s:Int):(outP p.zA s).length < big:=Nat.lt_of_le_of_lt (List.length_filter_le _ _) hp.a.small.1.2.2
include hs
omit hp in
theorem Q79:inO (Q78 p).length s = some ()∧getO (Q78 p) s = some (outP p.zA s):=by
 have hl:(Q78 p).length = p.zA.zM.toNat:=by unfold Q78; rw [List.length_map,Qb6]
 refine ⟨Qrg hs.1 (by omega),?_⟩
 rw [Qne (d:=[]) hs.1 (by omega)]
 unfold Q78
 rw [Q6i hs.1 hs.2]
omit hp hs in
include hL in
theorem Qrd {x:Int} (hx:0≤x∧x < p.zA.zM):inO L.length x = some ()∧getO L x = some (lf L x) :=
 ⟨Qrg hx.1 (by omega),Qne hx.1 (by omega)⟩
include hL
theorem Qbiv:Qdq (tsk p L) s = some (Qjo p L s):=by
 unfold Qdq Qbf tsk
 simp only [Q79 hs,Option.bind_some]
 rw [Q3s (p:=fun y=>lf L y.To && decide (y.Event∈p.zD)) (fun y hy=>?_) (Q7h hp s)]
 ·rfl
 ·have h1:=Qrd hL (Qz1 hp y hy).1
  unfold Qeg Q9
  simp only [h1,Option.bind_some]
  rw [Qdo hp.fc.so hp.small.2.2.2]
  cases lf L y.To <;> simp
theorem Qbiw:Qdr (tsk p L) s = some (escP p L s):=by
 unfold Qdr Qbg
 obtain ⟨fuel,hfu,hge⟩ : ∃ f,Qby = f∧1099511627776≤f:=⟨_,rfl,Nat.le_refl _⟩
 rw [hfu]
 rw [show (tsk p L).from_ = Q78 p from rfl,show (tsk p L).left_ = L from rfl,show (tsk p L).zN = p from rfl]
 simp only [Q79 hs,Option.bind_some]
 rw [Qbiv hp hL hs]
 rw [Q3s (p:=fun y=>(y.Event == p.Tick) && !lf L y.To) (fun y hy=>by
  have h1:=Qrd hL (Qz1 hp y hy).1
  unfold Qef Q8
  rw [show (tsk p L).left_ = L from rfl,show (tsk p L).zN = p from rfl]
  simp only [h1,Option.bind_some]
  cases hq:y.Event == p.Tick <;> simp) (Q7h hp s)]
 refine (Q7g (fun x=>x) (fun y=>!lf L y.To && decide (y.Event∈p.zB)) (fun y=>some (2,y.Event)) (some (if Qhz p L s && !Qjo p L s then (4,p.Tick) else (0,-1))) (Q7h hp s) hge (fun k n hn=>?_) (fun k=>?_)).trans ?_
 ·try dsimp only
  have h1:=Qrd hL (Qz1 hp _ (List.getElem_mem hn)).1
  rw [if_pos (by omega),Qbu hn]
  simp only [h1,Option.bind_some]
  rw [Qdo hp.un.so hp.small.2.2.1]
  cases lf L (outP p.zA s)[n].To <;> simp
 ·try dsimp only
  rw [if_neg (by omega)]
  show (((if Qhz p L s then _ else _):Option Bool).bind _) = _
  cases Qhz p L s <;> cases Qjo p L s <;> rfl
 ·unfold escP
  cases (outP p.zA s).find? _ <;> rfl
end
end Go.Abs
end
section
namespace Go.Abs
open Go
def Qc0 (R:List Int):List Bool:=R.map (· == 0)
theorem Qbj2 {R:List Int} {x:Int} (h0:0≤x) (h1:x < R.length):lf (Qc0 R) x = (ati R x == 0):=by
 unfold Qc0; exact Qbml h0 h1
structure Qbix (p:Qb) (R:List Int):Prop where
 ln:R.length = p.zA.zM.toNat
 nn:∀ x:Int,0≤x→x < p.zA.zM→0≤ati R x
def Qbe3 (p:Qb) (R:List Int) (s:Int):Int×Int:=if (escP p (Qc0 R) s).1 = 0 then (0,0) else escP p (Qc0 R) s
section
variable {p:Qb} (hp:RightP p) {R:List Int} (hR:Qbix p R) {s:Int} (T:List Qd) (r:Int)
include hR in
theorem Qt2 {x:Int} (hx:0≤x∧x < p.zA.zM):inO R.length x = some ()∧getO R x = some (ati R x)∧(ati R x == 0) = lf (Qc0 R) x∧decide (ati R x > 0) = !lf (Qc0 R) x:=by
 have h1:=hR.ln
 have h2:=hR.nn x hx.1 hx.2
 have h3:=Qbj2 (R:=R) hx.1 (by omega)
 refine ⟨Qrg hx.1 (by omega),Qne hx.1 (by omega),h3.symm,?_⟩
 rw [h3,Bool.eq_iff_iff]
 simp; omega
include hp hR
theorem Qbiy:Qds ⟨p,R,T,r⟩ s = some (Qjo p (Qc0 R) s):=by
 unfold Qds Qbh
 obtain ⟨fuel,hfu,hge⟩ : ∃ f,Qby = f∧1099511627776≤f:=⟨_,rfl,Nat.le_refl _⟩
 rw [hfu]
 refine (Qbfz (l:=p.zA.zL) (fun x=>x) (fun y=>(y.From == s) && (lf (Qc0 R) y.To && decide (y.Event∈p.zD))) hp.a.small.1.2.2 hge (fun k n hn=>?_) (fun k=>?_)).trans ?_
 ·have h1:=hp.a.ed0 _ (List.getElem_mem hn)
  have h2:=Qt2 hR ⟨h1.2.2.1,h1.2.2.2.1⟩
  dsimp only
  rw [if_pos (by omega),Qbu hn]
  simp only [h2,Option.bind_some]
  rw [Q8z hp.small.2.2.2]
  cases p.zA.zL[n].From == s <;> cases lf (Qc0 R) p.zA.zL[n].To <;> by_cases h3:p.zA.zL[n].Event∈p.zD <;> simp [h3]
 ·dsimp only; rw [if_neg (by omega)]
 ·unfold Qjo outP
  rw [List.any_filter]
theorem Qblu:Qd2 ⟨p,R,T,r⟩ s = some (Qbe3 p R s):=by
 unfold Qd2 Qbo
 obtain ⟨fuel,hfu,hge⟩ : ∃ f,Qby = f∧1099511627776≤f:=⟨_,rfl,Nat.le_refl _⟩
 rw [hfu,Qbiy hp hR T r]
 have hin:Qb1 (fun k23 (x22:Int)=>(if (x22 < (p.zA.zL.length:Int)) then ((getO p.zA.zL x22).bind fun x25=>(((if (x25.From == s) then (if (x25.Event == p.Tick) then ((inO R.length x25.To).bind fun u29=>((getO R x25.To).bind fun x31=>(if (x31 > 0) then ((some (Qjo p (Qc0 R) s)).bind fun x35=>some (!x35)) else some false))) else some false) else some false)).bind fun (x36:Bool)=>(if x36 then some ((4:Int),x25.Event) else k23 (IntKind.wrap .i64 (x22 + 1))))) else some (0,0))) fuel 0 = some (if Qhz p (Qc0 R) s && !Qjo p (Qc0 R) s then (4,p.Tick) else (0,0)):=by
  refine (Q7g (l:=p.zA.zL) (fun x=>x) (fun y=>(y.From == s) && ((y.Event == p.Tick) && (!lf (Qc0 R) y.To && !Qjo p (Qc0 R) s))) (fun y=>some (4,y.Event)) (some (0,0)) hp.a.small.1.2.2 hge (fun k n hn=>?_) (fun k=>?_)).trans ?_
  ·have h1:=hp.a.ed0 _ (List.getElem_mem hn)
   have h2:=Qt2 hR ⟨h1.2.2.1,h1.2.2.2.1⟩
   rw [if_pos (by omega),Qbu hn]
   simp only [h2,Option.bind_some]
   have h3:=h2.2.2.2
   have h4:(ati R p.zA.zL[n].To > 0)↔lf (Qc0 R) p.zA.zL[n].To = false:=by
    rw [← decide_eq_true_iff (p:=ati R p.zA.zL[n].To > 0),h3]; simp
   simp only [h4]
   cases p.zA.zL[n].From == s <;> cases p.zA.zL[n].Event == p.Tick <;> cases lf (Qc0 R) p.zA.zL[n].To <;> cases Qjo p (Qc0 R) s <;> simp
  ·rw [if_neg (by omega)]
  ·cases hf:p.zA.zL.find? (fun y=>(y.From == s) && ((y.Event == p.Tick) && (!lf (Qc0 R) y.To && !Qjo p (Qc0 R) s))) with
   | none =>
    have:(Qhz p (Qc0 R) s && !Qjo p (Qc0 R) s) = false:=by
     rw [List.find?_eq_none] at hf
     rw [Bool.eq_false_iff]
     intro h
     rw [Bool.and_eq_true] at h
     obtain ⟨h1,h2⟩:=h
     unfold Qhz outP at h1
     rw [List.any_filter,List.any_eq_true] at h1
     obtain ⟨y,h3,h4⟩:=h1
     refine hf y h3 ?_
     simp only [Bool.and_eq_true] at h4 ⊢
     exact ⟨h4.1,h4.2.1,h4.2.2,h2⟩
    rw [this]; rfl
   | some y =>
    have h1:=List.find?_some hf
    have h2:=List.mem_of_find?_eq_some hf
    simp only [Bool.and_eq_true,beq_iff_eq] at h1
    have:(Qhz p (Qc0 R) s && !Qjo p (Qc0 R) s) = true:=by
     rw [Bool.and_eq_true]
     refine ⟨?_,h1.2.2.2⟩
     unfold Qhz outP
     rw [List.any_filter,List.any_eq_true]
     exact ⟨y,h2,by simp [h1.1,h1.2.1]; simpa using h1.2.2.1⟩
    rw [this]
    show some ((4:Int),y.Event) = some (4,p.Tick)
    rw [h1.2.1]
 refine (Q7g (l:=p.zA.zL) (fun x=>x) (fun y=>(y.From == s) && (!lf (Qc0 R) y.To && decide (y.Event∈p.zB))) (fun y=>some (2,y.Event)) (some (if Qhz p (Qc0 R) s && !Qjo p (Qc0 R) s then (4,p.Tick) else (0,0))) hp.a.small.1.2.2 hge (fun k n hn=>?_) (fun k=>?_)).trans ?_
 ·have h1:=hp.a.ed0 _ (List.getElem_mem hn)
  have h2:=Qt2 hR ⟨h1.2.2.1,h1.2.2.2.1⟩
  dsimp only
  rw [if_pos (by omega),Qbu hn]
  simp only [h2,Option.bind_some]
  rw [Q8z hp.small.2.2.1]
  cases p.zA.zL[n].From == s <;> cases lf (Qc0 R) p.zA.zL[n].To <;> by_cases h3:p.zA.zL[n].Event∈p.zB <;> simp [h3]
 ·dsimp only; rw [if_neg (by omega)]; exact hin
 ·unfold Qbe3 escP outP
  rw [List.find?_filter]
  have:(fun x:Qe=>decide ((x.From == s) = true∧(!lf (Qc0 R) x.To && decide (x.Event∈p.zB)) = true)) = fun y=>(y.From == s) && (!lf (Qc0 R) y.To && decide (y.Event∈p.zB)):=by
   funext x; rw [Bool.eq_iff_iff]; simp
  rw [this]
  cases p.zA.zL.find? _ with
  | some y=>rfl
  | none =>
   simp only
   cases Qhz p (Qc0 R) s <;> cases Qjo p (Qc0 R) s <;> rfl
end
end Go.Abs
end
section
namespace Go.Abs
open Go
def Qbe4 (p:Qb) (L:List Bool):List Int:=(upto p.zA.zM).map fun i=>if lf L i && decide (i∈p.zA.zK) then 0 else -1
def Q6k (L:List Bool) (d:Int) (out:List Int) (x:Qe):Bool:=lf L x.From && (lf L x.To && (decide (ati out x.From < 0) && (ati out x.To == d)))
def Qnf (L:List Bool) (d:Int) (out:List Int) (x:Qe):List Int:=if Q6k L d out x then out.set x.From.toNat (d + 1) else out
def dN (p:Qb) (L:List Bool):Nat→List Int
 | 0=>Qbe4 p L
 | k + 1=>p.zA.zL.foldl (Qnf L (k:Int)) (dN p L k)
def Qud (p:Qb) (L:List Bool):List Int:=dN p L p.zA.zM.toNat
structure Grow (p:Qb) (L:List Bool) (d:Int) (out out' : List Int):Prop where
 ln:out'.length = out.length
 vl:∀ y,0≤y→y < p.zA.zM→ati out' y = ati out y∨(ati out y < 0∧ati out' y = d + 1∧lf L y = true∧∃ e∈p.zA.zL,e.From = y∧lf L e.To = true∧ati out e.To = d)
section
variable {p:Qb} (hp:RightP p) {L:List Bool} {d:Int} (hd:0≤d)
theorem Grow.refl (out:List Int):Grow p L d out out:=⟨rfl,fun _ _ _=>.inl rfl⟩
include hp hd
theorem Grow.trans {a b c:List Int} (h:Grow p L d a b) (k:Grow p L d b c):Grow p L d a c:=by
 refine ⟨k.ln.trans h.ln,fun y h0 h1=>?_⟩
 rcases k.vl y h0 h1 with e | ⟨k1,k2,k3,e,he,k4,k5,k6⟩
 ·rw [e]; exact h.vl y h0 h1
 ·rcases h.vl y h0 h1 with e1 | ⟨_,e1,_⟩
  ·refine .inr ⟨by omega,k2,k3,e,he,k4,k5,?_⟩
   have hr:=hp.a.ed0 e he
   rcases h.vl e.To hr.2.2.1 hr.2.2.2.1 with e2 | ⟨_,e2,_⟩ <;> omega
  ·omega
theorem Q38 {out:List Int} (hl:out.length = p.zA.zM.toNat) {x:Qe} (hx:x∈p.zA.zL):Grow p L d out (Qnf L d out x):=by
 unfold Qnf
 cases hc:Q6k L d out x with
 | false=>exact Grow.refl out
 | true =>
  have hr:=hp.a.ed0 x hx
  unfold Q6k at hc
  simp only [Bool.and_eq_true,decide_eq_true_eq,beq_iff_eq] at hc
  refine ⟨by simp,fun y h0 h1=>?_⟩
  simp only [if_true]
  rw [Qbck ⟨hr.1,by omega⟩ h0]
  by_cases hy:y = x.From
  ·subst hy
   rw [if_pos rfl]
   exact .inr ⟨hc.2.2.1,rfl,hc.1,x,hx,rfl,hc.2.1,hc.2.2.2⟩
  ·rw [if_neg hy]; exact .inl rfl
theorem Q7i:∀ {l:List Qe} {out:List Int},(∀ x∈l,x∈p.zA.zL)→out.length = p.zA.zM.toNat→Grow p L d out (l.foldl (Qnf L d) out)
 | [],out,_,_=>Grow.refl out
 | x :: l,out,hm,hl=>by
  have h1:=Q38 (L:=L) hp hd hl (hm x (by simp))
  exact h1.trans hp hd (Q7i (l:=l) (fun y hy=>hm y (by simp [hy])) (by rw [h1.ln,hl]))
theorem Qbf2:∀ {l:List Qe} {out:List Int},(∀ x∈l,x∈p.zA.zL)→out.length = p.zA.zM.toNat→∀ e∈l,lf L e.From = true→lf L e.To = true→ati (l.foldl (Qnf L d) out) e.To = d→0≤ati (l.foldl (Qnf L d) out) e.From
 | [],_,_,_,_,he,_,_,_=>by cases he
 | x :: l,out,hm,hl,e,he,h1,h2,h3=>by
  have g1:=Q38 (L:=L) hp hd hl (hm x (by simp))
  have hl1:(Qnf L d out x).length = p.zA.zM.toNat:=by rw [g1.ln,hl]
  have g2:=Q7i (L:=L) hp hd (l:=l) (fun y hy=>hm y (by simp [hy])) hl1
  rw [List.foldl_cons] at h3 ⊢
  rcases List.mem_cons.1 he with rfl | he
  ·have hr:=hp.a.ed0 e (hm e (by simp))
   have k1:ati out e.To = d:=by
    rcases g2.vl e.To hr.2.2.1 hr.2.2.2.1 with q | ⟨_,q,_⟩ <;> rcases g1.vl e.To hr.2.2.1 hr.2.2.2.1 with q' | ⟨_,q',_⟩ <;> omega
   have k2:0≤ati (Qnf L d out e) e.From:=by
    by_cases hn:ati out e.From < 0
    ·have hc:Q6k L d out e = true:=by unfold Q6k; simp [h1,h2,hn,k1]
     unfold Qnf
     rw [hc,if_pos rfl,Qbck ⟨hr.1,by omega⟩ hr.1,if_pos rfl]; omega
    ·rcases g1.vl e.From hr.1 hr.2.1 with q | ⟨q,_⟩ <;> omega
   rcases g2.vl e.From hr.1 hr.2.1 with q | ⟨q,_⟩ <;> omega
  ·exact Qbf2 (fun y hy=>hm y (by simp [hy])) hl1 e he h1 h2 h3
end
structure DI (p:Qb) (L:List Bool) (k:Int) (out:List Int):Prop where
 ln:out.length = p.zA.zM.toNat
 rg:∀ y,0≤y→y < p.zA.zM→ati out y = -1∨0≤ati out y∧ati out y≤k
 lv:∀ y,0≤y→y < p.zA.zM→0≤ati out y→lf L y = true
 z:∀ y,0≤y→y < p.zA.zM→(ati out y = 0↔lf L y = true∧y∈p.zA.zK)
 ps:∀ y,0≤y→y < p.zA.zM→0 < ati out y→∃ e∈p.zA.zL,e.From = y∧lf L e.To = true∧ati out e.To = ati out y - 1
 cl:∀ e∈p.zA.zL,lf L e.From = true→0≤ati out e.To→ati out e.To < k→0≤ati out e.From
section
variable {p:Qb} (hp:RightP p) (L:List Bool)
theorem Qbj3 {y:Int} (h0:0≤y) (h1:y < p.zA.zM):ati (Qbe4 p L) y = if lf L y && decide (y∈p.zA.zK) then 0 else -1:=Q6i h0 h1
include hp
theorem Qbd3:∀ k:Nat,DI p L (k:Int) (dN p L k)
 | 0=>by
  refine ⟨by simp [dN,Qbe4,Qb6],fun y h0 h1=>?_,fun y h0 h1 h2=>?_,fun y h0 h1=>?_,fun y h0 h1 h2=>?_,fun e he h2 h3 h4=>by omega⟩
  all_goals simp only [dN] at *
  all_goals rw [Qbj3 L h0 h1] at *
  all_goals cases hl:lf L y <;> by_cases hm:y∈p.zA.zK <;> simp_all
 | k + 1=>by
  have ih:=Qbd3 k
  have hd:(0:Int)≤(k:Int):=by omega
  have g:=Q7i (L:=L) hp hd (l:=p.zA.zL) (out:=dN p L k) (fun _ h=>h) ih.ln
  have c:=Qbf2 (L:=L) hp hd (l:=p.zA.zL) (out:=dN p L k) (fun _ h=>h) ih.ln
  change Grow p L (k:Int) (dN p L k) (dN p L (k + 1)) at g
  have c:∀ e∈p.zA.zL,lf L e.From = true→lf L e.To = true→ati (dN p L (k + 1)) e.To = k→0≤ati (dN p L (k + 1)) e.From:=c
  refine ⟨by rw [g.ln,ih.ln],fun y h0 h1=>?_,fun y h0 h1 h2=>?_,fun y h0 h1=>?_,fun y h0 h1 h2=>?_,fun e he h2 h3 h4=>?_⟩
  ·rcases g.vl y h0 h1 with q | ⟨_,q,_⟩
   ·rw [q]; rcases ih.rg y h0 h1 with r | r
    ·exact .inl r
    ·exact .inr ⟨r.1,by omega⟩
   ·exact .inr ⟨by omega,by omega⟩
  ·rcases g.vl y h0 h1 with q | ⟨_,_,q,_⟩
   ·exact ih.lv y h0 h1 (by omega)
   ·exact q
  ·rw [← ih.z y h0 h1]
   rcases g.vl y h0 h1 with q | ⟨_,q,_⟩ <;> omega
  ·rcases g.vl y h0 h1 with q | ⟨_,q,_,e,he,q1,q2,q3⟩
   ·obtain ⟨e,he,q1,q2,q3⟩:=ih.ps y h0 h1 (by omega)
    have hr:=hp.a.ed0 e he
    refine ⟨e,he,q1,q2,?_⟩
    rcases g.vl e.To hr.2.2.1 hr.2.2.2.1 with r | ⟨r,_⟩ <;> omega
   ·have hr:=hp.a.ed0 e he
    refine ⟨e,he,q1,q2,?_⟩
    rcases g.vl e.To hr.2.2.1 hr.2.2.2.1 with r | ⟨r,_⟩ <;> omega
  ·have hr:=hp.a.ed0 e he
   by_cases hk:ati (dN p L (k + 1)) e.To = k
   ·refine c e he h2 ?_ hk
    rcases g.vl e.To hr.2.2.1 hr.2.2.2.1 with r | ⟨_,r,_⟩
    ·exact ih.lv e.To hr.2.2.1 hr.2.2.2.1 (by omega)
    ·omega
   ·have:0≤ati (dN p L k) e.From:=by
     refine ih.cl e he h2 ?_ ?_
     all_goals (rcases g.vl e.To hr.2.2.1 hr.2.2.2.1 with r | ⟨_,r,_⟩ <;> omega)
    rcases g.vl e.From hr.1 hr.2.1 with r | ⟨r,_⟩ <;> omega
theorem Qbd4 {d:Int} {out:List Int}:∀ {l:List Qe},(∀ e∈l,Q6k L d out e = false)→l.foldl (Qnf L d) out = out
 | [],_=>rfl
 | x :: l,h=>by
  rw [List.foldl_cons]
  have:Qnf L d out x = out:=by unfold Qnf; rw [h x (by simp)]; rfl
  rw [this]
  exact Qbd4 fun e he=>h e (by simp [he])
theorem Qbd5 {k:Nat} (h:dN p L (k + 1) = dN p L k):∀ m:Nat,k≤m→dN p L m = dN p L k
 | 0,hm=>by
  obtain rfl:k = 0:=by omega
  rfl
 | m + 1,hm=>by
  by_cases hk:k = m + 1
  ·subst hk; rfl
  ·have ih:=Qbd5 h m (by omega)
   show p.zA.zL.foldl (Qnf L (m:Int)) (dN p L m) = _
   by_cases hkm:k = m
   ·subst hkm; exact h
   ·rw [ih]
    refine Qbd4 hp L fun e he=>?_
    have hr:=hp.a.ed0 e he
    have:=(Qbd3 hp L k).rg e.To hr.2.2.1 hr.2.2.2.1
    unfold Q6k
    have:(ati (dN p L k) e.To == (m:Int)) = false:=by rw [beq_eq_false_iff_ne]; omega
    rw [this]; simp
theorem DI.bound {k:Int} {out:List Int} (h:DI p L k out) {y:Int} (h0:0≤y) (h1:y < p.zA.zM):ati out y < p.zA.zM:=by
 have key:∀ (v:Nat) (y:Int),0≤y→y < p.zA.zM→ati out y = v→∀ j:Nat,j≤v→∃ x,0≤x∧x < p.zA.zM∧ati out x = j:=by
  intro v
  induction v with
  | zero=>intro y h0 h1 hv j hj; exact ⟨y,h0,h1,by omega⟩
  | succ v ih =>
   intro y h0 h1 hv j hj
   by_cases hjv:j = v + 1
   ·exact ⟨y,h0,h1,by omega⟩
   ·obtain ⟨e,he,_,_,q⟩:=h.ps y h0 h1 (by omega)
    have hr:=hp.a.ed0 e he
    exact ih e.To hr.2.2.1 hr.2.2.2.1 (by omega) j (by omega)
 refine Decidable.byContradiction fun hc=>?_
 have hst:=hp.a.st
 have hk:=key (ati out y).toNat y h0 h1 (by omega)
 have hsub:∀ x∈upto (ati out y + 1),x∈(upto p.zA.zM).map (ati out):=fun x hx=>by
  rw [Q37] at hx
  obtain ⟨z,k1,k2,k3⟩:=hk x.toNat (by omega)
  exact List.mem_map.2 ⟨z,Q37.2 ⟨k1,k2⟩,by omega⟩
 have hnd:(upto (ati out y + 1)).Nodup:=(Q7f _).imp fun h=>by omega
 have hlen:∀ {l m:List Int},l.Nodup→(∀ x∈l,x∈m)→l.length≤m.length:=fun {l m} h hs=>by
  induction l generalizing m with
  | nil=>simp
  | cons x l ih =>
   obtain ⟨a1,a2⟩:=List.nodup_cons.1 h
   have hx:=hs x (by simp)
   have:=ih (m:=m.erase x) a2 fun y hy=>(List.mem_erase_of_ne (by rintro rfl; exact a1 hy)).2 (hs y (by simp [hy]))
   rw [List.length_erase_of_mem hx] at this
   have:0 < m.length:=List.length_pos_of_mem hx
   simp only [List.length_cons]; omega
 have:=hlen hnd hsub
 rw [Qb6,List.length_map,Qb6] at this
 omega
theorem Q39:DI p L p.zA.zM (Qud p L):=by
 have:=Qbd3 hp L p.zA.zM.toNat
 have hst:=hp.a.st
 rw [show ((p.zA.zM.toNat:Nat):Int) = p.zA.zM by omega] at this
 exact this
end
end Go.Abs
end
section
namespace Go.Abs
open Go
theorem Qiw {n:Int} {k:Nat} (h:k < (upto n).length):k < n.toNat:=by rw [Qb6] at h; exact h
def Qv5 (L:List Bool) (d:Int) (s:Bool×List Int) (x:Qe):Bool×List Int:=if Q6k L d s.2 x then (true,s.2.set x.From.toNat (d + 1)) else s
theorem Qbd6 {L:List Bool} {d:Int}:∀ {l:List Qe} {s:Bool×List Int},(l.foldl (Qv5 L d) s).2 = l.foldl (Qnf L d) s.2
 | [],s=>rfl
 | x :: l,s=>by
  rw [List.foldl_cons,List.foldl_cons,Qbd6 (l:=l)]
  congr 1
  unfold Qv5 Qnf
  cases Q6k L d s.2 x <;> rfl
section
variable {p:Qb} (hp:RightP p) {L:List Bool} {d:Int} (hd:0≤d)
include hp hd
theorem Qbd7:∀ {l:List Qe} {s:Bool×List Int},(∀ x∈l,x∈p.zA.zL)→s.2.length = p.zA.zM.toNat→(l.foldl (Qv5 L d) s).1 = true→s.1 = true∨∃ y,0≤y∧y < p.zA.zM∧ati (l.foldl (Qnf L d) s.2) y = d + 1
 | [],s,_,_,h=>.inl h
 | x :: l,s,hm,hl,h=>by
  rw [List.foldl_cons] at h ⊢
  have hx:=hm x (by simp)
  have hr:=hp.a.ed0 x hx
  have g1:=Q38 (L:=L) hp hd hl hx
  have e2:(Qv5 L d s x).2 = Qnf L d s.2 x:=by unfold Qv5 Qnf; cases Q6k L d s.2 x <;> rfl
  rcases Qbd7 (l:=l) (s:=Qv5 L d s x) (fun y hy=>hm y (by simp [hy])) (by rw [e2,g1.ln,hl]) h with q | q
  ·cases hc:Q6k L d s.2 x with
   | false =>
    have:Qv5 L d s x = s:=by unfold Qv5; rw [hc]; rfl
    rw [this] at q; exact .inl q
   | true =>
    refine .inr ⟨x.From,hr.1,hr.2.1,?_⟩
    have k1:ati (Qnf L d s.2 x) x.From = d + 1:=by
     unfold Qnf
     rw [hc,if_pos rfl,Qbck ⟨hr.1,by omega⟩ hr.1,if_pos rfl]
    have g2:=Q7i (L:=L) hp hd (l:=l) (out:=Qnf L d s.2 x) (fun y hy=>hm y (by simp [hy])) (by rw [g1.ln,hl])
    rcases g2.vl x.From hr.1 hr.2.1 with r | ⟨r,_⟩ <;> omega
  ·rw [e2] at q; exact .inr q
theorem Qbd8:∀ {l:List Qe} {s:Bool×List Int},(l.foldl (Qv5 L d) s).1 = false→l.foldl (Qnf L d) s.2 = s.2
 | [],s,_=>rfl
 | x :: l,s,h=>by
  rw [List.foldl_cons] at h ⊢
  have mono:∀ {l:List Qe} {s:Bool×List Int},s.1 = true→(l.foldl (Qv5 L d) s).1 = true:=by
   intro l
   induction l with
   | nil=>intro s h; exact h
   | cons y l ih=>intro s h; rw [List.foldl_cons]; refine ih ?_; unfold Qv5; cases Q6k L d s.2 y <;> simp [h]
  cases hc:Q6k L d s.2 x with
  | true =>
   have:(Qv5 L d s x).1 = true:=by unfold Qv5; rw [hc]; rfl
   rw [mono this] at h; cases h
  | false =>
   have e1:Qv5 L d s x = s:=by unfold Qv5; rw [hc]; rfl
   have e2:Qnf L d s.2 x = s.2:=by unfold Qnf; rw [hc]; rfl
   rw [e1] at h
   rw [e2]
   exact Qbd8 h
end
section
variable {p:Qb} (hp:RightP p) {L:List Bool} (hL:L.length = p.zA.zM.toNat)
theorem Qbbm {c:List Int} (hc:c.length = p.zA.zM.toNat):(upto p.zA.zM).foldl (fun c i=>c.set i.toNat (if lf L i && decide (i∈p.zA.zK) then 0 else -1)) c = Qbe4 p L:=Qbd1 hc
include hp hL
theorem Q8l:Qco (tsk p L) = some (Qud p L):=by
 unfold Qco Qt
 obtain ⟨fuel,hfu,hge⟩ : ∃ f,Qby = f∧1099511627776≤f:=⟨_,rfl,Nat.le_refl _⟩
 rw [hfu]
 rw [show (tsk p L).left_ = L from rfl,show (tsk p L).zN = p from rfl]
 have hst:=hp.a.st
 have hsm:=hp.a.small
 rw [show mkO p.zA.zM (0:Int) = some (List.replicate p.zA.zM.toNat 0) from by unfold mkO lim; rw [if_pos (by omega)]]
 rw [Option.bind_some]
 refine Option.bind_eq_some_iff.2 ⟨Qbe4 p L,?_,?_⟩
 ·refine (Qes (l:=upto p.zA.zM) (fun i (c:List Int)=>(i,c)) (fun c i=>c.set i.toNat (if lf L i && decide (i∈p.zA.zK) then 0 else -1)) (fun _ c=>c.length = p.zA.zM.toNat) (fun c=>some c) (by rw [Qb6]; unfold big; omega) hge (fun k n s hn hs=>?_) (fun n s hn hs=>by rw [List.length_set]; exact hs) (fun k s hs=>?_) (by simp)).trans ?_
  ·have hn':=Qiw hn
   dsimp only
   rw [Qll hn,if_pos (by omega),Qrg (by omega) (by omega),Qrc (by omega) (by omega)]
   simp only [Option.bind_some,Qrd hL (p:=p) (x:=(n:Int)) ⟨by omega,by omega⟩]
   rw [Qdo hp.a.ma hsm.1.2.1,Qrc (by omega) (by rw [List.length_set]; omega)]
   cases lf L (n:Int) <;> by_cases hm:(n:Int)∈p.zA.zK <;> simp [hm]
  ·dsimp only
   rw [Qb6,if_neg (by omega)]
  ·rw [Qbbm (by simp)]
 have hround:∀ (d:Nat) (c:List Int),c.length = p.zA.zM.toNat→d≤4096→Qb1 (fun (k41:Bool×Int×List Int→Option (Bool×List Int)) ((more38,x39,c40):Bool×Int×(List Int))=>(if (x39 < (p.zA.zL.length:Int)) then ((((getO p.zA.zL x39).bind fun x43=>((((inO L.length x43.From).bind fun u45=>((getO L x43.From).bind fun x47=>(if x47 then ((inO L.length x43.To).bind fun u50=>((getO L x43.To).bind fun x52=>(if x52 then ((inO (Int.toNat p.zA.zM) x43.From).bind fun u55=>((getO c40 x43.From).bind fun x57=>(if (x57 < 0) then ((inO (Int.toNat p.zA.zM) x43.To).bind fun u60=>((getO c40 x43.To).bind fun x62=>some (x62 == (IntKind.wrap .i64 (((d:Int) + 1) - 1))))) else some false))) else some false))) else some false)))).bind fun (x64:Bool)=>(if x64 then ((inO (Int.toNat p.zA.zM) x43.From).bind fun u66=>((setO c40 x43.From ((d:Int) + 1)).bind fun x68=>some (true,x68,x43.From,x43.Event,x43.To))) else some (more38,c40,x43.From,x43.Event,x43.To))))).bind fun ((more70,c71,c72,c73,c74):Bool×(List Int)×Int×Int×Int)=>k41 (more70,(IntKind.wrap .i64 (x39 + 1)),c71)) else some (more38,c40))) fuel (false,0,c) = some (p.zA.zL.foldl (Qv5 L d) (false,c)):=by
  intro d c hc hd
  refine (Qes (l:=p.zA.zL) (fun i (s:Bool×List Int)=>(s.1,i,s.2)) (Qv5 L d) (fun _ s=>s.2.length = p.zA.zM.toNat) (fun s=>some s) hsm.1.2.2 hge (fun k n s hn hs=>?_) (fun n s hn hs=>by unfold Qv5; split <;> simp [hs]) (fun k s hs=>?_) (s0:=(false,c)) hc)
  ·have hr:=hp.a.ed0 _ (List.getElem_mem hn)
   dsimp only
   rw [if_pos (by omega),Qbu hn]
   simp only [Option.bind_some,Qrd hL (p:=p) (x:=p.zA.zL[n].From) ⟨hr.1,hr.2.1⟩,Qrd hL (p:=p) (x:=p.zA.zL[n].To) ⟨hr.2.2.1,hr.2.2.2.1⟩]
   rw [Qrg hr.1 (by omega),Qrg hr.2.2.1 (by omega),Qne (d:=0) (l:=s.2) hr.1 (by omega),Qne (d:=0) (l:=s.2) hr.2.2.1 (by omega),Qrc (l:=s.2) hr.1 (by omega),Qnd (x:=(d:Int) + 1 - 1) (by omega) (by omega)]
   unfold Qv5 Q6k
   simp only [Option.bind_some,show (d:Int) + 1 - 1 = d by omega]
   generalize p.zA.zL[n] = e at hr ⊢
   cases lf L e.From <;> cases lf L e.To <;> by_cases h1:ati s.2 e.From < 0 <;> by_cases h2:ati s.2 e.To = d <;> simp [h1,h2]
  ·dsimp only
   rw [if_neg (by omega)]
 have hlast:(lenO (Qud p L) (Int.toNat p.zA.zM)) = some ():=Q3r (Q39 hp L).ln
 refine Option.bind_eq_some_iff.2 ⟨Qud p L,?_,by rw [hlast]; rfl⟩
 refine Q7b (fun x=>∃ d:Nat,x.1 = (d:Int) + 1∧x.2.2 = dN p L d∧(x.2.1 = true∧d≤p.zA.zM.toNat∨x.2.1 = false∧dN p L d = Qud p L)) (fun x=>p.zA.zM.toNat + 4 - x.1.toNat) (some (Qud p L)) ⟨0,rfl,rfl,.inl ⟨rfl,by omega⟩⟩ (by dsimp only; omega) ?_
 rintro k ⟨r,more,c⟩ ⟨d,hr,hc,hm⟩ ih
 dsimp only at hr hc hm ih ⊢
 subst hr hc
 rcases hm with ⟨rfl,hdn⟩ | ⟨rfl,hq⟩
 ·rw [if_pos rfl]
  have hln:=(Qbd3 hp L d).ln
  rw [hround d _ hln (by omega),Option.bind_some]
  have hsnd:(p.zA.zL.foldl (Qv5 L d) (false,dN p L d)).2 = dN p L (d + 1):=Qbd6
  have hd0:(0:Int)≤(d:Int):=by omega
  have hwr:IntKind.wrap .i64 ((d:Int) + 1 + 1) = ((d + 1:Nat):Int) + 1:=by rw [Qnd (by omega) (by omega)]; omega
  generalize hgen:p.zA.zL.foldl (Qv5 L d) (false,dN p L d) = R at hsnd
  obtain ⟨m,c'⟩:=R
  dsimp only at hsnd ⊢
  subst hsnd
  rw [hwr]
  refine ih _ ⟨d + 1,rfl,rfl,?_⟩ (by dsimp only; omega)
  cases m with
  | true =>
   left
   refine ⟨rfl,?_⟩
   rcases Qbd7 hp hd0 (L:=L) (l:=p.zA.zL) (s:=(false,dN p L d)) (fun _ h=>h) hln (by rw [hgen]) with q | ⟨y,h0,h1,h2⟩
   ·cases q
   ·have:=(Qbd3 hp L (d + 1)).bound hp L h0 h1
    have h2:ati (dN p L (d + 1)) y = (d:Int) + 1:=h2
    omega
  | false =>
   right
   refine ⟨rfl,?_⟩
   have hs:dN p L (d + 1) = dN p L d:=Qbd8 hp hd0 (L:=L) (l:=p.zA.zL) (s:=(false,dN p L d)) (by rw [hgen])
   rw [hs]
   exact (Qbd5 hp L hs _ hdn).symm
 ·rw [if_neg (by simp),hq]
end
section
variable {p:Qb} (hp:RightP p) {R:List Int} (hR:Qbix p R) (T:List Qd) (r:Int)
theorem Qbj4 {L:List Bool} {k:Nat} (hp:RightP p):p.zA.zL.foldl (fun out x=>if lf L x.From && (decide (ati out x.From < 0) && (ati out x.To == (k:Int))) then out.set x.From.toNat ((k:Int) + 1) else out) (dN p L k) = dN p L (k + 1):=by
 have hd:(0:Int)≤(k:Int):=by omega
 have key:∀ (l:List Qe) (out:List Int),(∀ x∈l,x∈p.zA.zL)→Grow p L k (dN p L k) out→l.foldl (fun out x=>if lf L x.From && (decide (ati out x.From < 0) && (ati out x.To == (k:Int))) then out.set x.From.toNat ((k:Int) + 1) else out) out = l.foldl (Qnf L (k:Int)) out:=by
  intro l
  induction l with
  | nil=>intro out _ _; rfl
  | cons x l ih =>
   intro out hm hg
   have hx:=hm x (by simp)
   have hr:=hp.a.ed0 x hx
   have hln:out.length = p.zA.zM.toNat:=by rw [hg.ln,(Qbd3 hp L k).ln]
   rw [List.foldl_cons,List.foldl_cons]
   have e:(if lf L x.From && (decide (ati out x.From < 0) && (ati out x.To == (k:Int))) then out.set x.From.toNat ((k:Int) + 1) else out) = Qnf L (k:Int) out x:=by
    unfold Qnf Q6k
    by_cases ht:ati out x.To = (k:Int)
    ·have:lf L x.To = true:=by
      rcases hg.vl x.To hr.2.2.1 hr.2.2.2.1 with q | ⟨_,_,q,_⟩
      ·exact (Qbd3 hp L k).lv x.To hr.2.2.1 hr.2.2.2.1 (by omega)
      ·exact q
     rw [this,Bool.true_and]
    ·have:(ati out x.To == (k:Int)) = false:=by simpa using ht
     rw [this]; simp
   rw [e]
   exact ih _ (fun y hy=>hm y (by simp [hy])) (hg.trans hp hd (Q38 hp hd hln hx))
 exact key p.zA.zL _ (fun _ h=>h) (Grow.refl _)
include hp hR
theorem Q7j:Qcp ⟨p,R,T,r⟩ = some (Qud p (Qc0 R)):=by
 unfold Qcp Qu
 obtain ⟨fuel,hfu,hge⟩ : ∃ f,Qby = f∧1099511627776≤f:=⟨_,rfl,Nat.le_refl _⟩
 rw [hfu]
 dsimp only
 have hst:=hp.a.st
 have hsm:=hp.a.small
 rw [show mkO p.zA.zM (0:Int) = some (List.replicate p.zA.zM.toNat 0) from by unfold mkO lim; rw [if_pos (by omega)]]
 rw [Option.bind_some]
 refine Option.bind_eq_some_iff.2 ⟨Qbe4 p (Qc0 R),?_,?_⟩
 ·refine (Qes (l:=upto p.zA.zM) (fun i (c:List Int)=>(i,c)) (fun c i=>c.set i.toNat (if lf (Qc0 R) i && decide (i∈p.zA.zK) then 0 else -1)) (fun _ c=>c.length = p.zA.zM.toNat) (fun c=>some c) (by rw [Qb6]; unfold big; omega) hge (fun k n s hn hs=>?_) (fun n s hn hs=>by rw [List.length_set]; exact hs) (fun k s hs=>?_) (by simp)).trans ?_
  ·have hn':=Qiw hn
   have hra:=Qt2 hR (x:=(n:Int)) ⟨by omega,by omega⟩
   dsimp only
   rw [Qll hn,if_pos (by omega),Qrg (by omega) (by omega),Qrc (by omega) (by omega)]
   simp only [Option.bind_some,hra]
   rw [Q8z hsm.1.2.1,Qrc (by omega) (by rw [List.length_set]; omega)]
   cases lf (Qc0 R) (n:Int) <;> by_cases hm:(n:Int)∈p.zA.zK <;> simp [hm]
  ·dsimp only
   rw [Qb6,if_neg (by omega)]
  ·rw [Qbbm (by simp)]
 have hround:∀ (d:Nat) (c:List Int),c.length = p.zA.zM.toNat→d≤4096→Qb1 (fun (k37:Int×List Int→Option (List Int)) ((x35,c36):Int×(List Int))=>(if (x35 < (p.zA.zL.length:Int)) then ((((getO p.zA.zL x35).bind fun x39=>((((inO R.length x39.From).bind fun u41=>((getO R x39.From).bind fun x43=>(if (x43 == 0) then ((inO (Int.toNat p.zA.zM) x39.From).bind fun u46=>((getO c36 x39.From).bind fun x48=>(if (x48 < 0) then ((inO (Int.toNat p.zA.zM) x39.To).bind fun u51=>((getO c36 x39.To).bind fun x53=>some (x53 == (d:Int)))) else some false))) else some false)))).bind fun (x55:Bool)=>(if x55 then ((inO (Int.toNat p.zA.zM) x39.From).bind fun u57=>((setO c36 x39.From (IntKind.wrap .i64 ((d:Int) + 1))).bind fun x59=>some (x59,x39.From,x39.Event,x39.To))) else some (c36,x39.From,x39.Event,x39.To))))).bind fun ((c61,y62,y63,y64):(List Int)×Int×Int×Int)=>k37 ((IntKind.wrap .i64 (x35 + 1)),c61)) else some c36)) fuel (0,c) = some (p.zA.zL.foldl (fun out x=>if lf (Qc0 R) x.From && (decide (ati out x.From < 0) && (ati out x.To == (d:Int))) then out.set x.From.toNat ((d:Int) + 1) else out) c):=by
  intro d c hc hd
  refine (Qes (l:=p.zA.zL) (fun i (s:List Int)=>(i,s)) (fun out x=>if lf (Qc0 R) x.From && (decide (ati out x.From < 0) && (ati out x.To == (d:Int))) then out.set x.From.toNat ((d:Int) + 1) else out) (fun _ s=>s.length = p.zA.zM.toNat) (fun s=>some s) hsm.1.2.2 hge (fun k n s hn hs=>?_) (fun n s hn hs=>by split <;> simp [hs]) (fun k s hs=>?_) hc)
  ·have hr:=hp.a.ed0 _ (List.getElem_mem hn)
   have hra:=Qt2 hR (x:=p.zA.zL[n].From) ⟨hr.1,hr.2.1⟩
   dsimp only
   rw [if_pos (by omega),Qbu hn]
   simp only [Option.bind_some,hra]
   rw [Qrg hr.1 (by omega),Qrg hr.2.2.1 (by omega),Qne (d:=0) (l:=s) hr.1 (by omega),Qne (d:=0) (l:=s) hr.2.2.1 (by omega),Qnd (x:=(d:Int) + 1) (by omega) (by omega),Qrc (l:=s) hr.1 (by omega)]
   simp only [Option.bind_some]
   generalize p.zA.zL[n] = e at hr ⊢
   cases lf (Qc0 R) e.From <;> by_cases h1:ati s e.From < 0 <;> by_cases h2:ati s e.To = d <;> simp [h1,h2]
  ·dsimp only
   rw [if_neg (by omega)]
 have hlast:(lenO (Qud p (Qc0 R)) (Int.toNat p.zA.zM)) = some ():=Q3r (Q39 hp _).ln
 refine Option.bind_eq_some_iff.2 ⟨Qud p (Qc0 R),?_,by rw [hlast]; rfl⟩
 refine Qhy (len:=p.zA.zM.toNat) (fun n (c:List Int)=>((n:Int),c)) (fun n c=>c = dN p (Qc0 R) n) (fun n c=>some (Qud p (Qc0 R))) ?_ ?_ fuel 0 (Qbe4 p (Qc0 R)) (Nat.zero_le _) (by omega) rfl
 ·rintro k n c hn rfl ih
  dsimp only
  rw [if_pos (by omega),hround n _ (Qbd3 hp _ n).ln (by omega),Option.bind_some,Qbj4 hp,Qcg (by omega)]
  exact ih _ rfl
 ·rintro k c rfl
  dsimp only
  rw [if_neg (by omega)]; rfl
end
end Go.Abs
end
section
namespace Go.Abs
open Go
def remE (p:Qb) (L:List Bool) (rank i:Int):Option Qd:=if lf L i && ((escP p L i).1 != 0) then some ⟨i,rank,(escP p L i).1,(escP p L i).2⟩ else none
def remB (p:Qb) (L:List Bool) (rank i:Int):Option Qd:=if lf L i && decide (ati (Qud p L) i < 0) then some ⟨i,rank,3,-1⟩ else none
def Qbag (p:Qb) (L:List Bool) (rank:Int):List Qd:=(upto p.zA.zM).filterMap (remE p L rank)
def Qbku (p:Qb) (L:List Bool) (rank:Int):List Qd:=(upto p.zA.zM).filterMap (remB p L rank)
def Qjs (p:Qb) (L:List Bool) (rank:Int):List Qd:=if ((Qbag p L rank).length:Int) > 0 then Qbag p L rank else Qbku p L rank
theorem Qblv (p:Qb) (L:List Bool) (s:Int):(escP p L s).1 = 0∨(escP p L s).1 = 2∨(escP p L s).1 = 4:=by
 unfold escP
 split
 ·exact .inr (.inl rfl)
 ·split
  ·exact .inr (.inr rfl)
  ·exact .inl rfl
theorem Qbiz (p:Qb) (R:List Int) (s:Int):decide ((Qbe3 p R s).1 > 0) = ((escP p (Qc0 R) s).1 != 0)∧((escP p (Qc0 R) s).1≠0→Qbe3 p R s = escP p (Qc0 R) s):=by
 unfold Qbe3
 rcases Qblv p (Qc0 R) s with h | h | h <;> simp [h]
section
variable {p:Qb} (hp:RightP p) {L:List Bool} (hL:L.length = p.zA.zM.toNat) (rank:Int)
include hp hL
theorem Qbj5:Qc4 (tsk p L) rank = some (Qjs p L rank):=by
 unfold Qc4 Qbk
 obtain ⟨fuel,hfu,hge⟩ : ∃ f,Qby = f∧1099511627776≤f:=⟨_,rfl,Nat.le_refl _⟩
 rw [hfu,Q8l hp hL]
 rw [show (tsk p L).left_ = L from rfl]
 have hst:=hp.a.st
 have hul:(upto p.zA.zM).length < big:=by rw [Qb6]; unfold big; omega
 have huf:(upto p.zA.zM).length < fuel:=by rw [Qb6]; omega
 rw [Q7c (l:=upto p.zA.zM) (f:=remE p L rank) hul huf (fun k acc n hn ha=>by
  have hn':=Qiw hn
  dsimp only
  rw [Qll hn,if_pos (by omega),Qbiw hp hL ⟨by omega,by omega⟩]
  simp only [Option.bind_some,Qrd hL (p:=p) (x:=(n:Int)) ⟨by omega,by omega⟩]
  rw [Qce (by simp only [List.length_cons,List.length_nil]; unfold lim; omega)]
  unfold remE
  cases lf L (n:Int) <;> by_cases h1:(escP p L (n:Int)).1 = 0 <;> simp [h1]) (fun k acc=>by
  dsimp only
  rw [Qb6,if_neg (by omega)]),Option.bind_some]
 unfold Qjs
 by_cases hE:((Qbag p L rank).length:Int) > 0
 ·rw [if_pos hE,if_pos (show ((((upto p.zA.zM).filterMap (remE p L rank)).length:Nat):Int) > 0 from hE)]; rfl
 ·rw [if_neg hE,if_neg (show ¬ ((((upto p.zA.zM).filterMap (remE p L rank)).length:Nat):Int) > 0 from hE)]
  have hnil:(upto p.zA.zM).filterMap (remE p L rank) = []:=List.eq_nil_of_length_eq_zero (by unfold Qbag at hE; omega)
  rw [hnil]
  simp only [Option.bind_some]
  have hdl:=(Q39 hp L).ln
  rw [Q7c (l:=upto p.zA.zM) (f:=remB p L rank) hul huf (fun k acc n hn ha=>by
   have hn':=Qiw hn
   dsimp only
   rw [Qll hn,if_pos (by omega),Qne (d:=0) (l:=Qud p L) (by omega) (by omega)]
   simp only [Option.bind_some,Qrd hL (p:=p) (x:=(n:Int)) ⟨by omega,by omega⟩]
   rw [Qce (by simp only [List.length_cons,List.length_nil]; unfold lim; omega)]
   unfold remB
   cases lf L (n:Int) <;> by_cases h1:ati (Qud p L) (n:Int) < 0 <;> simp [h1]) (fun k acc=>by
   dsimp only
   rw [Qb6,if_neg (by omega)])]
  rfl
end
section
variable {p:Qb} (hp:RightP p) {R:List Int} (hR:Qbix p R) (T:List Qd) (r rank:Int)
include hp hR
theorem Qbi0:Qdv ⟨p,R,T,r⟩ rank = some (Qjs p (Qc0 R) rank):=by
 unfold Qdv Qbn
 obtain ⟨fuel,hfu,hge⟩ : ∃ f,Qby = f∧1099511627776≤f:=⟨_,rfl,Nat.le_refl _⟩
 rw [hfu,Q7j hp hR T r]
 dsimp only
 have hst:=hp.a.st
 have hRl:=hR.ln
 have hul:(upto p.zA.zM).length < big:=by rw [Qb6]; unfold big; omega
 have huf:(upto p.zA.zM).length < fuel:=by rw [Qb6]; omega
 rw [Q7c (l:=upto p.zA.zM) (f:=remE p (Qc0 R) rank) hul huf (fun k acc n hn ha=>by
  have hn':=Qiw hn
  have hra:=Qt2 hR (x:=(n:Int)) ⟨by omega,by omega⟩
  obtain ⟨hm1,hm2⟩:=Qbiz p R (n:Int)
  dsimp only
  rw [Qll hn,if_pos (by omega),Qblu hp hR]
  simp only [Option.bind_some,hra.1,hra.2.1]
  have h4:(ati R (n:Int) > 0)↔lf (Qc0 R) (n:Int) = false:=by
   rw [← decide_eq_true_iff (p:=ati R (n:Int) > 0),hra.2.2.2]; simp
  have h5:((Qbe3 p R (n:Int)).1 > 0)↔(escP p (Qc0 R) (n:Int)).1≠0:=by
   rw [← decide_eq_true_iff (p:=(Qbe3 p R (n:Int)).1 > 0),hm1]; simp
  simp only [h4,h5]
  rw [Qce (by simp only [List.length_cons,List.length_nil]; unfold lim; omega)]
  unfold remE
  cases lf (Qc0 R) (n:Int) <;> by_cases h1:(escP p (Qc0 R) (n:Int)).1 = 0
  ·simp [h1]
  ·simp [h1]
  ·simp [h1]
  ·rw [hm2 h1]; simp [h1]) (fun k acc=>by
  dsimp only
  rw [Qb6,if_neg (by omega)]),Option.bind_some]
 unfold Qjs
 by_cases hE:((Qbag p (Qc0 R) rank).length:Int) > 0
 ·rw [if_pos hE,if_pos (show ((((upto p.zA.zM).filterMap (remE p (Qc0 R) rank)).length:Nat):Int) > 0 from hE)]; rfl
 ·rw [if_neg hE,if_neg (show ¬ ((((upto p.zA.zM).filterMap (remE p (Qc0 R) rank)).length:Nat):Int) > 0 from hE)]
  have hnil:(upto p.zA.zM).filterMap (remE p (Qc0 R) rank) = []:=List.eq_nil_of_length_eq_zero (by unfold Qbag at hE; omega)
  rw [hnil]
  simp only [Option.bind_some]
  have hdl:=(Q39 hp (Qc0 R)).ln
  rw [Q7c (l:=upto p.zA.zM) (f:=remB p (Qc0 R) rank) hul huf (fun k acc n hn ha=>by
   have hn':=Qiw hn
   have hra:=Qt2 hR (x:=(n:Int)) ⟨by omega,by omega⟩
   dsimp only
   rw [Qll hn,if_pos (by omega),Qne (d:=0) (l:=Qud p (Qc0 R)) (by omega) (by omega)]
   simp only [Option.bind_some,hra]
   rw [Qce (by simp only [List.length_cons,List.length_nil]; unfold lim; omega)]
   unfold remB
   cases lf (Qc0 R) (n:Int) <;> by_cases h1:ati (Qud p (Qc0 R)) (n:Int) < 0 <;> simp [h1]) (fun k acc=>by
   dsimp only
   rw [Qb6,if_neg (by omega)])]
  rfl
end
end Go.Abs
end
section
namespace Go.Abs
open Go
abbrev nS (p:Qb):Nat:=p.zA.zM.toNat
def Qb0 (p:Qb) (T:List Qd):List Bool:=T.foldl (fun c x=>c.set x.State.toNat false) (List.replicate (nS p) true)
def Q3t (p:Qb) (T:List Qd):List Int:=T.foldl (fun c x=>c.set x.State.toNat x.Rank) (List.replicate (nS p) 0)
def Qv6 (p:Qb) (T:List Qd):List Qd:=T.foldl (fun c x=>c.set x.State.toNat x) (List.replicate (nS p) ⟨0,0,0,0⟩)
theorem Qpw (p:Qb) (T:List Qd):(Qb0 p T).length = nS p:=by unfold Qb0; rw [Q8y (f:=fun x:Qd=>x.State.toNat) (g:=fun _=>false),List.length_replicate]
theorem Q7k (p:Qb) (T:List Qd):(Q3t p T).length = nS p:=by unfold Q3t; rw [Q8y (f:=fun x:Qd=>x.State.toNat) (g:=fun x=>x.Rank),List.length_replicate]
theorem Qbd9 (p:Qb) (T:List Qd):(Qv6 p T).length = nS p:=by unfold Qv6; rw [Q8y (f:=fun x:Qd=>x.State.toNat) (g:=fun x=>x),List.length_replicate]
structure Okt (p:Qb) (T:List Qd):Prop where
 rg:∀ x∈T,0≤x.State∧x.State < p.zA.zM
 rk:∀ x∈T,1≤x.Rank
 nd:(T.map (·.State)).Nodup
theorem Q6l {p:Qb} {T:List Qd} (h:∀ x∈T,1≤x.Rank):Qc0 (Q3t p T) = Qb0 p T:=by
 have key:∀ (T:List Qd) (R:List Int),(∀ x∈T,1≤x.Rank)→Qc0 (T.foldl (fun c x=>c.set x.State.toNat x.Rank) R) = T.foldl (fun c x=>c.set x.State.toNat false) (Qc0 R):=by
  intro T
  induction T with
  | nil=>intro R _; rfl
  | cons x T ih =>
   intro R hR
   rw [List.foldl_cons,List.foldl_cons,ih _ fun y hy=>hR y (by simp [hy])]
   congr 1
   unfold Qc0
   rw [List.map_set]
   have:(x.Rank == 0) = false:=by have:=hR x (by simp); rw [beq_eq_false_iff_ne]; omega
   rw [this]
 unfold Q3t Qb0
 rw [key T _ h]
 congr 1
 unfold Qc0
 simp
theorem Qbcm {p:Qb} {T:List Qd} (h:∀ x∈T,0≤x.State∧x.State < p.zA.zM) {y:Int} (h0:0≤y) (h1:y < p.zA.zM):lf (Qb0 p T) y = !T.any fun x=>x.State == y:=by
 have key:∀ (T:List Qd) (c:List Bool),(∀ x∈T,0≤x.State∧x.State < p.zA.zM)→c.length = nS p→lf (T.foldl (fun c x=>c.set x.State.toNat false) c) y = (lf c y && !T.any fun x=>x.State == y):=by
  intro T
  induction T with
  | nil=>intro c _ _; simp
  | cons x T ih =>
   intro c hT hc
   have hx:=hT x (by simp)
   rw [List.foldl_cons,ih _ (fun z hz=>hT z (by simp [hz])) (by rw [List.length_set]; exact hc),Qbmk ⟨hx.1,by unfold nS at hc; omega⟩ h0,List.any_cons]
   by_cases hq:y = x.State
   ·subst hq; simp
   ·rw [if_neg hq]
    have:(x.State == y) = false:=by rw [beq_eq_false_iff_ne]; exact fun e=>hq e.symm
    rw [this]; simp
 unfold Qb0
 rw [key T _ h (by simp)]
 have:lf (List.replicate (nS p) true) y = true:=Qbiq h0 (by unfold nS; omega)
 rw [this,Bool.true_and]
theorem Qbe5 {p:Qb} {T:List Qd} (h:Okt p T):Qbix p (Q3t p T):=by
 refine ⟨Q7k p T,fun y h0 h1=>?_⟩
 have key:∀ (T:List Qd) (c:List Int),(∀ x∈T,0≤x.State∧x.State < p.zA.zM)→(∀ x∈T,1≤x.Rank)→c.length = nS p→0≤ati c y→0≤ati (T.foldl (fun c x=>c.set x.State.toNat x.Rank) c) y:=by
  intro T
  induction T with
  | nil=>intro c _ _ _ h; exact h
  | cons x T ih =>
   intro c hT hr hc h
   have hx:=hT x (by simp)
   refine ih _ (fun z hz=>hT z (by simp [hz])) (fun z hz=>hr z (by simp [hz])) (by rw [List.length_set]; exact hc) ?_
   rw [Qbck ⟨hx.1,by unfold nS at hc; omega⟩ h0]
   split
   ·have:=hr x (by simp); omega
   ·exact h
 refine key T _ h.rg h.rk (by simp) ?_
 have:ati (List.replicate (nS p) 0) y = 0:=Qbiq h0 (by unfold nS; omega)
 rw [this]; omega
theorem Qbj6 {p:Qb} {T:List Qd} (h:Okt p T) {x:Qd} (hx:x∈T):at0 ⟨0,0,0,0⟩ (Qv6 p T) x.State = x:=by
 have key:∀ (T:List Qd) (c:List Qd),(∀ x∈T,0≤x.State∧x.State < p.zA.zM)→(T.map (·.State)).Nodup→c.length = nS p→∀ y:Int,0≤y→y < p.zA.zM→∀ z,at0 ⟨0,0,0,0⟩ (T.foldl (fun c x=>c.set x.State.toNat x) c) y = z→(∃ x∈T,x.State = y∧x = z)∨(∀ x∈T,x.State≠y)∧at0 ⟨0,0,0,0⟩ c y = z:=by
  intro T
  induction T with
  | nil=>intro c _ _ _ y h0 h1 z hz; exact .inr ⟨fun x hx=>(by cases hx),hz⟩
  | cons x T ih =>
   intro c hT hn hc y h0 h1 z hz
   have hx:=hT x (by simp)
   rw [List.map_cons,List.nodup_cons] at hn
   rw [List.foldl_cons] at hz
   rcases ih _ (fun z hz=>hT z (by simp [hz])) hn.2 (by rw [List.length_set]; exact hc) y h0 h1 z hz with ⟨w,hw,k1,k2⟩ | ⟨k1,k2⟩
   ·exact .inl ⟨w,by simp [hw],k1,k2⟩
   ·rw [Qbf0 ⟨hx.1,by unfold nS at hc; omega⟩ h0] at k2
    by_cases hq:y = x.State
    ·rw [if_pos hq] at k2
     exact .inl ⟨x,by simp,hq.symm,k2⟩
    ·rw [if_neg hq] at k2
     refine .inr ⟨fun w hw=>?_,k2⟩
     rcases List.mem_cons.1 hw with rfl | hw
     ·exact fun e=>hq e.symm
     ·exact k1 w hw
 have hr:=h.rg x hx
 rcases key T (List.replicate (nS p) ⟨0,0,0,0⟩) h.rg h.nd (by simp) x.State hr.1 hr.2 _ rfl with ⟨w,hw,k1,k2⟩ | ⟨k1,_⟩
 ·change at0 ⟨0,0,0,0⟩ (Qv6 p T) x.State = x
  have:w = x:=by
   have hnd:=h.nd
   have hpw:T.Pairwise fun a b=>a.State≠b.State:=by rw [List.Nodup,List.pairwise_map] at hnd; exact hnd
   rcases Classical.em (w = x) with e | hne
   ·exact e
   ·exfalso
    obtain ⟨i,hi,rfl⟩:=List.getElem_of_mem hw
    obtain ⟨j,hj,rfl⟩:=List.getElem_of_mem hx
    rcases Nat.lt_trichotomy i j with hij | hij | hij
    ·exact List.pairwise_iff_getElem.1 hpw i j hi hj hij k1
    ·subst hij; exact hne rfl
    ·exact List.pairwise_iff_getElem.1 hpw j i hj hi hij k1.symm
  rw [← this]
  unfold Qv6
  rw [this]
  exact k2.symm.trans this
 ·exact absurd rfl (k1 x hx)
theorem Qsx {p:Qb} {L:List Bool} {rank:Int} {x:Qd} (hx:x∈Qjs p L rank):(0≤x.State∧x.State < p.zA.zM)∧lf L x.State = true∧x.Rank = rank:=by
 have hE:∀ x∈Qbag p L rank,(0≤x.State∧x.State < p.zA.zM)∧lf L x.State = true∧x.Rank = rank:=fun x hx=>by
  obtain ⟨i,hi,h⟩:=List.mem_filterMap.1 hx
  unfold remE at h
  split at h <;> cases h
  rename_i hc
  exact ⟨Q37.1 hi,by simp only [Bool.and_eq_true] at hc; exact hc.1,rfl⟩
 have hB:∀ x∈Qbku p L rank,(0≤x.State∧x.State < p.zA.zM)∧lf L x.State = true∧x.Rank = rank:=fun x hx=>by
  obtain ⟨i,hi,h⟩:=List.mem_filterMap.1 hx
  unfold remB at h
  split at h <;> cases h
  rename_i hc
  exact ⟨Q37.1 hi,by simp only [Bool.and_eq_true] at hc; exact hc.1,rfl⟩
 unfold Qjs at hx
 split at hx
 ·exact hE x hx
 ·exact hB x hx
theorem Qbi1 {f:Int→Option Qd} (hf:∀ i x,f i = some x→x.State = i) {l:List Int} (h:l.Pairwise (· < ·)):((l.filterMap f).map (·.State)).Pairwise (· < ·):=by
 rw [List.pairwise_map,List.pairwise_filterMap]
 refine h.imp fun {a b} hab x hx y hy=>?_
 rw [hf a x hx,hf b y hy]; exact hab
theorem Qbe6 (p:Qb) (L:List Bool) (rank:Int):((Qjs p L rank).map (·.State)).Pairwise (· < ·):=by
 unfold Qjs
 split
 ·exact Qbi1 (fun i x h=>by unfold remE at h; split at h <;> cases h; rfl) (Q7f _)
 ·exact Qbi1 (fun i x h=>by unfold remB at h; split at h <;> cases h; rfl) (Q7f _)
theorem Okt.round {p:Qb} {T:List Qd} (h:Okt p T) {rank:Int} (hr:1≤rank):Okt p (T ++ Qjs p (Qb0 p T) rank):=by
 refine ⟨fun x hx=>?_,fun x hx=>?_,?_⟩
 ·rcases List.mem_append.1 hx with hx | hx
  ·exact h.rg x hx
  ·exact (Qsx hx).1
 ·rcases List.mem_append.1 hx with hx | hx
  ·exact h.rk x hx
  ·rw [(Qsx hx).2.2]; exact hr
 ·rw [List.map_append,List.nodup_append]
  refine ⟨h.nd,(Qbe6 p _ rank).imp fun h=>by omega,fun a ha b hb=>?_⟩
  obtain ⟨x,hx,rfl⟩:=List.mem_map.1 ha
  obtain ⟨y,hy,rfl⟩:=List.mem_map.1 hb
  obtain ⟨k1,k2,_⟩:=Qsx hy
  intro e
  rw [Qbcm h.rg k1.1 k1.2] at k2
  simp only [Bool.not_eq_true',List.any_eq_false] at k2
  exact k2 x hx (by simp [e])
theorem Okt.len {p:Qb} {T:List Qd} (h:Okt p T):T.length≤nS p:=by
 have hsub:∀ x∈T.map (·.State),x∈upto p.zA.zM:=fun x hx=>by
  obtain ⟨y,hy,rfl⟩:=List.mem_map.1 hx
  exact Q37.2 (h.rg y hy)
 have hlen:∀ {l m:List Int},l.Nodup→(∀ x∈l,x∈m)→l.length≤m.length:=fun {l m} h hs=>by
  induction l generalizing m with
  | nil=>simp
  | cons x l ih =>
   obtain ⟨a1,a2⟩:=List.nodup_cons.1 h
   have hx:=hs x (by simp)
   have:=ih (m:=m.erase x) a2 fun y hy=>(List.mem_erase_of_ne (by rintro rfl; exact a1 hy)).2 (hs y (by simp [hy]))
   rw [List.length_erase_of_mem hx] at this
   have:0 < m.length:=List.length_pos_of_mem hx
   simp only [List.length_cons]; omega
 have:=hlen h.nd hsub
 rw [List.length_map,Qb6] at this
 exact this
def T0 (p:Qb):List Qd:=p.zC.map fun x=>⟨x,1,1,-1⟩
def r0 (p:Qb):Int:=if p.zC = [] then 0 else 1
def Q3u (p:Qb):Nat→Int→List Qd→Int→List Qd×Int
 | 0,_,T,r=>(T,r)
 | f + 1,rank,T,r=>if Qjs p (Qb0 p T) rank = [] then (T,r) else Q3u p f (rank + 1) (T ++ Qjs p (Qb0 p T) rank) rank
def solP (p:Qb):List Qd×Int:=Q3u p (nS p + 1) 2 (T0 p) (r0 p)
theorem Qbi2 {p:Qb} (hp:RightP p):Okt p (T0 p):=by
 unfold T0
 refine ⟨fun x hx=>?_,fun x hx=>?_,?_⟩
 ·obtain ⟨y,hy,rfl⟩:=List.mem_map.1 hx; exact hp.fo.rg y hy
 ·obtain ⟨y,hy,rfl⟩:=List.mem_map.1 hx; exact Int.le_refl _
 ·rw [List.map_map]
  have:((fun x:Qd=>x.State) ∘ fun x:Int=>(⟨x,1,1,-1⟩ : Qd)) = id:=rfl
  rw [this,List.map_id]
  exact hp.fo.so.imp fun h=>by omega
end Go.Abs
end
section
namespace Go.Abs
open Go
theorem Q7l {α β γ:Type} {f:α→γ→α} {g:β→γ→β}:∀ {l:List γ} {a:α} {b:β},l.foldl (fun s x=>(f s.1 x,g s.2 x)) (a,b) = (l.foldl f a,l.foldl g b)
 | [],_,_=>rfl
 | x :: l,a,b=>by rw [List.foldl_cons,Q7l (l:=l)]; rfl
theorem Qbgr {p:Qb} {T l:List Qd}:l.foldl (fun c x=>c.set x.State.toNat false) (Qb0 p T) = Qb0 p (T ++ l):=by unfold Qb0; rw [List.foldl_append]
theorem Qbgs {p:Qb} {T l:List Qd}:l.foldl (fun c x=>c.set x.State.toNat x.Rank) (Q3t p T) = Q3t p (T ++ l):=by unfold Q3t; rw [List.foldl_append]
theorem Qbgt {p:Qb} {T l:List Qd}:l.foldl (fun c x=>c.set x.State.toNat x) (Qv6 p T) = Qv6 p (T ++ l):=by unfold Qv6; rw [List.foldl_append]
theorem Qbmn {p:Qb} (hp:RightP p):(upto p.zA.zM).map (fun i=>!decide (i∈p.zC)) = Qb0 p (T0 p):=by
 refine Qbir (d:=false) (by rw [Qpw,List.length_map,Qb6]) fun x h0 h1=>?_
 rw [List.length_map,Qb6] at h1
 have h2:x < p.zA.zM:=by omega
 rw [Q6i h0 h2]
 have:=Qbcm (Qbi2 hp).rg h0 h2
 rw [show at0 false (Qb0 p (T0 p)) x = lf (Qb0 p (T0 p)) x from rfl,this]
 congr 1
 unfold T0
 rw [List.any_map,Bool.eq_iff_iff,List.any_eq_true]
 simp
section
variable {p:Qb} (hp:RightP p)
include hp
theorem Qbj7:Qfm p = some (tsk p (Qb0 p (T0 p))):=by
 unfold Qfm Qb5
 obtain ⟨fuel,hfu,hge⟩ : ∃ f,Qby = f∧1099511627776≤f:=⟨_,rfl,Nat.le_refl _⟩
 rw [hfu]
 have hst:=hp.a.st
 have hsm:=hp.a.small
 have hpl:=hp.small
 have hmk:∀ {α:Type} (v:α),mkO p.zA.zM v = some (List.replicate (nS p) v):=fun v=>by unfold mkO lim; rw [if_pos (by omega)]
 rw [hmk,hmk]
 simp only [Option.bind_some]
 refine Option.bind_eq_some_iff.2 ⟨Q78 p,?_,?_⟩
 ·refine (Qhy (len:=p.zA.zL.length) (fun n (c:List (List Qe))=>((n:Int),c)) (fun n c=>c = (upto p.zA.zM).map fun i=>(p.zA.zL.take n).filter fun x=>x.From == i) (fun n c=>some (Q78 p)) ?_ ?_ fuel 0 (List.replicate (nS p) []) (Nat.zero_le _) (by have:=hsm.1.2.2; unfold big at this; omega) ?_)
  ·rintro k n c hn hc ih
   have hr:=hp.a.ed0 _ (List.getElem_mem hn)
   have hcl:c.length = nS p:=by rw [hc,List.length_map,Qb6]
   have hb:=hsm.2.2.2
   have hlen:((p.zA.zL.take n).filter fun x=>x.From == p.zA.zL[n].From).length≤n:=Nat.le_trans (List.length_filter_le _ _) (by rw [List.length_take]; omega)
   dsimp only
   rw [if_pos (by omega),Qbu hn,Option.bind_some,Qrg hr.1 (by omega),Option.bind_some,Qne (d:=[]) hr.1 (by unfold nS at hcl; omega),Option.bind_some]
   have hat:at0 [] c p.zA.zL[n].From = (p.zA.zL.take n).filter fun x=>x.From == p.zA.zL[n].From:=by rw [hc,Q6i hr.1 hr.2.1]
   rw [hat,Qce (by simp only [List.length_cons,List.length_nil]; unfold lim; omega),Option.bind_some,Option.bind_some,Qrc hr.1 (by unfold nS at hcl; omega),Option.bind_some,Qcg (by omega)]
   refine ih _ ?_
   refine Qbir (d:=[]) (by rw [List.length_set,hcl,List.length_map,Qb6]) fun y h0 h1=>?_
   rw [List.length_set,hcl] at h1
   have h2:y < p.zA.zM:=by unfold nS at h1; omega
   rw [Qbf0 ⟨hr.1,by unfold nS at hcl; omega⟩ h0,Q6i h0 h2,List.take_succ_eq_append_getElem hn,List.filter_append]
   by_cases hq:y = p.zA.zL[n].From
   ·rw [if_pos hq,← hq]; simp [hq]
   ·rw [if_neg hq,hc,Q6i h0 h2]
    have:(p.zA.zL[n].From == y) = false:=by rw [beq_eq_false_iff_ne]; exact fun e=>hq e.symm
    simp [this]
  ·rintro k c hc
   dsimp only
   rw [if_neg (by omega),hc,List.take_length]
   rfl
  ·refine Qbir (d:=[]) (by rw [List.length_replicate,List.length_map,Qb6]) fun y h0 h1=>?_
   rw [List.length_replicate] at h1
   have h2:y < p.zA.zM:=by unfold nS at h1; omega
   rw [Qbiq h0 (by unfold nS at h1 ⊢; omega),Q6i h0 h2]; simp
 refine Option.bind_eq_some_iff.2 ⟨Qb0 p (T0 p),?_,?_⟩
 ·refine (Qes (l:=upto p.zA.zM) (fun i (c:List Bool)=>(i,c)) (fun c i=>c.set i.toNat (!decide (i∈p.zC))) (fun _ c=>c.length = nS p) (fun c=>some c) (by rw [Qb6]; unfold big; omega) hge (fun k n s hn hs=>?_) (fun n s hn hs=>by rw [List.length_set]; exact hs) (fun k s hs=>?_) (s0:=List.replicate (nS p) false) (by simp)).trans ?_
  ·have hn':=Qiw hn
   dsimp only
   rw [Qll hn,if_pos (by omega),Qdo hp.fo.so hpl.2.1,Option.bind_some,Qrg (by omega) (by omega),Option.bind_some,Qrc (by omega) (by unfold nS at hs; omega),Option.bind_some]
  ·dsimp only
   rw [Qb6,if_neg (by omega)]
  ·rw [Qbd1 (by simp),Qbmn hp]
 rw [Q3r (by unfold Q78; rw [List.length_map,Qb6]),Option.bind_some,Q3r (Qpw p _),Option.bind_some]
 rfl
theorem Qbgu {fuel:Nat} (hge:1099511627776≤fuel) {S:List Qd×Int} {f:Nat} (hS:Q3u p f 2 (T0 p) (r0 p) = S) (hf:nS p + 1≤f + (T0 p).length) :
  Qb1 (fun (k26:Int×Int×List Qd×List Bool→Option (Int×List Qd×List Bool)) ((rank22,r23,c24,c25):Int×Int×(List Qd)×(List Bool))=>((lenO c25 (nS p)).bind fun _=>((Qc4 (tsk p c25) rank22).bind fun x29=>(if ((x29.length:Int) == 0) then some (r23,c24,c25) else ((Qb1 (fun k34 ((x31,c32,c33):Int×(List Qd)×(List Bool))=>(if (x31 < (x29.length:Int)) then ((getO x29 x31).bind fun x36=>((inO (nS p) x36.State).bind fun u38=>((setO c33 x36.State false).bind fun x40=>((inO (Int.toNat ((nS p:Nat):Int)) x36.State).bind fun u42=>((setO c32 x36.State x36).bind fun x44=>k34 ((IntKind.wrap .i64 (x31 + 1)),x44,x40)))))) else some (c32,c33))) fuel (0,c24,c25)).bind fun ((c46,c47):(List Qd)×(List Bool))=>k26 ((IntKind.wrap .i64 (rank22 + 1)),rank22,c46,c47)))))) fuel (2,r0 p,Qv6 p (T0 p),Qb0 p (T0 p)) = some (S.2,Qv6 p S.1,Qb0 p S.1):=by
 have hst:=hp.a.st
 have hnS:nS p≤4096:=by unfold nS; omega
 refine Q7b (fun x:Int×Int×List Qd×List Bool=>∃ (f:Nat) (T:List Qd),x.2.2.1 = Qv6 p T∧x.2.2.2 = Qb0 p T∧Okt p T∧Q3u p f x.1 T x.2.1 = S∧nS p + 1≤f + T.length∧2≤x.1∧x.1≤T.length + 2) (fun x=>(6000 - x.1).toNat) (some (S.2,Qv6 p S.1,Qb0 p S.1)) ⟨f,T0 p,rfl,rfl,Qbi2 hp,hS,hf,by dsimp only; omega,by dsimp only; omega⟩ (by dsimp only; omega) ?_
 rintro k ⟨rank,r,c,L⟩ ⟨f,T,hc,hL,hT,hS,hf,h2,hrk⟩ ih
 dsimp only at hc hL hS hf h2 hrk ih ⊢
 subst hc hL
 have hTl:=hT.len
 rw [Q3r (Qpw p T),Option.bind_some,Qbj5 hp (Qpw p T),Option.bind_some]
 obtain ⟨f,rfl⟩ : ∃ g,f = g + 1:=⟨f - 1,by omega⟩
 rw [Q3u] at hS
 by_cases he:Qjs p (Qb0 p T) rank = []
 ·rw [if_pos he] at hS
  rw [if_pos (by rw [he]; rfl)]
  subst hS; rfl
 ·rw [if_neg he] at hS
  have hpos:0 < (Qjs p (Qb0 p T) rank).length:=List.length_pos_iff.2 he
  rw [if_neg (by simp only [beq_iff_eq]; omega)]
  have hok:=hT.round (rank:=rank) (by omega)
  have hmem:∀ x∈Qjs p (Qb0 p T) rank,0≤x.State∧x.State < p.zA.zM:=fun x hx=>(Qsx hx).1
  have hol:=hok.len
  rw [List.length_append] at hol
  generalize Qjs p (Qb0 p T) rank = l at *
  have hin:Qb1 (fun (k34:Int×List Qd×List Bool→Option (List Qd×List Bool)) ((x31,c32,c33):Int×(List Qd)×(List Bool))=>(if (x31 < (l.length:Int)) then ((getO l x31).bind fun x36=>((inO (nS p) x36.State).bind fun u38=>((setO c33 x36.State false).bind fun x40=>((inO (Int.toNat ((nS p:Nat):Int)) x36.State).bind fun u42=>((setO c32 x36.State x36).bind fun x44=>k34 ((IntKind.wrap .i64 (x31 + 1)),x44,x40)))))) else some (c32,c33))) fuel (0,Qv6 p T,Qb0 p T) = some (Qv6 p (T ++ l),Qb0 p (T ++ l)):=by
   refine (Qes (l:=l) (fun i (s:List Qd×List Bool)=>(i,s.1,s.2)) (fun s x=>(s.1.set x.State.toNat x,s.2.set x.State.toNat false)) (fun _ s=>s.1.length = nS p∧s.2.length = nS p) (fun s=>some s) (by unfold big; omega) hge (fun k n s hn hs=>?_) (fun n s hn hs=>by simp only [List.length_set]; exact hs) (fun k s hs=>?_) (s0:=(Qv6 p T,Qb0 p T)) ⟨Qbd9 p T,Qpw p T⟩).trans ?_
   ·have hr:=hmem _ (List.getElem_mem hn)
    obtain ⟨hs1,hs2⟩:=hs
    unfold nS at hs1 hs2 ⊢
    dsimp only
    rw [if_pos (by omega),Qbu hn,Option.bind_some,Qrg hr.1 (by omega),Option.bind_some,Qrc hr.1 (by omega),Option.bind_some,Int.toNat_natCast,Qrg hr.1 (by omega),Option.bind_some,Qrc hr.1 (by omega),Option.bind_some]
   ·dsimp only
    rw [if_neg (by omega)]
   ·rw [← Qbgt,← Qbgr]
    exact congrArg some (Q7l (f:=fun (c:List Qd) (x:Qd)=>c.set x.State.toNat x) (g:=fun (c:List Bool) (x:Qd)=>c.set x.State.toNat false))
  rw [hin,Option.bind_some,Qnd (by omega) (by omega)]
  refine ih _ ⟨f,T ++ l,rfl,rfl,hok,hS,by rw [List.length_append]; omega,by dsimp only; omega,by dsimp only; rw [List.length_append]; omega⟩ (by dsimp only; omega)
theorem Qbi3 {T l:List Qd} {R:List Int} {r:Int} (hR:R.length = nS p) (hl:∀ x∈l,0≤x.State∧x.State < p.zA.zM) (h1:T.length + l.length≤1000000) :
  Qd1 ⟨p,R,T,r⟩ l = some ⟨p,l.foldl (fun c x=>c.set x.State.toNat x.Rank) R,T ++ l,l.foldl (fun c x=>if x.Rank > c then x.Rank else c) r⟩:=by
 unfold Qd1 Qbe
 obtain ⟨fuel,hfu,hge⟩ : ∃ f,Qby = f∧1099511627776≤f:=⟨_,rfl,Nat.le_refl _⟩
 rw [hfu]
 dsimp only
 have hin:Qb1 (fun (k11:Int×Int×List Int→Option (Int×List Int)) ((i8,c9,c10):Int×Int×(List Int))=>(if (i8 < (l.length:Int)) then ((getO l i8).bind fun x13=>((getO l i8).bind fun x15=>((inO R.length x13.State).bind fun u17=>((setO c10 x13.State x15.Rank).bind fun c19=>((getO l i8).bind fun x21=>k11 ((IntKind.wrap .i64 (i8 + 1)),(if x21.Rank > c9 then x21.Rank else c9),c19)))))) else some (c9,c10))) fuel (0,r,R) = some (l.foldl (fun c x=>if x.Rank > c then x.Rank else c) r,l.foldl (fun c x=>c.set x.State.toNat x.Rank) R):=by
  refine (Qes (l:=l) (fun i (s:Int×List Int)=>(i,s.1,s.2)) (fun s x=>((if x.Rank > s.1 then x.Rank else s.1),s.2.set x.State.toNat x.Rank)) (fun _ s=>s.2.length = nS p) (fun s=>some s) (by unfold big; omega) hge (fun k n s hn hs=>?_) (fun n s hn hs=>by simp only [List.length_set]; exact hs) (fun k s hs=>?_) (s0:=(r,R)) hR).trans ?_
  ·have hr:=hl _ (List.getElem_mem hn)
   unfold nS at hs hR
   dsimp only
   rw [if_pos (by omega),Qbu hn]
   simp only [Option.bind_some]
   rw [Qrg hr.1 (by omega),Option.bind_some,Qrc hr.1 (by omega),Option.bind_some]
  ·dsimp only
   rw [if_neg (by omega)]
  ·exact congrArg some (Q7l (f:=fun (c:Int) (x:Qd)=>if x.Rank > c then x.Rank else c) (g:=fun (c:List Int) (x:Qd)=>c.set x.State.toNat x.Rank))
 rw [hin]
 simp only [Option.bind_some]
 rw [Qce (by unfold lim; omega),Option.bind_some]
omit hp in
theorem Qbcn {rank:Int}:∀ {l:List Qd} {r:Int},(∀ x∈l,x.Rank = rank)→r≤rank→l.foldl (fun c x=>if x.Rank > c then x.Rank else c) r = if l = [] then r else rank
 | [],r,_,_=>by simp
 | x :: l,r,h,hr=>by
  have hx:=h x (by simp)
  have:(if x.Rank > r then x.Rank else r) = rank:=by split <;> omega
  rw [List.foldl_cons,this,Qbcn (fun y hy=>h y (by simp [hy])) (Int.le_refl _),if_neg (show ¬ (x :: l = []) by simp)]
  split <;> rfl
theorem Qbj8:Qf0 p = some ⟨p,Q3t p (solP p).1,(solP p).1,(solP p).2⟩:=by
 unfold Qf0 Qcd
 obtain ⟨fuel,hfu,hge⟩ : ∃ f,Qby = f∧1099511627776≤f:=⟨_,rfl,Nat.le_refl _⟩
 rw [hfu]
 have hst:=hp.a.st
 have hnS:nS p≤4096:=by unfold nS; omega
 have hpl:=hp.small
 have hfl:=hp.fo.small hst.2
 have hT0:=Qbi2 hp
 rw [show mkO p.zA.zM (0:Int) = some (List.replicate (nS p) 0) from by unfold mkO lim; rw [if_pos (by omega)]]
 rw [Option.bind_some]
 refine Option.bind_eq_some_iff.2 ⟨T0 p,?_,?_⟩
 ·refine (Qbgl (l:=p.zC) (f:=fun x=>(⟨x,1,1,-1⟩ : Qd)) hpl.2.1 (by omega) (fun k acc n hn=>?_) (fun k acc=>?_)).trans rfl
  ·dsimp only; rw [if_pos (by omega),Qbu hn]; rfl
  ·dsimp only; rw [if_neg (by omega)]
 rw [Q3r (by simp),Option.bind_some,Qbi3 hp (by simp) hT0.rg (by have:=hT0.len; unfold nS at this; simp only [List.length_nil]; omega),Option.bind_some]
 have hr0:(T0 p).foldl (fun c x=>if x.Rank > c then x.Rank else c) 0 = r0 p:=by
  rw [Qbcn (rank:=1) (fun x hx=>by unfold T0 at hx; obtain ⟨y,_,rfl⟩:=List.mem_map.1 hx; rfl) (by omega)]
  unfold r0 T0
  cases p.zC <;> rfl
 rw [hr0,List.nil_append]
 dsimp only
 refine Q7b (fun x=>∃ (f:Nat) (T:List Qd) (rank r:Int),x = (rank,Q3t p T,p.zA.zJ,p.zA.zM,p.zA.zK,p.zA.zL,p.zC,p.zB,p.zD,p.Tick,T,r)∧Okt p T∧Q3u p f rank T r = solP p∧nS p + 1≤f + T.length∧2≤rank∧rank≤T.length + 2∧r≤rank - 1) (fun x=>(6000 - x.1).toNat) _ ⟨nS p + 1,T0 p,2,r0 p,rfl,hT0,rfl,by omega,by omega,by omega,by unfold r0; split <;> omega⟩ (by dsimp only; omega) ?_
 rintro k _ ⟨f,T,rank,r,rfl,hT,hS,hf,h2,hrk,hr⟩ ih
 dsimp only at ih ⊢
 have hTl:=hT.len
 rw [Q3r (Q7k p T),Option.bind_some]
 rw [show (Qb.mk (Qf.mk p.zA.zJ p.zA.zM p.zA.zK p.zA.zL) p.zC p.zB p.zD p.Tick) = p from rfl]
 rw [Qbi0 hp (Qbe5 hT),Option.bind_some,Q6l hT.rk]
 obtain ⟨f,rfl⟩ : ∃ g,f = g + 1:=⟨f - 1,by omega⟩
 rw [Q3u] at hS
 by_cases he:Qjs p (Qb0 p T) rank = []
 ·rw [if_pos he] at hS
  rw [if_pos (by rw [he]; rfl),← hS]
  rfl
 ·rw [if_neg he] at hS
  have hpos:0 < (Qjs p (Qb0 p T) rank).length:=List.length_pos_iff.2 he
  rw [if_neg (by simp only [beq_iff_eq]; omega)]
  have hok:=hT.round (rank:=rank) (by omega)
  have hmem:∀ x∈Qjs p (Qb0 p T) rank,0≤x.State∧x.State < p.zA.zM:=fun x hx=>(Qsx hx).1
  have hrank:∀ x∈Qjs p (Qb0 p T) rank,x.Rank = rank:=fun x hx=>(Qsx hx).2.2
  have hol:=hok.len
  rw [List.length_append] at hol
  generalize Qjs p (Qb0 p T) rank = l at *
  rw [Option.bind_some,Qbi3 hp (Q7k p T) hmem (by unfold nS at hol; omega),Option.bind_some,Qbgs,Qbcn hrank (by omega),if_neg he,Qnd (by omega) (by omega)]
  exact ih _ ⟨f,T ++ l,rank + 1,rank,rfl,hok,hS,by rw [List.length_append]; omega,by omega,by rw [List.length_append]; omega,by omega⟩ (by dsimp only; omega)
end
end Go.Abs
end
section
namespace Go.Abs
open Go
theorem Qbco {β:Type} {z v:β} {k k' : Int}:∀ {m:List (Int×β)},getM (setM m k v) k' z = if k' = k then v else getM m k' z
 | []=>by simp [setM,getM]
 | (q,w) :: m=>by
  by_cases h1:k = q
  ·subst h1
   by_cases h2:k' = k <;> simp [setM,getM,h2]
  ·have h1' : (k == q) = false:=by simp [h1]
   simp only [setM,h1',Bool.false_eq_true,if_false,getM]
   rw [Qbco (m:=m)]
   by_cases h2:k' = q
   ·subst h2
    have:k' ≠ k:=fun e=>h1 e.symm
    simp [this]
   ·simp [h2]
theorem Qbcp {β:Type} {v:β} {k k' : Int}:∀ {m:List (Int×β)},hasM (setM m k v) k' = (decide (k' = k) || hasM m k')
 | []=>by
  simp only [setM,hasM,List.any_cons,List.any_nil,Bool.or_false]
  rw [Bool.eq_iff_iff]; simp
 | (q,w) :: m=>by
  by_cases h1:k = q
  ·subst h1
   simp only [setM,beq_self_eq_true,if_true,Q9x]
   rw [Bool.eq_iff_iff]; simp
  ·have h1' : (k == q) = false:=by simp [h1]
   simp only [setM,h1',Bool.false_eq_true,if_false,Q9x]
   rw [Qbcp (m:=m)]
   cases (k' == q) <;> cases decide (k' = k) <;> simp
def MapOk (m:List (Int×Int)) (st:List Int):Prop:=∀ r,hasM m r = decide (r∈st)∧(r∈st→getM m r 0 = (st.idxOf r:Int))
theorem MapOk.ins {m:List (Int×Int)} {st:List Int} (h:MapOk m st) {r:Int} (hr:r∉st):MapOk (setM m r (st.length:Int)) (st ++ [r]):=by
 intro x
 obtain ⟨h1,h2⟩:=h x
 refine ⟨?_,fun hx=>?_⟩
 ·rw [Qbcp,h1,Bool.eq_iff_iff]; simp; exact Or.comm
 ·rw [Qbco]
  by_cases hxr:x = r
  ·subst hxr
   rw [if_pos rfl,List.idxOf_append]
   simp [hr]
  ·rw [if_neg hxr]
   have hx' : x∈st:=by
    rcases List.mem_append.1 hx with hx | hx
    ·exact hx
    ·simp at hx; exact absurd hx hxr
   rw [h2 hx',List.idxOf_append,if_pos hx']
def Qe5 (L:List Bool) (i:Nat) (s:List Int×List Qe) (x:Qe):List Int×List Qe :=
 if lf L x.To then (ins s.1 x.To,s.2 ++ [⟨(i:Int),x.Event,((ins s.1 x.To).idxOf x.To:Int)⟩]) else s
def bldS (p:Qb) (L:List Bool):Nat→Nat→List Int→List Int→List Qe→List Int×List Int×List Qe
 | 0,_,st,ms,es=>(st,ms,es)
 | f + 1,i,st,ms,es=>match st[i]? with
  | none=>(st,ms,es)
  | some s=>bldS p L f (i + 1) ((outP p.zA s).foldl (Qe5 L i) (st,es)).1 (if s∈p.zA.zK then ms ++ [(i:Int)] else ms) ((outP p.zA s).foldl (Qe5 L i) (st,es)).2
def st0 (p:Qb) (L:List Bool):List Int:=if 0 < p.zA.zM∧lf L 0 = true then [0] else []
def supP (p:Qb) (L:List Bool):List Int×List Int×List Qe:=bldS p L (nS p + 1) 0 (st0 p L) [] []
section
variable {p:Qb} (hp:RightP p) {L:List Bool}
include hp
theorem Q7m {i:Nat}:∀ {l:List Qe} {s:List Int×List Qe},(∀ x∈l,0≤x.To∧x.To < p.zA.zM)→Fnd p.zA s.1→Fnd p.zA (l.foldl (Qe5 L i) s).1∧s.1 <+: (l.foldl (Qe5 L i) s).1∧(l.foldl (Qe5 L i) s).2.length≤s.2.length + l.length
 | [],s,_,h=>⟨h,List.prefix_refl _,by simp⟩
 | x :: l,s,hl,h=>by
  rw [List.foldl_cons]
  have hx:=hl x (by simp)
  unfold Qe5
  cases hq:lf L x.To with
  | false =>
   rw [if_neg (by simp)]
   obtain ⟨h1,h2,h3⟩:=Q7m (i:=i) (l:=l) (s:=s) (fun y hy=>hl y (by simp [hy])) h
   exact ⟨h1,h2,by simp only [List.length_cons]; unfold Qe5 at h3; omega⟩
  | true =>
   rw [if_pos rfl]
   obtain ⟨h1,h2,h3⟩:=Q7m (i:=i) (l:=l) (s:=(ins s.1 x.To,s.2 ++ [⟨(i:Int),x.Event,((ins s.1 x.To).idxOf x.To:Int)⟩])) (fun y hy=>hl y (by simp [hy])) (h.ins hx)
   refine ⟨h1,List.IsPrefix.trans (Qbez _ _) h2,?_⟩
   simp only [List.length_append,List.length_cons,List.length_nil] at h3 ⊢
   unfold Qe5 at h3; omega
theorem Q4a (s:Int):(outP p.zA s).length≤131072:=Nat.le_trans (List.length_filter_le _ _) hp.a.small.2.2.2
theorem Qbe7:Fnd p.zA (st0 p L):=by
 unfold st0
 split
 ·rename_i h
  exact ⟨by simp,fun x hx=>by simp only [List.mem_singleton] at hx; subst hx; exact ⟨Int.le_refl _,h.1⟩⟩
 ·exact ⟨by simp,fun x hx=>by cases hx⟩
variable (hL:L.length = nS p)
include hL
theorem Qblw {fuel:Nat} (hge:1099511627776≤fuel) {i:Nat} (hi:i≤4096) {s:Int} {st ms:List Int} {es:List Qe} {c:List (Int×Int)} (hf:Fnd p.zA st) (hc:MapOk c st) (he:es.length≤131072 * 4096) :
  ∃ c',MapOk c' ((outP p.zA s).foldl (Qe5 L i) (st,es)).1∧Qb1 (fun (k49:List Int×Int×List Qe×List (Int×Int)→Option (List Int×List Int×List Qe×List (Int×Int))) ((origins45,x46,a47,c48):(List Int)×Int×(List Qe)×(List (Int×Int)))=>(if (x46 < ((outP p.zA s).length:Int)) then ((((getO (outP p.zA s) x46).bind fun x51=>((inO L.length x51.To).bind fun u53=>((getO L x51.To).bind fun x55=>(if x55 then (((if (hasM c48 x51.To) then some (origins45,c48) else ((appO origins45 [x51.To]).bind fun x59=>some (x59,(setM c48 x51.To (origins45.length:Int)))))).bind fun ((origins61,c62):(List Int)×(List (Int×Int)))=>((appO a47 [(Qe.mk (i:Int) x51.Event (getM c62 x51.To 0))]).bind fun x63=>some (origins61,x63,c62,x51.From,x51.Event,x51.To))) else some (origins45,a47,c48,x51.From,x51.Event,x51.To)))))).bind fun ((origins65,a66,c67,c68,c69,c70):(List Int)×(List Qe)×(List (Int×Int))×Int×Int×Int)=>k49 (origins65,(IntKind.wrap .i64 (x46 + 1)),a66,c67)) else some (origins45,ms,a47,c48))) fuel (st,0,es,c) = some (((outP p.zA s).foldl (Qe5 L i) (st,es)).1,ms,((outP p.zA s).foldl (Qe5 L i) (st,es)).2,c'):=by
 have hst:=hp.a.st
 have hnS:nS p≤4096:=by unfold nS; omega
 have hol:=Q4a hp s
 let stp:(List Int×List Qe)×List (Int×Int)→Qe→(List Int×List Qe)×List (Int×Int):=fun s x=>(Qe5 L i s.1 x,if lf L x.To && decide (x.To∉s.1.1) then setM s.2 x.To (s.1.1.length:Int) else s.2)
 have hproj:∀ (l:List Qe) (s:(List Int×List Qe)×List (Int×Int)),(l.foldl stp s).1 = l.foldl (Qe5 L i) s.1:=by
  intro l
  induction l with
  | nil=>intro s; rfl
  | cons x l ih=>intro s; rw [List.foldl_cons,List.foldl_cons,ih]
 have hI:∀ (n:Nat) (q:(List Int×List Qe)×List (Int×Int)) (hn:n < (outP p.zA s).length),(Fnd p.zA q.1.1∧MapOk q.2 q.1.1∧q.1.2.length≤131072 * 4096 + n)→(Fnd p.zA (stp q (outP p.zA s)[n]).1.1∧MapOk (stp q (outP p.zA s)[n]).2 (stp q (outP p.zA s)[n]).1.1∧(stp q (outP p.zA s)[n]).1.2.length≤131072 * 4096 + (n + 1)):=by
  rintro n q hn ⟨h1,h2,h3⟩
  have hr:=(Qz1 hp _ (List.getElem_mem hn)).1
  generalize (outP p.zA s)[n] = x at hr
  simp only [stp,Qe5]
  cases hq:lf L x.To with
  | false=>simp only [Bool.false_eq_true,if_false,Bool.false_and]; exact ⟨h1,h2,by omega⟩
  | true =>
   simp only [if_true,Bool.true_and]
   refine ⟨h1.ins hr,?_,by simp only [List.length_append,List.length_cons,List.length_nil]; omega⟩
   by_cases hm:x.To∈q.1.1
   ·have:ins q.1.1 x.To = q.1.1:=by unfold ins; rw [if_pos hm]
    rw [this,if_neg (by simpa using hm)]; exact h2
   ·have:ins q.1.1 x.To = q.1.1 ++ [x.To]:=by unfold ins; rw [if_neg hm]
    rw [this,if_pos (by simpa using hm)]; exact h2.ins hm
 have h0:Fnd p.zA ((st,es),c).1.1∧MapOk ((st,es),c).2 ((st,es),c).1.1∧((st,es),c).1.2.length≤131072 * 4096 + 0:=⟨hf,hc,he⟩
 have hend:=Qbjz (l:=outP p.zA s) (stp:=stp) (I:=fun n q=>Fnd p.zA q.1.1∧MapOk q.2 q.1.1∧q.1.2.length≤131072 * 4096 + n) hI h0
 refine ⟨((outP p.zA s).foldl stp ((st,es),c)).2,?_,?_⟩
 ·have:=hend.2.1
  rw [hproj] at this; exact this
 ·refine (Qes (l:=outP p.zA s) (fun j (q:(List Int×List Qe)×List (Int×Int))=>(q.1.1,j,q.1.2,q.2)) stp (fun n q=>Fnd p.zA q.1.1∧MapOk q.2 q.1.1∧q.1.2.length≤131072 * 4096 + n) (fun q=>some (q.1.1,ms,q.1.2,q.2)) (Q7h hp s) hge (fun k n q hn hq=>?_) hI (fun k q hq=>?_) (s0:=((st,es),c)) h0).trans ?_
  ·obtain ⟨h1,h2,h3⟩:=hq
   have hr:=(Qz1 hp _ (List.getElem_mem hn)).1
   have hfl:=h1.len
   dsimp only
   rw [if_pos (by omega),Qbu hn]
   generalize (outP p.zA s)[n] = x at hr
   simp only [Option.bind_some,Qrd hL hr,stp,Qe5]
   cases hq:lf L x.To with
   | false=>simp
   | true =>
    simp only [if_true,Bool.true_and]
    rw [(h2 x.To).1]
    by_cases hm:x.To∈q.1.1
    ·have hins:ins q.1.1 x.To = q.1.1:=by unfold ins; rw [if_pos hm]
     rw [hins]
     simp only [hm,decide_true,if_true,Option.bind_some,(h2 x.To).2 hm,not_true_eq_false,decide_false,Bool.false_eq_true,if_false]
     rw [Qce (by simp only [List.length_cons,List.length_nil]; unfold lim; omega)]; rfl
    ·have hins:ins q.1.1 x.To = q.1.1 ++ [x.To]:=by unfold ins; rw [if_neg hm]
     have hidx:(q.1.1 ++ [x.To]).idxOf x.To = q.1.1.length:=by rw [List.idxOf_append,if_neg hm]; simp
     rw [hins,hidx]
     simp only [hm,decide_false,Bool.false_eq_true,if_false,not_false_eq_true,decide_true,if_true]
     rw [Qce (l:=q.1.1) (by simp only [List.length_cons,List.length_nil]; unfold lim; omega)]
     simp only [Option.bind_some,Qbco,if_true]
     rw [Qce (by simp only [List.length_cons,List.length_nil]; unfold lim; omega)]; rfl
  ·dsimp only
   rw [if_neg (by omega)]
  ·rw [hproj]
theorem Qbmo:Qc1 (tsk p L) = some (⟨p.zA.zJ,((supP p L).1.length:Int),(supP p L).2.1,(supP p L).2.2⟩,(supP p L).1):=by
 unfold Qc1 Q3
 obtain ⟨fuel,hfu,hge⟩ : ∃ f,Qby = f∧1099511627776≤f:=⟨_,rfl,Nat.le_refl _⟩
 rw [hfu]
 rw [show (tsk p L).left_ = L from rfl,show (tsk p L).zN = p from rfl,show (tsk p L).from_ = Q78 p from rfl]
 have hst:=hp.a.st
 have hnS:nS p≤4096:=by unfold nS; omega
 have hsm:=hp.a.small
 rw [Qbj1 (by unfold lim; omega),Option.bind_some]
 obtain ⟨c0,hc0,hstart⟩ : ∃ c0,MapOk c0 (st0 p L)∧(((if ((L.length:Int) > 0) then ((inO L.length 0).bind fun u11=>((getO L 0).bind fun x13=>some x13)) else some false)).bind fun (x15:Bool)=>(if x15 then ((appO [] [(0:Int)]).bind fun x17=>some (x17,(setM ([]:List (Int×Int)) 0 0))) else some ([],[]))) = some (st0 p L,c0):=by
  unfold st0
  by_cases h1:(L.length:Int) > 0
  ·have hn0:0 < p.zA.zM:=by unfold nS at hL; omega
   rw [if_pos h1]
   simp only [Qrd hL (p:=p) (x:=0) ⟨Int.le_refl _,hn0⟩,Option.bind_some,hn0,true_and]
   cases lf L 0 with
   | true =>
    refine ⟨setM [] 0 0,fun r=>⟨?_,fun hr=>?_⟩,rfl⟩
    ·rw [Qbcp]; simp [hasM]
    ·simp only [if_true,List.mem_singleton] at hr; subst hr; rfl
   | false=>exact ⟨[],fun r=>⟨by simp [hasM],fun hr=>by simp at hr⟩,rfl⟩
  ·have hn0:¬ (0 < p.zA.zM):=by unfold nS at hL; omega
   rw [if_neg h1]
   simp only [hn0,false_and,if_false]
   exact ⟨[],fun r=>⟨by simp [hasM],fun hr=>by cases hr⟩,rfl⟩
 rw [hstart,Option.bind_some]
 dsimp only
 generalize hA:supP p L = A
 refine Qbfy (P:=fun r=>∃ c' : List (Int×Int),r = (A.1,[],[],[],A.2.1,A.2.2,c')) ?_ ?_
 ·refine Qia (fun x:List Int×Int×List Int×List Int×List Qe×List Int×List Qe×List (Int×Int)=>∃ (n f:Nat),x.2.1 = n∧x.2.2.1 = []∧x.2.2.2.1 = []∧x.2.2.2.2.1 = []∧n + f = nS p + 1∧n≤x.1.length∧Fnd p.zA x.1∧x.2.2.2.2.2.1.length≤n∧x.2.2.2.2.2.2.1.length≤131072 * n∧MapOk x.2.2.2.2.2.2.2 x.1∧bldS p L f n x.1 x.2.2.2.2.2.1 x.2.2.2.2.2.2.1 = A)
   (fun x=>5001 - x.2.1.toNat) (fun _ r=>∃ v,r = some v∧∃ c' : List (Int×Int),v = (A.1,[],[],[],A.2.1,A.2.2,c')) ?_ fuel (st0 p L,0,[],[],[],[],[],c0) ⟨0,nS p + 1,rfl,rfl,rfl,rfl,by omega,Nat.zero_le _,Qbe7 hp,Nat.zero_le _,Nat.zero_le _,hc0,hA⟩ (by dsimp only; omega)
  rintro k ⟨st,x,c1,c2,c3,ms,es,c⟩ ⟨n,f,hx,h1,h2,h3,hf,hnl,hfd,hms,hes,hc,hB⟩ ih
  dsimp only at hx h1 h2 h3 hnl hfd hms hes hc hB ih ⊢
  subst hx h1 h2 h3
  have hfl:=hfd.len
  by_cases hlt:n < st.length
  ·obtain ⟨f,rfl⟩ : ∃ g,f = g + 1:=⟨f - 1,by unfold nS at *; omega⟩
   have hi:st[n]? = some st[n]:=List.getElem?_eq_getElem hlt
   have hr:=hfd.rg _ (List.getElem_mem hlt)
   rw [if_pos (by omega),Qbu hlt,Option.bind_some,Qdo hp.a.ma hsm.1.2.1,Option.bind_some]
   have hmk:(if decide (st[n]∈p.zA.zK) = true then (appO ms [(n:Int)]).bind fun x36=>some x36 else some ms) = some (if st[n]∈p.zA.zK then ms ++ [(n:Int)] else ms):=by
    rw [Qce (by simp only [List.length_cons,List.length_nil]; unfold lim; unfold nS at *; omega)]
    by_cases hm:st[n]∈p.zA.zK <;> simp [hm]
   rw [hmk,Option.bind_some,Option.bind_some,(Q79 hr).1,Option.bind_some,(Q79 hr).2,Option.bind_some]
   rw [bldS,hi] at hB
   dsimp only at hB
   obtain ⟨k1,k2,k3⟩:=Q7m hp (i:=n) (L:=L) (l:=outP p.zA st[n]) (s:=(st,es)) (fun x hx=>(Qz1 hp x hx).1) hfd
   have hol:=Q4a hp st[n]
   have hn4:n≤4096:=by unfold nS at *; omega
   obtain ⟨c',hc',hrow⟩:=Qblw hp hL hge (i:=n) hn4 (s:=st[n]) (ms:=if st[n]∈p.zA.zK then ms ++ [(n:Int)] else ms) (es:=es) hfd hc (by omega)
   rw [hrow,Option.bind_some,Qcg (by omega)]
   have hk2:=k2.length_le
   refine ih _ ⟨n + 1,f,rfl,rfl,rfl,rfl,by omega,by dsimp only at hk2 ⊢; omega,k1,?_,by dsimp only at k3 ⊢; omega,hc',hB⟩ (by simp only [Int.toNat_natCast]; unfold nS at *; omega)
   dsimp only
   split
   ·simp only [List.length_append,List.length_cons,List.length_nil]; omega
   ·omega
  ·rw [if_neg (by omega)]
   have hB' : (st,ms,es) = A:=by
    cases f with
    | zero=>exact hB
    | succ f=>rw [bldS,List.getElem?_eq_none (by omega)] at hB; exact hB
   subst hB'
   exact ⟨_,rfl,c,rfl⟩
 ·rintro _ ⟨c',rfl⟩
  rfl
end
end Go.Abs
end
section
namespace Go.Abs
open Go
abbrev zR:Qd:=⟨0,0,0,0⟩
def remF (p:Qb) (T:List Qd) (i:Int):Option Qd:=if lf (Qb0 p T) i then none else some (at0 zR (Qv6 p T) i)
def resP (p:Qb) (T:List Qd) (r:Int):Q0 :=
 ⟨⟨(upto p.zA.zM).filter (lf (Qb0 p T)),((upto p.zA.zM).filter (lf (Qb0 p T))).map (ati (Qud p (Qb0 p T))),(upto p.zA.zM).filterMap (remF p T)⟩,r,
  ⟨p.zA.zJ,((supP p (Qb0 p T)).1.length:Int),(supP p (Qb0 p T)).2.1,(supP p (Qb0 p T)).2.2⟩,(supP p (Qb0 p T)).1,
  (upto p.zA.zM).filter fun i=>lf (Qb0 p T) i && Qhz p (Qb0 p T) i⟩
def Qt3 (p:Qb) (T:List Qd) (s:List Int×List Int×List Qd×List Int) (i:Int):List Int×List Int×List Qd×List Int :=
 if lf (Qb0 p T) i then (s.1 ++ [i],s.2.1 ++ [ati (Qud p (Qb0 p T)) i],s.2.2.1,if Qhz p (Qb0 p T) i then s.2.2.2 ++ [i] else s.2.2.2) else (s.1,s.2.1,s.2.2.1 ++ [at0 zR (Qv6 p T) i],s.2.2.2)
theorem Qbcq {p:Qb} {T:List Qd}:∀ {l:List Int} {s:List Int×List Int×List Qd×List Int},l.foldl (Qt3 p T) s =
  (s.1 ++ l.filter (lf (Qb0 p T)),s.2.1 ++ (l.filter (lf (Qb0 p T))).map (ati (Qud p (Qb0 p T))),s.2.2.1 ++ l.filterMap (remF p T),s.2.2.2 ++ l.filter fun i=>lf (Qb0 p T) i && Qhz p (Qb0 p T) i)
 | [],s=>by simp
 | x :: l,s=>by
  rw [List.foldl_cons,Qbcq (l:=l)]
  unfold Qt3
  cases h:lf (Qb0 p T) x with
  | true =>
   cases h2:Qhz p (Qb0 p T) x <;> simp [List.filter_cons,List.filterMap_cons,h,h2,remF]
  | false=>simp [List.filter_cons,List.filterMap_cons,h,remF]
theorem Qbi4 {p:Qb} {T:List Qd} {s:List Int×List Int×List Qd×List Int} {i:Int} {n:Nat} (h:s.1.length≤n∧s.2.1.length≤n∧s.2.2.1.length≤n∧s.2.2.2.length≤n) :
  (Qt3 p T s i).1.length≤n + 1∧(Qt3 p T s i).2.1.length≤n + 1∧(Qt3 p T s i).2.2.1.length≤n + 1∧(Qt3 p T s i).2.2.2.length≤n + 1:=by
 unfold Qt3
 split
 ·refine ⟨?_,?_,?_,?_⟩
  ·simp; omega
  ·simp; omega
  ·simp; omega
  ·dsimp only
   split
   ·simp; omega
   ·omega
 ·simp; omega
section
variable {p:Qb} (hp:RightP p)
include hp
theorem Qbcr:Qc5 p = some (resP p (solP p).1 (solP p).2,0):=by
 unfold Qc5 Qw
 obtain ⟨fuel,hfu,hge⟩ : ∃ f,Qby = f∧1099511627776≤f:=⟨_,rfl,Nat.le_refl _⟩
 rw [hfu]
 have hst:=hp.a.st
 have hnS:nS p≤4096:=by unfold nS; omega
 have hpl:=hp.small
 have hfl:=hp.fo.small hst.2
 have hT0:=Qbi2 hp
 rw [Qbcl hpl,Qbgq.2 hp,Option.bind_some,if_neg (by simp),Qbj7 hp,Option.bind_some]
 rw [show (tsk p (Qb0 p (T0 p))).left_ = Qb0 p (T0 p) from rfl,show (tsk p (Qb0 p (T0 p))).zN = p from rfl,show (tsk p (Qb0 p (T0 p))).from_ = Q78 p from rfl,Qpw]
 rw [show mkO ((nS p:Nat):Int) (Qd.mk 0 0 0 0) = some (List.replicate (nS p) zR) from by unfold mkO lim; rw [if_pos (by omega),Int.toNat_natCast]]
 rw [Option.bind_some]
 refine Option.bind_eq_some_iff.2 ⟨(r0 p,Qv6 p (T0 p)),?_,?_⟩
 ·refine (Qes (l:=p.zC) (fun i (s:Int×List Qd)=>(i,s.1,s.2)) (fun s x=>(1,s.2.set x.toNat ⟨x,1,1,-1⟩)) (fun _ s=>s.2.length = nS p) (fun s=>some s) hpl.2.1 hge (fun k n s hn hs=>?_) (fun n s hn hs=>by simp only [List.length_set]; exact hs) (fun k s hs=>?_) (s0:=((0:Int),List.replicate (nS p) zR)) (by simp)).trans ?_
  ·have hr:=hp.fo.rg _ (List.getElem_mem hn)
   have hs:s.2.length = nS p:=hs
   unfold nS at hs hnS ⊢
   dsimp only
   rw [if_pos (by omega),Qbu hn,Option.bind_some,Int.toNat_natCast,Qrg hr.1 (by omega),Option.bind_some,Qrc hr.1 (by omega),Option.bind_some]
  ·dsimp only
   rw [if_neg (by omega)]
  ·have e1:p.zC.foldl (fun (s:Int×List Qd) x=>((1:Int),s.2.set x.toNat (⟨x,1,1,-1⟩ : Qd))) (0,List.replicate (nS p) zR) = (p.zC.foldl (fun (_:Int) _=>(1:Int)) 0,p.zC.foldl (fun (c:List Qd) x=>c.set x.toNat ⟨x,1,1,-1⟩) (List.replicate (nS p) zR)):=Q7l (f:=fun _ _=>(1:Int)) (g:=fun (c:List Qd) (x:Int)=>c.set x.toNat ⟨x,1,1,-1⟩)
   rw [e1]
   congr 2
   ·unfold r0
    cases p.zC with
    | nil=>rfl
    | cons x l =>
     rw [if_neg (by simp),List.foldl_cons]
     have:∀ l:List Int,l.foldl (fun (_:Int) _=>(1:Int)) 1 = 1:=fun l=>by induction l with | nil=>rfl | cons y l ih=>rw [List.foldl_cons,ih]
     exact this l
   ·unfold Qv6 T0
    rw [List.foldl_map]
 dsimp only
 have hS:=Qbgu hp hge (S:=solP p) (f:=nS p + 1) rfl (by omega)
 have hSok:Okt p (solP p).1:=by
  have:∀ (f:Nat) (rank:Int) (T:List Qd) (r:Int),1≤rank→Okt p T→Okt p (Q3u p f rank T r).1:=by
   intro f
   induction f with
   | zero=>intro rank T r _ h; exact h
   | succ f ih =>
    intro rank T r hr h
    rw [Q3u]
    split
    ·exact h
    ·exact ih _ _ _ (by omega) (h.round hr)
  exact this _ _ _ _ (by omega) hT0
 generalize solP p = S at hS hSok ⊢
 obtain ⟨T,r⟩:=S
 dsimp only at hS hSok ⊢
 refine Option.bind_eq_some_iff.2 ⟨_,hS,?_⟩
 dsimp only
 have hlL:=Qpw p T
 have hD:=(Q39 hp (Qb0 p T)).ln
 rw [Q3r hlL]
 simp only [Option.bind_some]
 rw [show Ql.mk p (Q78 p) (Qb0 p T) = tsk p (Qb0 p T) from rfl,Q8l hp hlL,Option.bind_some,Qbmo hp hlL]
 refine Option.bind_eq_some_iff.2 ⟨([],[],[],[],[],[],[],[],(resP p T r).zE.Kept,(resP p T r).zE.zF,(resP p T r).zE.zG,[],[],[],[],(resP p T r).zI),?_,rfl⟩
 refine (Qes (l:=upto p.zA.zM) (fun i (s:List Int×List Int×List Qd×List Int)=>(i,[],[],[],[],[],[],[],[],s.1,s.2.1,s.2.2.1,[],[],[],[],s.2.2.2)) (Qt3 p T) (fun n s=>s.1.length≤n∧s.2.1.length≤n∧s.2.2.1.length≤n∧s.2.2.2.length≤n) (fun s=>some ([],[],[],[],[],[],[],[],s.1,s.2.1,s.2.2.1,[],[],[],[],s.2.2.2)) (by rw [Qb6]; unfold big; omega) hge (fun k n s hn hs=>?_) (fun n s hn hs=>Qbi4 hs) (fun k s hs=>?_) (s0:=([],[],[],[])) (by simp)).trans ?_
 ·have hn':=Qiw hn
  obtain ⟨a1,a2,a3,a4⟩:=hs
  have hx:0≤(n:Int)∧(n:Int) < p.zA.zM:=⟨by omega,by omega⟩
  have hlt:∀ {l:List Int} {x:Int},l.length≤n→appO l [x] = some (l ++ [x]):=fun h=>Qce (by simp only [List.length_cons,List.length_nil]; unfold lim; omega)
  have hlr:∀ {l:List Qd} {x:Qd},l.length≤n→appO l [x] = some (l ++ [x]):=fun h=>Qce (by simp only [List.length_cons,List.length_nil]; unfold lim; omega)
  dsimp only
  rw [Qll hn,if_pos (by omega),Qne (d:=0) (l:=Qud p (Qb0 p T)) hx.1 (by omega),Option.bind_some]
  have hla:=Qrd hlL hx
  rw [hlL] at hla
  simp only [hla,Option.bind_some]
  unfold Qt3
  cases hq:lf (Qb0 p T) (n:Int) with
  | true =>
   simp only [if_true]
   rw [hlt a1,Option.bind_some,hlt a2,Option.bind_some,(Q79 hx).1,Option.bind_some,(Q79 hx).2,Option.bind_some]
   rw [Q3s (p:=fun y=>(y.Event == p.Tick) && !lf (Qb0 p T) y.To) (fun y hy=>by
    have h1:=Qrd hlL (Qz1 hp y hy).1
    unfold Qeo Qba
    rw [show (tsk p (Qb0 p T)).left_ = Qb0 p T from rfl]
    simp only [h1,Option.bind_some]
    cases hq:y.Event == p.Tick <;> simp) (Q7h hp _),Option.bind_some,hlt a4]
   show ((if Qhz p (Qb0 p T) (n:Int) = true then _ else _:Option _).bind _) = _
   cases Qhz p (Qb0 p T) (n:Int) <;> rfl
  | false =>
   simp only [Bool.false_eq_true,if_false]
   rw [Int.toNat_natCast,Qrg hx.1 (by unfold nS; omega),Option.bind_some,Qne (d:=zR) (l:=Qv6 p T) hx.1 (by rw [Qbd9]; unfold nS; omega),Option.bind_some,hlr a3]
   rfl
 ·dsimp only
  rw [Qb6,if_neg (by omega)]
 ·rw [Qbcq]
  simp only [List.nil_append]
  rfl
end
end Go.Abs
end
section
namespace Go.Abs
open Go
theorem Qz2 {α β:Type} {c:α→Bool} {g:α→β}:∀ {l:List α} {acc:List β},l.foldl (fun acc x=>if c x then acc ++ [g x] else acc) acc = acc ++ (l.filter c).map g
 | [],acc=>by simp
 | x :: l,acc=>by
  rw [List.foldl_cons,Qz2 (l:=l)]
  cases h:c x <;> simp [List.filter_cons,h]
theorem Qbgv {T:List Qd} (hn:(T.map (·.State)).Nodup) {x:Qd} (hx:x∈T):T.filter (fun y=>y.State == x.State) = [x]:=by
 induction T with
 | nil=>cases hx
 | cons y T ih =>
  rw [List.map_cons,List.nodup_cons] at hn
  rcases List.mem_cons.1 hx with rfl | hx
  ·have:T.filter (fun y=>y.State == x.State) = []:=List.filter_eq_nil_iff.2 fun z hz hq=>hn.1 (List.mem_map.2 ⟨z,hz,by simpa using hq⟩)
   rw [List.filter_cons,this]; simp
  ·have:(y.State == x.State) = false:=by
    rw [beq_eq_false_iff_ne]
    exact fun e=>hn.1 (List.mem_map.2 ⟨x,hx,e.symm⟩)
   rw [List.filter_cons,this]
   exact ih hn.2 hx
theorem Qbea {p:Qb} {T:List Qd} (h:Okt p T) {i:Int} (hi:0≤i∧i < p.zA.zM):T.filter (fun y=>y.State == i) = if lf (Qb0 p T) i then [] else [at0 zR (Qv6 p T) i]:=by
 rw [Qbcm h.rg hi.1 hi.2]
 cases ha:T.any (fun x=>x.State == i) with
 | false =>
  rw [List.any_eq_false] at ha
  simp only [Bool.not_false,if_true]
  exact List.filter_eq_nil_iff.2 fun x hx=>ha x hx
 | true =>
  obtain ⟨x,hx,hq⟩:=List.any_eq_true.1 ha
  have hq:x.State = i:=by simpa using hq
  subst hq
  rw [Qbgv h.nd hx,Qbj6 h hx]
  simp
theorem Qblx {p:Qb} (hp:RightP p) (L:List Bool) (i:Int):(p.zA.zL.filter fun y=>y.From == i && ((y.Event == p.Tick) && !lf L y.To)).map (fun _=>i) = if Qhz p L i then [i] else []:=by
 have hpw:=hp.a.ed.filter (fun y:Qe=>y.From == i && ((y.Event == p.Tick) && !lf L y.To))
 have he:Qhz p L i = !(p.zA.zL.filter fun y=>y.From == i && ((y.Event == p.Tick) && !lf L y.To)).isEmpty:=by
  unfold Qhz outP
  rw [List.any_filter,Bool.eq_iff_iff,List.any_eq_true]
  simp only [Bool.not_eq_true',List.isEmpty_eq_false_iff_exists_mem,List.mem_filter]
 rw [he]
 have hmem:∀ x∈p.zA.zL.filter (fun y=>y.From == i && ((y.Event == p.Tick) && !lf L y.To)),x.From = i∧x.Event = p.Tick:=fun x hx=>by
  have:=(List.mem_filter.1 hx).2
  simp only [Bool.and_eq_true,beq_iff_eq] at this
  exact ⟨this.1,this.2.1⟩
 generalize p.zA.zL.filter (fun y=>y.From == i && ((y.Event == p.Tick) && !lf L y.To)) = l at hpw hmem
 match l,hpw,hmem with
 | [],_,_=>rfl
 | [x],_,_=>rfl
 | x :: y :: l,hpw,hmem =>
  exfalso
  have h1:=(List.pairwise_cons.1 hpw).1 y (by simp)
  have h2:=hmem x (by simp)
  have h3:=hmem y (by simp)
  unfold Qsr at h1
  omega
theorem Qbj9 {fuel:Nat} (hge:1099511627776≤fuel) {st:List Int} (hn:st.Nodup) (hl:st.length≤1000000) (t:Int) :
  Qb1 (fun (k128:Int×Int→Option Int) ((to126,k127):Int×Int)=>(if (k127 < (st.length:Int)) then ((((getO st k127).bind fun x130=>(if (x130 == t) then some k127 else some to126))).bind fun (to133:Int)=>k128 (to133,(IntKind.wrap .i64 (k127 + 1)))) else some to126)) fuel ((-1),0) = some (if t∈st then (st.idxOf t:Int) else -1):=by
 refine (Qhy (len:=st.length) (fun n (to:Int)=>(to,(n:Int))) (fun n to=>to = if t∈st.take n then (st.idxOf t:Int) else -1) (fun n to=>some (if t∈st then (st.idxOf t:Int) else -1)) ?_ ?_ fuel 0 (-1) (Nat.zero_le _) (by omega) (by simp))
 ·rintro k n to hlt hto ih
  dsimp only
  rw [if_pos (by omega),Qbu hlt,Option.bind_some,Qcg (by omega)]
  by_cases hq:st[n] = t
  ·rw [if_pos (by simp [hq]),Option.bind_some]
   refine ih _ ?_
   have hm:t∈st.take (n + 1):=by rw [List.take_succ_eq_append_getElem hlt]; simp [hq]
   rw [if_pos hm]
   have:st.idxOf t = n:=by
    subst hq
    exact List.Nodup.idxOf_getElem hn n hlt
   rw [this]
  ·rw [if_neg (by simpa using hq),Option.bind_some]
   refine ih _ ?_
   rw [hto]
   have:t∈st.take (n + 1)↔t∈st.take n:=by
    rw [List.take_succ_eq_append_getElem hlt,List.mem_append,List.mem_singleton]
    exact ⟨fun h=>h.elim id fun e=>absurd e.symm hq,.inl⟩
   simp only [this]
 ·rintro k to hto
  dsimp only
  rw [if_neg (by omega),hto,List.take_length]
section
variable {p:Qb} (hp:RightP p) {T:List Qd} (hT:Okt p T) (r:Int)
include hp
theorem Qbka {fuel:Nat} (hge:1099511627776≤fuel) {R:List Int} (hR:Qbix p R) {i:Nat} (hi:i≤4096) {s:Int} {st ms:List Int} {es:List Qe} (hf:Fnd p.zA st) (hs:st[i]? = some s) (he:es.length≤131072 * 4096) :
  Qb1 (fun (k113:Int×List Qe×List Int→Option (List Int×List Qe×List Int)) ((x110,r111,r112):Int×(List Qe)×(List Int))=>(if (x110 < (p.zA.zL.length:Int)) then ((((getO p.zA.zL x110).bind fun x115=>((((getO r112 (i:Int)).bind fun x117=>(if (x115.From != x117) then some true else ((inO R.length x115.To).bind fun u120=>((getO R x115.To).bind fun x122=>some (decide (x122 > 0))))))).bind fun (x124:Bool)=>(if x124 then some (r111,r112,x115.From,x115.Event,x115.To) else ((Qb1 (fun k128 ((to126,k127):Int×Int)=>(if (k127 < (r112.length:Int)) then ((((getO r112 k127).bind fun x130=>(if (x130 == x115.To) then some k127 else some to126))).bind fun (to133:Int)=>k128 (to133,(IntKind.wrap .i64 (k127 + 1)))) else some to126)) fuel ((-1),0)).bind fun (to134:Int)=>(((if (to134 < 0) then ((appO r112 [x115.To]).bind fun x136=>some ((r112.length:Int),x136)) else some (to134,r112))).bind fun ((to138,r139):Int×(List Int))=>((appO r111 [(Qe.mk (i:Int) x115.Event to138)]).bind fun x140=>some (x140,r139,x115.From,x115.Event,x115.To)))))))).bind fun ((r142,r143,y144,y145,y146):(List Qe)×(List Int)×Int×Int×Int)=>k113 ((IntKind.wrap .i64 (x110 + 1)),r142,r143)) else some (ms,r111,r112))) fuel (0,es,st) = some (ms,((outP p.zA s).foldl (Qe5 (Qc0 R) i) (st,es)).2,((outP p.zA s).foldl (Qe5 (Qc0 R) i) (st,es)).1):=by
 have hst:=hp.a.st
 have hnS:nS p≤4096:=by unfold nS; omega
 have hsm:=hp.a.small
 have hfold:(outP p.zA s).foldl (Qe5 (Qc0 R) i) (st,es) = p.zA.zL.foldl (fun q x=>if x.From == s then Qe5 (Qc0 R) i q x else q) (st,es):=by unfold outP; rw [List.foldl_filter]
 rw [hfold]
 refine (Qes (l:=p.zA.zL) (fun j (q:List Int×List Qe)=>(j,q.2,q.1)) (fun q x=>if x.From == s then Qe5 (Qc0 R) i q x else q) (fun n q=>Fnd p.zA q.1∧q.1[i]? = some s∧q.2.length≤131072 * 4096 + n) (fun q=>some (ms,q.2,q.1)) hsm.1.2.2 hge (fun k n q hn hq=>?_) (fun n q hn hq=>?_) (fun k q hq=>?_) (s0:=(st,es)) ⟨hf,hs,he⟩)
 ·obtain ⟨h1,h2,h3⟩:=hq
  have hr:=hp.a.ed0 _ (List.getElem_mem hn)
  have hra:=Qt2 hR (x:=p.zA.zL[n].To) ⟨hr.2.2.1,hr.2.2.2.1⟩
  have hfl:=h1.len
  have hil:i < q.1.length:=(List.getElem?_eq_some_iff.1 h2).1
  have hgi:getO q.1 (i:Int) = some s:=by rw [Qbu hil]; rw [← h2]; exact (List.getElem?_eq_getElem hil).symm
  dsimp only
  rw [if_pos (by omega),Qbu hn]
  generalize p.zA.zL[n] = x at hr hra
  simp only [Option.bind_some,hgi]
  by_cases hx:x.From = s
  ·have hx1:(x.From != s) = false:=by simp [hx]
   have hx2:(x.From == s) = true:=by simp [hx]
   simp only [hx1,hx2,Bool.false_eq_true,if_false,if_true,hra.1,hra.2.1,Option.bind_some,hra.2.2.2]
   unfold Qe5
   cases hq:lf (Qc0 R) x.To with
   | false=>simp
   | true =>
    simp only [Bool.not_true,Bool.false_eq_true,if_false,if_true]
    rw [Qbj9 hge h1.nd (by unfold nS at hnS; omega),Option.bind_some]
    by_cases hm:x.To∈q.1
    ·have hins:ins q.1 x.To = q.1:=by unfold ins; rw [if_pos hm]
     rw [hins,if_pos hm,if_neg (by omega),Option.bind_some,Qce (by simp only [List.length_cons,List.length_nil]; unfold lim; omega)]
     rfl
    ·have hins:ins q.1 x.To = q.1 ++ [x.To]:=by unfold ins; rw [if_neg hm]
     have hidx:(q.1 ++ [x.To]).idxOf x.To = q.1.length:=by rw [List.idxOf_append,if_neg hm]; simp
     rw [hins,hidx,if_neg hm,if_pos (by omega),Qce (l:=q.1) (by simp only [List.length_cons,List.length_nil]; unfold lim; omega)]
     simp only [Option.bind_some]
     rw [Qce (by simp only [List.length_cons,List.length_nil]; unfold lim; omega)]
     rfl
  ·have hx1:(x.From != s) = true:=by simp [hx]
   have hx2:(x.From == s) = false:=by simp [hx]
   simp [hx1,hx2]
 ·obtain ⟨h1,h2,h3⟩:=hq
  have hr:=hp.a.ed0 _ (List.getElem_mem hn)
  generalize p.zA.zL[n] = x at hr
  split
  ·unfold Qe5
   split
   ·refine ⟨h1.ins ⟨hr.2.2.1,hr.2.2.2.1⟩,Q36 (Qbez _ _) h2,by simp only [List.length_append,List.length_cons,List.length_nil]; omega⟩
   ·exact ⟨h1,h2,by omega⟩
  ·exact ⟨h1,h2,by omega⟩
 ·dsimp only
  rw [if_neg (by omega)]
include hT
theorem Qbi5:Qdt ⟨p,Q3t p T,T,r⟩ = some (resP p T r):=by
 unfold Qdt Qbi
 obtain ⟨fuel,hfu,hge⟩ : ∃ f,Qby = f∧1099511627776≤f:=⟨_,rfl,Nat.le_refl _⟩
 rw [hfu,Q7j hp (Qbe5 hT),Option.bind_some,Q6l hT.rk]
 dsimp only
 have hst:=hp.a.st
 have hnS:nS p≤4096:=by unfold nS; omega
 have hsm:=hp.a.small
 have hTl:=hT.len
 have hR:=Qbe5 hT
 have hRl:=Q7k p T
 have hlR:Qc0 (Q3t p T) = Qb0 p T:=Q6l hT.rk
 have hlL:=Qpw p T
 have hD:=(Q39 hp (Qb0 p T)).ln
 refine Option.bind_eq_some_iff.2 ⟨([],[],[],[],[],[],[],[],(resP p T r).zE.Kept,(resP p T r).zE.zF,(resP p T r).zE.zG,[],[],[],(resP p T r).zI),?_,?_⟩
 ·refine (Qes (l:=upto p.zA.zM) (fun i (s:List Int×List Int×List Qd×List Int)=>(i,[],[],[],[],[],[],[],[],s.1,s.2.1,s.2.2.1,[],[],[],s.2.2.2)) (Qt3 p T) (fun n s=>s.1.length≤n∧s.2.1.length≤n∧s.2.2.1.length≤n∧s.2.2.2.length≤n) (fun s=>some ([],[],[],[],[],[],[],[],s.1,s.2.1,s.2.2.1,[],[],[],s.2.2.2)) (by rw [Qb6]; unfold big; omega) hge (fun k n s hn hs=>?_) (fun n s hn hs=>Qbi4 hs) (fun k s hs=>?_) (s0:=([],[],[],[])) (by simp)).trans ?_
  ·have hn':=Qiw hn
   obtain ⟨a1,a2,a3,a4⟩:=hs
   have hx:0≤(n:Int)∧(n:Int) < p.zA.zM:=⟨by omega,by omega⟩
   have hlt:∀ {l:List Int} {x:Int},l.length≤n→appO l [x] = some (l ++ [x]):=fun h=>Qce (by simp only [List.length_cons,List.length_nil]; unfold lim; omega)
   dsimp only
   rw [Qll hn,if_pos (by unfold nS at hRl; omega)]
   have hrem:Qb1 (fun (k28:Int×List Qd→Option (List Qd)) ((k26,r27):Int×(List Qd))=>(if (k26 < (T.length:Int)) then ((((getO T k26).bind fun x30=>(if (x30.State == (n:Int)) then ((getO T k26).bind fun x33=>((appO r27 [x33]).bind fun x35=>some x35)) else some r27))).bind fun (r37:List Qd)=>k28 ((IntKind.wrap .i64 (k26 + 1)),r37)) else some r27)) fuel (0,s.2.2.1) = some (s.2.2.1 ++ T.filter (fun y=>y.State == (n:Int))):=by
    refine (Qes (l:=T) (fun i (acc:List Qd)=>(i,acc)) (fun acc x=>if x.State == (n:Int) then acc ++ [x] else acc) (fun m acc=>acc.length≤n + m) (fun acc=>some acc) (by unfold big; omega) hge (fun k m acc hm ha=>?_) (fun m acc hm ha=>by split <;> first | (simp only [List.length_append,List.length_cons,List.length_nil]; omega) | omega) (fun k acc ha=>?_) (s0:=s.2.2.1) (by omega)).trans ?_
    ·dsimp only
     rw [if_pos (by omega),Qbu hm]
     simp only [Option.bind_some]
     rw [Qce (by simp only [List.length_cons,List.length_nil]; unfold lim; unfold nS at hTl; omega)]
     cases T[m].State == (n:Int) <;> rfl
    ·dsimp only; rw [if_neg (by omega)]
    ·have:=Qz2 (c:=fun y:Qd=>y.State == (n:Int)) (g:=id) (l:=T) (acc:=s.2.2.1)
     rw [List.map_id] at this
     exact congrArg some this
   rw [hrem,Option.bind_some,Qbea hT hx]
   have hra:=Qt2 hR hx
   rw [hlR] at hra
   have h4:(ati (Q3t p T) (n:Int) > 0)↔lf (Qb0 p T) (n:Int) = false:=by
    rw [← decide_eq_true_iff (p:=ati (Q3t p T) (n:Int) > 0),hra.2.2.2]; simp
   simp only [hra.1,hra.2.1,Option.bind_some,h4]
   unfold Qt3
   cases hq:lf (Qb0 p T) (n:Int) with
   | true =>
    simp only [Bool.true_eq_false,if_false,if_true,List.append_nil]
    rw [hlt a1,Option.bind_some,Qne (d:=0) (l:=Qud p (Qb0 p T)) hx.1 (by omega),Option.bind_some,hlt a2,Option.bind_some]
    refine Qbfy (P:=fun v=>v = (s.1 ++ [(n:Int)],s.2.1 ++ [ati (Qud p (Qb0 p T)) (n:Int)],s.2.2.1,if Qhz p (Qb0 p T) (n:Int) then s.2.2.2 ++ [(n:Int)] else s.2.2.2)) ⟨_,?_,rfl⟩ (fun v hv=>by subst hv; rfl)
    refine (Qes (l:=p.zA.zL) (fun i (acc:List Int)=>(i,acc)) (fun acc y=>if y.From == (n:Int) && ((y.Event == p.Tick) && !lf (Qb0 p T) y.To) then acc ++ [(n:Int)] else acc) (fun m acc=>acc.length≤n + m) (fun acc=>some (s.1 ++ [(n:Int)],s.2.1 ++ [ati (Qud p (Qb0 p T)) (n:Int)],s.2.2.1,acc)) hsm.1.2.2 hge (fun k m acc hm ha=>?_) (fun m acc hm ha=>by split <;> first | (simp only [List.length_append,List.length_cons,List.length_nil]; omega) | omega) (fun k acc ha=>?_) (s0:=s.2.2.2) (by omega)).trans ?_
    ·have hr:=hp.a.ed0 _ (List.getElem_mem hm)
     have hrb:=Qt2 hR (x:=p.zA.zL[m].To) ⟨hr.2.2.1,hr.2.2.2.1⟩
     rw [hlR] at hrb
     dsimp only
     rw [if_pos (by omega),Qbu hm]
     generalize p.zA.zL[m] = y at hr hrb
     simp only [hrb.1,hrb.2.1,Option.bind_some,hrb.2.2.2]
     rw [Qce (by simp only [List.length_cons,List.length_nil]; unfold lim; omega)]
     cases y.From == (n:Int) <;> cases y.Event == p.Tick <;> cases lf (Qb0 p T) y.To <;> rfl
    ·dsimp only; rw [if_neg (by omega)]
    ·rw [Qz2,Qblx hp]
     cases Qhz p (Qb0 p T) (n:Int) <;> simp
   | false =>
    simp
  ·dsimp only
   rw [Qb6,if_neg (by unfold nS at hRl; omega)]
  ·rw [Qbcq]
   simp only [List.nil_append]
   rfl
 ·dsimp only
  have hstart:(if ((Q3t p T).length:Int) == 0 then some true else ((inO (Q3t p T).length 0).bind fun u90=>((getO (Q3t p T) 0).bind fun x92=>some (decide (x92 > 0))))) = some (!(decide (0 < p.zA.zM∧lf (Qb0 p T) 0 = true))):=by
   by_cases h0:0 < p.zA.zM
   ·have hra:=Qt2 hR (x:=0) ⟨Int.le_refl _,h0⟩
    rw [hlR] at hra
    rw [if_neg (by rw [hRl]; unfold nS; simp; omega)]
    simp only [hra.1,hra.2.1,Option.bind_some,hra.2.2.2,h0,true_and]
    cases lf (Qb0 p T) 0 <;> rfl
   ·rw [if_pos (by rw [hRl]; unfold nS; simp; omega)]
    simp [h0]
  rw [hstart,Option.bind_some]
  by_cases h0:0 < p.zA.zM∧lf (Qb0 p T) 0 = true
  ·rw [if_neg (by simp [h0])]
   have hs0:st0 p (Qb0 p T) = [0]:=by unfold st0; rw [if_pos h0]
   have hsup:supP p (Qb0 p T) = bldS p (Qb0 p T) (nS p + 1) 0 [0] [] []:=by unfold supP; rw [hs0]
   have hf0:Fnd p.zA [0]:=hs0 ▸ Qbe7 hp
   generalize hA:supP p (Qb0 p T) = A at hsup
   have hres:resP p T r = ⟨⟨(resP p T r).zE.Kept,(resP p T r).zE.zF,(resP p T r).zE.zG⟩,r,⟨p.zA.zJ,(A.1.length:Int),A.2.1,A.2.2⟩,A.1,(resP p T r).zI⟩:=by rw [← hA]; rfl
   refine Option.bind_eq_some_iff.2 ⟨(A.2.1,A.2.2,A.1),?_,by rw [hres]⟩
   refine Q7b (fun x:Int×List Int×List Qe×List Int=>∃ (n f:Nat),x.1 = n∧n + f = nS p + 1∧n≤x.2.2.2.length∧Fnd p.zA x.2.2.2∧x.2.1.length≤n∧x.2.2.1.length≤131072 * n∧bldS p (Qb0 p T) f n x.2.2.2 x.2.1 x.2.2.1 = A) (fun x=>5001 - x.1.toNat) _ ⟨0,nS p + 1,rfl,by omega,Nat.zero_le _,hf0,Nat.zero_le _,Nat.zero_le _,hsup.symm⟩ (by dsimp only; omega) ?_
   rintro k ⟨x,ms,es,st⟩ ⟨n,f,hx,hf,hnl,hfd,hms,hes,hB⟩ ih
   dsimp only at hx hnl hfd hms hes hB ih ⊢
   subst hx
   have hfl:=hfd.len
   by_cases hlt:n < st.length
   ·obtain ⟨f,rfl⟩ : ∃ g,f = g + 1:=⟨f - 1,by unfold nS at *; omega⟩
    have hi:st[n]? = some st[n]:=List.getElem?_eq_getElem hlt
    have hr:=hfd.rg _ (List.getElem_mem hlt)
    have hn4:n≤4096:=by unfold nS at *; omega
    rw [if_pos (by omega),Qbu hlt,Option.bind_some,Q8z hsm.1.2.1,Option.bind_some]
    have hmk:(if decide (st[n]∈p.zA.zK) = true then (appO ms [(n:Int)]).bind fun x36=>some x36 else some ms) = some (if st[n]∈p.zA.zK then ms ++ [(n:Int)] else ms):=by
     rw [Qce (by simp only [List.length_cons,List.length_nil]; unfold lim; omega)]
     by_cases hm:st[n]∈p.zA.zK <;> simp [hm]
    rw [hmk,Option.bind_some]
    rw [bldS,hi] at hB
    dsimp only at hB
    obtain ⟨k1,k2,k3⟩:=Q7m hp (i:=n) (L:=Qb0 p T) (l:=outP p.zA st[n]) (s:=(st,es)) (fun x hx=>(Qz1 hp x hx).1) hfd
    have hol:=Q4a hp st[n]
    have hrow:=Qbka hp hge hR (i:=n) hn4 (s:=st[n]) (ms:=if st[n]∈p.zA.zK then ms ++ [(n:Int)] else ms) (es:=es) hfd hi (by omega)
    rw [hlR] at hrow
    rw [hrow,Option.bind_some,Qcg (by omega)]
    have hk2:=k2.length_le
    refine ih _ ⟨n + 1,f,rfl,by omega,by dsimp only at hk2 ⊢; omega,k1,?_,by dsimp only at k3 ⊢; omega,hB⟩ (by simp only [Int.toNat_natCast]; omega)
    dsimp only
    split
    ·simp only [List.length_append,List.length_cons,List.length_nil]; omega
    ·omega
   ·rw [if_neg (by omega)]
    have hB' : (st,ms,es) = A:=by
     cases f with
     | zero=>exact hB
     | succ f=>rw [bldS,List.getElem?_eq_none (by omega)] at hB; exact hB
    subst hB'
    rfl
  ·rw [if_pos (by simp only [h0,decide_false,Bool.not_false])]
   have hs0:st0 p (Qb0 p T) = []:=by unfold st0; rw [if_neg h0]
   have hsup:supP p (Qb0 p T) = ([],[],[]):=by unfold supP; rw [hs0]; rfl
   have hres:resP p T r = ⟨⟨(resP p T r).zE.Kept,(resP p T r).zE.zF,(resP p T r).zE.zG⟩,r,⟨p.zA.zJ,0,[],[]⟩,[],(resP p T r).zI⟩:=by
    unfold resP; rw [hsup]; rfl
   rw [hres]
end
end Go.Abs
end
section
namespace Go.Abs
open Go
structure Qbe8 (k:Q4):Prop where
 ev:0≤k.Part.Events∧k.Part.Events < 256
 gr:Qbip k.Part.Graph
 fo:0≤k.zC∧k.zC < 256
 un:0≤k.zB∧k.zB < 256
 fc:0≤k.zD∧k.zD < 256
def evB4 (s:Nat):Bool:=match Qcu (andI .u8 (s:Int) 15) with
 | some l=>Qbin l && l.all fun x=>decide (0≤x) && decide (x < 4)
 | none=>false
theorem Qbkb:(List.range 256).all evB4 = true:=by kernel_rfl
theorem Qbbn {s:Int} (h0:0≤s) (h1:s < 256):∃ l,Qcu (andI .u8 s 15) = some l∧SetP 32 l∧(4:Int)∉l∧l.length≤4:=by
 have:=List.all_eq_true.1 Qbkb s.toNat (List.mem_range.2 (by omega))
 unfold evB4 at this
 rw [show ((s.toNat:Nat):Int) = s from by omega] at this
 split at this
 ·rename_i l hl
  simp only [Bool.and_eq_true,List.all_eq_true,decide_eq_true_eq] at this
  have hso:=Qbae this.1
  refine ⟨l,hl,⟨fun x hx=>?_,hso⟩,fun hx=>?_,?_⟩
  ·have:=this.2 x hx; omega
  ·have:=this.2 4 hx; omega
  ·have:=Qib hso this.2; omega
 ·cases this
def bitP (s i:Int):Bool:=andI .u8 (s.fdiv (2 ^ (min (Int.toNat i) (IntKind.bits .u8)))) 1 == 1
theorem Qbi6 {k:Q4} (hk:Qbe8 k):∃ p,Qge k = some p∧RightP p∧p.Tick = 4∧p.zA.zM≤5:=by
 unfold Qge Qck
 obtain ⟨fuel,hfu,hge⟩ : ∃ f,Qby = f∧1099511627776≤f:=⟨_,rfl,Nat.le_refl _⟩
 obtain ⟨ev,hE,hev⟩:=Qbio hk.ev.1 hk.ev.2
 obtain ⟨m,hm,hmal,hM,hm5⟩:=Qblr hev hk.gr
 obtain ⟨un,hU,hun,hu4,_⟩:=Qbbn hk.un.1 hk.un.2
 obtain ⟨fc,hF,hfc,hf4,_⟩:=Qbbn hk.fc.1 hk.fc.2
 have ha:=Qbd0 hm
 have h5:(Q5l m).zM≤5:=by
  have:=(Q77 hm).1.len
  show ((Quj m).length:Int)≤5
  omega
 generalize Q5l m = a at ha hM h5
 have hst:=ha.st
 rw [hfu]
 refine ⟨⟨a,(upto a.zM).filter (bitP k.zC),un,fc,4⟩,Option.bind_eq_some_iff.2 ⟨ev,hE,Option.bind_eq_some_iff.2 ⟨a,hM,Option.bind_eq_some_iff.2 ⟨un,hU,Option.bind_eq_some_iff.2 ⟨fc,hF,?_⟩⟩⟩⟩,⟨ha,⟨fun x hx=>?_,(Q7f _).filter _⟩,hun,hfc,by simp only; omega,hu4,hf4⟩,rfl,h5⟩
 ·refine Option.bind_eq_some_iff.2 ⟨([],[],[],[],[],[],(upto a.zM).filter (bitP k.zC)),?_,rfl⟩
  refine (Qes (l:=upto a.zM) (fun i (acc:List Int)=>(i,[],[],[],[],[],[],acc)) (fun acc i=>if bitP k.zC i then acc ++ [i] else acc) (fun n acc=>acc.length≤n) (fun acc=>some ([],[],[],[],[],[],acc)) (by rw [Qb6]; unfold big; omega) hge (fun k' n acc hn ha'=>?_) (fun n acc hn ha'=>by split <;> first | (simp only [List.length_append,List.length_cons,List.length_nil]; omega) | omega) (fun k' acc ha'=>?_) (s0:=[]) (by simp)).trans ?_
  ·have hn':=Qiw hn
   dsimp only
   rw [Qll hn,if_pos (by omega)]
   rw [show shrO .u8 k.zC (n:Int) = some (k.zC.fdiv (2 ^ (min (Int.toNat (n:Int)) (IntKind.bits .u8)))) from by unfold shrO; rw [if_neg (by omega)]]
   rw [Option.bind_some,Qce (by simp only [List.length_cons,List.length_nil]; unfold lim; omega)]
   show ((if bitP k.zC (n:Int) = true then _ else _:Option _).bind _) = _
   cases bitP k.zC (n:Int) <;> rfl
  ·dsimp only
   rw [Qb6,if_neg (by omega)]
  ·have:=Qz2 (c:=bitP k.zC) (g:=id) (l:=upto a.zM) (acc:=([]:List Int))
   rw [List.map_id,List.nil_append] at this
   exact congrArg (fun z=>some (([]:List Int),([]:List Int),([]:List Qe),([]:List Int),([]:List Int),([]:List Int),z)) this
 ·exact Q37.1 (List.mem_filter.1 hx).1
section
variable {p:Qb} (hp:RightP p)
include hp
theorem Qbf3 {L:List Bool}:∀ {f i:Nat} {st ms:List Int} {es:List Qe},Fnd p.zA st→Fnd p.zA (bldS p L f i st ms es).1∧(bldS p L f i st ms es).2.1.length≤ms.length + f∧(bldS p L f i st ms es).2.2.length≤es.length + 131072 * f
 | 0,i,st,ms,es,h=>⟨h,by simp [bldS],by simp [bldS]⟩
 | f + 1,i,st,ms,es,h=>by
  unfold bldS
  split
  ·exact ⟨h,by dsimp only; omega,by dsimp only; omega⟩
  ·rename_i s hs
   obtain ⟨k1,k2,k3⟩:=Q7m hp (i:=i) (L:=L) (l:=outP p.zA s) (s:=(st,es)) (fun x hx=>(Qz1 hp x hx).1) h
   have hol:=Q4a hp s
   obtain ⟨q1,q2,q3⟩:=Qbf3 (L:=L) (f:=f) (i:=i + 1) (st:=((outP p.zA s).foldl (Qe5 L i) (st,es)).1) (ms:=if s∈p.zA.zK then ms ++ [(i:Int)] else ms) (es:=((outP p.zA s).foldl (Qe5 L i) (st,es)).2) k1
   refine ⟨q1,?_,?_⟩
   ·have:(if s∈p.zA.zK then ms ++ [(i:Int)] else ms).length≤ms.length + 1:=by split <;> simp
    omega
   ·dsimp only at k3
    omega
theorem Qbgw (T:List Qd) (r:Int):(resP p T r).zE.Kept.length < big∧(resP p T r).zE.zF.length < big∧(resP p T r).zE.zG.length < big∧small (resP p T r).zH∧(resP p T r).zO.length < big∧(resP p T r).zI.length < big:=by
 have hst:=hp.a.st
 have hnS:nS p≤4096:=by unfold nS; omega
 obtain ⟨h1,h2,h3⟩:=Qbf3 hp (L:=Qb0 p T) (f:=nS p + 1) (i:=0) (ms:=[]) (es:=[]) (Qbe7 hp (L:=Qb0 p T))
 have h4:=h1.len
 have hu:∀ q:Int→Bool,((upto p.zA.zM).filter q).length≤4096:=fun q=>by
  have:=List.length_filter_le q (upto p.zA.zM)
  rw [Qb6] at this; omega
 have hm:∀ q:Int→Option Qd,((upto p.zA.zM).filterMap q).length≤4096:=fun q=>by
  have:=List.length_filterMap_le q (upto p.zA.zM)
  rw [Qb6] at this; omega
 have hsm:=hp.a.small.1
 simp only [List.length_nil] at h2 h3
 unfold resP supP
 refine ⟨?_,?_,?_,⟨hsm.1,?_,?_⟩,?_,?_⟩
 ·have:=hu (lf (Qb0 p T)); unfold big; dsimp only; omega
 ·have:=hu (lf (Qb0 p T)); unfold big; dsimp only; rw [List.length_map]; omega
 ·have:=hm (remF p T); unfold big; dsimp only; omega
 ·unfold big; dsimp only; omega
 ·unfold big; dsimp only; omega
 ·unfold big; dsimp only; unfold nS at hnS; omega
 ·have:=hu fun i=>lf (Qb0 p T) i && Qhz p (Qb0 p T) i
  unfold big; dsimp only; omega
end
theorem Q7n {a b:List Int} (h:a.length < big):Qjr a b = some (decide (a = b)):=by
 unfold Qjr Qbx
 rw [Qbaf h]; rfl
theorem Qbi7 {c:Qbs} (h1:c.Kept.length < big) (h2:c.zF.length < big) (h3:c.zG.length < big):Qgf c c = some true:=by
 unfold Qgf Qcl
 obtain ⟨fuel,hfu,hge⟩ : ∃ f,Qby = f∧1099511627776≤f:=⟨_,rfl,Nat.le_refl _⟩
 rw [hfu,Q7n h1,Q7n h2]
 simp only [decide_true,Option.bind_some,if_true,bne_self_eq_false,Bool.false_eq_true,if_false]
 refine (Qes (l:=c.zG) (fun i (_:Unit)=>i) (fun _ _=>()) (fun _ _=>True) (fun _=>some true) h3 hge (fun k n s hn _=>?_) (fun _ _ _ _=>trivial) (fun k s _=>?_) (s0:=()) trivial)
 ·skip
  rw [if_pos (by omega),Qbu hn]
  simp
 ·rw [if_neg (by omega)]
theorem Qbcs {k:Q4} (hk:Qbe8 k):Qdj k = some true:=by
 unfold Qdj Qcr
 rw [Qbgn]
 simp only [Option.bind_some,if_true]
 obtain ⟨p,hM,hp,_,_⟩:=Qbi6 hk
 refine Option.bind_eq_some_iff.2 ⟨p,hM,?_⟩
 rw [Qbcr hp,Option.bind_some]
 dsimp only
 have hok:Okt p (solP p).1:=by
  have:∀ (f:Nat) (rank:Int) (T:List Qd) (r:Int),1≤rank→Okt p T→Okt p (Q3u p f rank T r).1:=by
   intro f
   induction f with
   | zero=>intro rank T r _ h; exact h
   | succ f ih =>
    intro rank T r hr h
    rw [Q3u]
    split
    ·exact h
    ·exact ih _ _ _ (by omega) (h.round hr)
  exact this _ _ _ _ (by omega) (Qbi2 hp)
 rw [Qbj8 hp,Option.bind_some,Qbi5 hp hok,Option.bind_some]
 obtain ⟨s1,s2,s3,s4,s5,s6⟩:=Qbgw hp (solP p).1 (solP p).2
 generalize resP p (solP p).1 (solP p).2 = R at s1 s2 s3 s4 s5 s6
 rw [Qbi7 s1 s2 s3,Qbis s4,Q7n s5,Q7n s6]
 simp
end Go.Abs
end
section
namespace Go.Proofs
open Go Go.Abs
theorem Qbgx {x:Int} (h:wfI .u8 x):0≤x∧x < 256:=by
 unfold wfI at h
 simp [Lit.wf,IntKind.min,IntKind.max,IntKind.bits,IntKind.signed] at h
 omega
theorem Qbkc {g:Qbj} (h:W_26 g):Qbip g:=by
 unfold W_26 W_24 W_23 W_5 at h
 obtain ⟨h1,h2,⟨a1,a2,a3,a4,a5⟩,⟨b1,b2,b3,b4,b5⟩,⟨c1,c2,c3,c4,c5⟩,⟨d1,d2,d3,d4,d5⟩,⟨e1,e2,e3,e4,e5⟩⟩:=h
 refine ⟨Qbgx h1,fun x hx=>?_⟩
 simp only [List.mem_cons,List.not_mem_nil,or_false] at hx
 rcases hx with rfl | rfl | rfl | rfl | rfl | rfl | rfl | rfl | rfl | rfl | rfl | rfl | rfl | rfl | rfl | rfl | rfl | rfl | rfl | rfl | rfl | rfl | rfl | rfl | rfl <;> exact Qbgx (by assumption)
theorem Qbmp {k:Q4} (h:W_30 k):Qbe8 k :=
 ⟨Qbgx h.1.1,Qbkc h.1.2,Qbgx h.2.1,Qbgx h.2.2.1,Qbgx h.2.2.2⟩
end Go.Proofs
end
