/-
  Part 10 of the proof: see the last text.
-/
import Derived.Test.YtjngkimolkhdmaaGreatP9
import Derived.Test.YtjngkimolkhdmaaGreatProg
import Derived.KernelRfl
import Derived.Sort.Statements
import Derived.Shelf.SlSortCmp.NoneTotal
import Derived.Lib.RuneBytes
import Derived.Shelf.SortM.Plain
import Derived.Shelf.SortM.SortNone
import Derived.Shelf.Small.Bits
import Derived.Shelf.Strings.BuilderK
import Derived.Shelf.Strings.BuilderRune
import Derived.Shelf.SlGeneric
import Derived.Shelf.Strconv.Itoa0
import Derived.Shelf.Strings.Builder1
import Derived.Shelf.Sort.Plain
import Derived.Shelf.SlSortCmp.Whole1
import Derived.Shelf.Slices.In.SortNone
import Derived.Ground.SlsfProg
import Derived.Ground.Names2Prog
import Derived.WalkKit
import Derived.Shelf.SlIterI.Sorted
import Derived.RangeFuncBox
import Derived.RangeFuncLeaves
import Derived.Shelf.Abstract
import Derived.OwnWalkIn
import Derived.TacticsInMore
import Derived.RegionIn
import Derived.LoopNIn
import Derived.LoopIn
import Derived.BigCall
import Derived.Lib.OthersKept
import Derived.RegionTactic
import Derived.ChangeAlike
import Derived.Deep.AppendLies
import Derived.Deep.RegionLaw
import Derived.Deep.DeepCutAuto
import Derived.Deep.CutBlock
import Derived.OrdersIn
import Derived.TacticsIn
import Derived.RangeFuncCalls
import Derived.Sort.QuietTacIn
import Derived.Lib.OwnKind
import Derived.RangeFuncWrites
set_option linter.unusedVariables false
set_option linter.unusedSimpArgs false
set_option linter.unusedSectionVars false
section
namespace Go.Abs
open Go
set_option maxRecDepth 10000
set_option maxHeartbeats 4000000
theorem Qny {P:Program} {c:Nat} (hcf:Qp P c=some Qkb) (fuel:Nat):Qfa P c (Q8 fuel):=by
 intro ev1 r h;refine Qb3 hcf rfl fun Γ M hP hnt hM=>?_;subst hP;refine ini ?_;refine Z 8 0 ?_;refine cw h [] [] (fun ov12 e=>(3,(o_ ov12))::e) (fun _ l=>l) ke (fun _ h=>?_) (fun ov12 h=>Y);refine Z 5 0 ?_;refine lw h [0] [] (fun (ov2,i3) e=>(3,(o_ ov2))::(4,(i_ i3))::e) (fun _ l=>l) ke wk (fun _ ⟨ov2,i3⟩ h=>?_);refine Z 8 0 ?_;refine ci h rfl (fun h=>?_) (fun h=>Y);refine Tr.skip ?_;refine cw h [0,4] [] (fun ov11 e=>(3,(o_ ov11))::e) (fun _ l=>l) ke (fun _ h=>?_) (fun ov11 h=>Y);refine Z 9 1 ?_;intro _ h;exact cd h rfl (fun h=>Y) (fun h=>Y)
theorem Qt2 {P:Program} {c:Nat} (hcf:Qp P c=some Qps) (fuel:Nat):Qib P c (Qbr fuel):=by
 intro l1 n2 r h;refine Qb3 hcf rfl fun Γ M hP hnt hM=>?_;subst hP;refine ini ?_;refine Z 10 0 ?_;refine lw h [0,1] [] (fun i3 e=>(5,(i_ i3))::e) (fun _ l=>l) ke wk (fun _ i3 h=>?_);refine Z 8 0 ?_;refine ci h rfl (fun h=>?_) (fun h=>Y);refine Z 12 1 ?_;intro _ h;exact cd h rfl (fun h=>Y) (fun h=>Y)
theorem Qpu {P:Program} {c:Nat} {Q8:_} {Qbr:_}
    (Hbu:Qfa P 21 Q8)
    (Hbs:Qib P 66 Qbr) (hcf:Qp P c=some Qlg) (fuel:Nat):Qh2 P c (Qcg Q8 Qbr fuel):=by
 intro ev1 a2 l3 r h;refine Qb3 hcf rfl fun Γ M hP hnt hM=>?_;subst hP;refine ini ?_;refine Z 11 0 ?_;refine lw h [0,2,4] [4] (fun i4 e=>(7,(i_ i4))::e) (fun _ l=>l) ke wk (fun _ i4 h=>?_);refine Z 8 0 ?_;refine ci h rfl (fun h=>?_) (fun h=>Y);refine Z 3 0 ?_;refine cw h [0,2,4,7] [4] (fun x18 e=>(31,(b_ x18))::e) (fun _ l=>l) ke (fun _ h=>?_) (fun x18 h=>?_)
 ·refine Z 2 0 ?_;refine cl (Hbu _) h (cq fun _ h=>?_);refine Z 4 1 ?_;intro _ h;refine cl (Hbs _ _) h (cq fun _ h=>?_);refine Z 2 0 ?_;refine bs h (fun _ h=>?_) (fun _ h=>Y);refine Z 6 1 ?_;intro _ h;refine cl (Hbs _ _) h (cq fun _ h=>?_);exact Y
 ·exact cd h rfl (fun h=>Y) (fun h=>Y)
theorem Qp7 {P:Program} {c:Nat} (hcf:Qp P c=some Qlq) (fuel:Nat):Qic P c (Qcn fuel):=by
 intro l1 cv2 r h;refine Qb3 hcf rfl fun Γ M hP hnt hM=>?_;subst hP;refine ini ?_;refine Z 8 0 ?_;refine cw h [0] [] (fun n11 e=>(5,(i_ n11))::e) (fun _ l=>l) ke (fun _ h=>?_) (fun n11 h=>?_)
 ·refine Z 5 0 ?_;refine lw h [0,1] [] (fun (n3,i4) e=>(5,(i_ n3))::(6,(i_ i4))::e) (fun _ l=>l) ke wk (fun _ ⟨n3,i4⟩ h=>?_);refine Z 8 0 ?_;refine ci h rfl (fun h=>?_) (fun h=>Y);refine Z 12 1 ?_;intro _ h;obtain ⟨s9,h10,h⟩:=bnd h;refine Rn.bin tv rfl rfl (Q3i h10) ?_;exact Y
 ·refine Z 11 0 ?_;refine cd h rfl (fun h=>Y) (fun h=>?_);refine Z 7 0 ?_;exact cd h rfl (fun h=>Y) (fun h=>Y)
theorem Ql3 {P:Program} {c:Nat} (hcf:Qp P c=some Qik) (fuel:Nat):Qf2 P c (Qbp fuel):=by
 intro x1 tv2 cv3 g4 cp5 r h;intro M nb hc6 ho8 hf7;refine Qxk hcf rfl M nb fun Γ hP hnt hn0 hM=>?_;subst hP hn0;refine ini ?_;refine Z 17 0 ?_;refine cw h [0,1,2,8] [] (fun i20 e=>(9,(i_ i20))::e) (fun _ l=>l) ke (fun _ h=>?_) (fun i20 h=>?_)
 ·refine Tr.block ?_;refine lw h [0,1,2,8] [] (fun (i11,j12) e=>(9,(i_ i11))::(10,(i_ j12))::e) (fun _ l=>l) ke wk (fun _ ⟨i11,j12⟩ h=>?_);refine Z 7 0 ?_;refine ci h rfl (fun h=>?_) (fun h=>Y);refine Z 20 1 ?_;intro x15 h;obtain ⟨x18,h17,h⟩:=bnd h;refine Rn.callvM (args:=[(Qj3 x15),(i_ tv2)]++cp5) tv rfl (by rw [hc6];rfl) (fun M2 nb2 hn hx=>hf7 _ _ _ h17 M2 nb2 (by omega) ((Qy4 hM).trans hx)) rfl pc9 ?_;refine Z 2 0 ?_;exact ci h rfl (fun h=>Y) (fun h=>Y)
 ·refine Z 7 0 ?_;refine bi h (fun hb21 h=>?_) (fun hb21 h=>Y);refine Z 6 1 ?_;intro x22 h;obtain ⟨x25,h24,h⟩:=bnd h;refine Rn.callvM (args:=[(Qj3 x22),(i_ tv2)]++cp5) (gw rfl hb21) rfl (by rw [hc6];rfl) (fun M2 nb2 hn hx=>hf7 _ _ _ h24 M2 nb2 (by omega) ((Qy4 hM).trans hx)) rfl pc9 ?_;exact Y
theorem Qwx {P:Program} {c:Nat} (hcf:Qp P c=some Qrz):Qmo P c (Qei):=by
 intro x1 s2 r h;refine Qb3 hcf rfl fun Γ M hP hnt hM=>?_;subst hP;refine ini ?_;exact Y
theorem Qwy {P:Program} {c:Nat} (hcf:Qp P c=some Qr0):Qmp P c (Qej):=by
 intro x1 s2 r h;refine Qb3 hcf rfl fun Γ M hP hnt hM=>?_;subst hP;refine ini ?_;exact Y
theorem Qzc {P:Program} {c:Nat} {Qbp:_} {Qei:_} {Qej:_}
    (Hcw:Qf2 P 115 Qbp)
    (Has:Qmo P 116 Qei)
    (Hat:Qmp P 117 Qej) (hcf:Qp P c=some Qu0):Qlr P c (Qcx Qbp Qei Qej):=by
 intro a1 sv2 r h;refine Qb3 hcf rfl fun Γ M hP hnt hM=>?_;subst hP;refine ini ?_;refine Z 10 0 ?_;refine cm h (fun _ h7 M2 nb2 hn hx=>Hcw _ _ _ 116 [] _ h7 M2 nb2 rfl tv (fun a3 a4 r5 h6 M3 nb3 hn3 hx3=>Has a3 a4 r5 h6 M3 nb3 )) rfl (cq fun ⟨_,_⟩ h=>?_);refine Z 12 0 ?_;refine cm h (fun _ h14 M2 nb2 hn hx=>Hcw _ _ _ 117 [] _ h14 M2 nb2 rfl tv (fun a10 a11 r12 h13 M3 nb3 hn3 hx3=>Hat a10 a11 r12 h13 M3 nb3 )) rfl (cq fun ⟨_,_⟩ h=>?_);exact Y
theorem Qu7 {P:Program} {c:Nat} (hcf:Qp P c=some Qqr):Qls P c (Qd3):=by
 intro x1 x2 k3 r h;intro M nb hk4;refine Qxk hcf rfl M nb fun Γ hP hnt hn0 hM=>?_;subst hP hn0;refine ini ?_;exact Y
theorem Qp8 {P:Program} {c:Nat} (hcf:Qp P c=some Qlt) (fuel:Nat):Qid P c (Qco fuel):=by
 intro s1 f2 g3 cp4 r h;intro M nb hc5 ho7 hf6;refine Qxk hcf rfl M nb fun Γ hP hnt hn0 hM=>?_;subst hP hn0;refine ini ?_;refine Z 12 0 ?_;refine lw h [0,1,7] [] (fun x9 e=>(8,(i_ x9))::e) (fun _ l=>l) ke wk (fun _ x9 h=>?_);refine Z 5 0 ?_;refine ci h rfl (fun h=>?_) (fun h=>Y);refine Z 15 1 ?_;intro x12 h;obtain ⟨x15,h14,h⟩:=bnd h;refine Rn.callvM (args:=[(Qj3 x12)]++cp4) tv rfl (by rw [hc5];rfl) (fun M2 nb2 hn hx=>hf6 _ _ h14 M2 nb2 (by omega) ((Qy4 hM).trans hx)) rfl pc9 ?_;refine Z 1 0 ?_;exact cd h rfl (fun h=>Y) (fun h=>Y)
theorem Qx6 {P:Program} {c:Nat} {Qcx:_} {Qco:_} {Qd3:_}
    (Har:Qlr P 86 Qcx)
    (Hdc:Qid P 165 Qco)
    (Haq:Qls P 166 Qd3) (hcf:Qp P c=some Qtt):Qnv P c (Qe7 Qcx Qco Qd3):=by
 intro a1 sv2 ev3 r h;refine Qb3 hcf rfl fun Γ M hP hnt hM=>?_;subst hP;refine ini ?_;refine Z 10 0 ?_;refine cl (Har _ _) h (cq fun _ h=>?_);refine Z 5 0 ?_;refine Rn.k (v:=.clo 166 [.ptr (Γ.n0+5) 0]) tv rfl rfl rfl ?_;refine cm h (fun _ h9 M2 nb2 hn hx=>Hdc _ _ 166 [.ptr (Γ.n0+5) 0] _ h9 M2 nb2 rfl ⟨Q3j (hx _ _ (Qcy rfl)),tv⟩ (fun a6 r7 h8 M3 nb3 hn3 hx3=>Haq a6 ev3 (Γ.n0+5) r7 h8 M3 nb3 ((hx.trans hx3) _ _ (Qcy rfl)))) rfl (cq fun _ h=>?_);refine Z 8 0 ?_;exact ci h rfl (fun h=>Y) (fun h=>Y)
theorem Qu8 {P:Program} {c:Nat} {Qe7:_}
    (Hap:Qnv P 148 Qe7) (hcf:Qp P c=some Qqs) (fuel:Nat):Qlu P c (Qd4 Qe7 fuel):=by
 intro a1 sv2 wv3 r h;refine Qb3 hcf rfl fun Γ M hP hnt hM=>?_;subst hP;refine ini ?_;refine Z 14 0 ?_;refine lw h [2,3,11,12] [3] (fun (sv4,x5) e=>(1,(i_ sv4))::(13,(i_ x5))::e) (fun _ l=>l) ke wk (fun _ ⟨sv4,x5⟩ h=>?_);refine Z 5 0 ?_;refine ci h rfl (fun h=>?_) (fun h=>Y);refine Z 16 1 ?_;intro _ h;refine cl (Hap _ _ _) h (cq fun _ h=>?_);refine Z 8 0 ?_;exact ci h rfl (fun h=>Y) (fun h=>Y)
theorem Qt3 {P:Program} {c:Nat} {Qd4:_}
    (Hao:Qlu P 113 Qd4) (hcf:Qp P c=some Qpt):Qk5 P c (Qdm Qd4):=by
 intro a1 wv2 r h;refine Qb3 hcf rfl fun Γ M hP hnt hM=>?_;subst hP;refine ini ?_;refine Z 13 0 ?_;refine cd h rfl (fun h=>Y) (fun h=>?_);refine Z 5 0 ?_;refine cl (Hao _ _ _) h (cq fun ⟨_,_⟩ h=>?_);exact Y
theorem Qsc {P:Program} {c:Nat} {Q1:_} {Qdm:_}
    (Haj:Qgg P 79 Q1)
    (Hau:Qk5 P 84 Qdm) (hcf:Qp P c=some Qne):Qjp P c (Qc5 Q1 Qdm):=by
 intro a1 wv2 r h;refine Qb3 hcf rfl fun Γ M hP hnt hM=>?_;subst hP;refine ini ?_;refine Z 10 0 ?_;refine cl (Haj _) h (cq fun _ h=>?_);refine Z 7 0 ?_;refine cd h rfl (fun h=>Y) (fun h=>?_);refine Z 5 0 ?_;refine cl (Hau _ _) h (cq fun ⟨_,_⟩ h=>?_);exact Y
theorem Q0r {P:Program} {c:Nat} {Qbd:_}
    (Hab:Qgl P 64 Qbd) (hcf:Qp P c=some Qxm) (fuel:Nat):Qqz P c (Qfk Qbd fuel):=by
 intro w1 xv2 r h;refine Qb3 hcf rfl fun Γ M hP hnt hM=>?_;subst hP;refine ini ?_;refine Z 8 0 ?_;refine cw h [] [] (fun ov15 e=>(5,(o_ ov15))::e) (fun _ l=>l) ke (fun _ h=>?_) (fun ov15 h=>Y);refine Z 7 0 ?_;refine lw h [1,8,9] [] (fun (ov3,x4) e=>(5,(o_ ov3))::(10,(i_ x4))::e) (fun _ l=>l) ke wk (fun _ ⟨ov3,x4⟩ h=>?_);refine Z 5 0 ?_;refine ci h rfl (fun h=>?_) (fun h=>Y);refine Tr.skip ?_;refine cw h [1,8,9,10] [] (fun ov14 e=>(5,(o_ ov14))::e) (fun _ l=>l) ke (fun _ h=>?_) (fun ov14 h=>Y);refine Z 11 1 ?_;intro _ h;refine cl (Hab _ _) h (cq fun _ h=>?_);refine Z 1 0 ?_;exact cd h rfl (fun h=>Y) (fun h=>Y)
theorem Qq6 {P:Program} {c:Nat} (hcf:Qp P c=some Qmb) (fuel:Nat):Qiu P c (Qcf fuel):=by
 intro ev1 w2 cv3 r h;refine Qb3 hcf rfl fun Γ M hP hnt hM=>?_;subst hP;refine ini ?_;refine Z 10 0 ?_;refine lw h [0,1,2] [] (fun i4 e=>(7,(i_ i4))::e) (fun _ l=>l) ke wk (fun _ i4 h=>?_);refine Z 8 0 ?_;refine ci h rfl (fun h=>?_) (fun h=>Y);refine Z 16 1 ?_;intro _ _ h;exact cd h rfl (fun h=>Y) (fun h=>Y)
theorem Qwz {P:Program} {c:Nat} {Qbe:_} {Q1:_} {Qcx:_} {Qj:_}
    (Hcy:Qg5 P 63 Qbe)
    (Haj:Qgg P 79 Q1)
    (Har:Qlr P 86 Qcx)
    (Hda:Qcl P 87 Qj) (hcf:Qp P c=some Qr1) (fuel:Nat):Qmq P c (Qek Qbe Q1 Qcx Qj fuel):=by
 intro a1 mv2 mv3 r h;refine Qb3 hcf rfl fun Γ M hP hnt hM=>?_;subst hP;refine ini ?_;refine Z 10 0 ?_;refine cl (Haj _) h (cq fun _ h=>?_);refine Z 7 0 ?_;refine cd h rfl (fun h=>Y) (fun h=>?_);refine Z 2 0 ?_;refine cu h (fun x8=>⟨look [(1,(i_ mv2)),(2,(b_ mv3)),(3,.ptr (Γ.n0+3) 0),(26,(b_ x8))],Ql Γ.n0 (bxs [(3,.cells ((Qg a1)))]) M,Γ.n0+102⟩) (fun _ h=>?_) (fun x8 h=>?_)
 ·refine Z 4 0 ?_;exact bi h (fun _ h=>Y) (fun _ h=>Y)
 ·refine cd h rfl (fun h=>Y) (fun h=>?_);refine Z 8 0 ?_;refine cd h rfl (fun h=>Y) (fun h=>?_);refine Z 7 0 ?_;refine Tr.cutJ (fun (av38:List Qn)=>⟨look [(2,(b_ mv3)),(3,.ptr (Γ.n0+3) 0),(9,(Qhy av38))],Ql Γ.n0 (bxs [(3,.cells ((Qg a1)))]) M,Γ.n0+102⟩) h (fun J58 h=>?_) (fun z h=>?_)
  ·refine Z 5 0 ?_;refine Tr.weak (by show WeakSt Γ _ ⟨look ((9,(Qhy ([(Qn.mk [] 0)])))::[(1,(i_ mv2)),(2,(b_ mv3)),(3,.ptr (Γ.n0+3) 0),(10,(i_ 0)),(26,(b_ x8)),(27,.ptr (Γ.n0+3) 1),(28,(i_ a1.zH)),(29,(b_ (a1.zH==0))),(30,.agg [.nils 1,(i_ 0)])] ),Ql Γ.n0 (bxs [(3,.cells ((Qg a1)))]) M,Γ.n0+102⟩;exact Qy5 31 9 [.lst 1 [],.int .i64 0] rfl rfl rfl rfl rfl ⟨sq,sq,(kPtr rfl),sq,sq,(kPtr rfl),sq,sq,sq,tv⟩ ⟨bS rfl rfl rfl,tv⟩ rfl) ?_;refine lo h (fun (av11,i12)=>⟨look [(1,(i_ mv2)),(2,(b_ mv3)),(3,.ptr (Γ.n0+3) 0),(9,(Qhy av11)),(10,(i_ i12))],Ql Γ.n0 (bxs [(3,.cells ((Qg a1)))]) M,Γ.n0+102⟩) wk (fun _ ⟨av11,i12⟩ h=>?_);refine Z 8 0 ?_;refine ci h rfl (fun h=>?_) (fun h=>?_)
   ·refine Z 15 1 ?_;intro _ h;refine cd h rfl (fun h=>?_) (fun h=>?_)
    ·refine Tr.exit ?_;exact ⟨_,h,(by exact Qf7 [] ⟨sq,(kPtr rfl),sq,tv⟩ ⟨bS rfl rfl rfl,tv⟩ rfl)⟩
    ·refine Tr.skip ?_;refine cu h (fun av36=>⟨look [(1,(i_ mv2)),(2,(b_ mv3)),(3,.ptr (Γ.n0+3) 0),(9,(Qhy av36)),(10,(i_ i12))],Ql Γ.n0 (bxs [(3,.cells ((Qg a1)))]) M,Γ.n0+102⟩) (fun _ h=>?_) (fun av36 h=>?_)
     ·refine Z 8 1 ?_;intro _ h;refine cl (Har _ _) h (cq fun x21 h=>?_);refine Z 4 0 ?_;refine lo h (fun (av22,x23)=>⟨look [(1,(i_ mv2)),(2,(b_ mv3)),(3,.ptr (Γ.n0+3) 0),(9,(Qhy av22)),(10,(i_ i12)),(52,(Qi x21)),(53,(i_ (x21.length:Int))),(54,(i_ x23))],Ql Γ.n0 (bxs [(3,.cells ((Qg a1)))]) M,Γ.n0+102⟩) wk (fun _ ⟨av22,x23⟩ h=>?_);refine Z 5 0 ?_;refine ci h rfl (fun h=>?_) (fun h=>Y);refine Z 17 1 ?_;intro x26 _ h;refine cl (Hcy _) h (cq fun _ h=>?_);refine Z 6 1 ?_;intro x32 h;refine Rn.buildT (v:=.agg [(o_ x32),(i_ x26.To)]) tv rfl ?_;exact Y
     ·refine Z 6 0 ?_;exact ci h rfl (fun h=>Y) (fun h=>Y)
   ·refine Tr.exit ?_;exact ⟨_,h,(by exact Qf7 [] ⟨sq,(kPtr rfl),sq,tv⟩ ⟨bS rfl rfl rfl,tv⟩ rfl)⟩
  ·obtain ⟨av38,rfl⟩ : ∃ x,x=z:=⟨_,rfl⟩;refine Z 4 0 ?_;refine cu h (fun l57=>⟨look [(13,.own 1 (List.map (eL 1 (eI .i64)) l57))],Ql Γ.n0 (bxs [(3,.cells ((Qg a1)))]) M,Γ.n0+102⟩) (fun _ h=>?_) (fun l57 h=>Y);refine Z 7 0 ?_;refine lo h (fun (l39,x40)=>⟨look [(2,(b_ mv3)),(3,.ptr (Γ.n0+3) 0),(13,.own 1 (List.map (eL 1 (eI .i64)) l39)),(78,(Qmh av38)),(79,(i_ (av38.length:Int))),(80,(i_ x40))],Ql Γ.n0 (bxs [(3,.cells ((Qg a1)))]) M,Γ.n0+102⟩) wk (fun _ ⟨l39,x40⟩ h=>?_);refine Z 5 0 ?_;refine ci h rfl (fun h=>?_) (fun h=>Y);refine Tr.skip ?_;refine cu h (fun (l54,c55,c56)=>⟨look [(2,(b_ mv3)),(3,.ptr (Γ.n0+3) 0),(13,.own 1 (List.map (eL 1 (eI .i64)) l54)),(78,(Qmh av38)),(79,(i_ (av38.length:Int))),(80,(i_ x40))],Ql Γ.n0 (bxs [(3,.cells ((Qg a1))),(15,.cells ([(l_ c55),(i_ c56)]))]) M,Γ.n0+102⟩) (fun _ h=>?_) (fun ⟨l54,c55,c56⟩ h=>Y);refine Z 8 1 ?_;intro x43 h;refine cu h (fun x48=>⟨look [(2,(b_ mv3)),(3,.ptr (Γ.n0+3) 0),(13,.own 1 (List.map (eL 1 (eI .i64)) l39)),(15,.ptr (Γ.n0+15) 0),(78,(Qmh av38)),(79,(i_ (av38.length:Int))),(80,(i_ x40)),(92,(b_ x48))],Ql Γ.n0 (bxs [(3,.cells ((Qg a1))),(15,.cells ((Qro x43)))]) M,Γ.n0+102⟩) (fun _ h=>?_) (fun x48 h=>?_)
   ·refine Z 4 0 ?_;refine bs h (fun _ h=>?_) (fun _ h=>Y);refine Z 4 0 ?_;refine cl (Hda _ _) h (cq fun _ h=>?_);exact Y
   ·exact cd h rfl (fun h=>Y) (fun h=>Y)
theorem Qkr {P:Program} {c:Nat} {Qc2:_} {Qda:_} {Qcn:_} {Qcs:_} {Q8:_} {Q0:_} {Qcg:_} {Qb1:_} {Qc5:_} {Qfk:_} {Qcf:_} {Qek:_}
    (Hbt:Qjm P 11 Qc2)
    (Hbp:Qki P 12 Qda)
    (Hbz:Qic P 16 Qcn)
    (Hdk:Qqq P 17 Qcs)
    (Hbu:Qfa P 21 Q8)
    (Haz:Qf6 P 27 Q0)
    (Hbv:Qh2 P 28 Qcg)
    (Hbb:Qh9 P 34 Qb1)
    (Hak:Qjp P 43 Qc5)
    (Hdl:Qqz P 44 Qfk)
    (Hbq:Qiu P 48 Qcf)
    (Hal:Qmq P 49 Qek) (hcf:Qp P c=some Qg9) (fuel:Nat):Qg8 P c (Qev Qc2 Qda Qcn Qcs Q8 Q0 Qcg Qb1 Qc5 Qfk Qcf Qek fuel):=by
 intro p1 w2 cv3 r h;refine Qb3 hcf rfl fun Γ M hP hnt hM=>?_;subst hP;refine ini ?_;refine Z 6 0 ?_;refine cu h (fun x7=>⟨look [(1,(l_ w2)),(2,(i_ cv3)),(3,.ptr (Γ.n0+3) 0),(34,(b_ x7))],Ql Γ.n0 (bxs [(3,.cells ((Qbc p1)))]) M,Γ.n0+214⟩) (fun _ h=>?_) (fun x7 h=>?_)
 ·refine Tr.rgn ?_;refine cl Hbt h (cq fun _ h=>?_);refine Z 2 0 ?_;exact bs h (fun _ h=>Y) (fun _ h=>Y)
 ·refine cd h rfl (fun h=>?_) (fun h=>?_)
  ·refine Z 2 0 ?_;refine cl Hbt h (cq fun _ h=>?_);exact Y
  ·refine Z 4 0 ?_;refine cl (Hbp _) h (cq fun ⟨r12,r13⟩ h=>?_);refine Z 13 0 ?_;refine cl (Hbb _ _ _ _) h (cq fun ⟨r15,r16,r17,r18⟩ h=>?_);refine Z 14 0 ?_;refine cu h (fun wv24=>⟨look [(1,(l_ w2)),(2,(i_ cv3)),(7,(Qf r12)),(8,.ptr (Γ.n0+8) 0),(9,(l_ r15)),(10,(l_ r16)),(11,(i_ r17)),(12,(i_ r18)),(13,(i_ wv24))],Ql Γ.n0 (bxs [(3,.cells ((Qbc p1))),(8,.cells ((Qg r13)))]) M,Γ.n0+214⟩) (fun _ h=>?_) (fun wv24 h=>?_)
   ·refine cu h (fun x20=>⟨look [(1,(l_ w2)),(2,(i_ cv3)),(7,(Qf r12)),(8,.ptr (Γ.n0+8) 0),(9,(l_ r15)),(10,(l_ r16)),(11,(i_ r17)),(12,(i_ r18)),(56,(b_ x20))],Ql Γ.n0 (bxs [(3,.cells ((Qbc p1))),(8,.cells ((Qg r13)))]) M,Γ.n0+214⟩) (fun _ h=>?_) (fun x20 h=>?_)
    ·refine Z 4 0 ?_;exact bi h (fun _ h=>Y) (fun _ h=>Y)
    ·refine cd h rfl (fun h=>Y) (fun h=>?_);refine Z 4 0 ?_;refine cl (Hbv _ _ _) h (cq fun _ h=>?_);exact Y
   ·refine Z 5 0 ?_;refine cl (Haz _ _ _) h (cq fun ⟨r26,r27⟩ h=>?_);refine Z 6 0 ?_;refine cu h (fun wv32=>⟨look [(1,(l_ w2)),(2,(i_ cv3)),(7,(Qf r12)),(8,.ptr (Γ.n0+8) 0),(9,(l_ r15)),(10,(l_ r16)),(11,(i_ r17)),(12,(i_ r18)),(13,(i_ wv32)),(14,(Qd r26)),(15,(i_ r27))],Ql Γ.n0 (bxs [(3,.cells ((Qbc p1))),(8,.cells ((Qg r13)))]) M,Γ.n0+214⟩) (fun _ h=>?_) (fun wv32 h=>?_)
    ·refine cu h (fun x30=>⟨look [(1,(l_ w2)),(2,(i_ cv3)),(7,(Qf r12)),(8,.ptr (Γ.n0+8) 0),(9,(l_ r15)),(10,(l_ r16)),(11,(i_ r17)),(12,(i_ r18)),(13,(i_ wv24)),(14,(Qd r26)),(15,(i_ r27)),(78,(b_ x30))],Ql Γ.n0 (bxs [(3,.cells ((Qbc p1))),(8,.cells ((Qg r13)))]) M,Γ.n0+214⟩) (fun _ h=>?_) (fun x30 h=>?_)
     ·refine Z 4 0 ?_;refine bs h (fun _ h=>?_) (fun _ h=>Y);refine Z 4 0 ?_;exact bs h (fun _ h=>Y) (fun _ h=>Y)
     ·exact cd h rfl (fun h=>Y) (fun h=>Y)
    ·refine Z 6 0 ?_;refine cd h rfl (fun h=>?_) (fun h=>?_)
     ·refine Z 11 0 ?_;exact bs h (fun _ h=>Y) (fun _ h=>Y)
     ·refine Z 5 0 ?_;refine cl (Hbz _ _) h (cq fun x36 h=>?_);refine Z 3 0 ?_;refine cu h (fun x39=>⟨look [(1,(l_ w2)),(2,(i_ cv3)),(7,(Qf r12)),(8,.ptr (Γ.n0+8) 0),(9,(l_ r15)),(10,(l_ r16)),(16,(i_ x36)),(107,(b_ x39))],Ql Γ.n0 (bxs [(3,.cells ((Qbc p1))),(8,.cells ((Qg r13)))]) M,Γ.n0+214⟩) (fun _ h=>?_) (fun x39 h=>?_)
      ·refine Z 4 0 ?_;refine bs h (fun _ h=>Y) (fun _ h=>?_);refine Z 4 0 ?_;exact bs h (fun _ h=>Y) (fun _ h=>Y)
      ·refine cd h rfl (fun h=>Y) (fun h=>?_);refine Z 4 0 ?_;refine cl (Hbu _) h (cq fun x42 h=>?_);refine Z 8 0 ?_;refine Rn.k (v:=.d (.int .i64 2)) tv rfl rfl rfl ?_;refine Z 3 0 ?_;refine Tr.weak (by show WeakSt Γ _ ⟨look [(1,(l_ w2)),(2,(i_ cv3)),(7,(Qf r12)),(8,.ptr (Γ.n0+8) 0),(9,(l_ r15)),(10,(l_ r16)),(16,(i_ x36)),(17,(o_ x42)),(107,(b_ x39)),(108,(Qf r12)),(109,(l_ x42)),(110,(l_ r15)),(111,(l_ r16)),(112,.d (.lst 1 (List.map (eL 1 (eI .i64)) [r15,r16]))),(113,(i_ 2)),(114,(i_ 0))],Ql Γ.n0 (bxs [(3,.cells ((Qbc p1))),(8,.cells ((Qg r13)))]) M,Γ.n0+214⟩;exact Qep 112 [.lst 1 (List.map (eI .i64) r15),.lst 1 (List.map (eI .i64) r16)] rfl rfl ⟨sq,sq,sq,(fPtr rfl),sq,sq,sq,sq,sq,sq,sq,sq,sq,(fSl rfl rfl),sq,sq,tv⟩ ⟨bS rfl rfl rfl,bS rfl rfl rfl,tv⟩ rfl) ?_;refine lo h (fun x43=>⟨look [(1,(l_ w2)),(2,(i_ cv3)),(7,(Qf r12)),(8,.ptr (Γ.n0+8) 0),(9,(l_ r15)),(10,(l_ r16)),(16,(i_ x36)),(17,(o_ x42)),(112,.d (.lst 1 (List.map (eL 1 (eI .i64)) [r15,r16]))),(113,(i_ 2)),(114,(i_ x43))],Ql Γ.n0 (bxs [(3,.cells ((Qbc p1))),(8,.cells ((Qg r13)))]) M,Γ.n0+214⟩) wk (fun _ x43 h=>?_);refine Z 5 0 ?_;refine ci h rfl (fun h=>?_) (fun h=>?_)
       ·refine Tr.skip ?_;refine Tr.cutJ (fun (_:Unit)=>⟨look [(1,(l_ w2)),(2,(i_ cv3)),(7,(Qf r12)),(8,.ptr (Γ.n0+8) 0),(9,(l_ r15)),(10,(l_ r16)),(16,(i_ x36)),(17,(o_ x42)),(112,.d (.lst 1 (List.map (eL 1 (eI .i64)) [r15,r16]))),(113,(i_ 2)),(114,(i_ x43))],Ql Γ.n0 (bxs [(3,.cells ((Qbc p1))),(8,.cells ((Qg r13)))]) M,Γ.n0+214⟩) h (fun J69 h=>?_) (fun z h=>?_)
        ·refine Z 10 1 ?_;intro x46 h;refine cu h (fun x52=>⟨look [(1,(l_ w2)),(2,(i_ cv3)),(7,(Qf r12)),(8,.ptr (Γ.n0+8) 0),(9,(l_ r15)),(10,(l_ r16)),(16,(i_ x36)),(17,(o_ x42)),(18,(i_ x43)),(19,(l_ x46)),(112,.d (.lst 1 (List.map (eL 1 (eI .i64)) [r15,r16]))),(113,(i_ 2)),(114,(i_ x43)),(132,(b_ x52))],Ql Γ.n0 (bxs [(3,.cells ((Qbc p1))),(8,.cells ((Qg r13)))]) M,Γ.n0+214⟩) (fun _ h=>?_) (fun x52 h=>?_)
         ·refine Z 4 0 ?_;refine bs h (fun _ h=>?_) (fun _ h=>?_)
          ·refine Z 4 0 ?_;refine bs h (fun _ h=>Y) (fun _ h=>?_);refine Z 3 0 ?_;exact bs h (fun _ h=>Y) (fun _ h=>Y)
          ·refine Z 7 0 ?_;exact bs h (fun _ h=>Y) (fun _ h=>Y)
         ·refine cd h rfl (fun h=>?_) (fun h=>?_)
          ·refine Z 7 0 ?_;refine cd h rfl (fun h=>Y) (fun h=>?_);refine Z 2 0 ?_;exact ⟨_,h,(by exact Qf7 [] ⟨sq,sq,sq,(kPtr rfl),sq,sq,sq,sq,sq,sq,sq,tv⟩ ⟨bS rfl rfl rfl,bS rfl rfl rfl,tv⟩ rfl)⟩
          ·refine Z 5 0 ?_;refine cl (Hak _ _) h (cq fun ⟨_,_⟩ h=>?_);refine Z 6 0 ?_;refine cu h (fun x67=>⟨look [(1,(l_ w2)),(2,(i_ cv3)),(7,(Qf r12)),(8,.ptr (Γ.n0+8) 0),(9,(l_ r15)),(10,(l_ r16)),(16,(i_ x36)),(17,(o_ x42)),(112,.d (.lst 1 (List.map (eL 1 (eI .i64)) [r15,r16]))),(113,(i_ 2)),(114,(i_ x43)),(164,(b_ x67))],Ql Γ.n0 (bxs [(3,.cells ((Qbc p1))),(8,.cells ((Qg r13)))]) M,Γ.n0+214⟩) (fun _ h=>?_) (fun x67 h=>?_)
           ·refine Z 4 0 ?_;refine bs h (fun _ h=>?_) (fun _ h=>Y);refine Z 4 0 ?_;refine bs h (fun _ h=>Y) (fun _ h=>?_);refine Z 2 0 ?_;refine cl (Hdl _ _) h (cq fun _ h=>?_);refine Z 1 0 ?_;refine cl (Hdk _ _) h (cq fun _ h=>?_);refine Z 3 0 ?_;refine bs h (fun _ h=>?_) (fun _ h=>Y);refine Z 3 0 ?_;refine cl (Hbq _ _ _) h (cq fun _ h=>?_);exact Y
           ·refine cd h rfl (fun h=>Y) (fun h=>?_);refine Tr.skip ?_;exact ⟨_,h,(by exact Qf7 [] ⟨sq,sq,sq,(kPtr rfl),sq,sq,sq,sq,sq,sq,sq,tv⟩ ⟨bS rfl rfl rfl,bS rfl rfl rfl,tv⟩ rfl)⟩
        ·exact Y
       ·refine Z 4 0 ?_;refine cl (Hal _ _ _) h (cq fun ⟨r71,_⟩ h=>?_);refine Z 12 0 ?_;refine cd h rfl (fun h=>Y) (fun h=>?_);refine Z 11 0 ?_;refine lo h (fun (x74,y75,i76,sv77,sv78)=>⟨look [(1,(l_ w2)),(2,(i_ cv3)),(7,(Qf r12)),(9,(l_ x74)),(10,(l_ y75)),(17,(o_ x42)),(22,.d (.lst 1 (List.map (eL 1 (eI .i64)) r71))),(24,.ptr (Γ.n0+24) 0),(25,(i_ i76))],Ql Γ.n0 (bxs [(3,.cells ((Qbc p1))),(8,.cells ((Qg r13))),(24,.cells ([(b_ sv77),(b_ sv78)]))]) M,Γ.n0+214⟩) wk (fun _ ⟨x74,y75,i76,sv77,sv78⟩ h=>?_);refine Z 8 0 ?_;refine ci h rfl (fun h=>?_) (fun h=>Y);refine Tr.skip ?_;refine Tr.cutJ (fun ((sv112,sv113):Bool×Bool)=>⟨look [(1,(l_ w2)),(2,(i_ cv3)),(7,(Qf r12)),(9,(l_ x74)),(10,(l_ y75)),(17,(o_ x42)),(22,.d (.lst 1 (List.map (eL 1 (eI .i64)) r71))),(24,.ptr (Γ.n0+24) 0),(25,(i_ i76))],Ql Γ.n0 (bxs [(3,.cells ((Qbc p1))),(8,.cells ((Qg r13))),(24,.cells ([(b_ sv112),(b_ sv113)]))]) M,Γ.n0+214⟩) h (fun J114 h=>?_) (fun z h=>?_)
        ·refine Z 9 1 ?_;intro _ h;refine cl (Hdl _ _) h (cq fun _ h=>?_);refine Z 1 0 ?_;refine cl (Hdk _ _) h (cq fun _ h=>?_);refine Z 2 0 ?_;refine Tr.cond rfl (fun hb87=>?_) (fun hb87=>?_)
         ·have hb87:=nT' hb87;replace h:=bF hb87 h;refine Tr.exit ?_;exact ⟨_,h,(by exact Qf7 [] ⟨sq,sq,sq,sq,sq,sq,sq,(kPtr rfl),sq,tv⟩ ⟨bS rfl rfl rfl,bS rfl rfl rfl,bS rfl rfl rfl,tv⟩ rfl)⟩
         ·have hb87:=nF' hb87;replace h:=bT hb87 h;refine Z 7 0 ?_;refine cu h (fun (k93,z94)=>⟨look [(1,(l_ w2)),(2,(i_ cv3)),(7,(Qf r12)),(9,(l_ x74)),(10,(l_ y75)),(17,(o_ x42)),(22,.d (.lst 1 (List.map (eL 1 (eI .i64)) r71))),(24,.ptr (Γ.n0+24) 0),(25,(i_ i76)),(26,(i_ k93)),(27,(l_ z94))],Ql Γ.n0 (bxs [(3,.cells ((Qbc p1))),(8,.cells ((Qg r13))),(24,.cells ([(b_ sv77),(b_ sv78)]))]) M,Γ.n0+214⟩) (fun _ h=>?_) (fun ⟨k93,z94⟩ h=>?_)
          ·refine Z 8 1 ?_;intro _ h;refine cl (Hbq _ _ _) h (cq fun _ h=>?_);refine Z 1 0 ?_;exact cd h rfl (fun h=>Y) (fun h=>Y)
          ·refine Tr.seq ?_;refine cu h (fun (k107,x108)=>⟨look [(1,(l_ w2)),(2,(i_ cv3)),(7,(Qf r12)),(9,(l_ x74)),(10,(l_ y75)),(17,(o_ x42)),(22,.d (.lst 1 (List.map (eL 1 (eI .i64)) r71))),(24,.ptr (Γ.n0+24) 0),(25,(i_ i76)),(26,(i_ k107)),(211,(b_ x108))],Ql Γ.n0 (bxs [(3,.cells ((Qbc p1))),(8,.cells ((Qg r13))),(24,.cells ([(b_ sv77),(b_ sv78)]))]) M,Γ.n0+214⟩) (fun _ h=>?_) (fun ⟨k107,x108⟩ h=>?_)
           ·refine Z 2 0 ?_;refine Q5n (decide (k93=0)) (fun hb95=>?_) (fun hb95=>?_)
            ·replace hb95:=of_decide_eq_true hb95;subst hb95;replace h:=ifT (by rfl) h;refine Rn.k (v:=.ptr (Γ.n0+24) 0) tv rfl rfl rfl ?_;refine Z 3 0 ?_;refine bs h (fun _ h=>Y) (fun _ h=>?_);refine Z 5 1 ?_;intro _ h;refine cl (Hdk _ _) h (cq fun _ h=>?_);exact Y
            ·replace h:=ifF hb95 h;refine Q5n (decide (k93=1)) (fun hb101=>?_) (fun hb101=>?_)
             ·replace hb101:=of_decide_eq_true hb101;subst hb101;replace h:=ifT (by rfl) h;refine Rn.k (v:=.ptr (Γ.n0+24) 1) tv rfl rfl rfl ?_;refine Z 3 0 ?_;refine bs h (fun _ h=>Y) (fun _ h=>?_);refine Z 5 1 ?_;intro _ h;refine cl (Hdk _ _) h (cq fun _ h=>?_);exact Y
             ·replace h:=ifF hb101 h;cases h
           ·refine cd h rfl (fun h=>Y) (fun h=>?_);refine Z 3 0 ?_;refine Q5n (decide (k107=0)) (fun hb110=>?_) (fun hb110=>?_)
            ·replace hb110:=of_decide_eq_true hb110;subst hb110;replace h:=ifT (by rfl) h;refine Rn.k (v:=.ptr (Γ.n0+24) 0) tv rfl rfl rfl ?_;refine Z 2 0 ?_;exact ⟨_,h,(by exact Qf7 [] ⟨sq,sq,sq,sq,sq,sq,sq,(kPtr rfl),sq,tv⟩ ⟨bS rfl rfl rfl,bS rfl rfl rfl,bS rfl rfl rfl,tv⟩ rfl)⟩
            ·replace h:=ifF hb110 h;refine Q5n (decide (k107=1)) (fun hb111=>?_) (fun hb111=>?_)
             ·replace hb111:=of_decide_eq_true hb111;subst hb111;replace h:=ifT (by rfl) h;refine Rn.k (v:=.ptr (Γ.n0+24) 1) tv rfl rfl rfl ?_;refine Z 2 0 ?_;exact ⟨_,h,(by exact Qf7 [] ⟨sq,sq,sq,sq,sq,sq,sq,(kPtr rfl),sq,tv⟩ ⟨bS rfl rfl rfl,bS rfl rfl rfl,bS rfl rfl rfl,tv⟩ rfl)⟩
             ·replace h:=ifF hb111 h;cases h
        ·obtain ⟨sv112,sv113⟩:=z;exact Y
theorem Qtc {P:Program} {c:Nat} (hcf:Qp P c=some Qod):Qkj P c (Qdb):=by
 intro ev1 x2 y3 r h;refine Qb3 hcf rfl fun Γ M hP hnt hM=>?_;subst hP;refine ini ?_;refine Z 32 1 ?_;intro _ h;refine ci h rfl (fun h=>?_) (fun h=>Y);refine Z 5 0 ?_;obtain ⟨s7,h8,h⟩:=bnd h;refine Rn.bin tv rfl rfl (Qbe6 h8) ?_;exact Y
theorem Qtd {P:Program} {c:Nat} (hcf:Qp P c=some Qoe) (fuel:Nat):Qkk P c (Qdc fuel):=by
 intro l1 x2 r h;refine Qb3 hcf rfl fun Γ M hP hnt hM=>?_;subst hP;refine ini ?_;refine Z 11 0 ?_;refine lw h [0,3] [3] (fun i3 e=>(5,(i_ i3))::e) (fun _ l=>l) ke wk (fun _ i3 h=>?_);refine Z 8 0 ?_;refine ci h rfl (fun h=>?_) (fun h=>Y);refine Z 10 1 ?_;intro x6 h;refine Rn.eqa (r:=((x6.State==x2.State)&&((x6.Classes==x2.Classes)&&true))) tv rfl rfl rfl ?_;refine Z 1 0 ?_;exact cd h rfl (fun h=>Y) (fun h=>Y)
theorem Qsd {P:Program} {c:Nat} {Qdc:_} {Qdb:_} {Qbr:_}
    (Hbr:Qkk P 45 Qdc)
    (Hby:Qkj P 47 Qdb)
    (Hbs:Qib P 66 Qbr) (hcf:Qp P c=some Qng) (fuel:Nat):Qnf P c (Qha Qdc Qdb Qbr fuel):=by
 intro ev1 a2 r h;refine Qb3 hcf rfl fun Γ M hP hnt hM=>?_;subst hP;refine ini ?_;refine Z 10 0 ?_;refine Rn.buildT (v:=.agg [(l_ a2.zD),(i_ 0),.nils 1,.nils 3]) tv rfl ?_;refine Z 10 0 ?_;refine cd h rfl (fun h=>Y) (fun h=>?_);refine Z 7 0 ?_;refine cu h (fun (l52,c53,c54,c55,ov56,ov57)=>⟨look [(4,.ptr (Γ.n0+4) 0),(6,.ptr (Γ.n0+6) 0),(7,(Qq l52))],Ql Γ.n0 (bxs [(3,.cells ((Qg a2))),(4,.cells ([(o_ c53),(i_ 0),(o_ c54),(Qt c55)])),(6,.cells ([(l_ a2.zD),(i_ 0),(o_ ov56),(Qt ov57)]))]) M,Γ.n0+91⟩) (fun _ h=>?_) (fun ⟨l52,c53,c54,c55,ov56,ov57⟩ h=>Y);refine Z 5 0 ?_;refine Tr.weak (by show WeakSt Γ _ ⟨look ((7,.own 2 (List.map Qx [(Qb.mk 0 0)]))::[(0,(Qf ev1)),(1,(Qs a2)),(3,.ptr (Γ.n0+3) 0),(4,.ptr (Γ.n0+4) 0),(5,.nils 2),(6,.ptr (Γ.n0+6) 0),(8,(i_ 0)),(13,.ptr (Γ.n0+3) 0),(14,(l_ a2.zD)),(15,.agg [(l_ a2.zD),(i_ 0),.nils 1,.nils 3]),(16,.ptr (Γ.n0+3) 1),(17,(i_ a2.zH)),(18,(b_ (a2.zH==0))),(20,.agg [(i_ 0),(i_ 0)])] ),Ql Γ.n0 (bxs [(3,.cells ((Qg a2))),(4,.cells ([.nils 1,(i_ 0),.nils 1,.nils 3])),(6,.cells ([(l_ a2.zD),(i_ 0),.nils 1,.nils 3]))]) M,Γ.n0+91⟩;exact Qy5 21 7 [.int .i64 0,.int .i64 0] rfl rfl rfl rfl rfl ⟨sq,sq,(kPtr rfl),(kPtr rfl),sq,(kPtr rfl),sq,(kPtr rfl),sq,sq,(kPtr rfl),sq,sq,sq,tv⟩ ⟨bS rfl rfl rfl,bS rfl rfl rfl,bS rfl rfl rfl,tv⟩ rfl) ?_;refine lo h (fun (l4,i5,c6,c7,c8,ov9,ov10)=>⟨look [(0,(Qf ev1)),(3,.ptr (Γ.n0+3) 0),(4,.ptr (Γ.n0+4) 0),(6,.ptr (Γ.n0+6) 0),(7,(Qq l4)),(8,(i_ i5))],Ql Γ.n0 (bxs [(3,.cells ((Qg a2))),(4,.cells ([(o_ c6),(i_ 0),(o_ c7),(Qt c8)])),(6,.cells ([(l_ a2.zD),(i_ 0),(o_ ov9),(Qt ov10)]))]) M,Γ.n0+91⟩) wk (fun _ ⟨l4,i5,c6,c7,c8,ov9,ov10⟩ h=>?_);refine Z 8 0 ?_;refine ci h rfl (fun h=>?_) (fun h=>Y);refine Tr.skip ?_;refine cu h (fun (l49,ov50,ov51)=>⟨look [(0,(Qf ev1)),(3,.ptr (Γ.n0+3) 0),(4,.ptr (Γ.n0+4) 0),(6,.ptr (Γ.n0+6) 0),(7,(Qq l49)),(8,(i_ i5))],Ql Γ.n0 (bxs [(3,.cells ((Qg a2))),(4,.cells ([(o_ c6),(i_ 0),(o_ c7),(Qt c8)])),(6,.cells ([(l_ a2.zD),(i_ 0),(o_ ov50),(Qt ov51)]))]) M,Γ.n0+91⟩) (fun _ h=>?_) (fun ⟨l49,ov50,ov51⟩ h=>Y);refine Tr.block ?_;refine cu h (fun ov20=>⟨look [(0,(Qf ev1)),(3,.ptr (Γ.n0+3) 0),(4,.ptr (Γ.n0+4) 0),(6,.ptr (Γ.n0+6) 0),(7,(Qq l4)),(8,(i_ i5))],Ql Γ.n0 (bxs [(3,.cells ((Qg a2))),(4,.cells ([(o_ c6),(i_ 0),(o_ c7),(Qt c8)])),(6,.cells ([(l_ a2.zD),(i_ 0),(o_ ov20),(Qt ov10)]))]) M,Γ.n0+91⟩) (fun _ h=>?_) (fun ov20 h=>?_)
 ·refine Z 9 1 ?_;intro _ h;refine cl (Hbs _ _) h (cq fun _ h=>?_);refine Z 1 0 ?_;exact cd h rfl (fun h=>Y) (fun h=>Y)
 ·refine Z 8 0 ?_;refine lo h (fun (l21,x22,ov23)=>⟨look [(0,(Qf ev1)),(3,.ptr (Γ.n0+3) 0),(4,.ptr (Γ.n0+4) 0),(6,.ptr (Γ.n0+6) 0),(7,(Qq l21)),(8,(i_ i5)),(43,(Qi a2.zG)),(44,(i_ (a2.zG.length:Int))),(45,(i_ x22))],Ql Γ.n0 (bxs [(3,.cells ((Qg a2))),(4,.cells ([(o_ c6),(i_ 0),(o_ c7),(Qt c8)])),(6,.cells ([(l_ a2.zD),(i_ 0),(o_ ov20),(Qt ov23)]))]) M,Γ.n0+91⟩) wk (fun _ ⟨l21,x22,ov23⟩ h=>?_);refine Z 5 0 ?_;refine ci h rfl (fun h=>?_) (fun h=>Y);refine Tr.skip ?_;refine cu h (fun (l44,ov45,y46,y47,y48)=>⟨look [(0,(Qf ev1)),(3,.ptr (Γ.n0+3) 0),(4,.ptr (Γ.n0+4) 0),(6,.ptr (Γ.n0+6) 0),(7,(Qq l44)),(8,(i_ i5)),(43,(Qi a2.zG)),(44,(i_ (a2.zG.length:Int))),(45,(i_ x22))],Ql Γ.n0 (bxs [(3,.cells ((Qg a2))),(4,.cells ([(o_ c6),(i_ 0),(o_ c7),(Qt c8)])),(6,.cells ([(l_ a2.zD),(i_ 0),(o_ ov20),(Qt ov45)])),(10,.cells ([(i_ y46),(i_ y47),(i_ y48)]))]) M,Γ.n0+91⟩) (fun _ h=>?_) (fun ⟨l44,ov45,y46,y47,y48⟩ h=>Y);refine Z 20 1 ?_;intro x26 _ h;refine cd h rfl (fun h=>Y) (fun h=>?_);refine Z 9 1 ?_;intro _ h;refine cl (Hby _ _ _) h (cq fun x34 h=>?_);refine Z 7 0 ?_;refine cl (Hbr _ _) h (cq fun _ h=>?_);refine Z 2 0 ?_;refine cu h (fun (l40,k41)=>⟨look [(0,(Qf ev1)),(3,.ptr (Γ.n0+3) 0),(4,.ptr (Γ.n0+4) 0),(6,.ptr (Γ.n0+6) 0),(7,(Qq l40)),(8,(i_ i5)),(10,.ptr (Γ.n0+10) 0),(12,(i_ k41)),(43,(Qi a2.zG)),(44,(i_ (a2.zG.length:Int))),(45,(i_ x22))],Ql Γ.n0 (bxs [(3,.cells ((Qg a2))),(4,.cells ([(o_ c6),(i_ 0),(o_ c7),(Qt c8)])),(6,.cells ([(l_ a2.zD),(i_ 0),(o_ ov20),(Qt ov23)])),(10,.cells ((Qj2 x26))),(11,.cells ((Qbs x34)))]) M,Γ.n0+91⟩) (fun _ h=>?_) (fun ⟨l40,k41⟩ h=>Y);refine Z 5 0 ?_;exact ci h rfl (fun h=>Y) (fun h=>Y)
end Go.Abs
end
section
namespace Go.Proofs
open Go.Abs
set_option maxRecDepth 100000
theorem Qlw:Qp Tryz.prog 10=some Qg9:=by kernel_rfl
theorem Qu9:Qp Tryz.prog 11=some Qna:=by kernel_rfl
theorem Qw0:Qp Tryz.prog 12=some Qoc:=by kernel_rfl
theorem Q0s:Qp Tryz.prog 13=some Qru:=by kernel_rfl
theorem Q0t:Qp Tryz.prog 15=some Qrx:=by kernel_rfl
theorem Qte:Qp Tryz.prog 16=some Qlq:=by kernel_rfl
theorem Q8l:Qp Tryz.prog 17=some Q1r:=by kernel_rfl
theorem Q0u:Qp Tryz.prog 18=some Qrt:=by kernel_rfl
theorem Qva:Qp Tryz.prog 19=some Qng:=by kernel_rfl
theorem Qw1:Qp Tryz.prog 20=some Qn8:=by kernel_rfl
theorem Qp9:Qp Tryz.prog 21=some Qkb:=by kernel_rfl
theorem Qw2:Qp Tryz.prog 23=some Qn9:=by kernel_rfl
theorem Qw3:Qp Tryz.prog 27=some Qn7:=by kernel_rfl
theorem Qse:Qp Tryz.prog 28=some Qlg:=by kernel_rfl
theorem Qvb:Qp Tryz.prog 29=some Qm8:=by kernel_rfl
theorem Qx7:Qp Tryz.prog 31=some Qpo:=by kernel_rfl
theorem Qx8:Qp Tryz.prog 34=some Qpq:=by kernel_rfl
theorem Q0v:Qp Tryz.prog 36=some Qrr:=by kernel_rfl
theorem Qvc:Qp Tryz.prog 43=some Qne:=by kernel_rfl
theorem Q4r:Qp Tryz.prog 44=some Qxm:=by kernel_rfl
theorem Qw4:Qp Tryz.prog 45=some Qoe:=by kernel_rfl
theorem Qw5:Qp Tryz.prog 47=some Qod:=by kernel_rfl
theorem Qt4:Qp Tryz.prog 48=some Qmb:=by kernel_rfl
theorem Q0w:Qp Tryz.prog 49=some Qr1:=by kernel_rfl
theorem Qvd:Qp Tryz.prog 50=some Qm4:=by kernel_rfl
theorem Qt5:Qp Tryz.prog 51=some Qma:=by kernel_rfl
theorem Qw6:Qp Tryz.prog 52=some Qob:=by kernel_rfl
theorem Qqa:Qp Tryz.prog 53=some Qka:=by kernel_rfl
theorem Qt6:Qp Tryz.prog 54=some Ql6:=by kernel_rfl
theorem Qzd:Qp Tryz.prog 55=some Qqo:=by kernel_rfl
theorem Q0x:Qp Tryz.prog 56=some Qrv:=by kernel_rfl
theorem Qx9:Qp Tryz.prog 61=some Qpp:=by kernel_rfl
theorem Qze:Qp Tryz.prog 62=some Qqp:=by kernel_rfl
theorem Qzf:Qp Tryz.prog 63=some Qqm:=by kernel_rfl
theorem Qya:Qp Tryz.prog 64=some Qpm:=by kernel_rfl
theorem Q3r:Qp Tryz.prog 65=some Quz:=by kernel_rfl
theorem Qyb:Qp Tryz.prog 66=some Qps:=by kernel_rfl
theorem Qzg:Qp Tryz.prog 67=some Qqn:=by kernel_rfl
theorem Qw7:Qp Tryz.prog 68=some Qn6:=by kernel_rfl
theorem Qpv:Qp Tryz.prog 69=some Qjj:=by kernel_rfl
theorem Qnk:Qp Tryz.prog 71=some Qh4:=by kernel_rfl
theorem Qqb:Qp Tryz.prog 72=some Qj9:=by kernel_rfl
theorem Qw8:Qp Tryz.prog 74=some Qn5:=by kernel_rfl
theorem Qq7:Qp Tryz.prog 75=some Qkp:=by kernel_rfl
theorem Qt7:Qp Tryz.prog 76=some Ql8:=by kernel_rfl
theorem Qpw:Qp Tryz.prog 77=some Qjh:=by kernel_rfl
theorem Q0y:Qp Tryz.prog 78=some Qrw:=by kernel_rfl
theorem Q0z:Qp Tryz.prog 79=some Qrq:=by kernel_rfl
theorem Q1z:Qp Tryz.prog 80=some Qtr:=by kernel_rfl
theorem Qve:Qp Tryz.prog 81=some Qm9:=by kernel_rfl
theorem Q00:Qp Tryz.prog 82=some Qry:=by kernel_rfl
theorem Qyc:Qp Tryz.prog 84=some Qpt:=by kernel_rfl
theorem Q3s:Qp Tryz.prog 86=some Qu0:=by kernel_rfl
theorem Qvf:Qp Tryz.prog 87=some Qm5:=by kernel_rfl
theorem Qvg:Qp Tryz.prog 88=some Qnb:=by kernel_rfl
theorem Qq8:Qp Tryz.prog 89=some Qkq:=by kernel_rfl
theorem Qq9:Qp Tryz.prog 100=some Qko:=by kernel_rfl
theorem Qvh:Qp Tryz.prog 101=some Qm7:=by kernel_rfl
theorem Qpx:Qp Tryz.prog 102=some Qji:=by kernel_rfl
theorem Ql4:Qp Tryz.prog 105=some Qhl:=by kernel_rfl
theorem Q10:Qp Tryz.prog 106=some Qts:=by kernel_rfl
theorem Qt8:Qp Tryz.prog 107=some Ql7:=by kernel_rfl
theorem Qt9:Qp Tryz.prog 108=some Ql9:=by kernel_rfl
theorem Qnz:Qp Tryz.prog 109=some Qii:=by kernel_rfl
theorem Qw9:Qp Tryz.prog 110=some Qn4:=by kernel_rfl
theorem Qua:Qp Tryz.prog 111=some Ql5:=by kernel_rfl
theorem Q01:Qp Tryz.prog 112=some Qrp:=by kernel_rfl
theorem Qzh:Qp Tryz.prog 113=some Qqs:=by kernel_rfl
theorem Qn0:Qp Tryz.prog 115=some Qik:=by kernel_rfl
theorem Q02:Qp Tryz.prog 116=some Qrz:=by kernel_rfl
theorem Q03:Qp Tryz.prog 117=some Qr0:=by kernel_rfl
theorem Qzi:Qp Tryz.prog 118=some Qqk:=by kernel_rfl
theorem Qvi:Qp Tryz.prog 119=some Qnc:=by kernel_rfl
theorem Qyd:Qp Tryz.prog 120=some Qpr:=by kernel_rfl
theorem Qxa:Qp Tryz.prog 121=some Qoa:=by kernel_rfl
theorem Qvj:Qp Tryz.prog 122=some Qnd:=by kernel_rfl
theorem Qye:Qp Tryz.prog 125=some Qpk:=by kernel_rfl
theorem Q04:Qp Tryz.prog 129=some Qrs:=by kernel_rfl
theorem Q4s:Qp Tryz.prog 143=some Qxl:=by kernel_rfl
theorem Qzj:Qp Tryz.prog 144=some Qql:=by kernel_rfl
theorem Qn1:Qp Tryz.prog 145=some Qij:=by kernel_rfl
theorem Q11:Qp Tryz.prog 148=some Qtt:=by kernel_rfl
theorem Q3t:Qp Tryz.prog 162=some Quy:=by kernel_rfl
theorem Qtf:Qp Tryz.prog 165=some Qlt:=by kernel_rfl
theorem Qzk:Qp Tryz.prog 166=some Qqr:=by kernel_rfl
theorem Qvk:Qp Tryz.prog 90=some Qm6:=by kernel_rfl
end Go.Proofs
end
section
namespace Go.Abs
open Go Go.Sort
section plain
variable {β:Type}
def insB (lt:β→β→Bool) (x:β):List β→List β
 | []=>[x]
 | y::ys=>if lt y x then y::insB lt x ys else x::y::ys
def Qof (lt:β→β→Bool):List β→List β
 | []=>[]
 | x::xs=>insB lt x (Qof lt xs)
theorem Q3u (lt:β→β→Bool) (x:β):∀ l,(insB lt x l).Perm (x::l)
 | []=>.refl _
 | y::ys=>by
  unfold insB;split
  ·exact ((Q3u lt x ys).cons y).trans (.swap x y ys)
  ·exact .refl _
theorem Qpy (lt:β→β→Bool):∀ l,(Qof lt l).Perm l
 | []=>.refl _
 | x::xs=>(Q3u lt x _).trans ((Qpy lt xs).cons x)
theorem Qov (lt:β→β→Bool) (l:List β):(Qof lt l).length=l.length:=(Qpy lt l).length_eq
theorem Q3v {lt:β→β→Bool} (h:SWO lt) (x:β):∀ l,l.Pairwise (fun a b=>lt b a=false)→(insB lt x l).Pairwise fun a b=>lt b a=false
 | [],_=>by simp [insB]
 | y::ys,hl=>by
  obtain ⟨h1,h2⟩:=List.pairwise_cons.1 hl;unfold insB;split
  ·rename_i hc;refine List.pairwise_cons.2 ⟨fun z hz=>?_,Q3v h x ys h2⟩;rcases List.mem_cons.1 ((Q3u lt x ys).mem_iff.1 hz) with rfl|hz
   ·cases hb:lt z y with
    | false=>rfl
    | true=>have:=h.trans _ _ _ hc hb;rw [h.irrefl] at this;cases this
   ·exact h1 z hz
  ·rename_i hc;have hc:lt y x=false:=by cases h:lt y x<;>simp_all
   refine List.pairwise_cons.2 ⟨fun z hz=>?_,hl⟩;rcases List.mem_cons.1 hz with rfl|hz
   ·exact hc
   ·exact h.ntrans _ _ _ (h1 z hz) hc
theorem Qow {lt:β→β→Bool} (h:SWO lt):∀ l,(Qof lt l).Pairwise fun a b=>lt b a=false
 | []=>.nil
 | x::xs=>Q3v h x _ (Qow h xs)
end plain
def Qgd (a b:Int):Bool:=decide (a<b)
def Qbhl (l:List Int):Option (List Int):=if l.length≤lim then some (Qof Qgd l) else none
end Go.Abs
end
section
namespace Go.Abs
open Go Go.Sort Go.RowKit
theorem Q96 {P:Program} {f:FuncId} {ex:Array Value} {exV:List V} {sz nb:Nat} {M:Mem} (hb:Qh6 P f=true) (hex:∀ g w us,RFs g w exV us→us=ex.toList)
  (h:∀ (p:Option Addr) (cap:Nat) (w:World),Calls P f (#[.slice p 0 cap]++ex) w fun e' w'=>e' = .returned (.tuple #[])∧w'=w) (hexf:V.dems exV=exV:=by rfl) :
  ACalls P f (.d (.lst sz [])::exV) M nb (.tup []) M nb:=by
 refine ACalls.mk' hb (Nat.le_refl _) (by simp only [V.dems,V.dem,hexf]) fun w g us hm hMon hus hfl hons=>?_;obtain ⟨u0,us',rfl,hu0,hus'⟩:=hus;have h1:=hex _ _ _ hus';subst h1;have h2:∃ p cap,u0 = .slice p 0 cap:=by
  have:=RF_d.1 hu0;obtain ⟨a,cap,rfl,_,_⟩:=this;exact ⟨a,cap,rfl⟩
 obtain ⟨p,cap,rfl⟩:=h2;have e1:(Value.slice p 0 cap::ex.toList).toArray = #[.slice p 0 cap]++ex:=by apply Array.ext';simp
 rw [e1];refine (h p cap w).mono ?_;rintro e' w' ⟨rfl,rfl⟩;exact ⟨_,g,rfl,hm,⟨[],rfl,rfl⟩,trivial,hMon,Fr.refl _ _ _⟩
theorem Q3w (l:List Int):(l.mergeSort fun x y=>decide (x≤y))=Qof Qgd l:=by
 have hO:Go.Sort.SWO Qgd:=⟨fun x=>by simp [Qgd],fun x y z h1 h2=>by simp [Qgd] at *;omega,fun x y z h1 h2=>by simp [Qgd] at *;omega⟩;refine List.Perm.eq_of_pairwise (le:=fun a b=>Qgd b a=false) (fun a b _ _ h1 h2=>by simp [Qgd] at *;omega) ?_ (Qow hO l) ((List.mergeSort_perm _ _).trans (Qpy _ l).symm);have:=List.pairwise_mergeSort (le:=fun x y:Int=>decide (x≤y)) (fun a b c h1 h2=>by simp at *;omega) (fun a b=>by simp;omega) l;exact this.imp fun h=>by simp [Qgd] at *;omega
end Go.Abs
end
section
namespace Go.Abs
open Go Go.Sort Go.Shelf Go.RowKit Go.Lib Go.Proofs
section
variable {α:Type} [Inhabited α]
end
end Go.Abs
end
section
namespace Go.Abs
open Go Go.RowKit
def Qbbm (g:Nat):CFn:=⟨1,4,[.t 2],.seq (.region [⟨some 1,.box 1,[.t 0],false,none⟩,⟨some 2,.mov,[.c .und],false,none⟩] 9 []) (.seq (.region [⟨some 3,.func g,[.t 1],false,none⟩,⟨some 2,.mov,[.t 3],false,none⟩] 9 []) .ret)⟩
theorem Qbhm {P:Program} {c g:Nat} (hcf:Qp P c=some (Qbbm g)):Qbhi P c g 1 4:=by
 intro x M nb;by_cases hM:∀ k,nb≤k→M k=none
 case neg=>exact Qwf (Qk2 hcf) (by omega) hM
 by_cases hon:MOn (There M) M
 case neg=>exact ⟨Qk2 hcf,by omega,fun w g us _ hm h=>absurd h hon⟩
 refine Qbjs hcf hM rfl (by omega) fun Γ hP hn ht=>?_;have hlt:∀ k,There M k→k<nb:=fun k hk=>by
  rcases Nat.lt_or_ge k nb with h|h
  ·exact h
  ·simp [There,hM k h] at hk
 subst hn;rw [← Qpd hM];refine Tr.init [(0,.d x)] rfl ?_;unfold Qbbm;refine Tr.seq ?_;refine Tr.rgn ?_;refine Rn.box (v:=.d x) (cs:=[.d x]) trivial rfl rfl rfl rfl rfl ?_;refine Rn.mov (v:=.und) trivial rfl ?_;refine Rn.nil ?_;refine toN ?_;refine Tr.seq ?_;refine Tr.rgn ?_;refine Rn.k (v:=.clo g [.ptr (Γ.n0+1) 0]) trivial rfl rfl rfl ?_;refine Rn.mov (v:=.clo g [.ptr (Γ.n0+1) 0]) trivial rfl ?_;refine Rn.nil ?_;refine toN ?_;refine Tr.ret ?_;rw [Qpd hM];have hth:There (M.put (Γ.n0+1) (.cells [.d x])) (Γ.n0+1):=by simp [There,Mem.put]
 refine ⟨.inr rfl,.clo g [.ptr (Γ.n0+1) 0],rfl,fun _ _ _ _ h=>h,fun k b hk=>?_,⟨hth,trivial⟩,fun k cs hk=>?_,fun k hk=>?_⟩
 ·show Ql Γ.n0 [(1,.cells [.d x])] M k=some b;have:=Qdv (n0:=Γ.n0) (L:=[]) (M0:=M) (t:=1) (b:=.cells [.d x]);rw [← this,Qpd hM];exact hk
 ·by_cases h:k=Γ.n0+1
  ·subst h;rw [Qg3] at hk;cases hk;exact ⟨trivial,trivial⟩
  ·rw [Qcd _ _ h] at hk;exact ons_mono (fun j hj=>There.put hj) _ (hon k cs hk)
 ·by_cases h:k=Γ.n0+1
  ·omega
  ·have:There M k:=by simpa [There,Mem.put,h] using hk
   have:=hlt k this;omega
theorem Qbbn {imm:Nat→Nat→Prop} {w:World} {b:Nat}:∀ (xs:List Int) (o:Nat),(∀ j x,xs[j]? = some x→imm b (o+j)∧w.cell? ⟨b,o+j,none⟩=some (.int .i64 x))→RDL imm w 1 b (List.map (eI .i64) xs) o
 | [],_,_=>by simp [RDL]
 | x::xs,o,h=>by
  simp only [List.map_cons,RDL];obtain ⟨h1,h2⟩:=h 0 x rfl;refine ⟨rfl,⟨h1,⟨_,h2,rfl⟩,trivial⟩,Qbbn xs (o+1) fun j y hj=>?_⟩;have:=h (j+1) y (by simpa using hj)
  rwa [show o+(j+1)=o+1+j from by omega] at this
theorem Qbbo {imm:Nat→Nat→Prop} {w:World} {b:Nat}:∀ (xs:List Int) (o:Nat),RDL imm w 1 b (List.map (eI .i64) xs) o→∀ j x,xs[j]? = some x→w.cell? ⟨b,o+j,none⟩=some (.int .i64 x)
 | [],_,_,j,x,hj=>by simp at hj
 | y::ys,o,h,j,x,hj=>by
  simp only [List.map_cons,RDL] at h;obtain ⟨_,⟨_,⟨u,h2,h3⟩,_⟩,h4⟩:=h;cases j with
  | zero =>
   simp at hj;subst hj;have:u = .int .i64 y:=h3;rw [← this];exact h2
  | succ j =>
   have:=Qbbo ys (o+1) h4 j x (by simpa using hj)
   rwa [show o+1+j=o+(j+1) from by omega] at this
def Ints (n₀:Nat) (W:World) (sv:Value) (zs:List Int):Prop :=
 (∃ a cap,sv = .slice a 0 cap∧zs=[])∨∃ b off cap,sv = .slice (some ⟨b,off,none⟩) zs.length cap∧b<n₀∧∀ j,j<zs.length→W.cell? ⟨b,off+j,none⟩=some (.int .i64 (zs[j]?.getD 0))
theorem Ints.below {n₀:Nat} {A B:World} (h:Below n₀ A B) {sv:Value} {zs:List Int}:Ints n₀ A sv zs→Ints n₀ B sv zs
 | .inl e=>.inl e
 | .inr ⟨b,off,cap,e,hb,hc⟩=>.inr ⟨b,off,cap,e,hb,fun j hj=>(h.cell (p:=⟨b,off+j,none⟩) hb).trans (hc j hj)⟩
theorem Qbhn {P:Program} {c g:Nat} {t:TypeId} (hb:Qh6 P c=true)
  (hcall:∀ (Bs:Nat) (sv:Value) (zs:List Int) (w:World),zs.length*8≤140737488351232→Bs<w.heap.size→w.cell? ⟨Bs,0,none⟩=some sv→Ints w.heap.size w sv zs →
   Calls P c #[.func (.func g) #[] #[.pointer (some ⟨Bs,0,none⟩)]] w fun e W'=>∃ v,e = .returned v∧W'.ownsRow w.heap.size t 1 v zs.length ((zs.mergeSort fun x y=>decide (x≤y)).map (Value.int .i64))∧Below w.heap.size w W') :
  Qbj1 P c g (eI .i64) 1 Qbhl:=by
 intro xs ys hf M nb k hM;unfold Qbhl at hf;split at hf<;>cases hf;rename_i hlen;refine ACalls.mk' hb (Nat.le_refl _) rfl fun w g0 us hm hMon hus hfl hons=>?_;obtain ⟨u0,us',rfl,hu0,rfl⟩:=hus;obtain ⟨hk0,hown,vals,et,hh,hrv,hone⟩:=hm.box k _ hM;obtain ⟨vs,rfl,hvs⟩ : ∃ vs:List Value,u0 = .func (.func g) #[] vs.toArray∧RVs g0 w [.ptr k 0] .ext 0 vs:=by
  have:=hu0 .ext;simpa only [RV] using this
 obtain ⟨p,_,rfl,hp,rfl⟩:=hvs;simp only [RV] at hp;subst hp;obtain ⟨sv,_,rfl,hsv,rfl⟩:=hrv;simp only [RV] at hsv;obtain ⟨a,cap,rfl,hcap,hcells⟩:=hsv;have hBs:g0.box k<w.heap.size:=(Array.getElem?_eq_some_iff.1 hh).1;have hI:Ints w.heap.size w (.slice a (List.map (eI .i64) xs).length cap) xs:=by
  rcases hcells with h|⟨b,o,rfl,h⟩
  ·have:xs=[]:=by simpa using h
   subst this;exact .inl ⟨a,cap,rfl,rfl⟩
  ·by_cases h0:xs=[]
   ·subst h0;exact .inl ⟨_,cap,rfl,rfl⟩
   ·have hc:=Qbbo xs o h;refine .inr ⟨b,o,cap,by rw [List.length_map],?_,fun j hj=>?_⟩
    ·have h1:0<xs.length:=List.length_pos_iff.2 h0;have:=hc 0 xs[0] (List.getElem?_eq_getElem h1);simp only [World.cell?] at this;cases hbk:w.heap[b]? with
     | none=>simp [hbk] at this
     | some ob=>exact (Array.getElem?_eq_some_iff.1 hbk).1
    ·have:=hc j xs[j] (List.getElem?_eq_getElem hj);rw [this,List.getElem?_eq_getElem hj];rfl
 have hlen8:xs.length*8≤140737488351232:=by unfold lim at hlen;omega
 refine (hcall (g0.box k) _ xs w hlen8 hBs (by simp [World.cell?,hh]) hI).mono ?_;rintro e W' ⟨v,rfl,hrow,hbel⟩;rw [Q3w] at hrow;generalize Qof Qgd xs=ys at hrow ⊢;obtain ⟨gb,hgb,hv⟩ : ∃ gb,w.heap.size≤gb∧(ys=[]∧v = .slice none 0 0∨∃ cap,v = .slice (some ⟨gb,0,none⟩) ys.length cap∧ys.length≤cap∧∀ j x,ys[j]? = some x→gb<W'.heap.size∧W'.cell? ⟨gb,j,none⟩=some (.int .i64 x)):=by
  obtain ⟨h1,h2⟩:=hrow;have h1:ys.length=xs.length:=by simpa using h1
  rcases h2 with ⟨rfl,h0⟩|⟨gb,cap,cur,rfl,hbase,hgb,r1,r2,r3,r4⟩
  ·exact ⟨w.heap.size,Nat.le_refl _,.inl ⟨List.eq_nil_of_length_eq_zero (by omega),rfl⟩⟩
  ·refine ⟨gb,hbase,.inr ⟨cap,by rw [h1],by omega,fun j x hj=>⟨(Array.getElem?_eq_some_iff.1 hgb).1,?_⟩⟩⟩;have hj2:=(List.getElem?_eq_some_iff.1 hj).1;have:(cur.toList.take (xs.length*1))[j]? = some (.int .i64 x):=by rw [r4,List.getElem?_map,hj];rfl
   rw [List.getElem?_take_of_lt (by omega)] at this;simp only [World.cell?,hgb];simpa using this
 let g' : G:=⟨g0.box,fun b o=>g0.imm b o∨(b=gb∧o<ys.length),fun b=>if b=gb then .ext else g0.own b⟩;have hne:∀ b,b<w.heap.size→b≠gb:=fun b h=>by omega
 have himm:Imm g0.imm g'.imm w W':=by
  refine ⟨fun _ _ h=>.inl h,fun b o h=>?_⟩;have:=(hm.imm b o h).1;exact Qd9 (hbel.block b this)
 have hkept:Kept g0 w g' W' (There M) (fun _=>True):=⟨himm,fun _ _=>rfl,fun b _ hl=>⟨by simp [g',hne b hl],hbel.block b hl,fun o=>by simp [g',hne b hl]⟩⟩;refine ⟨v,g',rfl,hm.kept hkept hMon (fun _ _ _=>trivial) trivial (fun _ _=>trivial) fun b o h=>?_,?_,trivial,hMon,?_⟩
 ·rcases h with h|⟨rfl,h⟩
  ·obtain ⟨h1,h2⟩:=hm.imm b o h;refine ⟨Nat.lt_of_lt_of_le h1 hbel.size,fun k=>?_⟩;simp only [g',hne b h1,if_false];exact h2 k
  ·refine ⟨?_,fun k=>by simp [g']⟩;rcases hv with ⟨rfl,_⟩|⟨cap,_,_,hc⟩
   ·simp at h
   ·exact (hc o _ (List.getElem?_eq_getElem h)).1
 ·simp only [RV];rcases hv with ⟨rfl,rfl⟩|⟨cap,rfl,hcp,hc⟩
  ·simp only [RD];exact ⟨none,0,rfl,Nat.le_refl _,.inl rfl⟩
  ·simp only [RD,List.length_map];refine ⟨_,cap,rfl,hcp,.inr ⟨gb,0,rfl,Qbbn ys 0 fun j x hj=>?_⟩⟩;rw [Nat.zero_add];have h2:=(hc j x hj).2;exact ⟨⟨.inr ⟨rfl,(List.getElem?_eq_some_iff.1 hj).1⟩,by simp [g'],.inl (by rw [h2];rfl)⟩,h2⟩
 ·exact ⟨hbel.os,hbel.tape,hbel.output,hbel.size,himm,fun _ _=>rfl,fun b hb _=>⟨by simp [g',hne b hb],hbel.block b hb,fun o=>by simp [g',hne b hb]⟩⟩
end Go.Abs
end
section
namespace Go.Abs
def Qbj2 (l:List Int):Option (List Int):=if l.length≤lim then some (Qof Qgd l) else none
def keyB (l:List Int):ByteArray:=⟨(l.flatMap fun x=>Lib.encodeRune (x+1)).toArray⟩
def keyS (l:List Int):Option ByteArray:=if l.length≤lim∧∀ x∈l,0≤x∧x<50000 then some (keyB l) else none
def Qbj3 (a:Qa):Option (List (List Int)×Int):=if a=⟨[0,1],2,[],[⟨0,0,0⟩]⟩ then some ([[0],[1]],0) else none
def Qbj4 (l:List (List Int)):Option Unit:=if l.length≤1 then some () else none
end Go.Abs
end
section
namespace Go.Abs
open Go Go.Abs
set_option maxRecDepth 10000
set_option maxHeartbeats 4000000
def Qbb:Nat:=1099511627776
def Qnl:=Qdk
def Qgh:=Qee Qbb
def Qf3:=Qcj Qgh Qbb
def Qho:=Qcv Qbb
def Qi0:=Qd1 Qbb
def Q5:=Qj Qi0
def Qgs:=Qcq Q5 Qbb
def Qel:=Q1 Qho Qgs
def Qgi:=Qbn Qel Qf3
def Qk7:=Qeb
def Qj4:=Qef Qbb
def Qjq:=Qc0 Qf3 Qk7 Qj4
def Qd6:=Qv Qjq
def Qky:=Qe6 Qbb
def Qiv:=Qdd
def Qhp:=Qc7 Qky Qiv
def Qpz:=Qeq
def Qks:=Qgc Qpz
def Qi1:=Qdg
def Qfl:=Qb8 Qks Qi1 Qbb
def Qfh:=Qbd Qfl
def Qiw:=Qcr Qfh
def Qgt:=Qce Qbb
def Qca:=Qu Qgt
def Qcb:=Qbe
def Qjr:=Qer
def Qdt:=Qbk Qgi Qcb Qfh Qjr Qbb
def Qjs:=Qdl Qbb
def Qew:=Qbj Qel Qjs
def Qe4:=Q6 Q5 Qbb
def Qf4:=Qbv Q5
def Qdn:=Q2 Qca Qf4
def Qbi:=Qbo
def Qdo:=Q3 Q5 Qbj2 Qbi Qbb
def Qdp:=Q4 Qdo
def Qdw:=Q7 Qdo Qbb
def Qhb:=Qc1 Qew Qe4 Qdp Qdw Qdn Qbb
def Qhc:=Qb6 Qbb
def Qe5:=Q0 Qdt Qhb Qgi Qd6 Qhc Qhp Qca Qiw
def Qhm:=Qbw Q5
def Qh5:=Qb4 Qca Qhm
def Qog:=Qdz Qew Qe4 Qdp keyS Qh5 Qdw Qbb
def Qsf:=Qfe Qdt Qog Qd6 Qhc Qbb
def Qfi:=Qbl
def Qj5:=Qeg Qbb
def Qgm:=Qb0 Qfi Qj5
def Qp0:=Qff
def Qsg:=Qfg Qgm Qfi Qbj3 Qbhl Qbj4 Qp0 Qbb
def Qj6:=Qeh Qcb Qew Qe4 Qdn Q5 Qbb
def Qhd:=Qcm Qd6 Qj6 Qbb
def Qgn:=Qb1 Qdt Qe5 Qgm Qgi Qfi Qhd
def Qoh:=Qc8 Qbb
def Qi2:=Qd2 Qbb
def Qnm:=Qcs Qi2
def Qjt:=Qc2 Qsf Qsg Qnm Qoh Qe5 Qgn Qnl
def Qgu:=Qct Qbb
def Qfb:=Qci Qbb
def Qfu:=Qbm
def Qcw:=Qbt Qbb
def Qdq:=Qb2 Qbb
def Qhe:=Qc3 Qdq Qcw Qbb
def Qfv:=Qc4 Qbb
def Qfm:=Qb9 Qfu Qhe Qdq Qcw Qfv Qbb
def Qhq:=Qc9 Qfu Qfm Qbb
def Qhr:=Qda Qgu Qhq Qfb
def Qdx:=Q8 Qbb
def Qgo:=Qbr Qbb
def Qfx:=Qcg Qdx Qgo Qbb
def Qf9:=Qcn Qbb
def Qd8:=Qbp Qbb
def Qj7:=Qei
def Qj8:=Qej
def Qgp:=Qcx Qd8 Qj7 Qj8
def Qi3:=Qd3
def Qga:=Qco Qbb
def Qkz:=Qe7 Qgp Qga Qi3
def Qi4:=Qd4 Qkz Qbb
def Qk8:=Qdm Qi4
def Qhf:=Qc5 Qel Qk8
def Qmx:=Qfk Qfh Qbb
def Qgv:=Qcf Qbb
def Qgj:=Qek Qcb Qel Qgp Q5 Qbb
def Qex:=Qev Qjt Qhr Qf9 Qnm Qdx Qe5 Qfx Qgn Qhf Qmx Qgv Qgj Qbb
def Qhs:=Qdb
def Qht:=Qdc Qbb
def Qem:=Qha Qht Qhs Qgo Qbb
end Go.Abs
end
section
namespace Go.Proofs
open Go.Shelf
def Tryz.lays169_ren:Go.Shelf.Ren:=⟨fun|169=>104|n=>n,fun|70=>163|9=>9|0=>0|72=>165|37=>146|127=>211|3=>3|5=>5|n=>n,fun|n=>n⟩
theorem Tryz.lays169:Go.Proofs.Lays.n169 Tryz.prog Tryz.lays169_ren:={
 mixed:=by kernel_rfl
 f169:=Tryz.func104.trans (congrArg some (by kernel_rfl))
 t0:=Tryz.underlying0
 a0:=Tryz.isAgg0
 z0:=Tryz.sizeOf0
 v0:=Tryz.zeroValue0
 t3:=Tryz.underlying3
 a3:=Tryz.isAgg3
 z3:=Tryz.sizeOf3
 v3:=Tryz.zeroValue3
 t9:=Tryz.underlying9
 a9:=Tryz.isAgg9
 z9:=Tryz.sizeOf9
 v9:=Tryz.zeroValue9
 t37:=Tryz.underlying146
 a37:=Tryz.isAgg146
 z37:=Tryz.sizeOf146
 v37:=Tryz.zeroValue146
 t70:=Tryz.underlying163
 a70:=Tryz.isAgg163
 z70:=Tryz.sizeOf163
 v70:=Tryz.zeroValue163
 t72:=Tryz.underlying165
 a72:=Tryz.isAgg165
 z72:=Tryz.sizeOf165
 v72:=Tryz.zeroValue165
 t127:=Tryz.underlying211
 a127:=Tryz.isAgg211
 z127:=Tryz.sizeOf211
 v127:=Tryz.zeroValue211 }
theorem Tryz.Builder_Extra_169:Builder.Extra Tryz.prog Tryz.lays169_ren:={
 sizeBuilder:=by kernel_rfl
 liesBuilder:=by kernel_rfl
 t5:=Tryz.underlying5
 a5:=Tryz.isAgg5
 z5:=Tryz.sizeOf5
 v5:=Tryz.zeroValue5
 infoByte:=by kernel_rfl
 cellsByte:=by kernel_rfl
 sizeByte:=by kernel_rfl
 neB5:=by decide }
def Tryz.lays125_ren:Go.Shelf.Ren:=⟨fun|125=>99|128=>141|129=>142|n=>n,fun|46=>160|3=>3|51=>206|53=>208|4=>4|5=>5|9=>9|n=>n,fun|n=>n⟩
theorem Tryz.lays125:Go.Proofs.Lays.n125 Tryz.prog Tryz.lays125_ren:={
 mixed:=by kernel_rfl
 f125:=Tryz.func99.trans (congrArg some (by kernel_rfl))
 f128:=Tryz.func141.trans (congrArg some (by kernel_rfl))
 f129:=Tryz.func142.trans (congrArg some (by kernel_rfl))
 t3:=Tryz.underlying3
 a3:=Tryz.isAgg3
 z3:=Tryz.sizeOf3
 v3:=Tryz.zeroValue3
 t4:=Tryz.underlying4
 a4:=Tryz.isAgg4
 z4:=Tryz.sizeOf4
 v4:=Tryz.zeroValue4
 t5:=Tryz.underlying5
 a5:=Tryz.isAgg5
 z5:=Tryz.sizeOf5
 v5:=Tryz.zeroValue5
 t9:=Tryz.underlying9
 a9:=Tryz.isAgg9
 z9:=Tryz.sizeOf9
 v9:=Tryz.zeroValue9
 t46:=Tryz.underlying160
 a46:=Tryz.isAgg160
 z46:=Tryz.sizeOf160
 v46:=Tryz.zeroValue160
 t51:=Tryz.underlying206
 a51:=Tryz.isAgg206
 z51:=Tryz.sizeOf206
 v51:=Tryz.zeroValue206
 t53:=Tryz.underlying208
 a53:=Tryz.isAgg208
 z53:=Tryz.sizeOf208
 v53:=Tryz.zeroValue208 }
theorem Tryz.bits_Len (x:Int) (w:World) (h0:0≤x) (h1:x≤18446744073709551615) :
  Calls Tryz.prog 99 #[.int .u64 x] w fun e w'=>e = .returned (.int .i64 (Lib.bitLen x.toNat))∧w'=w:=Any.bits_Len Tryz.lays125 x w h0 h1
open Go.RowKit in
theorem Tryz.Builder_String_any_k (B b:Nat) (l:List UInt8) (w:World) (h:Lib.IsBuilderF 165 5 B b (Lib.byteCells l) w) (hBw:B≤w.heap.size) :
  Calls Tryz.prog 104 #[.pointer (some ⟨b,0,none⟩)] w fun e w'=>e = .returned (.string ⟨l.toArray⟩)∧(Lib.IsBuilderF 165 5 B b (Lib.byteCells l) w'∧Below B w w'∧Lib.OthersKept 5 (some b) w w'):=Any.Builder_String_any_k Tryz.lays169 Tryz.Builder_Extra_169 B b l w h hBw
def Tryz.lays189_ren:Go.Shelf.Ren:=⟨fun|189=>94|125=>99|257=>131|128=>141|129=>142|294=>149|295=>150|296=>151|297=>152|298=>153|299=>154|216=>143|300=>155|301=>156|328=>167|329=>158|330=>159|331=>168|332=>169|215=>162|343=>171|n=>n,fun|28=>32|3=>3|46=>160|0=>0|51=>206|53=>208|4=>4|183=>200|182=>199|131=>122|5=>5|9=>9|218=>217|222=>221|228=>229|229=>181|n=>n,fun|n=>n⟩
theorem Tryz.lays189:Go.Proofs.Lays.n189 Tryz.prog Tryz.lays189_ren:={
 mixed:=by kernel_rfl
 f125:=Tryz.func99.trans (congrArg some (by kernel_rfl))
 f128:=Tryz.func141.trans (congrArg some (by kernel_rfl))
 f129:=Tryz.func142.trans (congrArg some (by kernel_rfl))
 f189:=Tryz.func94.trans (congrArg some (by kernel_rfl))
 f215:=Tryz.func162.trans (congrArg some (by kernel_rfl))
 f216:=Tryz.func143.trans (congrArg some (by kernel_rfl))
 f257:=Tryz.func131.trans (congrArg some (by kernel_rfl))
 f294:=Tryz.func149.trans (congrArg some (by kernel_rfl))
 f295:=Tryz.func150.trans (congrArg some (by kernel_rfl))
 f296:=Tryz.func151.trans (congrArg some (by kernel_rfl))
 f297:=Tryz.func152.trans (congrArg some (by kernel_rfl))
 f298:=Tryz.func153.trans (congrArg some (by kernel_rfl))
 f299:=Tryz.func154.trans (congrArg some (by kernel_rfl))
 f300:=Tryz.func155.trans (congrArg some (by kernel_rfl))
 f301:=Tryz.func156.trans (congrArg some (by kernel_rfl))
 f328:=Tryz.func167.trans (congrArg some (by kernel_rfl))
 f329:=Tryz.func158.trans (congrArg some (by kernel_rfl))
 f330:=Tryz.func159.trans (congrArg some (by kernel_rfl))
 f331:=Tryz.func168.trans (congrArg some (by kernel_rfl))
 f332:=Tryz.func169.trans (congrArg some (by kernel_rfl))
 f343:=Tryz.func171.trans (congrArg some (by kernel_rfl))
 t0:=Tryz.underlying0
 a0:=Tryz.isAgg0
 z0:=Tryz.sizeOf0
 v0:=Tryz.zeroValue0
 t3:=Tryz.underlying3
 a3:=Tryz.isAgg3
 z3:=Tryz.sizeOf3
 v3:=Tryz.zeroValue3
 t4:=Tryz.underlying4
 a4:=Tryz.isAgg4
 z4:=Tryz.sizeOf4
 v4:=Tryz.zeroValue4
 t5:=Tryz.underlying5
 a5:=Tryz.isAgg5
 z5:=Tryz.sizeOf5
 v5:=Tryz.zeroValue5
 t9:=Tryz.underlying9
 a9:=Tryz.isAgg9
 z9:=Tryz.sizeOf9
 v9:=Tryz.zeroValue9
 t28:=Tryz.underlying32
 a28:=Tryz.isAgg32
 z28:=Tryz.sizeOf32
 v28:=Tryz.zeroValue32
 t46:=Tryz.underlying160
 a46:=Tryz.isAgg160
 z46:=Tryz.sizeOf160
 v46:=Tryz.zeroValue160
 t51:=Tryz.underlying206
 a51:=Tryz.isAgg206
 z51:=Tryz.sizeOf206
 v51:=Tryz.zeroValue206
 t53:=Tryz.underlying208
 a53:=Tryz.isAgg208
 z53:=Tryz.sizeOf208
 v53:=Tryz.zeroValue208
 t131:=Tryz.underlying122
 a131:=Tryz.isAgg122
 z131:=Tryz.sizeOf122
 v131:=Tryz.zeroValue122
 t182:=Tryz.underlying199
 a182:=Tryz.isAgg199
 z182:=Tryz.sizeOf199
 v182:=Tryz.zeroValue199
 t183:=Tryz.underlying200
 a183:=Tryz.isAgg200
 z183:=Tryz.sizeOf200
 v183:=Tryz.zeroValue200
 t218:=Tryz.underlying217
 a218:=Tryz.isAgg217
 z218:=Tryz.sizeOf217
 v218:=Tryz.zeroValue217
 t222:=Tryz.underlying221
 a222:=Tryz.isAgg221
 z222:=Tryz.sizeOf221
 v222:=Tryz.zeroValue221
 t228:=Tryz.underlying229
 a228:=Tryz.isAgg229
 z228:=Tryz.sizeOf229
 v228:=Tryz.zeroValue229
 t229:=Tryz.underlying181
 a229:=Tryz.isAgg181
 z229:=Tryz.sizeOf181
 v229:=Tryz.zeroValue181 }
open Go.Sort Go.RowKit in
theorem Tryz.slices_Sort_int (blk off cap:Nat) (zs:List Int) (w:World) (hH:Holds (Value.int .i64) w blk off zs.toArray) (hblk:blk<w.heap.size) (hsz:zs.length<4611686018427387904) :
  Calls Tryz.prog 94 #[.slice (some ⟨blk,off,none⟩) zs.length cap] w fun e w' =>
   e = .returned (.tuple #[])∧∃ n os,w'=grow (putRow (Value.int .i64) (Sort.ahead w n) blk off (zs.mergeSort fun x y=>decide (x≤y)).toArray) os:=Any.slices_Sort_int Tryz.lays189 blk off cap zs w hH hblk hsz
open Go.RowKit Go.Sort in
theorem Tryz.slices_Sort_int_none (p:Option Addr) (cap:Nat) (w:World) :
  Calls Tryz.prog 94 #[.slice p 0 cap] w fun e w'=>e = .returned (.tuple #[])∧w'=w:=Any.slices_Sort_int_none Tryz.lays189 p cap w
def Tryz.laysSlF6_f60_ren:Go.Shelf.Ren:=⟨fun|6=>60|15=>99|14=>98|28=>141|29=>142|20=>133|21=>134|22=>135|23=>136|24=>137|25=>138|26=>139|27=>140|46=>157|47=>158|48=>159|49=>160|50=>161|57=>170|n=>n,fun|22=>45|24=>32|25=>116|3=>3|39=>160|0=>0|53=>206|55=>208|4=>4|46=>200|45=>199|50=>122|5=>5|9=>9|66=>217|70=>221|76=>229|77=>181|n=>n,fun|n=>n⟩
theorem Tryz.laysSlF6_f60:Go.Proofs.SlLaysF.n6 Tryz.prog Tryz.laysSlF6_f60_ren:={
 mixed:=by kernel_rfl
 f6:=⟨Tryz.f60.name,by decide,Tryz.func60.trans (congrArg some (by kernel_rfl))⟩
 f14:=⟨Tryz.f98.name,by decide,Tryz.func98.trans (congrArg some (by kernel_rfl))⟩
 f15:=Tryz.func99.trans (congrArg some (by kernel_rfl))
 f20:=⟨Tryz.f133.name,by decide,Tryz.func133.trans (congrArg some (by kernel_rfl))⟩
 f21:=⟨Tryz.f134.name,by decide,Tryz.func134.trans (congrArg some (by kernel_rfl))⟩
 f22:=⟨Tryz.f135.name,by decide,Tryz.func135.trans (congrArg some (by kernel_rfl))⟩
 f23:=⟨Tryz.f136.name,by decide,Tryz.func136.trans (congrArg some (by kernel_rfl))⟩
 f24:=⟨Tryz.f137.name,by decide,Tryz.func137.trans (congrArg some (by kernel_rfl))⟩
 f25:=⟨Tryz.f138.name,by decide,Tryz.func138.trans (congrArg some (by kernel_rfl))⟩
 f26:=⟨Tryz.f139.name,by decide,Tryz.func139.trans (congrArg some (by kernel_rfl))⟩
 f27:=⟨Tryz.f140.name,by decide,Tryz.func140.trans (congrArg some (by kernel_rfl))⟩
 f28:=Tryz.func141.trans (congrArg some (by kernel_rfl))
 f29:=Tryz.func142.trans (congrArg some (by kernel_rfl))
 f46:=⟨Tryz.f157.name,by decide,Tryz.func157.trans (congrArg some (by kernel_rfl))⟩
 f47:=Tryz.func158.trans (congrArg some (by kernel_rfl))
 f48:=Tryz.func159.trans (congrArg some (by kernel_rfl))
 f49:=⟨Tryz.f160.name,by decide,Tryz.func160.trans (congrArg some (by kernel_rfl))⟩
 f50:=⟨Tryz.f161.name,by decide,Tryz.func161.trans (congrArg some (by kernel_rfl))⟩
 f57:=⟨Tryz.f170.name,by decide,Tryz.func170.trans (congrArg some (by kernel_rfl))⟩
 t0:=Tryz.underlying0
 a0:=Tryz.isAgg0
 z0:=Tryz.sizeOf0
 v0:=Tryz.zeroValue0
 t3:=Tryz.underlying3
 a3:=Tryz.isAgg3
 z3:=Tryz.sizeOf3
 v3:=Tryz.zeroValue3
 t4:=Tryz.underlying4
 a4:=Tryz.isAgg4
 z4:=Tryz.sizeOf4
 v4:=Tryz.zeroValue4
 t5:=Tryz.underlying5
 a5:=Tryz.isAgg5
 z5:=Tryz.sizeOf5
 v5:=Tryz.zeroValue5
 t9:=Tryz.underlying9
 a9:=Tryz.isAgg9
 z9:=Tryz.sizeOf9
 v9:=Tryz.zeroValue9
 t22:=Tryz.underlying45
 a22:=Tryz.isAgg45
 z22:=Tryz.sizeOf45
 v22:=Tryz.zeroValue45
 a24:=Tryz.isAgg32
 z24:=Tryz.sizeOf32
 t25:=Tryz.underlying116
 a25:=Tryz.isAgg116
 z25:=Tryz.sizeOf116
 v25:=Tryz.zeroValue116
 t39:=Tryz.underlying160
 a39:=Tryz.isAgg160
 z39:=Tryz.sizeOf160
 v39:=Tryz.zeroValue160
 t45:=Tryz.underlying199
 a45:=Tryz.isAgg199
 z45:=Tryz.sizeOf199
 v45:=Tryz.zeroValue199
 t46:=Tryz.underlying200
 a46:=Tryz.isAgg200
 z46:=Tryz.sizeOf200
 v46:=Tryz.zeroValue200
 t50:=Tryz.underlying122
 a50:=Tryz.isAgg122
 z50:=Tryz.sizeOf122
 v50:=Tryz.zeroValue122
 t53:=Tryz.underlying206
 a53:=Tryz.isAgg206
 z53:=Tryz.sizeOf206
 v53:=Tryz.zeroValue206
 t55:=Tryz.underlying208
 a55:=Tryz.isAgg208
 z55:=Tryz.sizeOf208
 v55:=Tryz.zeroValue208
 t66:=Tryz.underlying217
 a66:=Tryz.isAgg217
 z66:=Tryz.sizeOf217
 v66:=Tryz.zeroValue217
 t70:=Tryz.underlying221
 a70:=Tryz.isAgg221
 z70:=Tryz.sizeOf221
 v70:=Tryz.zeroValue221
 t76:=Tryz.underlying229
 a76:=Tryz.isAgg229
 z76:=Tryz.sizeOf229
 v76:=Tryz.zeroValue229
 t77:=Tryz.underlying181
 a77:=Tryz.isAgg181
 z77:=Tryz.sizeOf181
 v77:=Tryz.zeroValue181 }
open Go.RowKit Go.Lib Go.Sort in
theorem Tryz.slices_SortFunc_eq {α:Type} [Inhabited α] (enc:α→Value) (h1:OneCell enc) (cf:α→α→Int) (hO:SWO (ltOf cf)) (g:Nat) (cb:Array Value) (blk off cap:Nat) (d:Array α) (w:World) (eg:∀ args w,(callFunc g args).run Tryz.prog w = .ok (.enter g args) w) (hcmp:CmpLays1 Tryz.prog g cb enc cf blk off d.size w) (hH:Holds enc w blk off d) (hblk:blk<w.heap.size) (hsz:d.size<4611686018427387904) :
  Calls Tryz.prog 60 #[.slice (some ⟨blk,off,none⟩) d.size cap,.func (.func g) #[] cb] w fun e w' =>
   e = .returned (.tuple #[])∧∃ n os,w'=sortWorld enc w blk off n (pdq (ltOf cf) d 0 d.size (Lib.bitLen d.size) true true) os:=Any.slices_SortFunc_eq Tryz.laysSlF6_f60 enc h1 cf hO g cb blk off cap d w eg hcmp hH hblk hsz
def Tryz.lays168_ren:Go.Shelf.Ren:=⟨fun|168=>103|240=>146|242=>147|276=>163|278=>164|n=>n,fun|0=>0|3=>3|4=>4|5=>5|9=>9|20=>20|21=>21|37=>146|46=>160|51=>206|70=>163|72=>165|75=>167|80=>170|164=>223|n=>n,fun|n=>n⟩
theorem Tryz.lays168:Go.Proofs.Lays.n168 Tryz.prog Tryz.lays168_ren:={
 mixed:=by kernel_rfl
 f168:=Tryz.func103.trans (congrArg some (by kernel_rfl))
 f240:=Tryz.func146.trans (congrArg some (by kernel_rfl))
 f242:=Tryz.func147.trans (congrArg some (by kernel_rfl))
 f276:=Tryz.func163.trans (congrArg some (by kernel_rfl))
 f278:=Tryz.func164.trans (congrArg some (by kernel_rfl))
 t0:=Tryz.underlying0
 a0:=Tryz.isAgg0
 z0:=Tryz.sizeOf0
 v0:=Tryz.zeroValue0
 t3:=Tryz.underlying3
 a3:=Tryz.isAgg3
 z3:=Tryz.sizeOf3
 v3:=Tryz.zeroValue3
 t4:=Tryz.underlying4
 a4:=Tryz.isAgg4
 z4:=Tryz.sizeOf4
 v4:=Tryz.zeroValue4
 t5:=Tryz.underlying5
 a5:=Tryz.isAgg5
 z5:=Tryz.sizeOf5
 v5:=Tryz.zeroValue5
 t9:=Tryz.underlying9
 a9:=Tryz.isAgg9
 z9:=Tryz.sizeOf9
 v9:=Tryz.zeroValue9
 t20:=Tryz.underlying20
 a20:=Tryz.isAgg20
 z20:=Tryz.sizeOf20
 v20:=Tryz.zeroValue20
 t21:=Tryz.underlying21
 a21:=Tryz.isAgg21
 z21:=Tryz.sizeOf21
 v21:=Tryz.zeroValue21
 t37:=Tryz.underlying146
 a37:=Tryz.isAgg146
 z37:=Tryz.sizeOf146
 v37:=Tryz.zeroValue146
 t46:=Tryz.underlying160
 a46:=Tryz.isAgg160
 z46:=Tryz.sizeOf160
 v46:=Tryz.zeroValue160
 t51:=Tryz.underlying206
 a51:=Tryz.isAgg206
 z51:=Tryz.sizeOf206
 v51:=Tryz.zeroValue206
 t70:=Tryz.underlying163
 a70:=Tryz.isAgg163
 z70:=Tryz.sizeOf163
 v70:=Tryz.zeroValue163
 t72:=Tryz.underlying165
 a72:=Tryz.isAgg165
 z72:=Tryz.sizeOf165
 v72:=Tryz.zeroValue165
 t75:=Tryz.underlying167
 a75:=Tryz.isAgg167
 z75:=Tryz.sizeOf167
 v75:=Tryz.zeroValue167
 t164:=Tryz.underlying223
 a164:=Tryz.isAgg223
 z164:=Tryz.sizeOf223
 v164:=Tryz.zeroValue223 }
theorem Tryz.Builder_Extra_168:Builder.Extra Tryz.prog Tryz.lays168_ren:={
 sizeBuilder:=by kernel_rfl
 liesBuilder:=by kernel_rfl
 t5:=Tryz.underlying5
 a5:=Tryz.isAgg5
 z5:=Tryz.sizeOf5
 v5:=Tryz.zeroValue5
 infoByte:=by kernel_rfl
 cellsByte:=by kernel_rfl
 sizeByte:=by kernel_rfl
 neB5:=by decide }
open Go.RowKit in
theorem Tryz.Builder_WriteRune_k (B b:Nat) (bs:List Value) (r:Int) (hr0 : -2147483648≤r) (hr1:r≤2147483647) (w:World) (h:Lib.IsBuilderF 165 5 B b bs w) (hlen:bs.length+4≤140737488355328) (hBw:B≤w.heap.size) :
  Calls Tryz.prog 103 #[.pointer (some ⟨b,0,none⟩),.int .i32 r] w fun e w'=>e = .returned (.tuple #[.int .i64 (Lib.runeCells r).length,.nilIface])∧(Lib.BuilderAtF 165 5 B b (.pointer (some ⟨b,0,none⟩)) (bs++Lib.runeCells r) w'∧Below B w w'∧Lib.OthersKept 5 (some b) w w'):=Any.Builder_WriteRune_k Tryz.lays168 Tryz.Builder_Extra_168 B b bs r hr0 hr1 w h hlen hBw
end Go.Proofs
end
section
namespace Go.Abs
open Go Go.Sort Go.RowKit
theorem Q3x (xs:List Int):rowV (eI .i64) xs=xs.map (Value.int .i64):=by
 unfold rowV
 induction xs with
 | nil=>rfl
 | cons x xs ih=>simp only [List.map_cons,List.flatten_cons,List.map_append,ih];rfl
theorem Qbfi {P:Program} {c:Nat} (hb:Qh6 P c=true)
  (hs:∀ (blk off cap:Nat) (zs:List Int) (w:World),Holds (Value.int .i64) w blk off zs.toArray→blk<w.heap.size→zs.length<4611686018427387904 →
   Calls P c #[.slice (some ⟨blk,off,none⟩) zs.length cap] w fun e w'=>e = .returned (.tuple #[])∧∃ n os,w'=grow (putRow (Value.int .i64) (Sort.ahead w n) blk off (zs.mergeSort fun x y=>decide (x≤y)).toArray) os)
  (hnone:∀ (p:Option Addr) (cap:Nat) (w:World),Calls P c (#[.slice p 0 cap] ++ #[]) w fun e' w'=>e' = .returned (.tuple #[])∧w'=w) :
  RowK P c (eI .i64) 1 [] (fun l=>if l.length≤lim then some (Qof Qgd l) else none):=by
 have hrow:Qbla P c (eI .i64) #[] (fun xs=>Qof Qgd xs):=by
  intro blk cap xs w hcell hblk hsz;refine Calls.mono (hs blk 0 cap xs w ?_ hblk hsz) ?_
  ·intro j hj;have hj' : j<xs.length:=by simpa using hj
   have:=hcell j (by rw [Q3x];simpa using hj');rw [Q3x] at this;rw [Nat.zero_add];refine ⟨?_,this.2⟩;rw [this.1,getElem!_pos xs.toArray j hj];simp [hj']
  ·rintro e w' ⟨rfl,n,os,rfl⟩;refine ⟨rfl,n,os,?_⟩;rw [Q3w,Q3x];congr 1;unfold putRow;congr 1;funext c;unfold putCells;congr 1;funext k x;simp only [List.size_toArray,List.length_map];split
   ·rename_i h;simp only [id];rw [getElem!_pos _ _ (by simp;omega),getElem!_pos _ _ (by simp;omega)];simp
   ·rfl
 intro xs ys h;dsimp only at h;split at h<;>cases h;rename_i hl;refine ⟨Qov _ _,fun h0=>?_,fun hl2 cap k0 M nb hM=>?_⟩
 ·subst h0;exact ⟨rfl,fun M nb=>Q96 (ex:=#[]) (exV:=[]) hb (fun _ _ _ h=>h) hnone⟩
 ·exact Qbcy (e:=eI .i64) (fun _=>rfl) (fun _=>rfl) (fun xs=>Qov _ _) (ex:=#[]) (exV:=[]) (fun _ _ _ h=>h) hb hrow xs cap k0 M nb hM (by unfold lim at hl;omega)
end Go.Abs
end
section
namespace Go.Proofs
open Go.Shelf Go.RowKit Go.Lib Go.Sort Go.Abs
theorem Tryz.rowK94:Go.Abs.RowK Tryz.prog 94 (eI .i64) 1 [] Qbj2 :=
 Qbfi (by kernel_rfl) Tryz.slices_Sort_int Tryz.slices_Sort_int_none
end Go.Proofs
end
section
namespace Go.Proofs
open Go.RowKit Go.Maps Go.Sort Go.Shelf
attribute [local go_sem] Oper.semAt_some
def Tryz.upto {α:Type} (f:Nat→α) (k:Nat):List α:=(List.range k).map f
theorem Tryz.upto_succ {α:Type} (f:Nat→α) (k:Nat):Tryz.upto f (k+1)=Tryz.upto f k++[f k]:=by simp [Tryz.upto,List.range_succ]
theorem Tryz.upto_length {α:Type} (f:Nat→α) (k:Nat):(Tryz.upto f k).length=k:=by simp [Tryz.upto]
theorem Tryz.upto_all (zs:List Int):Tryz.upto (fun j=>zs[j]?.getD 0) zs.length=zs:=by
 apply List.ext_getElem
 ·simp [Tryz.upto]
 ·intro i h1 h2;simp [Tryz.upto,h2]
theorem Tryz.upto_take (zs:List Int) {k:Nat} (hk:k≤zs.length):Tryz.upto (fun j=>zs[j]?.getD 0) k=zs.take k:=by
 apply List.ext_getElem
 ·simp [Tryz.upto,hk]
 ·intro i h1 h2;have:i<zs.length:=by simp [Tryz.upto] at h1;omega
  simp [Tryz.upto,this]
set_option maxRecDepth 100000 in
set_option maxHeartbeats 2000000 in
theorem Tryz.values1_in (F:Fence) (n:Nat) (h7:F.fn 97) (hro:F.round=none) (hn:1≤n) (l Bs n₀ b off len cap:Nat) (zs:List Int) (hreach:len*8≤140737488351232) (hb:b<n₀) (J Jx:List Int→World→Prop)
  (hY:∀ pre x W,J pre W→pre.length<len→YieldAt F (n-1) Tryz.prog l #[.int .i64 x] W fun e W' =>
   (e = .returned (.bool true)∧J (pre++[x]) W'∧Below n₀ W W')∨(e = .returned (.bool false)∧Jx (pre++[x]) W'))
  (W:World) (hBs:W.cell? ⟨Bs,0,none⟩=some (.slice (some ⟨b,off,none⟩) len cap)) (hc:∀ j,j<len→W.cell? ⟨b,off+j,none⟩=some (.int .i64 (zs[j]?.getD 0))) (h0:J [] W) :
  CallsIn F n Tryz.prog 97 #[.func (.yield l) #[] #[],.pointer (some ⟨Bs,0,none⟩)] W fun e W'=>(∃ v,e = .returned v) ∧
   ((∃ ys,ys=Tryz.upto (fun j=>zs[j]?.getD 0) len∧J ys W')∨(∃ pre,(∃ k,k≤len∧pre=Tryz.upto (fun j=>zs[j]?.getD 0) k)∧Jx pre W')):=by
 refine callsIn_of_wp Tryz.func97 rfl h7 ?_ hro;simp only [Tryz.ntmps97,List.size_toArray,List.length_cons,List.length_nil,Nat.reduceAdd,Nat.reduceSub,Array.replicate_succ,Array.replicate_zero,List.push_toArray,List.append_toArray,List.nil_append,List.cons_append]
 gi_wp2
 gi_loopw [7] (fun i wr=>∃ k:Nat,k≤len∧i = .int .i64 k∧J (Tryz.upto (fun j=>zs[j]?.getD 0) k) wr∧Below n₀ W wr)
  (fun i _=>len-(intOf i).toNat)
 case atStart=>exact ⟨0,Nat.zero_le _,rfl,h0,Below.refl _ _⟩
 case round =>
  obtain ⟨k,hk,rfl,hJs,hnx⟩:=hrel;have hcx:k<len→wr.cell? ⟨b,off+k,none⟩=some (.int .i64 (zs[k]?.getD 0)):=fun h=>(hnx.cell (p:=⟨b,off+k,none⟩) hb).trans (hc k h);by_cases hlt:k<len
  ·obtain ⟨fn,tmps,assign,body,hy,hR⟩:=hY _ (zs[k]?.getD 0) wr hJs (by rw [Tryz.upto_length];exact hlt);have hcx':=hcx hlt
   gi_wp2
   refine hR.mono ?_;rintro e W3 (⟨rfl,hJ3,hk3⟩|⟨rfl,hJx3⟩)
   ·gi_wp2
    go_roundw
    case rel=>exact ⟨k+1,by omega,by simp,by rw [Tryz.upto_succ];exact hJ3,hnx.trans hk3⟩
    case measure=>simp [intOf];omega
   ·gi_wp2
    refine bodyPost_ret (results_none rfl _ _ _) rfl ?_;exact ⟨⟨_,rfl⟩,.inr ⟨_,⟨k+1,by omega,(Tryz.upto_succ _ _).symm⟩,hJx3⟩⟩
  ·obtain rfl:k=len:=by omega
   gi_wp2
   go_end0
   exact ⟨⟨_,rfl⟩,.inl ⟨_,rfl,hJs⟩⟩
set_option maxRecDepth 100000 in
set_option maxHeartbeats 1000000 in
theorem Tryz.values1_nil_in (F:Fence) (n:Nat) (h7:F.fn 97) (hro:F.round=none) (l Bs:Nat) (a:Option Addr) (cap:Nat) (J:List Int→World→Prop) (W:World) (hBs:W.cell? ⟨Bs,0,none⟩=some (.slice a 0 cap)) (h0:J [] W) :
  CallsIn F n Tryz.prog 97 #[.func (.yield l) #[] #[],.pointer (some ⟨Bs,0,none⟩)] W fun e W'=>(∃ v,e = .returned v)∧J [] W':=by
 refine callsIn_of_wp Tryz.func97 rfl h7 ?_ hro;simp only [Tryz.ntmps97,List.size_toArray,List.length_cons,List.length_nil,Nat.reduceAdd,Nat.reduceSub,Array.replicate_succ,Array.replicate_zero,List.push_toArray,List.append_toArray,List.nil_append,List.cons_append]
 gi_wp2
 gi_loopw [7] (fun i wr=>i = .int .i64 0∧J [] wr) (fun _ _=>0)
 case atStart=>exact ⟨rfl,h0⟩
 case round =>
  obtain ⟨rfl,hJs⟩:=hrel
  gi_wp2
  go_end0
  exact ⟨⟨_,rfl⟩,hJs⟩
theorem Tryz.values_stops (F:Fence) (n:Nat) (h7:F.fn 97) (hro:F.round=none) (hn:1≤n) (Bs n₀:Nat) (sv:Value) (zs:List Int) (hreach:zs.length*8≤140737488351232) (w:World) (hBs:Bs<w.heap.size) (hn₀:n₀≤w.heap.size)
  (hc:w.cell? ⟨Bs,0,none⟩=some sv) (hI:Go.Abs.Ints n₀ w sv zs) :
  SeqStopsK F n Tryz.prog 97 #[.pointer (some ⟨Bs,0,none⟩)] (fun x:Int=>#[Value.int .i64 x]) (Below n₀) (fun ys=>ys=zs) (fun pre=>pre <+: zs) zs.length w:=fun l J Jx W hW _ _ hY h0=>by
 have hc':=(hW.cell (p:=⟨Bs,0,none⟩) hBs).trans hc;rcases hI.below (hW.mono hn₀) with ⟨a,cap,rfl,rfl⟩|⟨b,off,cap,rfl,hb,hcs⟩
 ·exact (Tryz.values1_nil_in F n h7 hro l Bs a cap J W hc' h0).mono fun e W' ⟨he,hj⟩=>⟨he,.inl ⟨_,rfl,hj⟩⟩
 ·refine (Tryz.values1_in F n h7 hro hn l Bs n₀ b off zs.length cap zs hreach hb J Jx hY W hc' hcs h0).mono ?_;rintro e W' ⟨he,⟨ys,rfl,hj⟩|⟨pre,⟨k,hk,rfl⟩,hj⟩⟩
  ·exact ⟨he,.inl ⟨_,Tryz.upto_all zs,hj⟩⟩
  ·exact ⟨he,.inr ⟨_,by rw [Tryz.upto_take zs hk];exact List.take_prefix _ _,hj⟩⟩
theorem Tryz.info3:(Tryz.prog.info? 3).map (fun i=>(i.zero,i.size,i.bytes))=some (some (.int .i64 0),1,8):=by kernel_rfl
set_option maxRecDepth 100000 in
set_option maxHeartbeats 2000000 in
theorem Tryz.appendSeq_in (F:Fence) (n:Nat) (h132:F.fn 132) (h97:F.fn 97) (hro:F.round=none) (hn:3≤n) (Bs:Nat) (sv:Value) (zs:List Int) (hlen:zs.length*8≤140737488351232) (w:World) (hBs:Bs<w.heap.size) (hc0:w.cell? ⟨Bs,0,none⟩=some sv) (hI:Go.Abs.Ints w.heap.size w sv zs) :
  CallsIn F n Tryz.prog 132 #[.slice none 0 0,.func (.func 97) #[] #[.pointer (some ⟨Bs,0,none⟩)]] w fun e W'=>∃ v,e = .returned v∧W'.ownsRow w.heap.size 3 1 v zs.length (zs.map (Value.int .i64))∧(v = .slice none 0 0↔zs=[])∧Below w.heap.size w W':=by
 have h1:1≤n:=by omega
 obtain ⟨i0,hi,hz0,hz1,hz2⟩:=info_parts Tryz.info3;refine callsIn_of_wp_marks Tryz.func132 rfl h132 ?_ hro;simp only [Tryz.ntmps132,List.size_toArray,List.length_cons,List.length_nil,Nat.reduceAdd,Nat.reduceSub,Array.replicate_succ,Array.replicate_zero,List.push_toArray,List.append_toArray,List.nil_append,List.cons_append]
 gi_wp2
 have bO:=Boxed.new w 32 (.slice none 0 0);have hB0:Below w.heap.size w (w.alloc (.cells #[.slice none 0 0] 32)):=(Below.refl _ w).alloc (Nat.le_refl _) _;refine wpIn_rangeFunc_ownG hro h1 (gf:=97) (lb:=#[.pointer (some ⟨Bs,0,none⟩)]) rfl h97 (enters_of Tryz.func97 (by kernel_rfl) rfl)
  (Tryz.values_stops F (n-1) h97 hro (by omega) Bs w.heap.size sv zs hlen _ (by simp;omega) (by simp) ((hB0.cell (p:=⟨Bs,0,none⟩) hBs).trans hc0) (hI.below hB0)) belowK_t (belowK_b (by simp)) (Below.refl _ _) (fun _=>rfl)
  (fun pre W=>(∃ v,Boxed W w.heap.size 32 v∧W.ownsRow w.heap.size 3 1 v pre.length (pre.map (Value.int .i64))∧(v = .slice none 0 0↔pre=[]))∧Below w.heap.size w W)
  (fun _ _ _=>False)
  (OwnFrom.and (Own.from (holdsRow_own w.heap.size w.heap.size 32 3 1 (fun pre=>pre.length) (fun pre=>pre.map (Value.int .i64)) (fun pre v=>v = .slice none 0 0↔pre=[])) _) (ownFrom_below (Nat.le_refl _) (by simp)))
  (fun _ _ _ _ _ hs _ _=>hs)
  ⟨⟨_,bO,World.ownsRow_nil _ _ _ _,by simp⟩,hB0⟩
  (fun x=>{ tmps:=#[.slice none 0 0,.func (.func 97) #[] #[.pointer (some ⟨Bs,0,none⟩)],.pointer (some ⟨w.heap.size,0,none⟩),undef,.slice none 0 0,.int .i64 x,.func (.func 97) #[] #[.pointer (some ⟨Bs,0,none⟩)],.int .i64 x,undef,undef,undef,undef,undef],defers:=[] }) ?assign ?body ?done ?stop
 case assign =>
  intro l x W K hK
  gi_wp2
  exact hK
 case body =>
  rintro l pre x W ⟨⟨v,hv,hrow,hnil⟩,hB⟩ hlt;have hc:=hv.cell
  gi_wp2_with (gi_at_builtin;refine wpListIn_append_own _ rfl _ _ 32 rfl w.heap.size 3 i0 (.int .i64 0) 1 8 Tryz.underlying32 hi hz0 hz1 hz2 rfl (by decide) _ _ _ rfl (hrow.alloc _) ⟨W.heap.size,0,none⟩ 1 1 [.int .i64 x] rfl rfl (cell_one_new _ _ _) (by simp [Value.oneCell']) (by have:maxLen=9223372036854775807:=rfl;omega) (by omega) (by have:=hB.size;simp;omega) ?_;intro v' w1 hown' hgrow _;obtain ⟨g',cap',rfl⟩:=ownsRow_succ hown';obtain ⟨hv1,hv2,hr2,hk2,hb2⟩:=hv.appended (by decide) hrow hB.size (Nat.le_refl _) hown' hgrow;have hc1:=hv1.cell;have hf1:=hv1.frozen)
  exact ⟨hk2.from _,hb2,⟨_,hv2,by simpa using hr2,by simp⟩,hB.trans hb2⟩
 case done =>
  rintro D ys W hD rfl ⟨⟨v,hv,hrow,hnil⟩,hB⟩ hK;have hc:=hv.cell
  gi_wp2
  refine ⟨by simp,.inl ⟨_,_,rfl,run_takeDeferred hK,?_⟩⟩;exact ⟨_,results_tmp rfl _ _ _,v,rfl,ownsRow_putObj hrow _ hK rfl,hnil,hB.trans (belowK_b (w:=w) (Nat.le_refl _) W D _ _ (by simp at hD;omega) hK rfl rfl)⟩
 case stop =>
  rintro D c pre W _ _ h _;exact h.elim
set_option maxHeartbeats 1000000 in
theorem Tryz.collect_in (F:Fence) (n:Nat) (h96:F.fn 96) (h132:F.fn 132) (h97:F.fn 97) (hro:F.round=none) (hn:4≤n) (Bs:Nat) (sv:Value) (zs:List Int) (hlen:zs.length*8≤140737488351232) (w:World) (hBs:Bs<w.heap.size) (hc0:w.cell? ⟨Bs,0,none⟩=some sv) (hI:Go.Abs.Ints w.heap.size w sv zs) :
  CallsIn F n Tryz.prog 96 #[.func (.func 97) #[] #[.pointer (some ⟨Bs,0,none⟩)]] w fun e W'=>∃ v,e = .returned v∧W'.ownsRow w.heap.size 3 1 v zs.length (zs.map (Value.int .i64))∧(v = .slice none 0 0↔zs=[])∧Below w.heap.size w W':=by
 have h1:1≤n:=by omega
 refine callsIn_of_wp Tryz.func96 rfl h96 ?_ hro;simp only [Tryz.ntmps96,List.size_toArray,List.length_cons,List.length_nil,Nat.reduceAdd,Nat.reduceSub,Array.replicate_succ,Array.replicate_zero,List.push_toArray,List.append_toArray,List.nil_append,List.cons_append]
 gi_wp2_with (gi_at_call 132;refine (Tryz.appendSeq_in F (n-1) h132 h97 hro (by omega) Bs sv zs hlen _ hBs hc0 hI).mono ?_;rintro e w' ⟨v,rfl,hrow,hnil,hb⟩)
 go_ret
 exact ⟨v,rfl,hrow,hnil,hb⟩
set_option maxRecDepth 100000 in
set_option maxHeartbeats 2000000 in
theorem Tryz.sorted_in (F:Fence) (n:Nat) (h58:F.fn 58) (h96:F.fn 96) (h132:F.fn 132) (h97:F.fn 97) (h94:F.fn 94) (hro:F.round=none) (hn:5≤n)
  (hs1:∀ (blk off cap:Nat) (ss:List Int) (W:World),Holds encZ W blk off ss.toArray→blk<W.heap.size→ss.length<4611686018427387904 →
   CallsIn F (n-1) Tryz.prog 94 #[.slice (some ⟨blk,off,none⟩) ss.length cap] W fun e w'=>e = .returned (.tuple #[])∧∃ k os,w'=grow (putRow encZ (Sort.ahead W k) blk off (ss.mergeSort fun x y=>decide (x≤y)).toArray) os)
  (hs2:∀ (p:Option Addr) (cap:Nat) (W:World),CallsIn F (n-1) Tryz.prog 94 #[.slice p 0 cap] W fun e w'=>e = .returned (.tuple #[])∧w'=W)
  (Bs:Nat) (sv:Value) (zs:List Int) (hlen:zs.length*8≤140737488351232) (w:World) (hBs:Bs<w.heap.size) (hc0:w.cell? ⟨Bs,0,none⟩=some sv) (hI:Go.Abs.Ints w.heap.size w sv zs) :
  CallsIn F n Tryz.prog 58 #[.func (.func 97) #[] #[.pointer (some ⟨Bs,0,none⟩)]] w fun e W'=>∃ v,e = .returned v∧W'.ownsRow w.heap.size 3 1 v zs.length ((zs.mergeSort fun x y=>decide (x≤y)).map encZ)∧Below w.heap.size w W':=by
 have h1:1≤n:=by omega
 refine callsIn_of_wp Tryz.func58 rfl h58 ?_ hro;simp only [Tryz.ntmps58,List.size_toArray,List.length_cons,List.length_nil,Nat.reduceAdd,Nat.reduceSub,Array.replicate_succ,Array.replicate_zero,List.push_toArray,List.append_toArray,List.nil_append,List.cons_append]
 gi_wp2_with (gi_at_call 96;refine (Tryz.collect_in F (n-1) h96 h132 h97 hro (by omega) Bs sv zs hlen _ hBs hc0 hI).mono ?_;rintro e W ⟨v,rfl,hrow,hnil,hb⟩)
 rcases hrow.2 with ⟨rfl,hz⟩|⟨gb,cap,cur,rfl,hbase,hgb,r1,r2,r3,r4⟩
 ·have hss:zs=[]:=List.eq_nil_of_length_eq_zero hz;subst hss
  gi_wp2_with (gi_at_call 94;refine (hs2 none 0 W).mono ?_;rintro e w' ⟨rfl,rfl⟩)
  go_ret
  exact ⟨_,rfl,by simpa using hrow,hb⟩
 ·have hH:Holds encZ W gb 0 zs.toArray:=holds_of_block_i hgb (by simpa using r4);have hgl:gb<W.heap.size:=(Array.getElem?_eq_some_iff.1 hgb).1;have cS:=hs1 gb 0 cap zs W hH hgl (by omega)
  gi_wp2_with (gi_at_call 94;refine cS.mono ?_;rintro e w' ⟨rfl,nn,os,rfl⟩)
  go_ret
  exact ⟨_,rfl,ownsRow_sorted_i (by simp) hbase hgb r1 r2 r3,hb.grown (grownBy_sorted_i _) hb.size (fun j hj=>by cases hj;exact hbase)⟩
theorem Tryz.sorted58 (Bs:Nat) (sv:Value) (zs:List Int) (hlen:zs.length*8≤140737488351232) (w:World) (hBs:Bs<w.heap.size) (hc0:w.cell? ⟨Bs,0,none⟩=some sv) (hI:Go.Abs.Ints w.heap.size w sv zs) :
  Calls Tryz.prog 58 #[.func (.func 97) #[] #[.pointer (some ⟨Bs,0,none⟩)]] w fun e W'=>∃ v,e = .returned v∧W'.ownsRow w.heap.size 3 1 v zs.length ((zs.mergeSort fun x y=>decide (x≤y)).map encZ)∧Below w.heap.size w W' :=
 (callsIn_wide (n:=5)).1 (Tryz.sorted_in Fence.wide 5 trivial trivial trivial trivial trivial rfl (by omega) (fun blk off cap ss W hH hblk hsz=>callsIn_wide.2 (Tryz.slices_Sort_int blk off cap ss W hH hblk hsz)) (fun p cap W=>callsIn_wide.2 (Tryz.slices_Sort_int_none p cap W)) Bs sv zs hlen w hBs hc0 hI)
end Go.Proofs
end
section
namespace Go.Proofs
open Go.Abs
theorem Tryz.valuesK:Qbhi Tryz.prog 59 97 1 4:=Qbhm (by kernel_rfl)
theorem Tryz.overK:Qbj1 Tryz.prog 58 97 (eI .i64) 1 Qbhl :=
 Qbhn (by kernel_rfl) fun Bs sv zs w h1 h2 h3 h4=>Tryz.sorted58 Bs sv zs h1 w h2 h3 h4
end Go.Proofs
end
section
namespace Go.Abs
open Go Go.RowKit
theorem Q6v {P:Program} {f:FuncId} {args:List V} {x:D} (hx:x.scalar=true) (hb:Qh6 P f=true)
  (h:∀ (w:World) (g:G) (us:List Value),(∀ b o,g.imm b o→b<w.heap.size)→RFs g w args us→Calls P f us.toArray w fun e w'=>e = .returned x.val∧Below w.heap.size w w') (M:Mem) (nb:Nat) (hfl0:V.dems args=args:=by rfl):ACalls P f args M nb (.d x) M nb:=by
 refine ACalls.mk' hb (Nat.le_refl _) hfl0 fun w g us hm hMon hus hfl hons=>?_;refine Calls.mono (h w g us (fun b o hi=>(hm.imm b o hi).1) hus) ?_;rintro e w' ⟨rfl,hbw⟩;have hI:Imm g.imm g.imm w w':=⟨fun _ _ h=>h,fun b o hi=>Qd9 (hbw.block b (hm.imm b o hi).1)⟩;have hk:Kept g w g w' (There M) (fun _=>True):=⟨hI,fun _ _=>rfl,fun b _ hlt=>⟨rfl,hbw.block b hlt,fun _=>Iff.rfl⟩⟩;refine ⟨_,g,rfl,hm.kept hk hMon (fun _ _ _=>trivial) trivial (fun _ _=>trivial) (fun b o hi=>?_),?_,trivial,hMon,?_⟩
 ·obtain ⟨h1,h2⟩:=hm.imm b o hi;exact ⟨Nat.lt_of_lt_of_le h1 hbw.size,h2⟩
 ·simp only [RV];exact (Qbfc hx).2 rfl
 ·exact ⟨hbw.os,hbw.tape,hbw.output,hbw.size,hI,fun _ _=>rfl,fun b hb _=>⟨rfl,hbw.block b hb,fun _=>Iff.rfl⟩⟩
theorem Qbj5 {g:G} {w:World} {l:List Int} {k:IntKind} {u:Value} (h:RF g w (.d (.lst 1 (l.map (fun n=>[.int k n])))) u) :
  ∃ a cap,u = .slice a l.length cap∧l.length≤cap∧(l=[]∨∃ b o,a=some ⟨b,o,none⟩∧∀ (i:Nat) n,l[i]? = some n→g.imm b (o+i)∧w.cell? ⟨b,o+i,none⟩=some (.int k n)):=by
 have h:=RF_d.1 h;simp only [RD,List.length_map] at h;obtain ⟨a,cap,rfl,hc,hl⟩:=h;refine ⟨a,cap,rfl,hc,?_⟩;rcases hl with hl|⟨b,o,rfl,hl⟩
 ·exact .inl (by simpa using hl)
 ·refine .inr ⟨b,o,rfl,fun i n hi=>?_⟩;have:=(Qxu hl i [.int k n] (by simp [hi])).2;simp only [RDc,Nat.mul_one,RD] at this;obtain ⟨h1,⟨u,h2,rfl⟩,_⟩:=this;exact ⟨h1,h2⟩
end Go.Abs
end
section
namespace Go.Proofs
open Go.RowKit Go.Abs
def keyL (l:List Int):List UInt8:=l.flatMap fun x=>Lib.encodeRune (x+1)
theorem Qbfj:∀ l:List Int,(keyL l).length≤4*l.length
 | []=>by simp [keyL]
 | x::l=>by
  have h:=Lib.runeCells_le (x+1);rw [Lib.runeCells_length] at h;have ih:=Qbfj l;simp only [keyL,List.flatMap_cons,List.length_append,List.length_cons] at *
  omega
set_option maxHeartbeats 4000000 in
set_option maxRecDepth 1000000 in
theorem Tryz.key_walk (l:List Int) (hl:l.length≤lim) (hx:∀ x∈l,0≤x∧x<50000) (a:Option Addr) (cap:Nat) (w:World)
  (hc:∀ (i:Nat) n,l[i]? = some n→∃ b o,a=some ⟨b,o,none⟩∧b<w.heap.size∧w.cell? ⟨b,o+i,none⟩=some (.int .i64 n)) :
  Calls Tryz.prog 70 #[.slice a l.length cap] w fun e w'=>e = .returned (.string (keyB l))∧Below w.heap.size w w':=by
 have hlim:l.length≤1099511627776:=hl
 go_enter Tryz.func70,Tryz.ntmps70
 go_wp2
 go_loopw [8] (fun vi wr=>∃ (k:Nat),vi = .int .i64 k∧k≤l.length∧Lib.IsBuilderF 165 5 w.heap.size w.heap.size (Lib.byteCells (keyL (l.take k))) wr∧Below w.heap.size w wr) (fun vi _=>l.length-(intOf vi).toNat)
 case atStart =>
  refine ⟨0,rfl,by omega,?_,((Below.refl _ w).alloc (Nat.le_refl _) _)⟩;exact Lib.IsBuilderF.of (Lib.fresh_isBuilder 165 5 w)
 case round =>
  obtain ⟨k,rfl,hk,hI,hbw⟩:=hrel;by_cases hlt:k<l.length
  ·obtain ⟨b,o,rfl,hb,hcell⟩:=hc k l[k] (List.getElem?_eq_getElem hlt);have hcr:wr.cell? ⟨b,o+k,none⟩=some (.int .i64 l[k]):=by
    rw [← hcell];simp only [World.cell?];rw [hbw.block b hb]
   have hxk:=hx l[k] (List.getElem_mem hlt);have w1:IntKind.i64.wrap (l[k]+1)=l[k]+1:=by simp [IntKind.wrap,IntKind.bits,IntKind.signed];omega
   have w2:IntKind.i32.wrap (l[k]+1)=l[k]+1:=by simp [IntKind.wrap,IntKind.bits,IntKind.signed];omega
   have hsz:w.heap.size≤wr.heap.size:=hbw.size;have hkl:=Qbfj (l.take k);rw [List.length_take] at hkl
   go_wp2_with (go_at_call 103;refine (Tryz.Builder_WriteRune_k w.heap.size w.heap.size _ (l[k]+1) (by omega) (by omega) _ hI (by rw [Lib.byteCells_length];omega) hsz).mono ?_)
   rintro e W1 ⟨rfl,h1,b1,k1⟩
   go_wp2
   go_roundw
   case rel =>
    refine ⟨k+1,by simp,by omega,?_,hbw.trans b1⟩;have e1:keyL (l.take (k+1))=keyL (l.take k)++Lib.encodeRune (l[k]+1):=by
     rw [List.take_succ_eq_append_getElem hlt];simp only [keyL,List.flatMap_append,List.flatMap_cons,List.flatMap_nil,List.append_nil]
    rw [e1,Lib.byteCells_append,Lib.byteCells_encodeRune];exact Or.inr h1
   case measure =>
    simp [intOf];omega
  ·have hk2:k=l.length:=by omega
   subst hk2
   go_wp2_with (go_at_call 104;refine (Tryz.Builder_String_any_k w.heap.size w.heap.size _ _ hI hbw.size).mono ?_)
   rintro e W1 ⟨rfl,_,b1,_⟩
   go_wp2
   go_ret
   exact ⟨rfl,hbw.trans b1⟩
theorem Tryz.keyK:Go.Abs.K_projection_key Tryz.prog 70 keyS:=by
 intro l r h;unfold keyS at h;split at h<;>cases h;rename_i hc;intro M nb;refine Q6v rfl (by kernel_rfl) (fun w g us himm hus=>?_) M nb;obtain ⟨u,us',rfl,hu,hus'⟩:=hus;simp only [RFs] at hus';subst hus';obtain ⟨a,cap,rfl,hcap,hl⟩:=Qbj5 hu;refine Tryz.key_walk l hc.1 hc.2 a cap w fun i n hi=>?_;rcases hl with rfl|⟨b,o,rfl,hl⟩
 ·simp at hi
 ·exact ⟨b,o,rfl,himm _ _ (hl i n hi).1,(hl i n hi).2⟩
end Go.Proofs
end
section
namespace Go.Proofs
open Go.Shelf Go.RowKit Go.Lib Go.Sort Go.Abs
set_option maxRecDepth 100000
set_option maxHeartbeats 4000000
theorem Qbl7 (W:World):W.drew.heap=W.heap:=rfl
theorem Qhg (W:World) (o:Obj) (n:Nat) (h:n=W.heap.size):(W.alloc o).heap[n]? = some o:=by subst h;exact heap_alloc_new _ _
theorem Qbx (W:World) (o:Obj) (n:Nat) (h:n<W.heap.size):(W.alloc o).heap[n]? = W.heap[n]?:=Lib.alloc_old _ _ _ h
theorem Tryz.graph_walk (al mk:Option Addr) (ca cm be oe ce:Nat) (w:World) (h0:w.cell? ⟨be,oe,none⟩=some (.int .i64 0)) (h1:w.cell? ⟨be,oe+1,none⟩=some (.int .i64 0)) (h2:w.cell? ⟨be,oe+2,none⟩=some (.int .i64 0)) (hb:be<w.heap.size) :
  Calls Tryz.prog 91 #[.agg #[.slice al 2 ca,.int .i64 2,.slice mk 0 cm,.slice (some ⟨be,oe,none⟩) 1 ce]] w fun e w'=>∃ B,e = .returned (.agg #[.slice al 2 ca,.int .i64 2,.slice mk 0 cm,.slice (some ⟨be,oe,none⟩) 1 ce,.slice (some ⟨B,0,none⟩) 3 3]) ∧
   w.heap.size≤B∧w'.heap[B]? = some (.cells #[.int .i64 0,.int .i64 1,.int .i64 1] 3 (0,0))∧Below w.heap.size w w':=by
 have hmk:∀ w,(Instr.makeSlice 32 (.int .i64 3) (.int .i64 3)).run Tryz.prog w = .ok (.slice (some ⟨w.heap.size,0,none⟩) 3 3) (w.alloc (.cells #[.int .i64 0,.int .i64 0,.int .i64 0] 3)):=fun _=>by kernel_rfl
 have hb1:be<w.heap.size+1:=by omega
 have hb2:be<w.heap.size+1+1:=by omega
 have hb3:be<w.heap.size+1+1+1:=by omega
 have hb4:be<w.heap.size+1+1+1+1:=by omega
 have hn0:be≠w.heap.size:=by omega
 have hn1:be≠w.heap.size+1:=by omega
 have hn2:be≠w.heap.size+1+1:=by omega
 have hn3:be≠w.heap.size+1+1+1:=by omega
 have hn4:be≠w.heap.size+1+1+1+1:=by omega
 go_enter Tryz.func91,Tryz.ntmps91
 go_wp2
 go_region
 all_goals
  go_wp2
  refine wp_loop_rounds 2 ?_;rw [rounds_succ]
  go_wp2
  rw [rounds_succ]
  go_wp2
  refine wp_loop_rounds 3 ?_;rw [rounds_succ]
  go_wp2
  go_region
  go_wp2
  rw [rounds_succ]
  go_wp2
  go_region
  go_wp2
  rw [rounds_succ]
  go_wp2
  (try simp only [Exit.inBlock,Exit.then])
  refine bodyPost_ret (by simp [results,show Tryz.f91.results = #[.cell 2 151] from rfl,loadVar,asAddr,Tryz.isAgg151,Tryz.sizeOf151,go_sem];rfl) rfl ?_;refine ⟨_,rfl,by omega,?_,?_⟩
  ·simp only [Qbl7]
   repeat (first|exact Qhg _ _ _ (by simp)|rw [Qbx _ _ _ (by simp;try omega)])
  ·first|exact ((((((((Below.refl _ w).alloc (Nat.le_refl _) _).alloc (by simp) _).alloc (by simp;omega) _).alloc (by simp;omega) _).alloc (by simp;omega) _).drew.drew.drew))|trace_state
end Go.Proofs
end
section
namespace Go.Proofs
open Go.Shelf Go.RowKit Go.Lib Go.Sort Go.Abs
set_option maxRecDepth 100000
set_option maxHeartbeats 4000000
theorem Tryz.int_parts:(Tryz.prog.info? 3).map (fun i=>(i.zero,i.size,i.bytes))=some (some (.int .i64 0),1,8):=by kernel_rfl
structure Far (w w' : World) (p:Nat→Prop):Prop where
 os:w'.os=w.os
 tape:w'.tape=w.tape
 output:w'.output=w.output
 size:w.heap.size≤w'.heap.size
 block:∀ k,k<w.heap.size→p k→w'.heap[k]? = w.heap[k]?
theorem Far.refl (w:World) (p:Nat→Prop):Far w w p:=⟨rfl,rfl,rfl,Nat.le_refl _,fun _ _ _=>rfl⟩
theorem Far.alloc {w w' : World} {p:Nat→Prop} (h:Far w w' p) (o:Obj):Far w (w'.alloc o) p :=
 ⟨h.os,h.tape,h.output,Nat.le_trans h.size (by simp),fun k hk hp=>(Below.heap_alloc _ _ _ (Nat.lt_of_lt_of_le hk h.size)).trans (h.block k hk hp)⟩
theorem Far.drew {w w' : World} {p:Nat→Prop} (h:Far w w' p):Far w w'.drew p:=⟨h.os,h.tape,h.output,h.size,h.block⟩
theorem Far.set {w w' : World} {p:Nat→Prop} (h:Far w w' p) (a:Addr) (u:Value) (ha:∀ k,k<w.heap.size→p k→k≠a.block):Far w (w'.setCell a u) p :=
 ⟨h.os,h.tape,h.output,Nat.le_trans h.size (by simp [World.setCell]),fun k hk hp=>(Below.heap_setCell _ _ _ _ (ha k hk hp)).trans (h.block k hk hp)⟩
theorem Far.trans {a b c:World} {p q:Nat→Prop} (h:Far a b p) (k:Far b c q) (hq:∀ i,i<a.heap.size→p i→q i):Far a c p :=
 ⟨k.os.trans h.os,k.tape.trans h.tape,k.output.trans h.output,Nat.le_trans h.size k.size,fun i hi hp=>(k.block i (Nat.lt_of_lt_of_le hi h.size) (hq i hi hp)).trans (h.block i hi hp)⟩
theorem Far.ofGrown {w w' : World} {row:Option Nat} (h:w.grownBy w' row):Far w w' (fun k=>some k≠row):=⟨h.os,h.tape,h.output,h.size,h.block⟩
theorem Far.below {w w' : World} (h:Far w w' fun _=>True):Below w.heap.size w w':=⟨h.os,h.tape,h.output,h.size,fun k hk=>h.block k hk trivial⟩
theorem Far.cell {w w' : World} {p:Nat→Prop} (h:Far w w' p) {b:Nat} (hb:b<w.heap.size) (hp:p b) (i:Nat):w'.cell? ⟨b,i,none⟩=w.cell? ⟨b,i,none⟩:=by simp [World.cell?,h.block b hb hp]
theorem Qbfk (w:World) (x:Value) (t:TypeId) (n:Nat) (hn:n=w.heap.size):∀ j u,[x][j]? = some u→(w.alloc (.cells #[x] t)).drew.cell? ((⟨n,0,none⟩ : Addr).add j)=some u:=by subst hn;exact cell_one_new w x t
theorem Q1s (w:World) (i:Nat):w.drew.heap[i]? = w.heap[i]?:=rfl
theorem Qen (w:World) (a:Addr) (u:Value) (k:Nat) (h:k≠a.block):(w.setCell a u).heap[k]? = w.heap[k]?:=Below.heap_setCell w a u k h
theorem Qtg (w:World) (a:Addr) (u:Value):(w.setCell a u).heap.size=w.heap.size:=by simp [World.setCell]
theorem Tryz.finish1_walk (al mk:Option Addr) (ca cm be oe ce B S:Nat) (w:World) (base:Nat) (hbase:base≤w.heap.size) (v:Value) (k:Nat) (xs:List Value) (hk:k≤10) (hown:w.ownsRow base 3 1 v k xs) (hvS:some S≠v.ownBlock) 
  (b0:w.cell? ⟨B,0,none⟩=some (.int .i64 0)) (b1:w.cell? ⟨B,1,none⟩=some (.int .i64 1)) (b2:w.cell? ⟨B,2,none⟩=some (.int .i64 1)) (hB:B<w.heap.size)
  (s0:Value) (hS:w.heap[S]? = some (.cells #[s0,.bool false] 4 (0,0))) (hBS:B≠S) :
  Calls Tryz.prog 92 #[.agg #[.slice al 2 ca,.int .i64 2,.slice mk 0 cm,.slice (some ⟨be,oe,none⟩) 1 ce,.slice (some ⟨B,0,none⟩) 3 3],.int .i64 1,.slice (some ⟨S,0,none⟩) 2 2,v] w fun e w'=>∃ g cap,e = .returned (.slice (some ⟨g,0,none⟩) (k+1) cap) ∧
   w'.ownsRow base 3 1 (.slice (some ⟨g,0,none⟩) (k+1) cap) (k+1) (xs++[.int .i64 1])∧w'.heap[S]? = some (.cells #[s0,.bool true] 4 (0,0))∧Far w w' (fun i=>i≠S∧some i≠v.ownBlock)∧(v.ownBlock=some g∨w.heap.size≤g):=by
 obtain ⟨i0,hi0,hz0,hz1,hz2⟩:=info_parts Tryz.int_parts;have hS1:w.cell? ⟨S,1,none⟩=some (.bool false):=by simp [World.cell?,hS]
 have hF1:w.frozen? ⟨S,1,none⟩=false:=by simp [World.frozen?,hS]
 have hSl:S<w.heap.size:=(Array.getElem?_eq_some_iff.1 hS).1;have hB1:B<w.heap.size+1:=by omega
 have hB2:B<w.heap.size+1+1:=by omega
 have hB3:B<w.heap.size+1+1+1:=by omega
 have hS1:S<w.heap.size+1:=by omega
 have hS2:S<w.heap.size+1+1:=by omega
 have hS3:S<w.heap.size+1+1+1:=by omega
 have hn0:B≠w.heap.size:=by omega
 have hn1:S≠w.heap.size:=by omega
 have hn0' : B≠w.heap.size+1:=by omega
 have hn1' : S≠w.heap.size+1:=by omega
 go_enter Tryz.func92,Tryz.ntmps92
 go_wp2
 refine wp_loop_rounds 2 ?_;rw [rounds_succ]
 go_wp2
 go_region
 all_goals
  go_wp2_with (
     at_builtin
     refine wpList_append_lies _ rfl (.tmp 45) (.tmp 50) _ rfl base 3 i0 _ 1 8 Tryz.underlying32 hi0 hz0 hz1 hz2 rfl (by omega) v k xs rfl ?_ _ 1 1 [.int .i64 1] rfl rfl ?_ ?_ (by omega) (by simp only [maxLen];omega) (by omega) ?_ _ rfl ?_
    )
  ·exact (((ownsRow_setCell_other hown (fun h=>hvS h.symm) _).alloc _).alloc _).alloc _
  ·exact Qbfk _ _ _ _ (by simp)
  ·simp [Value.oneCell']
  ·simp;omega
  ·intro g cap w1 hown1 hgrow hat hlt
   go_wp2
   rw [rounds_succ]
   go_wp2
   go_ret
   refine ⟨g,cap,rfl,hown1,?_,?_,?_⟩
   ·rw [hgrow.block S (by simp;omega) hvS]
    (repeat rw [Q1s])
    rw [Qbx _ _ _ (by simp;omega),Qbx _ _ _ (by simp;omega),Qbx _ _ _ (by simp;omega)];exact heap_setCell_same _ _ _ _ _ _ hS
   ·refine Far.trans ?_ (Far.ofGrown hgrow) (fun i _ h=>h.2);exact ((((Far.refl w (fun i=>i≠S∧some i≠v.ownBlock)).set ⟨S,1,none⟩ _ (fun k _ h=>h.1)).alloc _).alloc _).alloc _ |>.drew
   ·rcases hat with h|h
    ·exact .inl h
    ·right;omega
theorem Tryz.finish0_walk (al mk:Option Addr) (ca cm be oe ce B S:Nat) (w:World) (base:Nat) (hbase:base≤w.heap.size) (v:Value) (k:Nat) (xs:List Value) (hk:k≤10) (hown:w.ownsRow base 3 1 v k xs) (hvS:some S≠v.ownBlock) (e0:w.cell? ⟨be,oe,none⟩=some (.int .i64 0)) (e1:w.cell? ⟨be,oe+1,none⟩=some (.int .i64 0)) (e2:w.cell? ⟨be,oe+2,none⟩=some (.int .i64 0)) (hbe:be<w.heap.size) (hbS:be≠S) 
  (b0:w.cell? ⟨B,0,none⟩=some (.int .i64 0)) (b1:w.cell? ⟨B,1,none⟩=some (.int .i64 1)) (b2:w.cell? ⟨B,2,none⟩=some (.int .i64 1)) (hB:B<w.heap.size)
  (s0:Value) (hS:w.heap[S]? = some (.cells #[.bool false,s0] 4 (0,0))) (hBS:B≠S) :
  Calls Tryz.prog 92 #[.agg #[.slice al 2 ca,.int .i64 2,.slice mk 0 cm,.slice (some ⟨be,oe,none⟩) 1 ce,.slice (some ⟨B,0,none⟩) 3 3],.int .i64 0,.slice (some ⟨S,0,none⟩) 2 2,v] w fun e w'=>∃ g cap,e = .returned (.slice (some ⟨g,0,none⟩) (k+1) cap) ∧
   w'.ownsRow base 3 1 (.slice (some ⟨g,0,none⟩) (k+1) cap) (k+1) (xs++[.int .i64 0])∧w'.heap[S]? = some (.cells #[.bool true,s0] 4 (0,0))∧Far w w' (fun i=>i≠S∧some i≠v.ownBlock)∧(v.ownBlock=some g∨w.heap.size≤g):=by
 obtain ⟨i0,hi0,hz0,hz1,hz2⟩:=info_parts Tryz.int_parts;have hS1:w.cell? ⟨S,0,none⟩=some (.bool false):=by simp [World.cell?,hS]
 have hF1:w.frozen? ⟨S,0,none⟩=false:=by simp [World.frozen?,hS]
 have hSl:S<w.heap.size:=(Array.getElem?_eq_some_iff.1 hS).1;have hB1:B<w.heap.size+1:=by omega
 have hB2:B<w.heap.size+1+1:=by omega
 have hB3:B<w.heap.size+1+1+1:=by omega
 have hS1:S<w.heap.size+1:=by omega
 have hS2:S<w.heap.size+1+1:=by omega
 have hS3:S<w.heap.size+1+1+1:=by omega
 have hn0:B≠w.heap.size:=by omega
 have hn1:S≠w.heap.size:=by omega
 have hn0' : B≠w.heap.size+1:=by omega
 have hn1' : S≠w.heap.size+1:=by omega
 have hbe1:be<w.heap.size+1:=by omega
 have hbe2:be<w.heap.size+1+1:=by omega
 have hbe3:be<w.heap.size+1+1+1:=by omega
 have hn2:be≠w.heap.size:=by omega
 have hn2' : be≠w.heap.size+1:=by omega
 go_enter Tryz.func92,Tryz.ntmps92
 go_wp2
 refine wp_loop_rounds 3 ?_;rw [rounds_succ]
 go_wp2
 go_region
 all_goals
  go_wp2
  go_region
 all_goals
  go_wp2
  rw [rounds_succ]
  go_wp2
  go_region
 all_goals
  go_wp2_with (
     at_builtin
     refine wpList_append_lies _ rfl (.tmp 45) (.tmp 50) _ rfl base 3 i0 _ 1 8 Tryz.underlying32 hi0 hz0 hz1 hz2 rfl (by omega) v k xs rfl ?_ _ 1 1 [.int .i64 0] rfl rfl ?_ ?_ (by omega) (by simp only [maxLen];omega) (by omega) ?_ _ rfl ?_
    )
  ·exact (((ownsRow_setCell_other hown (fun h=>hvS h.symm) _).alloc _).alloc _).alloc _
  ·exact Qbfk _ _ _ _ (by simp)
  ·simp [Value.oneCell']
  ·simp;omega
  ·intro g cap w1 hown1 hgrow hat hlt
   go_wp2
   rw [rounds_succ]
   go_wp2
   go_ret
   refine ⟨g,cap,rfl,hown1,?_,?_,?_⟩
   ·rw [hgrow.block S (by simp;omega) hvS]
    (repeat rw [Q1s])
    rw [Qbx _ _ _ (by simp;omega),Qbx _ _ _ (by simp;omega),Qbx _ _ _ (by simp;omega)];exact heap_setCell_same _ _ _ _ _ _ hS
   ·refine Far.trans ?_ (Far.ofGrown hgrow) (fun i _ h=>h.2);exact ((((Far.refl w (fun i=>i≠S∧some i≠v.ownBlock)).set ⟨S,0,none⟩ _ (fun k _ h=>h.1)).alloc _).alloc _).alloc _ |>.drew.drew.drew
   ·rcases hat with h|h
    ·exact .inl h
    ·right;omega
end Go.Proofs
end
section
namespace Go.Proofs
open Go.Shelf Go.RowKit Go.Lib Go.Sort Go.Abs
set_option maxRecDepth 100000
set_option maxHeartbeats 4000000
theorem Tryz.ins_few (n:Nat) (hn:n≤1) (p:Option Addr) (cap:Nat) (fv:Value) (w:World) :
  Calls Tryz.prog 133 #[.slice p n cap,.int .i64 0,.int .i64 n,fv] w fun e w'=>e = .returned (.tuple #[])∧w'=w:=by
 obtain rfl|rfl:n=0∨n=1:=by omega
 all_goals
  go_enter Tryz.func133,Tryz.ntmps133
  go_wp2
  refine wp_loop_rounds 1 ?_;rw [rounds_succ]
  go_wp2
  go_end0
  exact ⟨rfl,rfl⟩
theorem Tryz.pdq_few (n:Nat) (hn:n≤1) (p:Option Addr) (cap:Nat) (lim:Int) (fv:Value) (w:World) :
  Calls Tryz.prog 98 #[.slice p n cap,.int .i64 0,.int .i64 n,.int .i64 lim,fv] w fun e w'=>e = .returned (.tuple #[])∧w'=w:=by
 have hi:=fun W=>Tryz.ins_few n hn p cap fv W;obtain rfl|rfl:n=0∨n=1:=by omega
 all_goals
  go_enter Tryz.func98,Tryz.ntmps98
  go_wp2
  refine wp_loop_rounds 1 ?_;rw [rounds_succ]
  go_wp2_with (go_at_call 133;refine (hi _).mono ?_;rintro e w' ⟨rfl,rfl⟩)
  (try simp only [Exit.inBlock,Exit.then]);refine bodyPost_ret (results_none rfl _ _ _) rfl ?_
  exact ⟨rfl,rfl⟩
theorem Tryz.sort_few (n:Nat) (hn:n≤1) (p:Option Addr) (cap:Nat) (fv:Value) (w:World) :
  Calls Tryz.prog 60 #[.slice p n cap,fv] w fun e w'=>e = .returned (.tuple #[])∧w'=w:=by
 have hp:=fun lim W=>Tryz.pdq_few n hn p cap lim fv W;obtain rfl|rfl:n=0∨n=1:=by omega
 all_goals
  go_enter Tryz.func60,Tryz.ntmps60
  go_wp2_with (first|(go_at_call 99;refine (Tryz.bits_Len _ _ (by omega) (by omega)).mono ?_;rintro e w' ⟨rfl,rfl⟩)|(go_at_call 98;refine (hp _ _).mono ?_;rintro e w' ⟨rfl,rfl⟩))
  go_end0
  exact ⟨rfl,rfl⟩
theorem Tryz.sortRK:Go.Abs.K_slices_SortFunc___int Tryz.prog 60 Qbj4:=by
 intro l r h;unfold Qbj4 at h;split at h<;>cases h;rename_i hl;intro M nb;refine ACalls.mk' (by kernel_rfl) (Nat.le_refl _) rfl fun w g us hm hMon hus hfl hons=>?_;obtain ⟨u,us',rfl,hu,u2,us2,rfl,hu2,hus2⟩:=hus;have h0:us2=[]:=hus2;subst h0;have hu:=RF_d.1 hu;simp only [RD] at hu;obtain ⟨a,cap,rfl,_,_⟩:=hu;refine Calls.mono (Tryz.sort_few _ (by simpa using hl) a cap u2 w) ?_;rintro e w' ⟨rfl,rfl⟩;exact ⟨_,g,rfl,hm,⟨[],rfl,rfl⟩,trivial,hMon,Fr.refl _ _ _⟩
end Go.Proofs
end
section
namespace Go.Proofs
open Go.Shelf Go.RowKit Go.Lib Go.Sort Go.Abs
set_option maxRecDepth 100000
set_option maxHeartbeats 4000000
theorem Tryz.insI_few (n:Nat) (hn:n≤1) (p:Option Addr) (cap:Nat) (w:World) :
  Calls Tryz.prog 149 #[.slice p n cap,.int .i64 0,.int .i64 n] w fun e w'=>e = .returned (.tuple #[])∧w'=w:=by
 obtain rfl|rfl:n=0∨n=1:=by omega
 all_goals
  go_enter Tryz.func149,Tryz.ntmps149
  go_wp2
  refine wp_loop_rounds 1 ?_;rw [rounds_succ]
  go_wp2
  go_end0
  exact ⟨rfl,rfl⟩
theorem Tryz.pdqI_few (n:Nat) (hn:n≤1) (p:Option Addr) (cap:Nat) (lim:Int) (w:World) :
  Calls Tryz.prog 131 #[.slice p n cap,.int .i64 0,.int .i64 n,.int .i64 lim] w fun e w'=>e = .returned (.tuple #[])∧w'=w:=by
 have hi:=fun W=>Tryz.insI_few n hn p cap W;obtain rfl|rfl:n=0∨n=1:=by omega
 all_goals
  go_enter Tryz.func131,Tryz.ntmps131
  go_wp2
  refine wp_loop_rounds 1 ?_;rw [rounds_succ]
  go_wp2_with (go_at_call 149;refine (hi _).mono ?_;rintro e w' ⟨rfl,rfl⟩)
  (try simp only [Exit.inBlock,Exit.then]);refine bodyPost_ret (results_none rfl _ _ _) rfl ?_
  exact ⟨rfl,rfl⟩
theorem Tryz.sortI_few (n:Nat) (hn:n≤1) (p:Option Addr) (cap:Nat) (w:World) :
  Calls Tryz.prog 94 #[.slice p n cap] w fun e w'=>e = .returned (.tuple #[])∧w'=w:=by
 have hp:=fun lim W=>Tryz.pdqI_few n hn p cap lim W;obtain rfl|rfl:n=0∨n=1:=by omega
 all_goals
  go_enter Tryz.func94,Tryz.ntmps94
  go_wp2_with (first|(go_at_call 99;refine (Tryz.bits_Len _ _ (by omega) (by omega)).mono ?_;rintro e w' ⟨rfl,rfl⟩)|(go_at_call 131;refine (hp _ _).mono ?_;rintro e w' ⟨rfl,rfl⟩))
  go_end0
  exact ⟨rfl,rfl⟩
theorem Qzl {α:Type} [Inhabited α] (enc:α→Value) (w:World) (blk off m:Nat) (d:Array α) (os:Array Obj):Far w (sortWorld enc w blk off m d os) (fun k=>k≠blk):=by
 unfold sortWorld;refine ⟨rfl,rfl,rfl,by simp [grow],fun k hk hne=>?_⟩;rw [heap_grow_old _ _ (by simpa using hk)];have:blk≠k:=fun e=>hne e.symm;simp [putRow,mapBlock,Sort.ahead,Array.getElem?_modify,this]
theorem Tryz.less_walk (A B:Nat) (ca cb:Nat) (x y:Int) (w:World) (ha:w.cell? ⟨A,0,none⟩=some (.int .i64 x)) (hb:w.cell? ⟨B,0,none⟩=some (.int .i64 y)) :
  Calls Tryz.prog 95 #[.slice (some ⟨A,0,none⟩) 1 ca,.slice (some ⟨B,0,none⟩) 1 cb] w fun e w'=>e = .returned (.int .i64 (wrap64 (x-y)))∧∃ q,w'=w.drewN q:=by
 go_enter Tryz.func95,Tryz.ntmps95
 go_wp2
 go_region
 all_goals
  go_wp2
  go_ret
  first|exact ⟨rfl,1,rfl⟩|exact ⟨rfl,0,rfl⟩|exact ⟨rfl,2,rfl⟩|trace_state
def rowS (A0 A1 c0 c1:Nat) (b:Bool):Value:=if b then .slice (some ⟨A1,0,none⟩) 1 c1 else .slice (some ⟨A0,0,none⟩) 1 c0
theorem Tryz.two_sorted (g cap A0 A1 c0 c1:Nat) (w:World) (h0:w.cell? ⟨A0,0,none⟩=some (.int .i64 0)) (h1:w.cell? ⟨A1,0,none⟩=some (.int .i64 1)) (e0:A0≠g) (e1:A1≠g)
  (hA0:A0<w.heap.size) (hA1:A1<w.heap.size) (hg:g<w.heap.size)
  (k0:w.cell? ⟨g,0,none⟩=some (rowS A0 A1 c0 c1 true)) (k1:w.cell? ⟨g,1,none⟩=some (rowS A0 A1 c0 c1 false)) (f:∀ i,w.frozen? ⟨g,i,none⟩=false) :
  Calls Tryz.prog 60 #[.slice (some ⟨g,0,none⟩) 2 cap,.func (.func 95) #[] #[]] w fun e w'=>e = .returned (.tuple #[])∧Far w w' (fun k=>k≠g)∧w'.cell? ⟨g,0,none⟩=some (rowS A0 A1 c0 c1 false)∧w'.cell? ⟨g,1,none⟩=some (rowS A0 A1 c0 c1 true):=by
 have hH:Holds (rowS A0 A1 c0 c1) w g 0 #[true,false]:=by
  intro j hj;have:j=0∨j=1:=by simp at hj;omega
  rcases this with rfl|rfl
  ·exact ⟨k0,f 0⟩
  ·exact ⟨k1,f 1⟩
 refine Calls.mono (Tryz.slices_SortFunc_eq (rowS A0 A1 c0 c1) (fun b=>by cases b<;>rfl) (fun a b=>(if a then 1 else 0)-(if b then 1 else 0)) ⟨by decide,by decide,by decide⟩ 95 #[] g 0 cap #[true,false] w (enters_of Tryz.func95 (by kernel_rfl) rfl) ?_ hH hg (by simp)) ?_
 ·intro m os dk hs x y;have hF:=Qzl (rowS A0 A1 c0 c1) w g 0 m dk os;have c0':=(hF.cell hA0 e0 0).trans h0;have c1':=(hF.cell hA1 e1 0).trans h1;cases x<;>cases y
  ·exact (Tryz.less_walk _ _ _ _ _ _ _ c0' c0').mono (by rintro e w' ⟨rfl,q,rfl⟩;exact ⟨by kernel_rfl,q,#[],by rw [grow_empty]⟩)
  ·exact (Tryz.less_walk _ _ _ _ _ _ _ c0' c1').mono (by rintro e w' ⟨rfl,q,rfl⟩;exact ⟨by kernel_rfl,q,#[],by rw [grow_empty]⟩)
  ·exact (Tryz.less_walk _ _ _ _ _ _ _ c1' c0').mono (by rintro e w' ⟨rfl,q,rfl⟩;exact ⟨by kernel_rfl,q,#[],by rw [grow_empty]⟩)
  ·exact (Tryz.less_walk _ _ _ _ _ _ _ c1' c1').mono (by rintro e w' ⟨rfl,q,rfl⟩;exact ⟨by kernel_rfl,q,#[],by rw [grow_empty]⟩)
 ·rintro e w' ⟨rfl,n,os,rfl⟩;have hp:pdq (ltOf fun a b:Bool=>(if a then (1:Int) else 0)-(if b then 1 else 0)) #[true,false] 0 (#[true,false]:Array Bool).size (Lib.bitLen (#[true,false]:Array Bool).size) true true = #[false,true]:=by kernel_rfl
  have hK:=holds_putRow (rowS A0 A1 c0 c1) (Sort.ahead w n) g 0 #[true,false] #[false,true] hH rfl;refine ⟨rfl,Qzl _ _ _ _ _ _ _,?_,?_⟩
  ·unfold sortWorld;rw [hp,cell?_grow _ _ _ (by simpa using hg)];exact (hK 0 (by simp)).1
  ·unfold sortWorld;rw [hp,cell?_grow _ _ _ (by simpa using hg)];exact (hK 1 (by simp)).1
end Go.Proofs
end
section
namespace Go.Proofs
open Go.RowKit Go.Maps Go.Sort Go.Shelf
attribute [local go_sem] Oper.semAt_some
def Keep2 (b o:Nat) (A B:World):Prop:=B.heap[b]? = A.heap[b]? ∧ B.heap[o]? = A.heap[o]?
theorem Keep2.refl {b o:Nat} (A:World):Keep2 b o A A:=⟨rfl,rfl⟩
theorem Keep2.trans {b o:Nat} {A B C:World} (h:Keep2 b o A B) (k:Keep2 b o B C):Keep2 b o A C:=⟨k.1.trans h.1,k.2.trans h.2⟩
theorem Keep2.box {b o:Nat} {A B:World} (h:Keep2 b o A B) (i:Nat):B.cell? ⟨b,i,none⟩=A.cell? ⟨b,i,none⟩:=by simp [World.cell?,h.1]
theorem Keep2.row {b o:Nat} {A B:World} (h:Keep2 b o A B) (i:Nat):B.cell? ⟨o,i,none⟩=A.cell? ⟨o,i,none⟩:=by simp [World.cell?,h.2]
def stN (b:Bool):Int:=if b then 1 else 0
set_option maxRecDepth 100000 in
set_option maxHeartbeats 2000000 in
theorem Tryz.back_stops (F:Fence) (n:Nat) (h7:F.fn 130) (hro:F.round=none) (hn:1≤n) (Bs O cap:Nat) (w:World) (hBs:Bs<w.heap.size) (hO:O<w.heap.size)
  (hc:w.cell? ⟨Bs,0,none⟩=some (.slice (some ⟨O,0,none⟩) 2 cap)) (o0:w.cell? ⟨O,0,none⟩=some (.int .i64 0)) (o1:w.cell? ⟨O,1,none⟩=some (.int .i64 1)) :
  SeqStopsK F n Tryz.prog 130 #[.pointer (some ⟨Bs,0,none⟩)] (fun x:Bool=>#[Value.int .i64 (stN x),Value.int .i64 (stN x)]) (Keep2 Bs O) (fun ys=>ys=[true,false]) (fun _=>True) 2 w:=by
 intro l J Jx W hW _ _ hY h0;have c0:=(hW.cell (p:=⟨Bs,0,none⟩) hBs).trans hc;have c1:=(hW.cell (p:=⟨O,0,none⟩) hO).trans o0;have c2:=(hW.cell (p:=⟨O,1,none⟩) hO).trans o1;refine CallsIn.mono (R:=fun e W'=>(∃ v,e = .returned v)∧(J [true,false] W' ∨ ∃ pre,Jx pre W')) ?_ (fun e W' ⟨h1,h2⟩=>⟨h1,h2.elim (fun h=>.inl ⟨_,rfl,h⟩) (fun ⟨p,h⟩=>.inr ⟨p,trivial,h⟩)⟩);show CallsIn F n Tryz.prog 130 #[.func (.yield l) #[] #[],.pointer (some ⟨Bs,0,none⟩)] W _;refine callsIn_of_wp Tryz.func130 rfl h7 ?_ hro;simp only [Tryz.ntmps130,List.size_toArray,List.length_cons,List.length_nil,Nat.reduceAdd,Nat.reduceSub,Array.replicate_succ,Array.replicate_zero,List.push_toArray,List.append_toArray,List.nil_append,List.cons_append]
 gi_wp2
 gi_loopw [3] (fun i wr=>Keep2 Bs O W wr∧((i = .int .i64 1∧J [] wr)∨(i = .int .i64 0∧J [true] wr)∨(i = .int .i64 (-1)∧J [true,false] wr)))
  (fun i _=>(intOf i+1).toNat)
 case atStart=>exact ⟨Keep2.refl _,.inl ⟨rfl,h0⟩⟩
 case round =>
  obtain ⟨hk,⟨rfl,hJ⟩|⟨rfl,hJ⟩|⟨rfl,hJ⟩⟩:=hrel
  ·obtain ⟨fn,tmps,assign,body,hy,hR⟩:=hY _ true wr hJ (by simp);have d0:=(hk.box 0).trans c0;have d2:=(hk.row 1).trans c2;simp only [stN,if_true] at hy
   gi_wp2
   refine hR.mono ?_;rintro e W3 (⟨rfl,hJ3,hk3⟩|⟨rfl,hJx3⟩)
   ·gi_wp2
    go_roundw
    case rel=>exact ⟨hk.trans hk3,.inr (.inl ⟨by simp,hJ3⟩)⟩
    case measure=>simp [intOf]
   ·gi_wp2
    refine bodyPost_ret (results_none rfl _ _ _) rfl ?_;exact ⟨⟨_,rfl⟩,.inr ⟨_,hJx3⟩⟩
  ·obtain ⟨fn,tmps,assign,body,hy,hR⟩:=hY _ false wr hJ (by simp);have d0:=(hk.box 0).trans c0;have d1:=(hk.row 0).trans c1;simp only [stN,if_false,Bool.false_eq_true] at hy
   gi_wp2
   refine hR.mono ?_;rintro e W3 (⟨rfl,hJ3,hk3⟩|⟨rfl,hJx3⟩)
   ·gi_wp2
    go_roundw
    case rel=>exact ⟨hk.trans hk3,.inr (.inr ⟨by simp,hJ3⟩)⟩
    case measure=>simp [intOf]
   ·gi_wp2
    refine bodyPost_ret (results_none rfl _ _ _) rfl ?_;exact ⟨⟨_,rfl⟩,.inr ⟨_,hJx3⟩⟩
  ·gi_wp2
   go_end0
   exact ⟨⟨_,rfl⟩,.inl hJ⟩
end Go.Proofs
end
section
namespace Go.Proofs
open Go.Shelf Go.RowKit Go.Lib Go.Sort Go.Abs
set_option maxRecDepth 100000
set_option maxHeartbeats 1000000
theorem Tryz.index_at (ba oa ca:Nat) (w:World) (a0:w.cell? ⟨ba,oa,none⟩=some (.int .i64 0)) (a1:w.cell? ⟨ba,oa+1,none⟩=some (.int .i64 1)) :
  Calls Tryz.prog 118 #[.slice (some ⟨ba,oa,none⟩) 2 ca,.int .i64 0] w fun e w'=>e = .returned (.int .i64 0)∧Below w.heap.size w w':=by
 go_enter Tryz.func118,Tryz.ntmps118
 go_wp2
 refine wp_loop_rounds 1 ?_;rw [rounds_succ]
 go_wp2
 go_ret
 exact ⟨rfl,Below.refl _ _⟩
theorem Tryz.contains_at (ba oa ca:Nat) (w:World) (a0:w.cell? ⟨ba,oa,none⟩=some (.int .i64 0)) (a1:w.cell? ⟨ba,oa+1,none⟩=some (.int .i64 1)) :
  Calls Tryz.prog 87 #[.slice (some ⟨ba,oa,none⟩) 2 ca,.int .i64 0] w fun e w'=>e = .returned (.bool true)∧Below w.heap.size w w':=by
 go_enter Tryz.func87,Tryz.ntmps87
 go_wp2_with (go_at_call 118;refine (Tryz.index_at ba oa ca _ a0 a1).mono ?_;rintro e w1 ⟨rfl,hb1⟩)
 go_ret
 exact ⟨rfl,hb1⟩
theorem Tryz.set_at (ba oa ca:Nat) (w:World) (a0:w.cell? ⟨ba,oa,none⟩=some (.int .i64 0)) (a1:w.cell? ⟨ba,oa+1,none⟩=some (.int .i64 1)) :
  Calls Tryz.prog 110 #[.slice (some ⟨ba,oa,none⟩) 2 ca,.int .i64 32] w fun e w'=>e = .returned (.int .i64 0)∧Below w.heap.size w w':=by
 go_enter Tryz.func110,Tryz.ntmps110
 go_wp2
 refine wp_loop_rounds 3 ?_;rw [rounds_succ]
 go_wp2
 rw [rounds_succ]
 go_wp2
 rw [rounds_succ]
 go_wp2
 go_ret
 exact ⟨rfl,Below.refl _ _⟩
theorem Tryz.set_none (p:Option Addr) (ca:Nat) (n:Int) (w:World) :
  Calls Tryz.prog 110 #[.slice p 0 ca,.int .i64 n] w fun e w'=>e = .returned (.int .i64 0)∧Below w.heap.size w w':=by
 go_enter Tryz.func110,Tryz.ntmps110
 go_wp2
 refine wp_loop_rounds 1 ?_;rw [rounds_succ]
 go_wp2
 go_ret
 exact ⟨rfl,Below.refl _ _⟩
theorem Tryz.edges_at (ba oa ca be oe ce cm:Nat) (mk:Option Addr) (w:World) (hba:ba<w.heap.size) (hbe:be<w.heap.size) (a0:w.cell? ⟨ba,oa,none⟩=some (.int .i64 0)) (a1:w.cell? ⟨ba,oa+1,none⟩=some (.int .i64 1))
  (e0:w.cell? ⟨be,oe,none⟩=some (.int .i64 0)) (e1:w.cell? ⟨be,oe+1,none⟩=some (.int .i64 0)) (e2:w.cell? ⟨be,oe+2,none⟩=some (.int .i64 0)) :
  Calls Tryz.prog 111 #[.agg #[.slice (some ⟨ba,oa,none⟩) 2 ca,.int .i64 2,.slice mk 0 cm,.slice (some ⟨be,oe,none⟩) 1 ce]] w fun e w'=>e = .returned (.int .i64 0)∧Below w.heap.size w w':=by
 have hb1:be<w.heap.size+1:=by omega
 have hb2:be<w.heap.size+1+1:=by omega
 have hn0:be≠w.heap.size:=by omega
 have hn1:be≠w.heap.size+1:=by omega
 have ha1:ba<w.heap.size+1:=by omega
 have ha2:ba<w.heap.size+1+1:=by omega
 have hm0:ba≠w.heap.size:=by omega
 have hm1:ba≠w.heap.size+1:=by omega
 have hX:=fun o1 o2=>(((Below.refl w.heap.size w).alloc (Nat.le_refl _) o1).alloc (by simp) o2);have hc:=fun W h0 h1=>Tryz.contains_at ba oa ca W h0 h1
 go_enter Tryz.func111,Tryz.ntmps111
 go_wp2
 refine wp_loop_rounds 2 ?_;rw [rounds_succ]
 go_wp2_with (go_at_call 87;refine (hc _ (((hX _ _).cell (p:=⟨ba,oa,none⟩) hba).trans a0) (((hX _ _).cell (p:=⟨ba,oa+1,none⟩) hba).trans a1)).mono ?_;rintro e w1 ⟨rfl,hb1⟩)
 rw [rounds_succ]
 go_wp2
 go_ret
 refine ⟨rfl,?_⟩;exact (((Below.refl _ w).alloc (Nat.le_refl _) _).alloc (by simp) _).trans (hb1.mono (by simp;omega))
theorem Qyf {w W:World} {x0 x1 x2 x3:Value} {t:TypeId} (h:Below (w.heap.size+1) (w.alloc (.cells #[x0,x1,x2,x3] t)) W) :
  W.cell? ⟨w.heap.size,0,none⟩=some x0∧W.cell? ⟨w.heap.size,1,none⟩=some x1∧W.cell? ⟨w.heap.size,2,none⟩=some x2∧W.cell? ⟨w.heap.size,3,none⟩=some x3:=by
 refine ⟨(h.cell (p:=⟨_,_,none⟩) (by simp)).trans ?_,(h.cell (p:=⟨_,_,none⟩) (by simp)).trans ?_,(h.cell (p:=⟨_,_,none⟩) (by simp)).trans ?_,(h.cell (p:=⟨_,_,none⟩) (by simp)).trans ?_⟩<;>(simp only [World.cell?,heap_alloc_new];rfl)
theorem Tryz.check_at (ba oa ca be oe ce cm:Nat) (mk:Option Addr) (w:World) (hba:ba<w.heap.size) (hbe:be<w.heap.size) (a0:w.cell? ⟨ba,oa,none⟩=some (.int .i64 0)) (a1:w.cell? ⟨ba,oa+1,none⟩=some (.int .i64 1))
  (e0:w.cell? ⟨be,oe,none⟩=some (.int .i64 0)) (e1:w.cell? ⟨be,oe+1,none⟩=some (.int .i64 0)) (e2:w.cell? ⟨be,oe+2,none⟩=some (.int .i64 0)) :
  Calls Tryz.prog 79 #[.agg #[.slice (some ⟨ba,oa,none⟩) 2 ca,.int .i64 2,.slice mk 0 cm,.slice (some ⟨be,oe,none⟩) 1 ce]] w fun e w'=>e = .returned (.int .i64 0)∧Below w.heap.size w w':=by
 have h0:Below w.heap.size w (w.alloc (.cells #[.slice (some ⟨ba,oa,none⟩) 2 ca,.int .i64 2,.slice mk 0 cm,.slice (some ⟨be,oe,none⟩) 1 ce] 35)):=(Below.refl _ w).alloc (Nat.le_refl _) _
 go_enter Tryz.func79,Tryz.ntmps79
 go_wp2_with (first
  | (go_at_call 110;have _:=hb1.size;refine (Tryz.set_none mk cm 2 _).mono ?_;rintro e' w2 ⟨rfl,hb2'⟩;have hb2:=hb1.trans (hb2'.mono (by have:=hb1.size;simp at this;omega));obtain ⟨g0',g1',g2',g3'⟩:=Qyf hb2)
  | (go_at_call 110;refine (Tryz.set_at ba oa ca _ ((h0.cell hba).trans a0) ((h0.cell hba).trans a1)).mono ?_;rintro e' w1 ⟨rfl,hb1⟩;replace hb1:=hb1.mono (B':=w.heap.size+1) (by simp);obtain ⟨g0,g1,g2,g3⟩:=Qyf hb1)
  | (go_at_call 111;refine (Tryz.edges_at ba oa ca be oe ce cm mk _ (by have:=hb2.size;simp at this;omega) (by have:=hb2.size;simp at this;omega) ((hb2.cell (p:=⟨_,_,none⟩) (by simp;omega)).trans ((h0.cell hba).trans a0)) ((hb2.cell (p:=⟨_,_,none⟩) (by simp;omega)).trans ((h0.cell hba).trans a1)) ((hb2.cell (p:=⟨_,_,none⟩) (by simp;omega)).trans ((h0.cell hbe).trans e0)) ((hb2.cell (p:=⟨_,_,none⟩) (by simp;omega)).trans ((h0.cell hbe).trans e1)) ((hb2.cell (p:=⟨_,_,none⟩) (by simp;omega)).trans ((h0.cell hbe).trans e2))).mono ?_;rintro e' w3 ⟨rfl,hb3⟩))
 go_ret
 exact ⟨rfl,(h0.trans (hb2.mono (by omega))).trans (hb3.mono (by have:=hb2.size;simp at this;omega))⟩
end Go.Proofs
end
section
namespace Go.Proofs
open Go.Shelf Go.RowKit Go.Lib Go.Sort Go.Abs
set_option maxRecDepth 100000
set_option maxHeartbeats 4000000
theorem Qbho {w:World} {n:Nat} {x0 x1 x2 x3 x4:Value} {t:TypeId} (h:w.heap[n]? = some (.cells #[x0,x1,x2,x3,x4] t (0,0))) :
  w.cell? ⟨n,0,none⟩=some x0∧w.cell? ⟨n,1,none⟩=some x1∧w.cell? ⟨n,2,none⟩=some x2∧w.cell? ⟨n,3,none⟩=some x3∧w.cell? ⟨n,4,none⟩=some x4:=by
 refine ⟨?_,?_,?_,?_,?_⟩<;>(simp only [World.cell?,h];rfl)
theorem Q3y {w:World} {n:Nat} {x0 x1:Value} {t:TypeId} (h:w.heap[n]? = some (.cells #[x0,x1] t (0,0))):w.cell? ⟨n,0,none⟩=some x0∧w.cell? ⟨n,1,none⟩=some x1:=by
 refine ⟨?_,?_⟩<;>(simp only [World.cell?,h];rfl)
theorem Qkl {w:World} {n:Nat} {x0:Value} {t:TypeId} (h:w.heap[n]? = some (.cells #[x0] t (0,0))):w.cell? ⟨n,0,none⟩=some x0:=by simp only [World.cell?,h];rfl
theorem Q8m {w:World} {n:Nat} {x0 x1 x2:Value} {t:TypeId} (h:w.heap[n]? = some (.cells #[x0,x1,x2] t (0,0))):w.cell? ⟨n,0,none⟩=some x0∧w.cell? ⟨n,1,none⟩=some x1∧w.cell? ⟨n,2,none⟩=some x2:=by
 refine ⟨?_,?_,?_⟩<;>(simp only [World.cell?,h];rfl)
theorem Q6w {w5 W w6:World} {n0 n1 i0 x0 x1 x2:Value} {o:Obj} {t1 t2 t3:TypeId} (hg:W.grownBy w6 none)
  (hW:W.heap=((((w5.alloc (.cells #[n0,n1] t1 (0,0))).alloc (.cells #[i0] t2 (0,0))).alloc (.cells #[x0,x1,x2] t3 (0,0))).alloc o).heap) :
  w6.heap[w5.heap.size]? = some (.cells #[n0,n1] t1 (0,0))∧w6.heap[w5.heap.size+1]? = some (.cells #[i0] t2 (0,0))∧w6.cell? ⟨w5.heap.size,0,none⟩=some n0∧w6.cell? ⟨w5.heap.size,1,none⟩=some n1∧w6.frozen? ⟨w5.heap.size,0,none⟩=false ∧
   w6.cell? ⟨w5.heap.size+1,0,none⟩=some i0∧w6.cell? ⟨w5.heap.size+1+1,0,none⟩=some x0∧w6.cell? ⟨w5.heap.size+1+1,1,none⟩=some x1∧w6.cell? ⟨w5.heap.size+1+1,2,none⟩=some x2:=by
 have hN6:w6.heap[w5.heap.size]? = some (.cells #[n0,n1] t1 (0,0)):=(hg.block w5.heap.size (by rw [hW];simp<;>omega) (by simp)).trans (by rw [hW];exact (Qbx _ _ _ (by simp<;>omega)).trans ((Qbx _ _ _ (by simp<;>omega)).trans ((Qbx _ _ _ (by simp)).trans (Qhg _ _ _ rfl))));have hI6:w6.heap[w5.heap.size+1]? = some (.cells #[i0] t2 (0,0)):=(hg.block (w5.heap.size+1) (by rw [hW];simp<;>omega) (by simp)).trans (by rw [hW];exact (Qbx _ _ _ (by simp<;>omega)).trans ((Qbx _ _ _ (by simp)).trans (Qhg _ _ _ (by simp))));have hx6:w6.heap[w5.heap.size+1+1]? = some (.cells #[x0,x1,x2] t3 (0,0)):=(hg.block (w5.heap.size+1+1) (by rw [hW];simp<;>omega) (by simp)).trans (by rw [hW];exact (Qbx _ _ _ (by simp)).trans (Qhg _ _ _ (by simp)));obtain ⟨k0,k1⟩:=Q3y hN6;obtain ⟨y0,y1,y2⟩:=Q8m hx6;exact ⟨hN6,hI6,k0,k1,by simp [World.frozen?,hN6],Qkl hI6,y0,y1,y2⟩
theorem Qqt (w:World) (a:Addr) (u:Value) (b i:Nat) (h:b≠a.block):(w.setCell a u).cell? ⟨b,i,none⟩=w.cell? ⟨b,i,none⟩:=by simp only [World.cell?];rw [Qen _ _ _ _ h]
theorem Qblh {w5 W:World} {n0 n1 i0 x0 x1 x2:Value} {o:Obj} {t1 t2 t3:TypeId}
  (hW:W.heap=((((w5.alloc (.cells #[n0,n1] t1 (0,0))).alloc (.cells #[i0] t2 (0,0))).alloc (.cells #[x0,x1,x2] t3 (0,0))).alloc o).heap) :
  W.cell? ⟨w5.heap.size+1,0,none⟩=some i0∧W.cell? ⟨w5.heap.size+1+1,0,none⟩=some x0∧W.cell? ⟨w5.heap.size+1+1,2,none⟩=some x2:=by
 obtain ⟨_,_,k0,_,f,k1,y0,_,y2⟩:=Q6w (World.grownBy.refl W none) hW;exact ⟨k1,y0,y2⟩
theorem Qbj6 {w5 W:World} {n0 n1 i0 x0 x1 x2:Value} {t1 t2 t3:TypeId}
  (hW:W.heap=(((w5.alloc (.cells #[n0,n1] t1 (0,0))).alloc (.cells #[i0] t2 (0,0))).alloc (.cells #[x0,x1,x2] t3 (0,0))).heap) :
  W.cell? ⟨w5.heap.size+1,0,none⟩=some i0∧W.cell? ⟨w5.heap.size+1+1,0,none⟩=some x0∧W.cell? ⟨w5.heap.size+1+1,2,none⟩=some x2:=by
 have hN:W.heap[w5.heap.size]? = some (.cells #[n0,n1] t1 (0,0)):=by rw [hW];exact (Qbx _ _ _ (by simp<;>omega)).trans ((Qbx _ _ _ (by simp)).trans (Qhg _ _ _ rfl))
 have hI:W.heap[w5.heap.size+1]? = some (.cells #[i0] t2 (0,0)):=by rw [hW];exact (Qbx _ _ _ (by simp)).trans (Qhg _ _ _ (by simp))
 have hx:W.heap[w5.heap.size+1+1]? = some (.cells #[x0,x1,x2] t3 (0,0)):=by rw [hW];exact Qhg _ _ _ (by simp)
 obtain ⟨y0,y1,y2⟩:=Q8m hx;exact ⟨Qkl hI,y0,y2⟩
theorem Qzm {w:World} {base g cap n:Nat} {t:TypeId} {xs:List Value} (h:w.ownsRow base t 1 (.slice (some ⟨g,0,none⟩) n cap) n xs) {i:Nat} {x:Value} (hx:xs[i]? = some x):w.cell? ⟨g,i,none⟩=some x:=by
 have:=h.cells (g:=g) rfl i x hx;cases i<;>simpa [Addr.add] using this
theorem Qbbp {w:World} {base g cap n:Nat} {t:TypeId} {xs:List Value} (h:w.ownsRow base t 1 (.slice (some ⟨g,0,none⟩) n cap) n xs) (hn:0<n):base≤g∧g<w.heap.size∧n≤cap:=by
 rcases h.2 with ⟨_,h0⟩|⟨g',cap',cur,hv,hb,hg,hc,_⟩
 ·omega
 ·cases hv;exact ⟨hb,(Array.getElem?_eq_some_iff.1 hg).1,hc⟩
theorem Qbl8 {w5 W w6:World} {n1 i0 x0 x1 x2:Value} {o:Obj} {t1 t2 t3:TypeId} {g cap:Nat} (hown:w6.ownsRow w5.heap.size 3 1 (.slice (some ⟨g,0,none⟩) (0+1) cap) (0+1) ([]++[.int .i64 0])) (hg:W.grownBy w6 none)
  (hW:W.heap=((((w5.alloc (.cells #[.slice none 0 0,n1] t1 (0,0))).alloc (.cells #[i0] t2 (0,0))).alloc (.cells #[x0,x1,x2] t3 (0,0))).alloc o).heap) (ho:W.os=w5.os) (ht:W.tape=w5.tape) (hp:W.output=w5.output)
  (hat:(Value.slice none 0 0).ownBlock=some g∨g=W.heap.size) (v:Value) :
  Below w5.heap.size w5 (w6.setCell ⟨w5.heap.size,0,none⟩ v)∧w5.heap.size+4≤g∧g<(w6.setCell ⟨w5.heap.size,0,none⟩ v).heap.size∧1≤cap∧(w6.setCell ⟨w5.heap.size,0,none⟩ v).cell? ⟨g,0,none⟩=some (.int .i64 0) ∧
   (w6.setCell ⟨w5.heap.size,0,none⟩ v).heap[w5.heap.size]? = some (.cells #[v,n1] t1 (0,0))∧(w6.setCell ⟨w5.heap.size,0,none⟩ v).heap[w5.heap.size+1]? = some (.cells #[i0] t2 (0,0)):=by
 obtain ⟨hN,hI,_⟩:=Q6w hg hW;have hs:W.heap.size=w5.heap.size+4:=by rw [hW];simp
 have hgl:w5.heap.size+4≤g:=by
  rcases hat with h|h
  ·simp [Value.ownBlock] at h
  ·omega
 have q:=Qbbp hown (by omega);have e:(w6.setCell ⟨w5.heap.size,0,none⟩ v).heap.size=w6.heap.size:=Qtg _ _ _;refine ⟨⟨hg.os.trans ho,hg.tape.trans ht,hg.output.trans hp,by have:=hg.size;omega,fun k hk=>?_⟩,hgl,by omega,by omega,?_,?_,?_⟩
 ·refine (Qen _ _ _ _ (by simp;omega)).trans ((hg.block k (by omega) (by simp)).trans ?_);rw [hW];rw [Qbx _ _ _ (by simp;omega),Qbx _ _ _ (by simp;omega),Qbx _ _ _ (by simp;omega),Qbx _ _ _ (by omega)]
 ·exact (Qqt _ _ _ _ _ (by simp;omega)).trans (Qzm hown (i:=0) rfl)
 ·exact heap_setCell_same _ _ _ _ _ _ hN
 ·exact (Qen _ _ _ _ (by simp)).trans hI
theorem Tryz.step17 {ops:Array Oper} {o:Oper} {a:Act} {K:Act→World→Prop} {Q:Exit→Act→World→Prop} {E:Prop} {w5 W:World} {n1 i0 x0 x1 x2:Value} {t1 t2 t3:TypeId} (hgd:o.guard=none)
  (ho:o.op = .call { callee:=.builtin .append,args:=#[.tmp 64,.tmp 67],argTypes:=#[32,32] }) (hs:a.eval (.tmp 64) = .slice none 0 0) (hx:a.eval (.tmp 67) = .slice (some ⟨w5.heap.size+1+1+1,0,none⟩) 1 1)
  (hW:W.heap=((((w5.alloc (.cells #[.slice none 0 0,n1] t1 (0,0))).alloc (.cells #[i0] t2 (0,0))).alloc (.cells #[x0,x1,x2] t3 (0,0))).alloc (.cells #[.int .i64 0] 3 (0,0))).heap) (hos:W.os=w5.os) (ht:W.tape=w5.tape) (hp:W.output=w5.output)
  (h:∀ g cap w6,(w6.cell? ⟨w5.heap.size,0,none⟩=some (.slice none 0 0)∧w6.frozen? ⟨w5.heap.size,0,none⟩=false ∧
   w6.cell? ⟨w5.heap.size+1,0,none⟩=some i0∧w6.cell? ⟨w5.heap.size+1+1,0,none⟩=some x0∧w6.cell? ⟨w5.heap.size+1+1,2,none⟩=some x2 ∧
   ∀ v,Below w5.heap.size w5 (w6.setCell ⟨w5.heap.size,0,none⟩ v)∧w5.heap.size+4≤g∧g<(w6.setCell ⟨w5.heap.size,0,none⟩ v).heap.size∧1≤cap∧(w6.setCell ⟨w5.heap.size,0,none⟩ v).cell? ⟨g,0,none⟩=some (.int .i64 0) ∧
   (w6.setCell ⟨w5.heap.size,0,none⟩ v).heap[w5.heap.size]? = some (.cells #[v,n1] t1 (0,0))∧(w6.setCell ⟨w5.heap.size,0,none⟩ v).heap[w5.heap.size+1]? = some (.cells #[i0] t2 (0,0))) →
   K (a.put o.dst (.slice (some ⟨g,0,none⟩) 1 cap)) w6) :
  if Region.wanted o (yielded ops a.tmps)=true then Oper.wp Tryz.prog o a W K Q else E:=by
 obtain ⟨i,hi,hz0,hz1,hz2⟩:=info_parts Tryz.int_parts;have hsz:W.heap.size=w5.heap.size+4:=by rw [hW];simp
 have hnew:W.heap[w5.heap.size+1+1+1]? = some (.cells #[.int .i64 0] 3 (0,0)):=by rw [hW];exact Qhg _ _ _ (by simp)
 refine step_append_lies W hgd (.tmp 64) (.tmp 67) 32 ho w5.heap.size 3 i _ 1 8 Tryz.underlying32 hi hz0 hz1 hz2 rfl (by omega) (.slice none 0 0) 0 [] hs ⟨rfl,.inl ⟨rfl,rfl⟩⟩ ⟨w5.heap.size+1+1+1,0,none⟩ 1 1 [.int .i64 0] hx rfl ?_ (by simp [Value.oneCell']) (by omega) (by simp only [maxLen];omega) (by omega) (by omega) _ rfl ?_
 ·intro j u hj
  match j,hj with
  | 0,hj =>
   simp at hj;subst hj;simpa [Addr.add] using Qkl hnew
 ·intro g cap w6 hown hg hat _;obtain ⟨_,_,n0,_,fN,i1,y0,_,y2⟩:=Q6w hg hW;exact h g cap w6 ⟨n0,fN,i1,y0,y2,fun v=>Qbl8 hown hg hW hos ht hp hat v⟩
end Go.Proofs
end
section
namespace Go
theorem Q8n {F:Fence} {n:Nat} {P:Program} {l:Nat} {o:Oper} {a:Act} {K:Act→World→Prop} {Q:Exit→Act→World→Prop}:∀ r,o.uponIn F n P a K Q r→o.uponIn (F.inRound l) n P a K Q r:=by
 intro r h;have e:Oper.uponIn (F.inRound l) n P o a K Q r=Oper.uponIn F n P o a K Q r:=rfl;rw [e];exact h
theorem Q8o {F:Fence} {n:Nat} {P:Program} {ops:Array Oper} {Q:Exit→Act→World→Prop} {l:Nat} (hro:F.round=none) (hd:∀ (i:Nat) (o:Oper) c,ops[i]? = some o→o.op ≠ .defer c) {i:Nat} {K:Act→World→Prop} {a:Act} {w:World}
  (h:wpOpIn F n P ops Q i K a w):wpOpIn (F.inRound l) n P ops Q i K a w:=by
 unfold wpOpIn at h ⊢;cases ho:ops[i]? with
 | none=>rw [ho] at h;exact h
 | some o =>
  rw [ho] at h;dsimp only at h ⊢;split
  ·rename_i hw;rw [if_pos hw] at h;unfold Oper.wpIn at h ⊢;refine ⟨h.1,Q8n _ ?_⟩;have e:Oper.semAt (F.inRound l).round a.eval o=Oper.semAt F.round a.eval o:=by
    rw [hro,Fence.inRound_round,Oper.semAt_eq _ _ _ (fun c=>hd i o c ho),Oper.semAt_eq _ _ _ (fun c=>hd i o c ho)]
   rw [e];exact h.2
  ·rename_i hw;rw [if_neg hw] at h;exact h
theorem Qzn {F:Fence} {n:Nat} {P:Program} {md:Region.Mode} {ops:Array Oper} {Q:Exit→Act→World→Prop} {l:Nat} (hro:F.round=none) (hd:∀ (i:Nat) (o:Oper) c,ops[i]? = some o→o.op ≠ .defer c) :
  ∀ (fuel:Nat) (listed:Array Bool) (a:Act) (w:World),wpAnyIn F n P md ops Q fuel listed a w→wpAnyIn (F.inRound l) n P md ops Q fuel listed a w
 | 0,_,_,_,h=>h
 | fuel+1,listed,a,w,h=>⟨h.1,fun i hi=>by
   refine wpOpIn_mono (fun a' w' h'=>Qzn hro hd fuel _ a' w' h') (Q8o hro hd (h.2 i hi))⟩
def Qbfl (l:List Oper):Bool:=l.all fun o=>match o.op with | .defer _=>false|_=>true
theorem Q8p {l:List Oper} (h:Qbfl l=true):∀ (i:Nat) (o:Oper) c,l.toArray[i]? = some o→o.op ≠ .defer c:=by
 intro i o c hi e;have hm:o∈l:=by
  rw [List.getElem?_toArray] at hi;exact List.mem_of_getElem? hi
 have:=List.all_eq_true.1 h o hm;rw [e] at this;cases this
theorem Qgb {F:Fence} {n:Nat} {P:Program} {id lr:Nat} {Q:Exit→Act→World→Prop} {a:Act} {w:World} {l:List Oper} (hro:F.round=none) (hm:P.follows .mixedOrders=true) (hB:Region.lexB .any l.toArray=true) (hd:Qbfl l=true)
  (h:wpQuietIn F n P l.toArray (fun w'=>∃ n,w'=w.drewN n) (fun a'=>∀ w',(∃ n,w'=w.drewN n)→Q .normal a' w') l a):(Code.region id l.toArray true).wpIn (F.inRound lr) n P Q a w:=by
 simp only [Region.lexB,Bool.and_eq_true] at hB;have h1:(fun w'=>∃ n,w'=w.drewN n) { w with drawn:=w.drawn+1 }:=⟨1,rfl⟩;refine wpIn_region_any hm (Qzn hro (Q8p hd) _ _ _ _ (wpAnyIn_of_quiet (C:=fun w'=>∃ n,w'=w.drewN n) (Q:=fun a'=>∀ w',(∃ n,w'=w.drewN n)→Q .normal a' w') hro (fun _ w' hw' h=>h w' hw') _ _ _ _ h1 ?_));have:=wpAnyQIn_lex (F:=F) (n:=n) (C:=fun w'=>∃ n,w'=w.drewN n) (md:=.any) hB.1 l.toArray.toList 0 (Array.replicate l.toArray.size false) a (by simp) (by simpa using hB.2) (by simpa using h);simpa using this
end Go
end
section
namespace Go.Proofs
open Go.Shelf Go.RowKit Go.Lib Go.Sort Go.Abs
set_option maxRecDepth 100000
def Qkt:List Bool→List Bool
 | []=>[]
 | [x]=>[x]
 | x::y::_=>if x=y then [x] else [x,y]
def clOf (g:List Bool) (b:Bool):Int:=match g with
 | []=>0
 | [x]=>if b=x then 1 else 0
 | x::y::_=>if b=x then 1 else if b=y then 2 else 0
structure CompI (w0:World) (L:Nat) (pre:List Bool) (W:World):Prop where
 below:Below L w0 W
 size:L+4≤W.heap.size
 cl:W.heap[L]? = some (.cells #[.int .i64 (clOf (Qkt pre) false),.int .i64 (clOf (Qkt pre) true)] 3 (0,0))
 bs:∃ ce,W.heap[L+3]? = some (.cells ce 32 (0,0))
 cb:W.heap[L+1]? = some (.cells #[.slice (some ⟨L,0,none⟩) 2 2] 32 (0,0))
 gb:∃ gv rows,W.heap[L+1+1]? = some (.cells #[gv] 45 (0,0))∧W.ownsRow (L+4) 32 1 gv (Qkt pre).length rows ∧
  ∀ (i:Nat) b,(Qkt pre)[i]? = some b→∃ R,rows[i]? = some (.slice (some ⟨R,0,none⟩) 1 1)∧L+4≤R∧R<W.heap.size∧gv.ownBlock≠some R∧W.heap[R]? = some (.cells #[.int .i64 (stN b)] 3 (0,0))
theorem CompI.own {w0:World} {L:Nat}:OwnFrom (L+4) (CompI w0 L):=by
 intro pre W W' row h hg hr;have hc:∀ (k:Nat) (o:Obj),W.heap[k]? = some o→o.isCells=true→W'.heap[k]? = some o:=by
  intro k o hk ho;refine (hg.block k (Array.getElem?_eq_some_iff.1 hk).1 ?_).trans hk;intro e;obtain ⟨_,o',h1,h2⟩:=hr k e.symm;rw [hk] at h1;cases h1;rw [ho] at h2;cases h2
 obtain ⟨gv,rows,h1,h2,h3⟩:=h.gb;refine ⟨h.below.grown hg (by have:=h.size;omega) (fun k e=>by have:=(hr k e).1;omega),Nat.le_trans h.size hg.size,hc _ _ h.cl rfl,h.bs.elim (fun ce h=>⟨ce,hc _ _ h rfl⟩),hc _ _ h.cb rfl,gv,rows,hc _ _ h1 rfl,?_,?_⟩
 ·refine h2.kept hg ?_;cases hv:gv.ownBlock with
  | none=>exact .inl rfl
  | some k =>
   right;intro e;obtain ⟨_,o,k1,k2⟩:=hr k e.symm;obtain ⟨c,fz,k3⟩:=ownsRow_kind h2 k hv;rw [k1] at k3;cases k3;simp [Obj.isCells] at k2
 ·intro i b hi;obtain ⟨R,r1,r2,r3,r4,r5⟩:=h3 i b hi;exact ⟨R,r1,r2,Nat.lt_of_lt_of_le r3 hg.size,r4,hc _ _ r5 rfl⟩
theorem Q2e (w:World) (x:Value) (t:TypeId) (n:Nat) (hn:n=w.heap.size):∀ j u,[x][j]? = some u→(w.alloc (.cells #[x] t)).cell? ((⟨n,0,none⟩ : Addr).add j)=some u:=by subst hn;exact cell_one_new w x t
theorem Qvl {w:World} {base b n:Nat} {t:TypeId} {v:Value} {xs:List Value} (h:w.ownsRow base t 1 v n xs) (hb:b<base):v.ownBlock≠some b:=by
 rcases h.2 with ⟨rfl,_⟩|⟨g,cap,cur,rfl,hg,_⟩
 ·simp [Value.ownBlock]
 ·simp only [Value.ownBlock,ne_eq,Option.some.injEq];omega
theorem Qqu {W X w7:World} {a:Addr} {v:Value} {o1 o2:Obj} {row:Option Nat} (hg:X.grownBy w7 row) (hX:X.heap=(((W.setCell a v).alloc o1).alloc o2).heap) {k:Nat} (hk:k<W.heap.size) (hr:some k≠row) :
  w7.heap[k]? = (W.setCell a v).heap[k]?:=by
 have hs:=Qtg W a v;refine (hg.block k (by rw [hX];simp;omega) hr).trans ?_;rw [hX];exact (Qbx _ _ _ (by simp<;>omega)).trans (Qbx _ _ _ (by simp<;>omega))
theorem Tryz.slice_parts:(Tryz.prog.info? 32).map (fun i=>(i.zero,i.size,i.bytes))=some (some (.slice none 0 0),1,24):=by kernel_rfl
end Go.Proofs
end
