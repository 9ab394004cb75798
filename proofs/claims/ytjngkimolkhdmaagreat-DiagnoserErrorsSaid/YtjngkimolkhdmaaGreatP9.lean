/-
  Part 9 of the proof: see the last text.
-/
import Derived.Test.YtjngkimolkhdmaaGreatP8
import Derived.Test.YtjngkimolkhdmaaGreatProg
import Derived.KernelRfl
import Derived.Sort.Statements
import Derived.Shelf.SlSortCmp.NoneTotal
import Derived.Lib.RuneBytes
import Derived.Shelf.SortM.Plain
import Derived.Shelf.SortM.SortNone
import Derived.Shelf.Small.Bits
import Derived.Shelf.Strings.BuilderK
import Derived.Shelf.Strings.BuilderRune
import Derived.Shelf.SlGeneric
import Derived.Shelf.Strconv.Itoa0
import Derived.Shelf.Strings.Builder1
import Derived.Shelf.Sort.Plain
import Derived.Shelf.SlSortCmp.Whole1
import Derived.Shelf.Slices.In.SortNone
import Derived.Ground.SlsfProg
import Derived.Ground.Names2Prog
import Derived.WalkKit
import Derived.Shelf.SlIterI.Sorted
import Derived.RangeFuncBox
import Derived.RangeFuncLeaves
import Derived.Shelf.Abstract
import Derived.OwnWalkIn
import Derived.TacticsInMore
import Derived.RegionIn
import Derived.LoopNIn
import Derived.LoopIn
import Derived.BigCall
import Derived.Lib.OthersKept
import Derived.RegionTactic
import Derived.ChangeAlike
set_option linter.unusedVariables false
set_option linter.unusedSimpArgs false
set_option linter.unusedSectionVars false
section
namespace Go.Abs
open Go
set_option maxRecDepth 10000
set_option maxHeartbeats 4000000
theorem Qsz {P:Program} {c:Nat} {Qt:_} {Qcu:_} {Qr:_} {Qb0:_}
    (Hav:Qeo P 18 Qt)
    (Hbt:Qis P 20 Qcu)
    (Hbe:Qdr P 54 Qr)
    (Hbd:Qhl P 55 Qb0) (hcf:Qq P c=some Qox) (fuel:Nat):Qik P c (Qbv Qt Qcu Qr Qb0 fuel):=by
 intro ev1 a2 r h;refine Qcf hcf rfl fun Γ M hP hnt hM=>?_;subst hP;refine ini ?_;refine Z 10 0 ?_;refine cl (Hav _ _) h (cq fun ⟨_,_,_⟩ h=>?_);refine Z 15 0 ?_;refine cd h rfl (fun h=>Y) (fun h=>?_);refine Z 5 0 ?_;refine cl (Hbe _) h (cq fun _ h=>?_);refine cl (Hbt _ _) h (cq fun ⟨r11,_,_⟩ h=>?_);refine Z 15 0 ?_;refine cd h rfl (fun h=>Y) (fun h=>?_);refine Z 8 0 ?_;refine cw h [4,11] [3,6,9] (fun _ e=>e) (fun (c29,c30,c31,c32,d33) l=>(4,.cells ([(o_ c29),(i_ 0),(o_ c30),(Q4 c31),.own 1 (List.map (eL 2 Qv) c32)]))::(11,.cells ([(l_ r11.zD),(i_ r11.zH),(l_ r11.zF),(Qf r11.zG),.own 1 (List.map (eL 2 Qv) d33)]))::l) ke (fun _ h=>?_) (fun ⟨c29,c30,c31,c32,d33⟩ h=>Y);refine Z 7 0 ?_;refine lw h [4,7,11,39,40] [3,6,9] (fun (x15,c16,c17,c18,c19,d20) e=>(41,(i_ x15))::e) (fun (x15,c16,c17,c18,c19,d20) l=>(4,.cells ([(o_ c16),(i_ 0),(o_ c17),(Q4 c18),.own 1 (List.map (eL 2 Qv) c19)]))::(11,.cells ([(l_ r11.zD),(i_ r11.zH),(l_ r11.zF),(Qf r11.zG),.own 1 (List.map (eL 2 Qv) d20)]))::l) ke wk (fun _ ⟨x15,c16,c17,c18,c19,d20⟩ h=>?_);refine Z 5 0 ?_;refine ci h rfl (fun h=>?_) (fun h=>Y);refine Z 14 1 ?_;intro _ h;refine cl (Hbd _ _) h (cq fun _ h=>?_);exact Y
theorem Qs0 {P:Program} {c:Nat} (hcf:Qq P c=some Qoy):Qgr P c (Qbg):=by
 intro cv1 r h;refine Qcf hcf rfl fun Γ M hP hnt hM=>?_;subst hP;refine ini ?_;refine Z 9 0 ?_;exact bi h (fun _ h=>Y) (fun _ h=>Y)
theorem Qs1 {P:Program} {c:Nat} (hcf:Qq P c=some Qoz) (fuel:Nat):Qki P c (Qep fuel):=by
 intro ev1 cv2 r h;refine Qcf hcf rfl fun Γ M hP hnt hM=>?_;subst hP;refine ini ?_;refine Z 8 0 ?_;refine cw h [] [] (fun n11 e=>(5,(i_ n11))::e) (fun _ l=>l) ke (fun _ h=>?_) (fun n11 h=>Y);refine Z 7 0 ?_;refine lw h [1,8,9] [] (fun (n3,x4) e=>(5,(i_ n3))::(10,(i_ x4))::e) (fun _ l=>l) ke wk (fun _ ⟨n3,x4⟩ h=>?_);refine Z 5 0 ?_;refine ci h rfl (fun h=>?_) (fun h=>Y);refine Z 16 1 ?_;intro _ h;obtain ⟨s9,h10,h⟩:=bnd h;refine Rn.bin tv rfl rfl (Q9b h10) ?_;exact Y
theorem Qql {P:Program} {c:Nat} {Qbg:_} {Qep:_}
    (Hbf:Qgr P 56 Qbg)
    (Hbc:Qki P 78 Qep) (hcf:Qq P c=some Qm4):Qgz P c (Qb2 Qbg Qep):=by
 intro ev1 cv2 r h;refine Qcf hcf rfl fun Γ M hP hnt hM=>?_;subst hP;refine ini ?_;refine Z 10 0 ?_;refine cl (Hbf _) h (cq fun _ h=>?_);refine Z 2 0 ?_;refine cd h rfl (fun h=>Y) (fun h=>?_);refine Z 7 0 ?_;refine cd h rfl (fun h=>Y) (fun h=>?_);refine Z 6 0 ?_;refine cl (Hbc _ _) h (cq fun _ h=>?_);refine Z 7 0 ?_;refine cd h rfl (fun h=>Y) (fun h=>?_);refine Z 7 0 ?_;exact cd h rfl (fun h=>Y) (fun h=>Y)
theorem Qqm {P:Program} {c:Nat} (hcf:Qq P c=some Qm5):Qjd P c (Qeq):=by
 intro a1 b2 r h;refine Qcf hcf rfl fun Γ M hP hnt hM=>?_;subst hP;refine ini ?_;exact Y
theorem Qs2 {P:Program} {c:Nat} {gv:Nat} {Qb2:_} {Qbg:_} {f_reach_Components:_} {f_slices_Sorted_int:_} {f_slices_SortFunc___int:_} {Qeq:_}
    (Hba:Qgz P 31 Qb2)
    (Hbf:Qgr P 56 Qbg)
    (Hcg:K_reach_Components P 57 f_reach_Components)
    (Hcr:Qbdg P 58 gv (eI .i64) 1 f_slices_Sorted_int)
    (Hcs:Qba5 P 59 gv 1 4)
    (Hcp:K_slices_SortFunc___int P 60 f_slices_SortFunc___int)
    (Hax:Qjd P 61 Qeq) (hcf:Qq P c=some Qo0) (fuel:Nat):Qkj P c (Qer Qb2 Qbg f_reach_Components f_slices_Sorted_int f_slices_SortFunc___int Qeq fuel):=by
 intro d1 cv2 r h;refine Qcf hcf rfl fun Γ M hP hnt hM=>?_;subst hP;refine ini ?_;refine Z 10 0 ?_;refine cl (Hbf _) h (cq fun _ h=>?_);refine Z 1 0 ?_;refine cd h rfl (fun h=>Y) (fun h=>?_);refine Z 6 0 ?_;obtain ⟨x6,h7,h⟩:=bnd h;refine Rn.makes (g:=(fun (x:Bool)=>[V.d (.bool x)])) tv rfl rfl rfl rfl rfl h7 ?_;refine Z 2 0 ?_;refine cu h (fun c21=>⟨look [(2,.ptr (Γ.n0+2) 0),(6,.sl 1 (Γ.n0+25) 0 (Int.toNat (d1.Estimates.length:Int)) (Int.toNat (d1.Estimates.length:Int)))],Qh Γ.n0 (bxs [(2,.cells ((Qu d1))),(25,.cells (Qca (fun (x:Bool)=>[V.d (.bool x)]) c21))]) M,Γ.n0+132⟩) (fun _ h=>?_) (fun c21 h=>?_)
 ·refine Z 8 0 ?_;refine lo h (fun (x8,c9)=>⟨look [(1,(i_ cv2)),(2,.ptr (Γ.n0+2) 0),(6,.sl 1 (Γ.n0+25) 0 (Int.toNat (d1.Estimates.length:Int)) (Int.toNat (d1.Estimates.length:Int))),(27,.d (.lst 1 (List.map (eL 2 Qv) d1.Estimates))),(28,(i_ (d1.Estimates.length:Int))),(29,(i_ x8))],Qh Γ.n0 (bxs [(2,.cells ((Qu d1))),(25,.cells (Qca (fun (x:Bool)=>[V.d (.bool x)]) c9))]) M,Γ.n0+132⟩) wk (fun _ ⟨x8,c9⟩ h=>?_);refine Z 5 0 ?_;refine ci h rfl (fun h=>?_) (fun h=>Y);refine Z 15 1 ?_;intro _ h;refine cl (Hba _ _) h (cq fun ⟨r15,_⟩ h=>?_);refine Z 12 1 ?_;intro h;obtain ⟨x19,h20,h⟩:=bnd h;refine Rn.storeA (g:=(fun (x:Bool)=>[V.d (.bool x)])) (v:=(b_ (r15==3))) (fun _=>rfl) tv rfl rfl rfl rfl rfl h20 ?_;exact Y
 ·refine Z 8 0 ?_;refine Rn.buildT (v:=.agg [(l_ d1.zB.zD),(i_ d1.zB.zH),.nils 1,.nils 3]) tv rfl ?_;refine Z 8 0 ?_;obtain ⟨x22,h23,h⟩:=bnd h;refine Rn.makes (g:=(fun (x:Bool)=>[V.d (.bool x)])) tv rfl rfl rfl rfl rfl h23 ?_;refine Z 2 0 ?_;refine cu h (fun (pv63,pv64,c65)=>⟨look [(11,.ptr (Γ.n0+11) 0),(12,.sl 1 (Γ.n0+56) 0 (Int.toNat (d1.Estimates.length:Int)) (Int.toNat (d1.Estimates.length:Int)))],Qh Γ.n0 (bxs [(2,.cells ((Qu d1))),(11,.cells ([(l_ d1.zB.zD),(i_ d1.zB.zH),(o_ pv63),(Q4 pv64)])),(25,.cells (Qca (fun (x:Bool)=>[V.d (.bool x)]) c21)),(56,.cells (Qca (fun (x:Bool)=>[V.d (.bool x)]) c65))]) M,Γ.n0+132⟩) (fun _ h=>?_) (fun ⟨pv63,pv64,c65⟩ h=>?_)
  ·refine Z 9 0 ?_;refine lo h (fun (x24,pv25,pv26,c27)=>⟨look [(6,.sl 1 (Γ.n0+25) 0 (Int.toNat (d1.Estimates.length:Int)) (Int.toNat (d1.Estimates.length:Int))),(11,.ptr (Γ.n0+11) 0),(12,.sl 1 (Γ.n0+56) 0 (Int.toNat (d1.Estimates.length:Int)) (Int.toNat (d1.Estimates.length:Int))),(59,(Qf d1.zB.zG)),(60,(i_ (d1.zB.zG.length:Int))),(61,(i_ x24))],Qh Γ.n0 (bxs [(2,.cells ((Qu d1))),(11,.cells ([(l_ d1.zB.zD),(i_ d1.zB.zH),(o_ pv25),(Q4 pv26)])),(25,.cells (Qca (fun (x:Bool)=>[V.d (.bool x)]) c21)),(56,.cells (Qca (fun (x:Bool)=>[V.d (.bool x)]) c27))]) M,Γ.n0+132⟩) wk (fun _ ⟨x24,pv25,pv26,c27⟩ h=>?_);refine Z 5 0 ?_;refine ci h rfl (fun h=>?_) (fun h=>Y);refine Tr.skip ?_;refine cu h (fun (pv58,c59,c60,c61,c62)=>⟨look [(6,.sl 1 (Γ.n0+25) 0 (Int.toNat (d1.Estimates.length:Int)) (Int.toNat (d1.Estimates.length:Int))),(11,.ptr (Γ.n0+11) 0),(12,.sl 1 (Γ.n0+56) 0 (Int.toNat (d1.Estimates.length:Int)) (Int.toNat (d1.Estimates.length:Int))),(59,(Qf d1.zB.zG)),(60,(i_ (d1.zB.zG.length:Int))),(61,(i_ x24))],Qh Γ.n0 (bxs [(2,.cells ((Qu d1))),(11,.cells ([(l_ d1.zB.zD),(i_ d1.zB.zH),(o_ pv25),(Q4 pv58)])),(14,.cells ([(i_ c60),(i_ c61),(i_ c62)])),(25,.cells (Qca (fun (x:Bool)=>[V.d (.bool x)]) c21)),(56,.cells (Qca (fun (x:Bool)=>[V.d (.bool x)]) c59))]) M,Γ.n0+132⟩) (fun _ h=>?_) (fun ⟨pv58,c59,c60,c61,c62⟩ h=>Y);refine Z 8 1 ?_;intro x30 h;refine cu h (fun x41=>⟨look [(6,.sl 1 (Γ.n0+25) 0 (Int.toNat (d1.Estimates.length:Int)) (Int.toNat (d1.Estimates.length:Int))),(11,.ptr (Γ.n0+11) 0),(12,.sl 1 (Γ.n0+56) 0 (Int.toNat (d1.Estimates.length:Int)) (Int.toNat (d1.Estimates.length:Int))),(14,.ptr (Γ.n0+14) 0),(59,(Qf d1.zB.zG)),(60,(i_ (d1.zB.zG.length:Int))),(61,(i_ x24)),(76,(b_ x41))],Qh Γ.n0 (bxs [(2,.cells ((Qu d1))),(11,.cells ([(l_ d1.zB.zD),(i_ d1.zB.zH),(o_ pv25),(Q4 pv26)])),(14,.cells ((Qij x30))),(25,.cells (Qca (fun (x:Bool)=>[V.d (.bool x)]) c21)),(56,.cells (Qca (fun (x:Bool)=>[V.d (.bool x)]) c27))]) M,Γ.n0+132⟩) (fun _ h=>?_) (fun x41 h=>?_)
   ·refine Z 7 1 ?_;intro _ h;exact bs h (fun _ h=>Y) (fun _ h=>Y)
   ·refine cd h rfl (fun h=>?_) (fun h=>Y);refine Z 20 1 ?_;intro _ _ h;refine bs h (fun _ h=>?_) (fun _ h=>?_)
    ·refine Z 7 1 ?_;intro h;obtain ⟨x52,h53,h⟩:=bnd h;refine Rn.storeA (g:=(fun (x:Bool)=>[V.d (.bool x)])) (v:=(b_ true)) (fun _=>rfl) tv rfl rfl rfl rfl rfl h53 ?_;exact Y
    ·refine Z 7 1 ?_;intro h;obtain ⟨x56,h57,h⟩:=bnd h;refine Rn.storeA (g:=(fun (x:Bool)=>[V.d (.bool x)])) (v:=(b_ (x30.From==x30.To))) (fun _=>rfl) tv rfl rfl rfl rfl rfl h57 ?_;exact Y
  ·refine Z 3 0 ?_;refine cl (Hcg _) h (cq fun ⟨r67,_⟩ h=>?_);refine Z 10 0 ?_;refine cu h (fun ov89=>⟨look [(17,.own 1 (List.map (eL 1 (eI .i64)) ov89))],Qh Γ.n0 (bxs [(2,.cells ((Qu d1))),(11,.cells ([(l_ d1.zB.zD),(i_ d1.zB.zH),(o_ pv63),(Q4 pv64)])),(25,.cells (Qca (fun (x:Bool)=>[V.d (.bool x)]) c21)),(56,.cells (Qca (fun (x:Bool)=>[V.d (.bool x)]) c65))]) M,Γ.n0+132⟩) (fun _ h=>?_) (fun ov89 h=>?_)
   ·refine Z 7 0 ?_;refine lo h (fun (ov69,x70)=>⟨look [(12,.sl 1 (Γ.n0+56) 0 (Int.toNat (d1.Estimates.length:Int)) (Int.toNat (d1.Estimates.length:Int))),(17,.own 1 (List.map (eL 1 (eI .i64)) ov69)),(105,.d (.lst 1 (List.map (eL 1 (eI .i64)) r67))),(106,(i_ (r67.length:Int))),(107,(i_ x70))],Qh Γ.n0 (bxs [(2,.cells ((Qu d1))),(11,.cells ([(l_ d1.zB.zD),(i_ d1.zB.zH),(o_ pv63),(Q4 pv64)])),(25,.cells (Qca (fun (x:Bool)=>[V.d (.bool x)]) c21)),(56,.cells (Qca (fun (x:Bool)=>[V.d (.bool x)]) c65))]) M,Γ.n0+132⟩) wk (fun _ ⟨ov69,x70⟩ h=>?_);refine Z 5 0 ?_;refine ci h rfl (fun h=>?_) (fun h=>Y);refine Tr.skip ?_;refine cu h (fun ov88=>⟨look [(12,.sl 1 (Γ.n0+56) 0 (Int.toNat (d1.Estimates.length:Int)) (Int.toNat (d1.Estimates.length:Int))),(17,.own 1 (List.map (eL 1 (eI .i64)) ov88)),(105,.d (.lst 1 (List.map (eL 1 (eI .i64)) r67))),(106,(i_ (r67.length:Int))),(107,(i_ x70))],Qh Γ.n0 (bxs [(2,.cells ((Qu d1))),(11,.cells ([(l_ d1.zB.zD),(i_ d1.zB.zH),(o_ pv63),(Q4 pv64)])),(25,.cells (Qca (fun (x:Bool)=>[V.d (.bool x)]) c21)),(56,.cells (Qca (fun (x:Bool)=>[V.d (.bool x)]) c65))]) M,Γ.n0+132⟩) (fun _ h=>?_) (fun ov88 h=>Y);refine Z 7 1 ?_;intro x73 h;refine cu h (fun x82=>⟨look [(12,.sl 1 (Γ.n0+56) 0 (Int.toNat (d1.Estimates.length:Int)) (Int.toNat (d1.Estimates.length:Int))),(17,.own 1 (List.map (eL 1 (eI .i64)) ov69)),(19,(l_ x73)),(105,.d (.lst 1 (List.map (eL 1 (eI .i64)) r67))),(106,(i_ (r67.length:Int))),(107,(i_ x70)),(121,(b_ x82))],Qh Γ.n0 (bxs [(2,.cells ((Qu d1))),(11,.cells ([(l_ d1.zB.zD),(i_ d1.zB.zH),(o_ pv63),(Q4 pv64)])),(25,.cells (Qca (fun (x:Bool)=>[V.d (.bool x)]) c21)),(56,.cells (Qca (fun (x:Bool)=>[V.d (.bool x)]) c65))]) M,Γ.n0+132⟩) (fun _ h=>?_) (fun x82 h=>?_)
    ·refine Z 5 0 ?_;exact bi h (fun _ h=>Y) (fun _ h=>Y)
    ·refine cd h rfl (fun h=>?_) (fun h=>Y);refine Z 3 0 ?_;refine Rn.callVals (x:=.lst 1 (List.map (eI .i64) x73)) (m:=132) tv rfl Hcs rfl rfl hM rfl ?_;refine cm h (fun _ h85 M2 nb2 hn hx=>Hcr _ _ h85 M2 nb2 (Γ.n0+133) (hx _ _ (Qc7 rfl))) rfl (cq fun x84 h=>?_);refine Rn.weak (wS [12,17,19,105,106,107,121,122,123,124] [2,11,25,56,133] (fun e=>(125,(l_ x84))::e) (fun l=>l) ke wk) ?_;refine Z 3 1 ?_;intro x86 h;refine Rn.weak (σ':=⟨look [(12,.sl 1 (Γ.n0+56) 0 (Int.toNat (d1.Estimates.length:Int)) (Int.toNat (d1.Estimates.length:Int))),(17,.own 1 (List.map (eL 1 (eI .i64)) x86)),(19,(l_ x73)),(105,.d (.lst 1 (List.map (eL 1 (eI .i64)) r67))),(106,(i_ (r67.length:Int))),(107,(i_ x70)),(121,(b_ x82)),(122,.d (.lst 1 (List.map (eL 1 (eI .i64)) ov69))),(123,(l_ x73)),(125,(l_ x84)),(126,.sl 1 (Γ.n0+126) 0 1 1),(127,.d (.lst 1 (List.map (eL 1 (eI .i64)) x86)))],Qh Γ.n0 (bxs [(2,.cells ((Qu d1))),(11,.cells ([(l_ d1.zB.zD),(i_ d1.zB.zH),(o_ pv63),(Q4 pv64)])),(25,.cells (Qca (fun (x:Bool)=>[V.d (.bool x)]) c21)),(56,.cells (Qca (fun (x:Bool)=>[V.d (.bool x)]) c65)),(126,.cells ([(l_ x84)]))]) M,Γ.n0+132⟩) (WeakSt.trans (σ':=⟨look [(12,.sl 1 (Γ.n0+56) 0 (Int.toNat (d1.Estimates.length:Int)) (Int.toNat (d1.Estimates.length:Int))),(17,.own 1 (List.map (eL 1 (eI .i64)) x86)),(19,(l_ x73)),(105,.d (.lst 1 (List.map (eL 1 (eI .i64)) r67))),(106,(i_ (r67.length:Int))),(107,(i_ x70)),(121,(b_ x82)),(122,.d (.lst 1 (List.map (eL 1 (eI .i64)) ov69))),(123,(l_ x73)),(125,(l_ x84)),(126,.sl 1 (Γ.n0+126) 0 1 1),(127,.d (.lst 1 (List.map (eL 1 (eI .i64)) x86)))],Qh Γ.n0 (bxs [(2,.cells ((Qu d1))),(11,.cells ([(l_ d1.zB.zD),(i_ d1.zB.zH),(o_ pv63),(Q4 pv64)])),(25,.cells (Qca (fun (x:Bool)=>[V.d (.bool x)]) c21)),(56,.cells (Qca (fun (x:Bool)=>[V.d (.bool x)]) c65)),(126,.cells ([(l_ x84)]))]) M,Γ.n0+(132+4)⟩) (by exact Qii [133] ⟨(kSl rfl),sq,sq,sq,sq,sq,sq,sq,sq,sq,(kSl rfl),sq,tv⟩ ⟨bS rfl rfl rfl,bS rfl rfl rfl,bM rfl rfl fun _=>rfl,bM rfl rfl fun _=>rfl,bS rfl rfl rfl,tv⟩ rfl) (Qba6 rfl (Nat.le_of_eq hnt) hM)) ?_;exact Y
   ·refine Z 3 0 ?_;refine cl (Hcp _) h (cq fun _ h=>?_);exact Y
theorem Qs3 {P:Program} {c:Nat} {Qbz:_} {Qbb:_} {Q5:_} {Q1:_} {Qj:_}
    (Hci:Qhk P 63 Qbz)
    (Hbu:Qf2 P 67 Qbb)
    (Hbx:Qfa P 68 Q5)
    (Hca:Qd8 P 77 Q1)
    (Hck:Qcm P 87 Qj) (hcf:Qq P c=some Qo1) (fuel:Nat):Qkk P c (Qes Qbz Qbb Q5 Q1 Qj fuel):=by
 intro a1 ov2 ov3 mv4 r h;refine Qcf hcf rfl fun Γ M hP hnt hM=>?_;subst hP;refine ini ?_;refine Z 12 0 ?_;refine cl (Hbu _ _) h (cq fun x6 h=>?_);refine Z 7 0 ?_;refine cd h rfl (fun h=>Y) (fun h=>?_);refine Z 5 0 ?_;refine cl (Hbx _ _) h (cq fun x9 h=>?_);refine Z 8 0 ?_;refine cl (Hca _ _) h (cq fun x11 h=>?_);refine Z 2 0 ?_;refine Tr.cond rfl (fun hb12=>?_) (fun hb12=>?_)
 ·have hb12:=nT' hb12;replace h:=bF hb12 h;exact Y
 ·have hb12:=nF' hb12;replace h:=bT hb12 h;refine Z 8 0 ?_;refine cd h rfl (fun h=>Y) (fun h=>?_);refine Z 3 0 ?_;refine Rn.mkmap tv rfl (fun (x:Qm)=>(.agg (Q8 x):V)) (fun (x:List Int)=>((l_ x):V)) ?_;refine Z 1 0 ?_;refine Rn.mapset (ek:=(fun (x:Qm)=>(.agg (Q8 x):V))) (ev:=(fun (x:List Int)=>((l_ x):V))) (m:=([]:List (Qm×(List Int)))) (k:=(Qm.mk 0 0)) (v:=[]) Qe0 (fun _=>rfl) (fun _=>rfl) tv rfl rfl rfl rfl rfl ?_;refine Z 11 0 ?_;refine Tr.weak (by show WeakSt Γ _ ⟨look ((13,.own 2 (List.map Qc1 [(Qm.mk 0 0)]))::[(0,(Ql a1)),(1,(l_ ov2)),(2,(l_ ov3)),(3,(b_ mv4)),(4,.ptr (Γ.n0+4) 0),(8,.nils 1),(9,(b_ false)),(10,(i_ x6)),(11,.ptr (Γ.n0+11) 0),(12,.mp (Γ.n0+36)),(20,(Ql a1)),(21,(l_ ov2)),(22,(i_ x6)),(23,(i_ x6)),(24,(b_ (x6 != 0))),(26,(Ql a1)),(27,(l_ ov2)),(28,(Qbo x9)),(29,(Qbo x9)),(30,(l_ ov3)),(31,(b_ x11)),(32,(b_ (!x11))),(33,.ptr (Γ.n0+4) 1),(34,(i_ a1.zH)),(35,(b_ (a1.zH==0))),(36,.mp (Γ.n0+36)),(37,.agg [(i_ 0),(i_ 0)]),(38,.mp (Γ.n0+36)),(39,.agg [(i_ 0),(i_ 0)])] ),Qh Γ.n0 (bxs [(4,.cells ((Qo a1))),(11,.cells ((Qy x9))),(36,.mp (mapE (fun (x:Qm)=>(.agg (Q8 x):V)) (fun (x:List Int)=>((l_ x):V)) 0 (setM ([]:List (Qm×(List Int))) (Qm.mk 0 0) [])) ((setM ([]:List (Qm×(List Int))) (Qm.mk 0 0) [])).length)]) M,Γ.n0+131⟩;exact Qyv 40 13 [.int .i64 0,.int .i64 0] rfl rfl rfl rfl rfl ⟨sq,sq,sq,sq,(kPtr rfl),sq,sq,sq,(kPtr rfl),(kMp rfl),sq,sq,sq,sq,sq,sq,sq,sq,sq,sq,sq,sq,(kPtr rfl),sq,sq,(kMp rfl),sq,(kMp rfl),sq,tv⟩ ⟨bS rfl rfl rfl,bS rfl rfl rfl,⟨rfl,rfl⟩,tv⟩ rfl) ?_;refine lo h (fun (l14,c15)=>⟨look [(2,(l_ ov3)),(3,(b_ mv4)),(4,.ptr (Γ.n0+4) 0),(11,.ptr (Γ.n0+11) 0),(12,.mp (Γ.n0+36)),(13,.ownT 2 (List.map Qc1 l14))],Qh Γ.n0 (bxs [(4,.cells ((Qo a1))),(11,.cells ((Qy x9))),(36,.mp (mapE (fun (x:Qm)=>(.agg (Q8 x):V)) (fun (x:List Int)=>((l_ x):V)) 0 c15) (c15).length)]) M,Γ.n0+131⟩) wk (fun _ ⟨l14,c15⟩ h=>?_);refine Z 7 0 ?_;refine ci h rfl (fun h=>?_) (fun h=>Y);refine Z 12 1 ?_;intro x18 h;refine cu h (fun x24=>⟨look [(2,(l_ ov3)),(3,(b_ mv4)),(4,.ptr (Γ.n0+4) 0),(11,.ptr (Γ.n0+11) 0),(12,.mp (Γ.n0+36)),(13,.ownT 2 (List.map Qc1 l14)),(14,.ptr (Γ.n0+14) 0),(64,(b_ x24))],Qh Γ.n0 (bxs [(4,.cells ((Qo a1))),(11,.cells ((Qy x9))),(14,.cells ((Q8 x18))),(36,.mp (mapE (fun (x:Qm)=>(.agg (Q8 x):V)) (fun (x:List Int)=>((l_ x):V)) 0 c15) (c15).length)]) M,Γ.n0+131⟩) (fun _ h=>?_) (fun x24 h=>?_)
  ·refine Z 7 0 ?_;refine bs h (fun _ h=>?_) (fun _ h=>Y);refine Z 3 0 ?_;refine bs h (fun _ h=>?_) (fun _ h=>Y);refine Z 4 0 ?_;refine cl (Hck _ _) h (cq fun _ h=>?_);exact Y
  ·refine cd h rfl (fun h=>?_) (fun h=>?_)
   ·refine Z 4 0 ?_;refine Rn.lookup (ek:=(fun (x:Qm)=>(.agg (Q8 x):V))) (ev:=(fun (x:List Int)=>((l_ x):V))) (m:=c15) (k:=x18) Qe0 (fun _=>rfl) (fun _=>rfl) [] rfl tv rfl rfl rfl ?_;exact Y
   ·refine Z 13 1 ?_;intro x26 h;refine lo h (fun (l28,x29,c30)=>⟨look [(2,(l_ ov3)),(3,(b_ mv4)),(4,.ptr (Γ.n0+4) 0),(11,.ptr (Γ.n0+11) 0),(12,.mp (Γ.n0+36)),(13,.ownT 2 (List.map Qc1 l28)),(14,.ptr (Γ.n0+14) 0),(73,(Qf x26)),(74,(i_ (x26.length:Int))),(75,(i_ x29))],Qh Γ.n0 (bxs [(4,.cells ((Qo a1))),(11,.cells ((Qy x9))),(14,.cells ((Q8 x18))),(36,.mp (mapE (fun (x:Qm)=>(.agg (Q8 x):V)) (fun (x:List Int)=>((l_ x):V)) 0 c30) (c30).length)]) M,Γ.n0+131⟩) wk (fun _ ⟨l28,x29,c30⟩ h=>?_);refine Z 5 0 ?_;refine ci h rfl (fun h=>?_) (fun h=>?_)
    ·refine Tr.skip ?_;refine cu h (fun (l52,c53,c54,c55,c56,q57,q58)=>⟨look [(2,(l_ ov3)),(3,(b_ mv4)),(4,.ptr (Γ.n0+4) 0),(11,.ptr (Γ.n0+11) 0),(12,.mp (Γ.n0+36)),(13,.ownT 2 (List.map Qc1 l52)),(14,.ptr (Γ.n0+14) 0),(73,(Qf x26)),(74,(i_ (x26.length:Int))),(75,(i_ x29))],Qh Γ.n0 (bxs [(4,.cells ((Qo a1))),(11,.cells ((Qy x9))),(14,.cells ((Q8 x18))),(16,.cells ([(i_ c54),(i_ c55),(i_ c56)])),(17,.cells ([(i_ q57),(i_ q58)])),(36,.mp (mapE (fun (x:Qm)=>(.agg (Q8 x):V)) (fun (x:List Int)=>((l_ x):V)) 0 c53) (c53).length)]) M,Γ.n0+131⟩) (fun _ h=>?_) (fun ⟨l52,c53,c54,c55,c56,q57,q58⟩ h=>Y);refine Z 18 1 ?_;intro x33 h;refine Tr.cutJ (fun (q43:Int)=>⟨look [(2,(l_ ov3)),(3,(b_ mv4)),(4,.ptr (Γ.n0+4) 0),(11,.ptr (Γ.n0+11) 0),(12,.mp (Γ.n0+36)),(13,.ownT 2 (List.map Qc1 l28)),(14,.ptr (Γ.n0+14) 0),(16,.ptr (Γ.n0+16) 0),(17,.ptr (Γ.n0+17) 0),(73,(Qf x26)),(74,(i_ (x26.length:Int))),(75,(i_ x29))],Qh Γ.n0 (bxs [(4,.cells ((Qo a1))),(11,.cells ((Qy x9))),(14,.cells ((Q8 x18))),(16,.cells ((Qij x33))),(17,.cells ([(i_ x33.To),(i_ q43)])),(36,.mp (mapE (fun (x:Qm)=>(.agg (Q8 x):V)) (fun (x:List Int)=>((l_ x):V)) 0 c30) (c30).length)]) M,Γ.n0+131⟩) h (fun J51 h=>?_) (fun z h=>?_)
     ·refine Z 6 0 ?_;refine cl (Hck _ _) h (cq fun _ h=>?_);refine Z 1 0 ?_;refine cd h rfl (fun h=>?_) (fun h=>?_)
      ·refine Tr.seq ?_;refine cu h (fun x41=>⟨look [(2,(l_ ov3)),(3,(b_ mv4)),(4,.ptr (Γ.n0+4) 0),(11,.ptr (Γ.n0+11) 0),(12,.mp (Γ.n0+36)),(13,.ownT 2 (List.map Qc1 l28)),(14,.ptr (Γ.n0+14) 0),(16,.ptr (Γ.n0+16) 0),(17,.ptr (Γ.n0+17) 0),(73,(Qf x26)),(74,(i_ (x26.length:Int))),(75,(i_ x29)),(103,(b_ x41))],Qh Γ.n0 (bxs [(4,.cells ((Qo a1))),(11,.cells ((Qy x9))),(14,.cells ((Q8 x18))),(16,.cells ((Qij x33))),(17,.cells ([(i_ x33.To),(i_ x18.done_)])),(36,.mp (mapE (fun (x:Qm)=>(.agg (Q8 x):V)) (fun (x:List Int)=>((l_ x):V)) 0 c30) (c30).length)]) M,Γ.n0+131⟩) (fun _ h=>?_) (fun x41 h=>?_)
       ·refine Z 7 0 ?_;exact bs h (fun _ h=>Y) (fun _ h=>Y)
       ·refine cd h rfl (fun h=>Y) (fun h=>?_);refine Z 8 0 ?_;exact ⟨_,h,(by exact Qii [] ⟨sq,sq,(kPtr rfl),(kPtr rfl),(kMp rfl),sq,(kPtr rfl),(kPtr rfl),(kPtr rfl),sq,sq,sq,tv⟩ ⟨bS rfl rfl rfl,bS rfl rfl rfl,bS rfl rfl rfl,bS rfl rfl rfl,bS rfl rfl rfl,⟨rfl,rfl⟩,tv⟩ rfl)⟩
      ·refine Tr.skip ?_;exact ⟨_,h,(by exact Qii [] ⟨sq,sq,(kPtr rfl),(kPtr rfl),(kMp rfl),sq,(kPtr rfl),(kPtr rfl),(kPtr rfl),sq,sq,sq,tv⟩ ⟨bS rfl rfl rfl,bS rfl rfl rfl,bS rfl rfl rfl,bS rfl rfl rfl,bS rfl rfl rfl,⟨rfl,rfl⟩,tv⟩ rfl)⟩
     ·obtain ⟨q43,rfl⟩ : ∃ x,x=z:=⟨_,rfl⟩;refine Z 4 0 ?_;refine Rn.lookupC (ek:=(fun (x:Qm)=>(.agg (Q8 x):V))) (ev:=(fun (x:List Int)=>((l_ x):V))) (m:=c30) (k:=(Qm.mk x33.To q43)) Qe0 (fun _=>rfl) (fun _=>rfl) [] rfl tv rfl rfl rfl ?_;refine Z 11 0 ?_;refine Tr.cond rfl (fun hb44=>?_) (fun hb44=>?_)
      ·have hb44:=nT' hb44;replace h:=bF hb44 h;refine Z 6 0 ?_;refine Rn.lookup (ek:=(fun (x:Qm)=>(.agg (Q8 x):V))) (ev:=(fun (x:List Int)=>((l_ x):V))) (m:=c30) (k:=x18) Qe0 (fun _=>rfl) (fun _=>rfl) [] rfl tv rfl rfl rfl ?_;refine cl (Hci _) h (cq fun _ h=>?_);refine Z 4 1 ?_;intro x47 h;refine Rn.mapset (ek:=(fun (x:Qm)=>(.agg (Q8 x):V))) (ev:=(fun (x:List Int)=>((l_ x):V))) (m:=c30) (k:=(Qm.mk x33.To q43)) (v:=x47) Qe0 (fun _=>rfl) (fun _=>rfl) tv rfl rfl rfl rfl rfl ?_;refine Z 5 0 ?_;obtain ⟨x49,h50,h⟩:=bnd h;refine Rn.appT (e:=Qc1) tv rfl rfl rfl (Qys rfl rfl rfl) h50 rfl ?_;exact Y
      ·have hb44:=nF' hb44;replace h:=bT hb44 h;exact Y
    ·refine Z 3 0 ?_;obtain ⟨x59,h60,h⟩:=bnd h;refine Rn.slcT (e:=Qc1) tv (.inr rfl) rfl h60 ?_;exact Y
theorem Qo8 {P:Program} {c:Nat} {Qr:_} {Qes:_}
    (Hbe:Qdr P 54 Qr)
    (Hbs:Qkk P 82 Qes) (hcf:Qq P c=some Qk6) (fuel:Nat):Qh5 P c (Qco Qr Qes fuel):=by
 intro ov1 x2 x5 x8 x11 x14 k3 k6 k9 k12 k15 r h;intro M nb hk4 hk7 hk10 hk13 hk16 hv17 hv18 hv19 hv20;refine Q9m hcf rfl M _ nb (fun hM=>Qv9 hM ⟨(ltB hM hk4),tv⟩) fun Γ hP hnt hn0 hM=>?_;subst hP hn0;refine ini ?_;refine Tr.puts [(k3,.cells ((Qo x2)))] ⟨hk4,tv⟩ ?_;refine Z 7 0 ?_;refine Rn.storeB (v:=.nils 1) (cs':=[(l_ x2.zD),(i_ x2.zH),.nils 1,(Qf x2.zG)]) tv rfl rfl rfl (ltB hM hk4) rfl pg0 rfl rfl ps0 ?_;refine Rn.weak (Qyy (B:=[(k3,.cells ([(l_ x2.zD),(i_ x2.zH),.nils 1,(Qf x2.zG)]))]) (B':=[(k3,.cells ([(l_ x2.zD),(i_ x2.zH),.own 1 (List.map (eI .i64) []),(Qf x2.zG)]))]) ⟨⟨rfl,(cS rfl (cS rfl (.cons (WkV.nilsO _) (cS rfl .nil))))⟩,tv⟩ (by show WeakSt Γ _ ⟨look [(0,(i_ ov1)),(1,.ptr k3 0),(2,.ptr k6 0),(3,.ptr k9 0),(4,.ptr k12 0),(5,.ptr k15 0),(7,.nils 1),(13,.ptr k3 2)],Qh Γ.n0 (bxs []) (Mem.puts M [(k3,.cells ([(l_ x2.zD),(i_ x2.zH),.own 1 (List.map (eI .i64) []),(Qf x2.zG)]))]),Γ.n0+46⟩;exact Qii [] ⟨sq,(Qmb (ltB hM hk4)),(Qmb (ltB hM hk7)),(Qmb (ltB hM hk10)),(Qmb (ltB hM hk13)),(Qmb (ltB hM hk16)),sq,(Qmb (ltB hM hk4)),tv⟩ tv rfl)) ?_;refine Z 1 0 ?_;refine cu h (fun c35=>⟨look [(1,.ptr k3 0),(4,.ptr k12 0),(5,.ptr k15 0)],Qh Γ.n0 (bxs []) (Mem.puts M [(k3,.cells ([(l_ x2.zD),(i_ x2.zH),(o_ c35),(Qf x2.zG)]))]),Γ.n0+46⟩) (fun _ h=>?_) (fun c35 h=>?_)
 ·refine Z 2 0 ?_;refine Rn.load (v:=(Qc x5)) tv rfl (Qjt (ltB hM hk7) (pgS hv17.symm hk7)) rfl rfl ?_;refine Z 4 0 ?_;refine lo h (fun (x21,c22)=>⟨look [(0,(i_ ov1)),(1,.ptr k3 0),(3,.ptr k9 0),(4,.ptr k12 0),(5,.ptr k15 0),(14,(Qc x5)),(15,(i_ (x5.length:Int))),(16,(i_ x21))],Qh Γ.n0 (bxs []) (Mem.puts M [(k3,.cells ([(l_ x2.zD),(i_ x2.zH),(o_ c22),(Qf x2.zG)]))]),Γ.n0+46⟩) wk (fun _ ⟨x21,c22⟩ h=>?_);refine Z 5 0 ?_;refine ci h rfl (fun h=>?_) (fun h=>Y);refine Tr.skip ?_;refine cu h (fun (c32,c33,c34)=>⟨look [(0,(i_ ov1)),(1,.ptr k3 0),(3,.ptr k9 0),(4,.ptr k12 0),(5,.ptr k15 0),(14,(Qc x5)),(15,(i_ (x5.length:Int))),(16,(i_ x21))],Qh Γ.n0 (bxs [(9,.cells ([(i_ c32),(i_ c33)]))]) (Mem.puts M [(k3,.cells ([(l_ x2.zD),(i_ x2.zH),(o_ c34),(Qf x2.zG)]))]),Γ.n0+46⟩) (fun _ h=>?_) (fun ⟨c32,c33,c34⟩ h=>Y);refine Z 14 1 ?_;intro _ h;refine Rn.load (v:=(i_ x8)) tv rfl (Qjt (ltB hM hk10) (pgS hv18.symm hk10)) rfl rfl ?_;refine Z 1 0 ?_;obtain ⟨s27,h28,h⟩:=bnd h;refine Rn.bin tv rfl rfl (Q9b h28) ?_;refine Z 4 0 ?_;refine cd h rfl (fun h=>?_) (fun h=>Y);refine Z 2 0 ?_;refine Rn.loadTB (cs':=[(l_ x2.zD),(i_ x2.zH),(l_ c22),(Qf x2.zG)]) tv rfl (ltB hM hk4) pg0 rfl rfl ps0 ?_;refine Z 4 1 ?_;intro x30 h;refine Rn.storeOB (cs':=[(l_ x2.zD),(i_ x2.zH),(o_ x30),(Qf x2.zG)]) tv rfl rfl (ltB hM hk4) pg0 rfl rfl ps0 ?_;exact Y
 ·refine Z 2 0 ?_;refine Rn.load (v:=.agg [(l_ x2.zD),(i_ x2.zH),(l_ c35),(Qf x2.zG)]) tv rfl (Qjt (ltB hM hk4) pg0) rfl rfl (Rn.load (v:=(Qe x11)) tv rfl (Qjt (ltB hM hk13) (pgS hv19.symm hk13)) rfl rfl ?_);obtain ⟨x37,h36,h⟩:=bnd h;refine Rn.call (args:=[(Qe x11)]) tv rfl (Hbe _ _ h36) (fun _=>Q0l (Qv9 hM ⟨(ltB hM hk4),tv⟩) rfl) (Rn.load (v:=(l_ x14)) tv rfl (Qjt (ltB hM hk16) (pgS hv20.symm hk16)) rfl rfl ?_);obtain ⟨⟨r39,r40,r41⟩,h38,h⟩:=bnd h;refine Rn.call (args:=[.agg [(l_ x2.zD),(i_ x2.zH),(l_ c35),(Qf x2.zG)],(l_ x37),(l_ x14),(b_ true)]) tv rfl (Hbs _ _ _ _ _ h38) (fun _=>Q0l (Qv9 hM ⟨(ltB hM hk4),tv⟩) rfl) ?_;refine Z 13 0 ?_;refine Tr.weak (Qyy (B:=[(k3,.cells ([(l_ x2.zD),(i_ x2.zH),(o_ c35),(Qf x2.zG)]))]) (B':=[(k3,.cells ([(l_ x2.zD),(i_ x2.zH),(l_ c35),(Qf x2.zG)]))]) ⟨⟨rfl,(cS rfl (cS rfl (.cons (WkV.dem' rfl) (cS rfl .nil))))⟩,tv⟩ (by show WeakSt Γ _ ⟨look [(1,.ptr k3 0),(4,.ptr k12 0),(5,.ptr k15 0),(7,(l_ r39)),(10,(l_ r39)),(11,(b_ r40)),(12,(i_ r41)),(36,.tup [(l_ r39),(b_ r40),(i_ r41)]),(37,.agg [(l_ x2.zD),(i_ x2.zH),(l_ c35),(Qf x2.zG)]),(38,(Qe x11)),(39,(l_ x37)),(40,(l_ x14)),(41,.tup [(l_ r39),(b_ r40),(i_ r41)]),(42,(l_ r39)),(43,(b_ r40)),(44,(i_ r41)),(45,(l_ r39))],Qh Γ.n0 (bxs []) (Mem.puts M [(k3,.cells ([(l_ x2.zD),(i_ x2.zH),(l_ c35),(Qf x2.zG)]))]),Γ.n0+46⟩;exact Qii [] ⟨(Qmb (ltB hM hk4)),(Qmb (ltB hM hk13)),(Qmb (ltB hM hk16)),sq,sq,sq,sq,sq,sq,sq,sq,sq,sq,sq,sq,sq,sq,tv⟩ tv rfl)) ?_;exact Y
theorem Qqn {P:Program} {c:Nat} {Qt:_} {Qx:_} {Qb2:_} {Qw:_} {Qbg:_} {Qco:_}
    (Hav:Qeo P 18 Qt)
    (Har:Qfb P 27 Qx)
    (Hba:Qgz P 31 Qb2)
    (Haq:Qfl P 36 Qw)
    (Hbf:Qgr P 56 Qbg)
    (Hau:Qh5 P 81 Qco) (hcf:Qq P c=some Qm6):Qg0 P c (Qbk Qt Qx Qb2 Qw Qbg Qco):=by
 intro ev1 a2 ov3 cv4 r h;refine Qcf hcf rfl fun Γ M hP hnt hM=>?_;subst hP;refine ini ?_;refine Z 16 0 ?_;refine cl (Haq _ _) h (cq fun _ h=>?_);refine Z 7 0 ?_;refine cd h rfl (fun h=>Y) (fun h=>?_);refine Z 5 0 ?_;refine cl (Hbf _) h (cq fun _ h=>?_);refine Z 1 0 ?_;refine cd h rfl (fun h=>Y) (fun h=>?_);refine Z 6 0 ?_;refine cl (Har _ _ _) h (cq fun ⟨_,_⟩ h=>?_);refine Z 12 0 ?_;refine cd h rfl (fun h=>Y) (fun h=>?_);refine Z 6 0 ?_;refine cl (Hba _ _) h (cq fun ⟨_,_⟩ h=>?_);refine Z 11 0 ?_;refine cd h rfl (fun h=>Y) (fun h=>?_);refine Z 5 0 ?_;refine cl (Hav _ _) h (cq fun ⟨_,_,_⟩ h=>?_);refine Z 12 0 ?_;refine Rn.k (v:=.clo 81 [.ptr (Γ.n0+14) 0,.ptr (Γ.n0+15) 0,.ptr (Γ.n0+7) 0,.ptr (Γ.n0+4) 0,.ptr (Γ.n0+6) 0]) tv rfl rfl rfl ?_;refine Z 5 0 ?_;obtain ⟨⟨r23,c24⟩,h25,h⟩:=bnd h;refine Rn.callvW (args:=([(i_ 1)]++[.ptr (Γ.n0+14) 0,.ptr (Γ.n0+15) 0,.ptr (Γ.n0+7) 0,.ptr (Γ.n0+4) 0,.ptr (Γ.n0+6) 0])) (B:=[((Γ.n0+14),.cells ((Qo c24)))]) tv rfl rfl (Hau _ _ _ _ _ _ (Γ.n0+14) (Γ.n0+15) (Γ.n0+7) (Γ.n0+4) (Γ.n0+6) _ h25 _ _ (Qc7 rfl) (Qc7 rfl) (Qc7 rfl) (Qc7 rfl) (Qc7 rfl) (Quz rfl) (Quz rfl) (Quz rfl) (Quz rfl)) ⟨(.inl (Nat.le_add_right _ _)),tv⟩ (Q4u cw0) rfl ?_;refine Z 1 0 ?_;obtain ⟨⟨r26,c27⟩,h28,h⟩:=bnd h;refine Rn.callvW (args:=([(i_ 0)]++[.ptr (Γ.n0+14) 0,.ptr (Γ.n0+15) 0,.ptr (Γ.n0+7) 0,.ptr (Γ.n0+4) 0,.ptr (Γ.n0+6) 0])) (B:=[((Γ.n0+14),.cells ((Qo c27)))]) tv rfl rfl (Hau _ _ _ _ _ _ (Γ.n0+14) (Γ.n0+15) (Γ.n0+7) (Γ.n0+4) (Γ.n0+6) _ h28 _ _ (Qc7 rfl) (Qc7 rfl) (Qc7 rfl) (Qc7 rfl) (Qc7 rfl) (Quz rfl) (Quz rfl) (Quz rfl) (Quz rfl)) ⟨(.inl (Nat.le_add_right _ _)),tv⟩ (Q4u cw0) rfl ?_;exact Y
theorem Qp1 {P:Program} {c:Nat} (hcf:Qq P c=some Qlt) (fuel:Nat):Qit P c (Qcv fuel):=by
 intro a1 b2 r h;refine Qcf hcf rfl fun Γ M hP hnt hM=>?_;subst hP;refine ini ?_;refine Z 13 0 ?_;refine cd h rfl (fun h=>Y) (fun h=>?_);refine Z 7 0 ?_;refine lw h [0,1] [] (fun i4 e=>(5,(i_ i4))::e) (fun _ l=>l) ke wk (fun _ i4 h=>?_);refine Z 8 0 ?_;refine ci h rfl (fun h=>?_) (fun h=>Y);refine Z 13 1 ?_;intro x7 x9 h;refine Rn.eqa (r:=((x7.State==x9.State)&&((x7.Classes==x9.Classes)&&true))) tv rfl rfl rfl ?_;refine Z 1 0 ?_;refine Tr.cond rfl (fun hb11=>?_) (fun hb11=>?_)
 ·have hb11:=nT' hb11;replace h:=bF hb11 h;exact Y
 ·have hb11:=nF' hb11;replace h:=bT hb11 h;exact Y
theorem Qrq {P:Program} {c:Nat} (hcf:Qq P c=some Qnz) (fuel:Nat):Qhm P c (Qbs fuel):=by
 intro s1 s2 r h;refine Qcf hcf rfl fun Γ M hP hnt hM=>?_;subst hP;refine ini ?_;refine Z 13 0 ?_;refine cd h rfl (fun h=>Y) (fun h=>?_);refine Z 9 0 ?_;refine lw h [0,1,12] [] (fun x4 e=>(13,(i_ x4))::e) (fun _ l=>l) ke wk (fun _ x4 h=>?_);refine Z 5 0 ?_;refine ci h rfl (fun h=>?_) (fun h=>Y);refine Z 20 1 ?_;intro _ _ h;exact cd h rfl (fun h=>Y) (fun h=>Y)
theorem Qy0 {P:Program} {c:Nat} {Qbs:_}
    (Hcm:Qhm P 62 Qbs) (hcf:Qq P c=some Qw4):Qrj P c (Qf4 Qbs):=by
 intro a1 b2 r h;refine Qcf hcf rfl fun Γ M hP hnt hM=>?_;subst hP;refine ini ?_;refine Z 8 0 ?_;refine cl (Hcm _ _) h (cq fun _ h=>?_);exact Y
theorem Qo9 {P:Program} {c:Nat} {Qbv:_} {Qer:_} {Qf4:_} {Qcv:_} {Qx:_} {Qbk:_} {Qc8:_}
    (Hap:Qik P 13 Qbv)
    (Haw:Qkj P 15 Qer)
    (Hcu:Qrj P 17 Qf4)
    (Hbo:Qit P 23 Qcv)
    (Har:Qfb P 27 Qx)
    (Hat:Qg0 P 34 Qbk)
    (Hbn:Qhz P 50 Qc8) (hcf:Qq P c=some Qk7):Qh6 P c (Qcp Qbv Qer Qf4 Qcv Qx Qbk Qc8):=by
 intro  r h;refine Qcf hcf rfl fun Γ M hP hnt hM=>?_;subst hP;refine ini ?_;refine Z 6 0 ?_;refine cl Hbn h (cq fun ⟨r2,r3⟩ h=>?_);refine Z 11 0 ?_;obtain ⟨⟨r5,r6⟩,h4,h⟩:=bnd h;refine Rn.call (args:=[(Qe r2),.agg [(l_ r3.zD),(i_ r3.zH),.nils 1,(Qf r3.zG)],.nils 1]) tv rfl (fun M2 nb2=>ACalls.weak (args':=[(Qe r2),.agg [(l_ r3.zD),(i_ r3.zH),(l_ []),(Qf r3.zG)],(l_ [])]) (Har _ _ _ _ h4 M2 nb2) (cS rfl (.cons (WkV.agg (cS rfl (cS rfl (.cons (WkV.nilsD _) (cS rfl .nil))))) (.cons (WkV.nilsD _) .nil))) rfl) pc9 ?_;refine Z 11 0 ?_;refine Rn.weak (by show WeakSt Γ _ ⟨look [(0,(b_ false)),(1,(Qe r2)),(2,.ptr (Γ.n0+2) 0),(3,(Qc r5)),(4,(i_ r6)),(15,.tup [(Qe r2),.agg [(l_ r3.zD),(i_ r3.zH),.nils 1,(Qf r3.zG)]]),(16,.tup [(Qe r2),.agg [(l_ r3.zD),(i_ r3.zH),.nils 1,(Qf r3.zG)]]),(17,(Qe r2)),(18,.agg [(l_ r3.zD),(i_ r3.zH),.nils 1,(Qf r3.zG)]),(19,.tup [(Qc r5),(i_ r6)]),(20,(Qe r2)),(21,.agg [(l_ r3.zD),(i_ r3.zH),.nils 1,(Qf r3.zG)]),(22,.tup [(Qn r5),(i_ r6)]),(23,(Qc r5)),(24,(i_ r6)),(26,(Qe r2)),(27,.agg [(l_ r3.zD),(i_ r3.zH),.nils 1,(Qf r3.zG)]),(28,(l_ [1]))],Qh Γ.n0 (bxs [(2,.cells ([(l_ r3.zD),(i_ r3.zH),.nils 1,(Qf r3.zG)]))]) M,Γ.n0+121⟩;exact Qe6 28 [.int .i64 1] rfl rfl ⟨sq,sq,(fPtr rfl),sq,sq,sq,sq,sq,sq,sq,sq,sq,sq,sq,sq,sq,sq,(fSl rfl rfl),tv⟩ ⟨bS rfl rfl rfl,tv⟩ rfl) ?_;obtain ⟨⟨r8,r9⟩,h7,h⟩:=bnd h;refine Rn.call (args:=[(Qe r2),.agg [(l_ r3.zD),(i_ r3.zH),.nils 1,(Qf r3.zG)],(l_ [1])]) tv rfl (fun M2 nb2=>ACalls.weak (args':=[(Qe r2),.agg [(l_ r3.zD),(i_ r3.zH),(l_ []),(Qf r3.zG)],(l_ [1])]) (Har _ _ _ _ h7 M2 nb2) (cS rfl (.cons (WkV.agg (cS rfl (cS rfl (.cons (WkV.nilsD _) (cS rfl .nil))))) (cS rfl .nil))) rfl) pc9 ?_;refine Z 10 0 ?_;obtain ⟨⟨r11,r12⟩,h10,h⟩:=bnd h;refine Rn.call (args:=[(Qe r2),.agg [(l_ r3.zD),(i_ r3.zH),.nils 1,(Qf r3.zG)]]) tv rfl (fun M2 nb2=>ACalls.weak (args':=[(Qe r2),.agg [(l_ r3.zD),(i_ r3.zH),(l_ []),(Qf r3.zG)]]) (Hap _ _ _ h10 M2 nb2) (cS rfl (.cons (WkV.agg (cS rfl (cS rfl (.cons (WkV.nilsD _) (cS rfl .nil))))) .nil)) rfl) pc9 ?_;refine Z 10 0 ?_;refine cl (Haw _ _) h (cq fun ⟨r14,r15⟩ h=>?_);refine Z 11 0 ?_;refine Rn.weak (by show WeakSt Γ _ ⟨look [(0,(b_ false)),(1,(Qe r2)),(2,.ptr (Γ.n0+2) 0),(3,(Qc r5)),(4,(i_ r6)),(5,(Qc r8)),(6,(i_ r9)),(7,.ptr (Γ.n0+7) 0),(8,(i_ r12)),(9,.d (.lst 1 (List.map (eL 1 (eI .i64)) r14))),(10,(i_ r15)),(15,.tup [(Qe r2),.agg [(l_ r3.zD),(i_ r3.zH),.nils 1,(Qf r3.zG)]]),(16,.tup [(Qe r2),.agg [(l_ r3.zD),(i_ r3.zH),.nils 1,(Qf r3.zG)]]),(17,(Qe r2)),(18,.agg [(l_ r3.zD),(i_ r3.zH),.nils 1,(Qf r3.zG)]),(19,.tup [(Qc r5),(i_ r6)]),(20,(Qe r2)),(21,.agg [(l_ r3.zD),(i_ r3.zH),.nils 1,(Qf r3.zG)]),(22,.tup [(Qn r5),(i_ r6)]),(23,(Qc r5)),(24,(i_ r6)),(25,.tup [(Qc r8),(i_ r9)]),(26,(Qe r2)),(27,.agg [(l_ r3.zD),(i_ r3.zH),.nils 1,(Qf r3.zG)]),(28,(l_ [1])),(29,.tup [(Qn r8),(i_ r9)]),(30,(Qc r8)),(31,(i_ r9)),(32,.tup [(Qp r11),(i_ r12)]),(33,(Qe r2)),(34,.agg [(l_ r3.zD),(i_ r3.zH),.nils 1,(Qf r3.zG)]),(35,.tup [(Qp r11),(i_ r12)]),(36,(Qp r11)),(37,(i_ r12)),(38,.tup [.d (.lst 1 (List.map (eL 1 (eI .i64)) r14)),(i_ r15)]),(39,(Qp r11)),(40,.tup [.own 1 (List.map (eL 1 (eI .i64)) r14),(i_ r15)]),(41,.d (.lst 1 (List.map (eL 1 (eI .i64)) r14))),(42,(i_ r15)),(44,(Qe r2)),(45,.agg [(l_ r3.zD),(i_ r3.zH),.nils 1,(Qf r3.zG)]),(46,(l_ [0]))],Qh Γ.n0 (bxs [(2,.cells ([(l_ r3.zD),(i_ r3.zH),.nils 1,(Qf r3.zG)])),(7,.cells ((Qu r11)))]) M,Γ.n0+121⟩;exact Qe6 46 [.int .i64 0] rfl rfl ⟨sq,sq,(fPtr rfl),sq,sq,sq,sq,(fPtr rfl),sq,sq,sq,sq,sq,sq,sq,sq,sq,sq,sq,sq,sq,sq,sq,sq,sq,sq,sq,sq,sq,sq,sq,sq,sq,sq,sq,sq,sq,sq,sq,sq,sq,(fSl rfl rfl),tv⟩ ⟨bS rfl rfl rfl,bS rfl rfl rfl,tv⟩ rfl) ?_;obtain ⟨⟨r17,r18,r19,r20⟩,h16,h⟩:=bnd h;refine Rn.call (args:=[(Qe r2),.agg [(l_ r3.zD),(i_ r3.zH),.nils 1,(Qf r3.zG)],(l_ [0]),(i_ 1)]) tv rfl (fun M2 nb2=>ACalls.weak (args':=[(Qe r2),.agg [(l_ r3.zD),(i_ r3.zH),(l_ []),(Qf r3.zG)],(l_ [0]),(i_ 1)]) (Hat _ _ _ _ _ h16 M2 nb2) (cS rfl (.cons (WkV.agg (cS rfl (cS rfl (.cons (WkV.nilsD _) (cS rfl .nil))))) (cS rfl (cS rfl .nil)))) rfl) pc9 ?_;refine Z 10 0 ?_;refine cw h [] [2,7] (fun x48 e=>(0,(b_ x48))::e) (fun _ l=>l) ke (fun _ h=>?_) (fun x48 h=>Y);refine Z 4 0 ?_;refine bs h (fun _ h=>?_) (fun _ h=>Y);refine Z 4 0 ?_;refine Rn.weak (by show WeakSt Γ _ ⟨look [(0,(b_ false)),(1,(Qe r2)),(2,.ptr (Γ.n0+2) 0),(3,(Qc r5)),(4,(i_ r6)),(5,(Qc r8)),(6,(i_ r9)),(7,.ptr (Γ.n0+7) 0),(8,(i_ r12)),(9,.d (.lst 1 (List.map (eL 1 (eI .i64)) r14))),(10,(i_ r15)),(11,(l_ r17)),(12,(l_ r18)),(13,(i_ r19)),(14,(i_ r20)),(15,.tup [(Qe r2),.agg [(l_ r3.zD),(i_ r3.zH),.nils 1,(Qf r3.zG)]]),(16,.tup [(Qe r2),.agg [(l_ r3.zD),(i_ r3.zH),.nils 1,(Qf r3.zG)]]),(17,(Qe r2)),(18,.agg [(l_ r3.zD),(i_ r3.zH),.nils 1,(Qf r3.zG)]),(19,.tup [(Qc r5),(i_ r6)]),(20,(Qe r2)),(21,.agg [(l_ r3.zD),(i_ r3.zH),.nils 1,(Qf r3.zG)]),(22,.tup [(Qn r5),(i_ r6)]),(23,(Qc r5)),(24,(i_ r6)),(25,.tup [(Qc r8),(i_ r9)]),(26,(Qe r2)),(27,.agg [(l_ r3.zD),(i_ r3.zH),.nils 1,(Qf r3.zG)]),(28,(l_ [1])),(29,.tup [(Qn r8),(i_ r9)]),(30,(Qc r8)),(31,(i_ r9)),(32,.tup [(Qp r11),(i_ r12)]),(33,(Qe r2)),(34,.agg [(l_ r3.zD),(i_ r3.zH),.nils 1,(Qf r3.zG)]),(35,.tup [(Qp r11),(i_ r12)]),(36,(Qp r11)),(37,(i_ r12)),(38,.tup [.d (.lst 1 (List.map (eL 1 (eI .i64)) r14)),(i_ r15)]),(39,(Qp r11)),(40,.tup [.own 1 (List.map (eL 1 (eI .i64)) r14),(i_ r15)]),(41,.d (.lst 1 (List.map (eL 1 (eI .i64)) r14))),(42,(i_ r15)),(43,.tup [(l_ r17),(l_ r18),(i_ r19),(i_ r20)]),(44,(Qe r2)),(45,.agg [(l_ r3.zD),(i_ r3.zH),.nils 1,(Qf r3.zG)]),(46,(l_ [0])),(47,.tup [(l_ r17),(l_ r18),(i_ r19),(i_ r20)]),(48,(l_ r17)),(49,(l_ r18)),(50,(i_ r19)),(51,(i_ r20)),(52,(i_ r6)),(53,(b_ (r6==0))),(54,(b_ (r6==0))),(55,(Qc r5)),(56,.agg [(i_ 0),(i_ 0)]),(57,.agg [(i_ 1),(i_ 1)]),(58,.d (.lst 2 (List.map Qv [(Qb.mk 0 0),(Qb.mk 1 1)])))],Qh Γ.n0 (bxs [(2,.cells ([(l_ r3.zD),(i_ r3.zH),.nils 1,(Qf r3.zG)])),(7,.cells ((Qu r11)))]) M,Γ.n0+121⟩;exact Qe6 58 [.int .i64 0,.int .i64 0,.int .i64 1,.int .i64 1] rfl rfl ⟨sq,sq,(fPtr rfl),sq,sq,sq,sq,(fPtr rfl),sq,sq,sq,sq,sq,sq,sq,sq,sq,sq,sq,sq,sq,sq,sq,sq,sq,sq,sq,sq,sq,sq,sq,sq,sq,sq,sq,sq,sq,sq,sq,sq,sq,sq,sq,sq,sq,sq,sq,sq,sq,sq,sq,sq,sq,sq,sq,sq,sq,sq,(fSl rfl rfl),tv⟩ ⟨bS rfl rfl rfl,bS rfl rfl rfl,tv⟩ rfl) ?_;refine cl (Hbo _ _) h (cq fun x23 h=>?_);refine Z 2 0 ?_;refine bs h (fun _ h=>?_) (fun _ h=>Y);refine Z 4 0 ?_;refine bs h (fun _ h=>?_) (fun _ h=>Y);refine Z 3 0 ?_;refine Rn.weak (by show WeakSt Γ _ ⟨look [(0,(b_ false)),(1,(Qe r2)),(2,.ptr (Γ.n0+2) 0),(3,(Qc r5)),(4,(i_ r6)),(5,(Qc r8)),(6,(i_ r9)),(7,.ptr (Γ.n0+7) 0),(8,(i_ r12)),(9,.d (.lst 1 (List.map (eL 1 (eI .i64)) r14))),(10,(i_ r15)),(11,(l_ r17)),(12,(l_ r18)),(13,(i_ r19)),(14,(i_ r20)),(15,.tup [(Qe r2),.agg [(l_ r3.zD),(i_ r3.zH),.nils 1,(Qf r3.zG)]]),(16,.tup [(Qe r2),.agg [(l_ r3.zD),(i_ r3.zH),.nils 1,(Qf r3.zG)]]),(17,(Qe r2)),(18,.agg [(l_ r3.zD),(i_ r3.zH),.nils 1,(Qf r3.zG)]),(19,.tup [(Qc r5),(i_ r6)]),(20,(Qe r2)),(21,.agg [(l_ r3.zD),(i_ r3.zH),.nils 1,(Qf r3.zG)]),(22,.tup [(Qn r5),(i_ r6)]),(23,(Qc r5)),(24,(i_ r6)),(25,.tup [(Qc r8),(i_ r9)]),(26,(Qe r2)),(27,.agg [(l_ r3.zD),(i_ r3.zH),.nils 1,(Qf r3.zG)]),(28,(l_ [1])),(29,.tup [(Qn r8),(i_ r9)]),(30,(Qc r8)),(31,(i_ r9)),(32,.tup [(Qp r11),(i_ r12)]),(33,(Qe r2)),(34,.agg [(l_ r3.zD),(i_ r3.zH),.nils 1,(Qf r3.zG)]),(35,.tup [(Qp r11),(i_ r12)]),(36,(Qp r11)),(37,(i_ r12)),(38,.tup [.d (.lst 1 (List.map (eL 1 (eI .i64)) r14)),(i_ r15)]),(39,(Qp r11)),(40,.tup [.own 1 (List.map (eL 1 (eI .i64)) r14),(i_ r15)]),(41,.d (.lst 1 (List.map (eL 1 (eI .i64)) r14))),(42,(i_ r15)),(43,.tup [(l_ r17),(l_ r18),(i_ r19),(i_ r20)]),(44,(Qe r2)),(45,.agg [(l_ r3.zD),(i_ r3.zH),.nils 1,(Qf r3.zG)]),(46,(l_ [0])),(47,.tup [(l_ r17),(l_ r18),(i_ r19),(i_ r20)]),(48,(l_ r17)),(49,(l_ r18)),(50,(i_ r19)),(51,(i_ r20)),(52,(i_ r6)),(53,(b_ (r6==0))),(54,(b_ (r6==0))),(55,(Qc r5)),(56,.agg [(i_ 0),(i_ 0)]),(57,.agg [(i_ 1),(i_ 1)]),(58,.d (.lst 2 (List.map Qv [(Qb.mk 0 0),(Qb.mk 1 1)]))),(59,(b_ x23)),(60,(b_ x23)),(61,(b_ x23)),(62,(i_ r9)),(63,(b_ (r9==0))),(64,(b_ (r9==0))),(65,(b_ (r9==0))),(66,(Qc r8)),(67,.agg [(i_ 2),(i_ 1)]),(68,.d (.lst 2 (List.map Qv [(Qb.mk 2 1)])))],Qh Γ.n0 (bxs [(2,.cells ([(l_ r3.zD),(i_ r3.zH),.nils 1,(Qf r3.zG)])),(7,.cells ((Qu r11)))]) M,Γ.n0+121⟩;exact Qe6 68 [.int .i64 2,.int .i64 1] rfl rfl ⟨sq,sq,(fPtr rfl),sq,sq,sq,sq,(fPtr rfl),sq,sq,sq,sq,sq,sq,sq,sq,sq,sq,sq,sq,sq,sq,sq,sq,sq,sq,sq,sq,sq,sq,sq,sq,sq,sq,sq,sq,sq,sq,sq,sq,sq,sq,sq,sq,sq,sq,sq,sq,sq,sq,sq,sq,sq,sq,sq,sq,sq,sq,sq,sq,sq,sq,sq,sq,sq,sq,sq,sq,(fSl rfl rfl),tv⟩ ⟨bS rfl rfl rfl,bS rfl rfl rfl,tv⟩ rfl) ?_;refine cl (Hbo _ _) h (cq fun x27 h=>?_);refine Z 2 0 ?_;refine bs h (fun _ h=>?_) (fun _ h=>Y);refine Z 4 0 ?_;refine bs h (fun _ h=>?_) (fun _ h=>Y);refine Z 4 0 ?_;refine bs h (fun _ h=>?_) (fun _ h=>Y);refine Z 5 0 ?_;refine bs h (fun _ h=>?_) (fun _ h=>Y);refine Z 4 1 ?_;intro x32 h;refine Rn.weak (by show WeakSt Γ _ ⟨look [(0,(b_ false)),(1,(Qe r2)),(2,.ptr (Γ.n0+2) 0),(3,(Qc r5)),(4,(i_ r6)),(5,(Qc r8)),(6,(i_ r9)),(7,.ptr (Γ.n0+7) 0),(8,(i_ r12)),(9,.d (.lst 1 (List.map (eL 1 (eI .i64)) r14))),(10,(i_ r15)),(11,(l_ r17)),(12,(l_ r18)),(13,(i_ r19)),(14,(i_ r20)),(15,.tup [(Qe r2),.agg [(l_ r3.zD),(i_ r3.zH),.nils 1,(Qf r3.zG)]]),(16,.tup [(Qe r2),.agg [(l_ r3.zD),(i_ r3.zH),.nils 1,(Qf r3.zG)]]),(17,(Qe r2)),(18,.agg [(l_ r3.zD),(i_ r3.zH),.nils 1,(Qf r3.zG)]),(19,.tup [(Qc r5),(i_ r6)]),(20,(Qe r2)),(21,.agg [(l_ r3.zD),(i_ r3.zH),.nils 1,(Qf r3.zG)]),(22,.tup [(Qn r5),(i_ r6)]),(23,(Qc r5)),(24,(i_ r6)),(25,.tup [(Qc r8),(i_ r9)]),(26,(Qe r2)),(27,.agg [(l_ r3.zD),(i_ r3.zH),.nils 1,(Qf r3.zG)]),(28,(l_ [1])),(29,.tup [(Qn r8),(i_ r9)]),(30,(Qc r8)),(31,(i_ r9)),(32,.tup [(Qp r11),(i_ r12)]),(33,(Qe r2)),(34,.agg [(l_ r3.zD),(i_ r3.zH),.nils 1,(Qf r3.zG)]),(35,.tup [(Qp r11),(i_ r12)]),(36,(Qp r11)),(37,(i_ r12)),(38,.tup [.d (.lst 1 (List.map (eL 1 (eI .i64)) r14)),(i_ r15)]),(39,(Qp r11)),(40,.tup [.own 1 (List.map (eL 1 (eI .i64)) r14),(i_ r15)]),(41,.d (.lst 1 (List.map (eL 1 (eI .i64)) r14))),(42,(i_ r15)),(43,.tup [(l_ r17),(l_ r18),(i_ r19),(i_ r20)]),(44,(Qe r2)),(45,.agg [(l_ r3.zD),(i_ r3.zH),.nils 1,(Qf r3.zG)]),(46,(l_ [0])),(47,.tup [(l_ r17),(l_ r18),(i_ r19),(i_ r20)]),(48,(l_ r17)),(49,(l_ r18)),(50,(i_ r19)),(51,(i_ r20)),(52,(i_ r6)),(53,(b_ (r6==0))),(54,(b_ (r6==0))),(55,(Qc r5)),(56,.agg [(i_ 0),(i_ 0)]),(57,.agg [(i_ 1),(i_ 1)]),(58,.d (.lst 2 (List.map Qv [(Qb.mk 0 0),(Qb.mk 1 1)]))),(59,(b_ x23)),(60,(b_ x23)),(61,(b_ x23)),(62,(i_ r9)),(63,(b_ (r9==0))),(64,(b_ (r9==0))),(65,(b_ (r9==0))),(66,(Qc r8)),(67,.agg [(i_ 2),(i_ 1)]),(68,.d (.lst 2 (List.map Qv [(Qb.mk 2 1)]))),(69,(b_ x27)),(70,(b_ x27)),(71,(b_ x27)),(72,(i_ r12)),(73,(b_ (r12==0))),(74,(b_ (r12==0))),(75,(b_ (r12==0))),(76,(i_ r15)),(77,(b_ (r15==0))),(78,(b_ (r15==0))),(79,(b_ (r15==0))),(80,.d (.lst 1 (List.map (eL 1 (eI .i64)) r14))),(81,(i_ (r14.length:Int))),(82,(b_ ((r14.length:Int)==1))),(83,(b_ ((r14.length:Int)==1))),(84,(b_ ((r14.length:Int)==1))),(85,.d (.lst 1 (List.map (eL 1 (eI .i64)) r14))),(86,.cref ((eL 1 (eI .i64)) x32)),(87,(l_ x32)),(88,(l_ [0]))],Qh Γ.n0 (bxs [(2,.cells ([(l_ r3.zD),(i_ r3.zH),.nils 1,(Qf r3.zG)])),(7,.cells ((Qu r11)))]) M,Γ.n0+121⟩;exact Qe6 88 [.int .i64 0] rfl rfl ⟨sq,sq,(fPtr rfl),sq,sq,sq,sq,(fPtr rfl),sq,sq,sq,sq,sq,sq,sq,sq,sq,sq,sq,sq,sq,sq,sq,sq,sq,sq,sq,sq,sq,sq,sq,sq,sq,sq,sq,sq,sq,sq,sq,sq,sq,sq,sq,sq,sq,sq,sq,sq,sq,sq,sq,sq,sq,sq,sq,sq,sq,sq,sq,sq,sq,sq,sq,sq,sq,sq,sq,sq,sq,sq,sq,sq,sq,sq,sq,sq,sq,sq,sq,sq,sq,sq,sq,sq,sq,sq,sq,sq,(fSl rfl rfl),tv⟩ ⟨bS rfl rfl rfl,bS rfl rfl rfl,tv⟩ rfl) ?_;refine cl (Hcu _ _) h (cq fun x35 h=>?_);refine Z 2 0 ?_;refine bs h (fun _ h=>?_) (fun _ h=>Y);refine Z 7 1 ?_;intro x37 h;refine bs h (fun _ h=>?_) (fun _ h=>Y);refine Z 4 0 ?_;refine bs h (fun _ h=>?_) (fun _ h=>Y);refine Z 4 0 ?_;refine bs h (fun _ h=>?_) (fun _ h=>Y);refine Z 2 0 ?_;refine Rn.weak (by show WeakSt Γ _ ⟨look [(0,(b_ false)),(1,(Qe r2)),(2,.ptr (Γ.n0+2) 0),(3,(Qc r5)),(4,(i_ r6)),(5,(Qc r8)),(6,(i_ r9)),(7,.ptr (Γ.n0+7) 0),(8,(i_ r12)),(9,.d (.lst 1 (List.map (eL 1 (eI .i64)) r14))),(10,(i_ r15)),(11,(l_ r17)),(12,(l_ r18)),(13,(i_ r19)),(14,(i_ r20)),(15,.tup [(Qe r2),.agg [(l_ r3.zD),(i_ r3.zH),.nils 1,(Qf r3.zG)]]),(16,.tup [(Qe r2),.agg [(l_ r3.zD),(i_ r3.zH),.nils 1,(Qf r3.zG)]]),(17,(Qe r2)),(18,.agg [(l_ r3.zD),(i_ r3.zH),.nils 1,(Qf r3.zG)]),(19,.tup [(Qc r5),(i_ r6)]),(20,(Qe r2)),(21,.agg [(l_ r3.zD),(i_ r3.zH),.nils 1,(Qf r3.zG)]),(22,.tup [(Qn r5),(i_ r6)]),(23,(Qc r5)),(24,(i_ r6)),(25,.tup [(Qc r8),(i_ r9)]),(26,(Qe r2)),(27,.agg [(l_ r3.zD),(i_ r3.zH),.nils 1,(Qf r3.zG)]),(28,(l_ [1])),(29,.tup [(Qn r8),(i_ r9)]),(30,(Qc r8)),(31,(i_ r9)),(32,.tup [(Qp r11),(i_ r12)]),(33,(Qe r2)),(34,.agg [(l_ r3.zD),(i_ r3.zH),.nils 1,(Qf r3.zG)]),(35,.tup [(Qp r11),(i_ r12)]),(36,(Qp r11)),(37,(i_ r12)),(38,.tup [.d (.lst 1 (List.map (eL 1 (eI .i64)) r14)),(i_ r15)]),(39,(Qp r11)),(40,.tup [.own 1 (List.map (eL 1 (eI .i64)) r14),(i_ r15)]),(41,.d (.lst 1 (List.map (eL 1 (eI .i64)) r14))),(42,(i_ r15)),(43,.tup [(l_ r17),(l_ r18),(i_ r19),(i_ r20)]),(44,(Qe r2)),(45,.agg [(l_ r3.zD),(i_ r3.zH),.nils 1,(Qf r3.zG)]),(46,(l_ [0])),(47,.tup [(l_ r17),(l_ r18),(i_ r19),(i_ r20)]),(48,(l_ r17)),(49,(l_ r18)),(50,(i_ r19)),(51,(i_ r20)),(52,(i_ r6)),(53,(b_ (r6==0))),(54,(b_ (r6==0))),(55,(Qc r5)),(56,.agg [(i_ 0),(i_ 0)]),(57,.agg [(i_ 1),(i_ 1)]),(58,.d (.lst 2 (List.map Qv [(Qb.mk 0 0),(Qb.mk 1 1)]))),(59,(b_ x23)),(60,(b_ x23)),(61,(b_ x23)),(62,(i_ r9)),(63,(b_ (r9==0))),(64,(b_ (r9==0))),(65,(b_ (r9==0))),(66,(Qc r8)),(67,.agg [(i_ 2),(i_ 1)]),(68,.d (.lst 2 (List.map Qv [(Qb.mk 2 1)]))),(69,(b_ x27)),(70,(b_ x27)),(71,(b_ x27)),(72,(i_ r12)),(73,(b_ (r12==0))),(74,(b_ (r12==0))),(75,(b_ (r12==0))),(76,(i_ r15)),(77,(b_ (r15==0))),(78,(b_ (r15==0))),(79,(b_ (r15==0))),(80,.d (.lst 1 (List.map (eL 1 (eI .i64)) r14))),(81,(i_ (r14.length:Int))),(82,(b_ ((r14.length:Int)==1))),(83,(b_ ((r14.length:Int)==1))),(84,(b_ ((r14.length:Int)==1))),(85,.d (.lst 1 (List.map (eL 1 (eI .i64)) r14))),(86,.cref ((eL 1 (eI .i64)) x32)),(87,(l_ x32)),(88,(l_ [0])),(89,(b_ x35)),(90,(b_ x35)),(91,(b_ x35)),(92,.d (.lst 1 (List.map (eL 1 (eI .i64)) r14))),(93,.cref ((eL 1 (eI .i64)) x37)),(94,(l_ x37)),(95,(i_ (x37.length:Int))),(96,(b_ ((x37.length:Int)==1))),(97,(b_ ((x37.length:Int)==1))),(98,(b_ ((x37.length:Int)==1))),(99,(i_ r20)),(100,(b_ (r20==0))),(101,(b_ (r20==0))),(102,(b_ (r20==0))),(103,(i_ r19)),(104,(b_ (r19==3))),(105,(b_ (r19==3))),(106,(b_ (r19==3))),(107,(l_ r17)),(108,(l_ [0,2]))],Qh Γ.n0 (bxs [(2,.cells ([(l_ r3.zD),(i_ r3.zH),.nils 1,(Qf r3.zG)])),(7,.cells ((Qu r11)))]) M,Γ.n0+121⟩;exact Qe6 108 [.int .i64 0,.int .i64 2] rfl rfl ⟨sq,sq,(fPtr rfl),sq,sq,sq,sq,(fPtr rfl),sq,sq,sq,sq,sq,sq,sq,sq,sq,sq,sq,sq,sq,sq,sq,sq,sq,sq,sq,sq,sq,sq,sq,sq,sq,sq,sq,sq,sq,sq,sq,sq,sq,sq,sq,sq,sq,sq,sq,sq,sq,sq,sq,sq,sq,sq,sq,sq,sq,sq,sq,sq,sq,sq,sq,sq,sq,sq,sq,sq,sq,sq,sq,sq,sq,sq,sq,sq,sq,sq,sq,sq,sq,sq,sq,sq,sq,sq,sq,sq,sq,sq,sq,sq,sq,sq,sq,sq,sq,sq,sq,sq,sq,sq,sq,sq,sq,sq,sq,sq,(fSl rfl rfl),tv⟩ ⟨bS rfl rfl rfl,bS rfl rfl rfl,tv⟩ rfl) ?_;refine cl (Hcu _ _) h (cq fun x43 h=>?_);refine Z 2 0 ?_;refine bs h (fun _ h=>?_) (fun _ h=>Y);refine Z 5 0 ?_;refine bs h (fun _ h=>?_) (fun _ h=>Y);refine Z 2 0 ?_;refine Rn.weak (by show WeakSt Γ _ ⟨look [(0,(b_ false)),(1,(Qe r2)),(2,.ptr (Γ.n0+2) 0),(3,(Qc r5)),(4,(i_ r6)),(5,(Qc r8)),(6,(i_ r9)),(7,.ptr (Γ.n0+7) 0),(8,(i_ r12)),(9,.d (.lst 1 (List.map (eL 1 (eI .i64)) r14))),(10,(i_ r15)),(11,(l_ r17)),(12,(l_ r18)),(13,(i_ r19)),(14,(i_ r20)),(15,.tup [(Qe r2),.agg [(l_ r3.zD),(i_ r3.zH),.nils 1,(Qf r3.zG)]]),(16,.tup [(Qe r2),.agg [(l_ r3.zD),(i_ r3.zH),.nils 1,(Qf r3.zG)]]),(17,(Qe r2)),(18,.agg [(l_ r3.zD),(i_ r3.zH),.nils 1,(Qf r3.zG)]),(19,.tup [(Qc r5),(i_ r6)]),(20,(Qe r2)),(21,.agg [(l_ r3.zD),(i_ r3.zH),.nils 1,(Qf r3.zG)]),(22,.tup [(Qn r5),(i_ r6)]),(23,(Qc r5)),(24,(i_ r6)),(25,.tup [(Qc r8),(i_ r9)]),(26,(Qe r2)),(27,.agg [(l_ r3.zD),(i_ r3.zH),.nils 1,(Qf r3.zG)]),(28,(l_ [1])),(29,.tup [(Qn r8),(i_ r9)]),(30,(Qc r8)),(31,(i_ r9)),(32,.tup [(Qp r11),(i_ r12)]),(33,(Qe r2)),(34,.agg [(l_ r3.zD),(i_ r3.zH),.nils 1,(Qf r3.zG)]),(35,.tup [(Qp r11),(i_ r12)]),(36,(Qp r11)),(37,(i_ r12)),(38,.tup [.d (.lst 1 (List.map (eL 1 (eI .i64)) r14)),(i_ r15)]),(39,(Qp r11)),(40,.tup [.own 1 (List.map (eL 1 (eI .i64)) r14),(i_ r15)]),(41,.d (.lst 1 (List.map (eL 1 (eI .i64)) r14))),(42,(i_ r15)),(43,.tup [(l_ r17),(l_ r18),(i_ r19),(i_ r20)]),(44,(Qe r2)),(45,.agg [(l_ r3.zD),(i_ r3.zH),.nils 1,(Qf r3.zG)]),(46,(l_ [0])),(47,.tup [(l_ r17),(l_ r18),(i_ r19),(i_ r20)]),(48,(l_ r17)),(49,(l_ r18)),(50,(i_ r19)),(51,(i_ r20)),(52,(i_ r6)),(53,(b_ (r6==0))),(54,(b_ (r6==0))),(55,(Qc r5)),(56,.agg [(i_ 0),(i_ 0)]),(57,.agg [(i_ 1),(i_ 1)]),(58,.d (.lst 2 (List.map Qv [(Qb.mk 0 0),(Qb.mk 1 1)]))),(59,(b_ x23)),(60,(b_ x23)),(61,(b_ x23)),(62,(i_ r9)),(63,(b_ (r9==0))),(64,(b_ (r9==0))),(65,(b_ (r9==0))),(66,(Qc r8)),(67,.agg [(i_ 2),(i_ 1)]),(68,.d (.lst 2 (List.map Qv [(Qb.mk 2 1)]))),(69,(b_ x27)),(70,(b_ x27)),(71,(b_ x27)),(72,(i_ r12)),(73,(b_ (r12==0))),(74,(b_ (r12==0))),(75,(b_ (r12==0))),(76,(i_ r15)),(77,(b_ (r15==0))),(78,(b_ (r15==0))),(79,(b_ (r15==0))),(80,.d (.lst 1 (List.map (eL 1 (eI .i64)) r14))),(81,(i_ (r14.length:Int))),(82,(b_ ((r14.length:Int)==1))),(83,(b_ ((r14.length:Int)==1))),(84,(b_ ((r14.length:Int)==1))),(85,.d (.lst 1 (List.map (eL 1 (eI .i64)) r14))),(86,.cref ((eL 1 (eI .i64)) x32)),(87,(l_ x32)),(88,(l_ [0])),(89,(b_ x35)),(90,(b_ x35)),(91,(b_ x35)),(92,.d (.lst 1 (List.map (eL 1 (eI .i64)) r14))),(93,.cref ((eL 1 (eI .i64)) x37)),(94,(l_ x37)),(95,(i_ (x37.length:Int))),(96,(b_ ((x37.length:Int)==1))),(97,(b_ ((x37.length:Int)==1))),(98,(b_ ((x37.length:Int)==1))),(99,(i_ r20)),(100,(b_ (r20==0))),(101,(b_ (r20==0))),(102,(b_ (r20==0))),(103,(i_ r19)),(104,(b_ (r19==3))),(105,(b_ (r19==3))),(106,(b_ (r19==3))),(107,(l_ r17)),(108,(l_ [0,2])),(109,(b_ x43)),(110,(b_ x43)),(111,(b_ x43)),(112,(l_ r17)),(113,(i_ (r17.length:Int))),(114,(b_ ((r17.length:Int)==2))),(115,(b_ ((r17.length:Int)==2))),(116,(b_ ((r17.length:Int)==2))),(117,(l_ r18)),(118,(l_ [0]))],Qh Γ.n0 (bxs [(2,.cells ([(l_ r3.zD),(i_ r3.zH),.nils 1,(Qf r3.zG)])),(7,.cells ((Qu r11)))]) M,Γ.n0+121⟩;exact Qe6 118 [.int .i64 0] rfl rfl ⟨sq,sq,(fPtr rfl),sq,sq,sq,sq,(fPtr rfl),sq,sq,sq,sq,sq,sq,sq,sq,sq,sq,sq,sq,sq,sq,sq,sq,sq,sq,sq,sq,sq,sq,sq,sq,sq,sq,sq,sq,sq,sq,sq,sq,sq,sq,sq,sq,sq,sq,sq,sq,sq,sq,sq,sq,sq,sq,sq,sq,sq,sq,sq,sq,sq,sq,sq,sq,sq,sq,sq,sq,sq,sq,sq,sq,sq,sq,sq,sq,sq,sq,sq,sq,sq,sq,sq,sq,sq,sq,sq,sq,sq,sq,sq,sq,sq,sq,sq,sq,sq,sq,sq,sq,sq,sq,sq,sq,sq,sq,sq,sq,sq,sq,sq,sq,sq,sq,sq,sq,sq,sq,(fSl rfl rfl),tv⟩ ⟨bS rfl rfl rfl,bS rfl rfl rfl,tv⟩ rfl) ?_;refine cl (Hcu _ _) h (cq fun _ h=>?_);exact Y
theorem Qqo {P:Program} {c:Nat} {Q0:_}
    (Haj:Qfk P 79 Q0) (hcf:Qq P c=some Qm7):Qje P c (Qda Q0):=by
 intro a1 r h;refine Qcf hcf rfl fun Γ M hP hnt hM=>?_;subst hP;refine ini ?_;refine Z 5 0 ?_;refine cw h [] [1] (fun x8 e=>(2,(b_ x8))::e) (fun _ l=>l) ke (fun _ h=>?_) (fun x8 h=>Y);refine Z 6 0 ?_;refine bi h (fun _ h=>?_) (fun _ h=>Y);refine Z 6 0 ?_;refine bi h (fun _ h=>?_) (fun _ h=>Y);refine Z 6 0 ?_;refine bi h (fun _ h=>?_) (fun _ h=>Y);refine Z 4 0 ?_;refine bi h (fun _ h=>Y) (fun _ h=>?_);refine Z 1 0 ?_;refine cl (Haj _) h (cq fun _ h=>?_);exact Y
theorem Qpa {P:Program} {c:Nat} {Q0:_} {Qbi:_}
    (Haj:Qfk P 79 Q0)
    (Haa:Qg6 P 80 Qbi) (hcf:Qq P c=some Qk8) (fuel:Nat):Qh7 P c (Qcq Q0 Qbi fuel):=by
 intro ev1 a2 r h;refine Qcf hcf rfl fun Γ M hP hnt hM=>?_;subst hP;refine ini ?_;refine Z 9 0 ?_;refine cl (Haa _) h (cq fun _ h=>?_);refine Z 7 0 ?_;refine cd h rfl (fun h=>Y) (fun h=>?_);refine Z 5 0 ?_;refine cl (Haj _) h (cq fun _ h=>?_);refine Z 7 0 ?_;refine cd h rfl (fun h=>Y) (fun h=>?_);refine Z 7 0 ?_;refine lw h [0,3] [3] (fun i9 e=>(7,(i_ i9))::e) (fun _ l=>l) ke wk (fun _ i9 h=>?_);refine Z 9 0 ?_;refine ci h rfl (fun h=>?_) (fun h=>Y);refine Z 14 1 ?_;intro _ h;exact ci h rfl (fun h=>Y) (fun h=>Y)
theorem Qme {P:Program} {c:Nat} {Qbf:_}
    (Hbr:Qf3 P 29 Qbf) (hcf:Qq P c=some Qi2):Qgc P c (Qb5 Qbf):=by
 intro m1 k2 r h;intro M nb hk3;refine Q9m hcf rfl M _ nb (fun hM=>Qv9 hM ⟨(ltB hM hk3),tv⟩) fun Γ hP hnt hn0 hM=>?_;subst hP hn0;refine ini ?_;refine Tr.puts [(k2,.cells (Qbe m1))] ⟨hk3,tv⟩ ?_;refine Z 3 0 ?_;refine Rn.k (v:=(b_ true)) tv rfl rfl rfl ?_;refine Z 1 0 ?_;refine Tr.condT rfl rfl ?_;refine Z 6 0 ?_;refine Rn.load (v:=(Ql m1.automaton_)) tv rfl (Qjt (ltB hM hk3) pg0) rfl rfl ?_;refine Z 3 0 ?_;refine Rn.load (v:=(l_ m1.observable_)) tv rfl (Qjt (ltB hM hk3) pg0) rfl rfl ?_;obtain ⟨⟨r5,r6⟩,h4,h⟩:=bnd h;refine Rn.call (args:=[(Ql m1.automaton_),(l_ m1.observable_),.nils 1]) tv rfl (fun M2 nb2=>ACalls.weak (args':=[(Ql m1.automaton_),(l_ m1.observable_),(l_ [])]) (Hbr _ _ _ _ h4 M2 nb2) (cS rfl (cS rfl (.cons (WkV.nilsD _) .nil))) rfl) pc0 ?_;refine Z 5 0 ?_;refine Rn.storeDB (cs':=[(l_ m1.automaton_.zD),(i_ m1.automaton_.zH),(l_ m1.automaton_.zF),(Qf m1.automaton_.zG),(Qc m1.labels_),(l_ m1.observable_),(l_ r5),(o_ m1.seen_)]) tv rfl rfl (ltB hM hk3) pg0 rfl rfl ps0 ?_;refine Z 5 0 ?_;refine Rn.storeB (v:=.nils 1) (cs':=[(l_ m1.automaton_.zD),(i_ m1.automaton_.zH),(l_ m1.automaton_.zF),(Qf m1.automaton_.zG),(Qc m1.labels_),(l_ m1.observable_),(l_ r5),.nils 1]) tv rfl rfl rfl (ltB hM hk3) rfl pg0 rfl rfl ps0 ?_;refine Rn.weak (Qyy (B:=[(k2,.cells ([(l_ m1.automaton_.zD),(i_ m1.automaton_.zH),(l_ m1.automaton_.zF),(Qf m1.automaton_.zG),(Qc m1.labels_),(l_ m1.observable_),(l_ r5),.nils 1]))]) (B':=[(k2,.cells ([(l_ m1.automaton_.zD),(i_ m1.automaton_.zH),(l_ m1.automaton_.zF),(Qf m1.automaton_.zG),(Qc m1.labels_),(l_ m1.observable_),(l_ r5),.own 1 (List.map (eI .i64) [])]))]) ⟨⟨rfl,(cS rfl (cS rfl (cS rfl (cS rfl (cS rfl (cS rfl (cS rfl (.cons (WkV.nilsO _) .nil))))))))⟩,tv⟩ (by show WeakSt Γ _ ⟨look [(0,.ptr k2 0),(2,.ptr k2 0),(3,(b_ true)),(4,.tup [(l_ r5),(i_ r6)]),(5,.ptr k2 0),(6,.ptr k2 0),(7,.ptr k2 0),(8,.ptr k2 0),(9,(Ql m1.automaton_)),(10,.ptr k2 0),(11,.ptr k2 0),(12,.ptr k2 5),(13,(l_ m1.observable_)),(14,.tup [(l_ r5),(i_ r6)]),(15,(l_ r5)),(16,(i_ r6)),(17,.ptr k2 0),(18,.ptr k2 6),(19,.ptr k2 0),(20,.ptr k2 0),(21,.ptr k2 7)],Qh Γ.n0 (bxs []) (Mem.puts M [(k2,.cells ([(l_ m1.automaton_.zD),(i_ m1.automaton_.zH),(l_ m1.automaton_.zF),(Qf m1.automaton_.zG),(Qc m1.labels_),(l_ m1.observable_),(l_ r5),.own 1 (List.map (eI .i64) [])]))]),Γ.n0+22⟩;exact Qii [] ⟨(Qmb (ltB hM hk3)),(Qmb (ltB hM hk3)),sq,sq,(Qmb (ltB hM hk3)),(Qmb (ltB hM hk3)),(Qmb (ltB hM hk3)),(Qmb (ltB hM hk3)),sq,(Qmb (ltB hM hk3)),(Qmb (ltB hM hk3)),(Qmb (ltB hM hk3)),sq,sq,sq,sq,(Qmb (ltB hM hk3)),(Qmb (ltB hM hk3)),(Qmb (ltB hM hk3)),(Qmb (ltB hM hk3)),(Qmb (ltB hM hk3)),tv⟩ tv rfl)) ?_;exact Y
theorem Qu2 {P:Program} {c:Nat} {Qt:_} {Qb5:_} {Qr:_} {Qbn:_}
    (Hav:Qeo P 18 Qt)
    (Hay:Qgc P 37 Qb5)
    (Hbe:Qdr P 54 Qr)
    (Hac:Qgg P 74 Qbn) (hcf:Qq P c=some Qrk):Qm8 P c (Qeb Qt Qb5 Qr Qbn):=by
 intro ev1 a2 r h M nb;refine Qbdh hcf rfl M (Mem.puts M []) nb (fun hM=>hM) fun Γ hP hnt hn0 hM=>?_;subst hP hn0;refine Tr.init [(0,(Qe ev1)),(1,(Ql a2))] rfl ?_;refine Z 10 0 ?_;refine cl (Hav _ _) h (cq fun ⟨r4,r5,r6⟩ h=>?_);refine Z 15 0 ?_;refine cd h rfl (fun h=>?_) (fun h=>?_)
 ·refine Z 7 0 ?_;cases sj h;exact ⟨.inr rfl,.tup [.nilp,(i_ r6)],res2 rfl rfl,(WkV.tup (cS rfl (cS rfl .nil))).rd,⟨tv,tv,tv⟩,tv,fun k hk=>Qcr hk,fun _ _ h=>(by cases h),rfl⟩
 ·refine Z 8 0 ?_;refine cd h rfl (fun h=>?_) (fun h=>?_)
  ·refine Z 6 0 ?_;cases sj h;exact ⟨.inr rfl,.tup [.nilp,(i_ 12)],res2 rfl rfl,(WkV.tup (cS rfl (cS rfl .nil))).rd,⟨tv,tv,tv⟩,tv,fun k hk=>Qcr hk,fun _ _ h=>(by cases h),rfl⟩
  ·refine Z 6 0 ?_;refine cl (Hbe _) h (cq fun _ h=>?_);refine Z 2 0 ?_;refine cl (Hac _ _) h (cq fun x12 h=>?_);refine Rn.buildT (v:=.agg [(l_ r4.zD),(i_ r4.zH),(l_ r4.zF),(Qf r4.zG),(Qc r5),(o_ x12),.nils 1,.nils 1]) tv rfl ?_;refine Z 6 0 ?_;refine Rn.weak (wS [0,1,3,4,5,6,7,8,9,10,11,12,13,14,15,16,17,18,20,21,22,23,24,25,26,27,28,29,30,31,32] [3,6] (fun e=>e) (fun l=>(31,.cells ([(l_ r4.zD),(i_ r4.zH),(l_ r4.zF),(Qf r4.zG),(Qc r5),(l_ x12),(l_ []),.own 1 (List.map (eI .i64) [])]))::l) ke wk) ?_;obtain ⟨c13,h14,h⟩:=bnd h;refine Rn.callW (args:=[.ptr (Γ.n0+31) 0]) (B:=[((Γ.n0+31),.cells (Qbe c13))]) tv rfl (Hay _ (Γ.n0+31) _ h14 _ _ (Qc7 rfl)) ⟨(.inl (Nat.le_add_right _ _)),tv⟩ (Q4u cw0) rfl ?_;refine Z 8 0 ?_;cases sj h;exact ⟨.inr rfl,.tup [.ptr (Γ.n0+31) 0,(i_ 0)],res2 rfl rfl,(WkV.tup (cS rfl (cS rfl .nil))).rd,⟨(show There _ _ from thN rfl),tv,tv⟩,⟨⟨tv,tv,tv,tv,tv,tv,tv,tv,tv⟩,tv⟩,fun k hk=>Qcr hk,lrAt ⟨(by show Qh Γ.n0 _ _ (Γ.n0+31)=some (.cells (Qbe c13));exact Qc7 rfl),tv⟩,rfl⟩
theorem Qqp {P:Program} {c:Nat} (hcf:Qq P c=some Qm9) (fuel:Nat):Qjf P c (Qdb fuel):=by
 intro s1 s2 r h;refine Qcf hcf rfl fun Γ M hP hnt hM=>?_;subst hP;refine ini ?_;refine Z 13 0 ?_;refine cd h rfl (fun h=>Y) (fun h=>?_);refine Z 9 0 ?_;refine lw h [0,1,12] [] (fun x4 e=>(13,(i_ x4))::e) (fun _ l=>l) ke wk (fun _ x4 h=>?_);refine Z 5 0 ?_;refine ci h rfl (fun h=>?_) (fun h=>Y);refine Z 18 1 ?_;intro x7 x9 h;refine Rn.eqa (r:=((x7.From==x9.From)&&((x7.Event==x9.Event)&&((x7.To==x9.To)&&true)))) tv rfl rfl rfl ?_;refine Z 1 0 ?_;refine Tr.cond rfl (fun hb11=>?_) (fun hb11=>?_)
 ·have hb11:=nT' hb11;replace h:=bF hb11 h;exact Y
 ·have hb11:=nF' hb11;replace h:=bT hb11 h;exact Y
theorem Qs4 {P:Program} {c:Nat} {Qbs:_} {Qdb:_}
    (Hcm:Qhm P 62 Qbs)
    (Hcl:Qjf P 73 Qdb) (hcf:Qq P c=some Qo2):Qkl P c (Qd2 Qbs Qdb):=by
 intro a1 b2 r h;refine Qcf hcf rfl fun Γ M hP hnt hM=>?_;subst hP;refine ini ?_;refine Z 14 0 ?_;refine bs h (fun _ h=>?_) (fun _ h=>Y);refine Z 4 0 ?_;refine cl (Hcm _ _) h (cq fun _ h=>?_);refine Z 2 0 ?_;refine bs h (fun _ h=>?_) (fun _ h=>Y);refine Z 4 0 ?_;refine cl (Hcm _ _) h (cq fun _ h=>?_);refine Z 2 0 ?_;refine bs h (fun _ h=>?_) (fun _ h=>Y);refine Z 4 0 ?_;refine cl (Hcl _ _) h (cq fun _ h=>?_);exact Y
theorem Qp2 {P:Program} {c:Nat} {Qd2:_}
    (Hak:Qkl P 22 Qd2) (hcf:Qq P c=some Qlu):Qiu P c (Qb3 Qd2):=by
 intro a1 r h;refine Qcf hcf rfl fun Γ M hP hnt hM=>?_;subst hP;refine ini ?_;refine Z 9 0 ?_;obtain ⟨x3,h2,h⟩:=bnd h;refine Rn.call (args:=[(Ql a1),.agg [.nils 1,(i_ 0),.nils 1,.nils 3]]) tv rfl (fun M2 nb2=>ACalls.weak (args':=[(Ql a1),.agg [(l_ []),(i_ 0),(l_ []),.d (.lst 3 (List.map Qz []))]]) (Hak _ _ _ h2 M2 nb2) (cS rfl (.cons (WkV.agg (.cons (WkV.nilsD _) (cS rfl (.cons (WkV.nilsD _) (.cons (WkV.nilsD _) .nil))))) .nil)) rfl) pc9 ?_;exact Y
theorem Qqq {P:Program} {c:Nat} (hcf:Qq P c=some Qna) (fuel:Nat):Qjg P c (Qdc fuel):=by
 intro l1 n2 r h;refine Qcf hcf rfl fun Γ M hP hnt hM=>?_;subst hP;refine ini ?_;refine Z 10 0 ?_;refine lw h [0,1] [] (fun i3 e=>(5,(i_ i3))::e) (fun _ l=>l) ke wk (fun _ i3 h=>?_);refine Z 8 0 ?_;refine ci h rfl (fun h=>?_) (fun h=>Y);refine Z 12 1 ?_;intro _ h;exact cd h rfl (fun h=>Y) (fun h=>Y)
theorem Qp3 {P:Program} {c:Nat} (hcf:Qq P c=some Qlv):Qiv P c (Qcw):=by
 intro ev1 x2 y3 r h;refine Qcf hcf rfl fun Γ M hP hnt hM=>?_;subst hP;refine ini ?_;refine Z 32 1 ?_;intro _ h;refine ci h rfl (fun h=>?_) (fun h=>Y);refine Z 5 0 ?_;obtain ⟨s7,h8,h⟩:=bnd h;refine Rn.bin tv rfl rfl (Q9a h8) ?_;exact Y
theorem Qp4 {P:Program} {c:Nat} (hcf:Qq P c=some Qlw) (fuel:Nat):Qiw P c (Qcx fuel):=by
 intro l1 x2 r h;refine Qcf hcf rfl fun Γ M hP hnt hM=>?_;subst hP;refine ini ?_;refine Z 11 0 ?_;refine lw h [0,3] [3] (fun i3 e=>(5,(i_ i3))::e) (fun _ l=>l) ke wk (fun _ i3 h=>?_);refine Z 8 0 ?_;refine ci h rfl (fun h=>?_) (fun h=>Y);refine Z 10 1 ?_;intro x6 h;refine Rn.eqa (r:=((x6.State==x2.State)&&((x6.Classes==x2.Classes)&&true))) tv rfl rfl rfl ?_;refine Z 1 0 ?_;exact cd h rfl (fun h=>Y) (fun h=>Y)
end Go.Abs
end
section
namespace Go.Abs
open Go
set_option maxRecDepth 10000
set_option maxHeartbeats 4000000
theorem Qpb {P:Program} {c:Nat} {Qcx:_} {Qcw:_} {Qdc:_}
    (Hbi:Qiw P 45 Qcx)
    (Hbp:Qiv P 47 Qcw)
    (Hbj:Qjg P 66 Qdc) (hcf:Qq P c=some Qk9) (fuel:Nat):Qh8 P c (Qcd Qcx Qcw Qdc fuel):=by
 intro ev1 a2 r h;refine Qcf hcf rfl fun Γ M hP hnt hM=>?_;subst hP;refine ini ?_;refine Z 10 0 ?_;refine Rn.buildT (v:=.agg [(l_ a2.zD),(i_ 0),.nils 1,.nils 3]) tv rfl ?_;refine Z 10 0 ?_;refine cd h rfl (fun h=>Y) (fun h=>?_);refine Z 7 0 ?_;refine cu h (fun (l52,c53,c54,c55,ov56,ov57)=>⟨look [(4,.ptr (Γ.n0+4) 0),(6,.ptr (Γ.n0+6) 0),(7,(Qn l52))],Qh Γ.n0 (bxs [(3,.cells ((Qo a2))),(4,.cells ([(o_ c53),(i_ 0),(o_ c54),(Q4 c55)])),(6,.cells ([(l_ a2.zD),(i_ 0),(o_ ov56),(Q4 ov57)]))]) M,Γ.n0+91⟩) (fun _ h=>?_) (fun ⟨l52,c53,c54,c55,ov56,ov57⟩ h=>Y);refine Z 5 0 ?_;refine Tr.weak (by show WeakSt Γ _ ⟨look ((7,.own 2 (List.map Qv [(Qb.mk 0 0)]))::[(0,(Qe ev1)),(1,(Ql a2)),(3,.ptr (Γ.n0+3) 0),(4,.ptr (Γ.n0+4) 0),(5,.nils 2),(6,.ptr (Γ.n0+6) 0),(8,(i_ 0)),(13,.ptr (Γ.n0+3) 0),(14,(l_ a2.zD)),(15,.agg [(l_ a2.zD),(i_ 0),.nils 1,.nils 3]),(16,.ptr (Γ.n0+3) 1),(17,(i_ a2.zH)),(18,(b_ (a2.zH==0))),(20,.agg [(i_ 0),(i_ 0)])] ),Qh Γ.n0 (bxs [(3,.cells ((Qo a2))),(4,.cells ([.nils 1,(i_ 0),.nils 1,.nils 3])),(6,.cells ([(l_ a2.zD),(i_ 0),.nils 1,.nils 3]))]) M,Γ.n0+91⟩;exact Qyv 21 7 [.int .i64 0,.int .i64 0] rfl rfl rfl rfl rfl ⟨sq,sq,(kPtr rfl),(kPtr rfl),sq,(kPtr rfl),sq,(kPtr rfl),sq,sq,(kPtr rfl),sq,sq,sq,tv⟩ ⟨bS rfl rfl rfl,bS rfl rfl rfl,bS rfl rfl rfl,tv⟩ rfl) ?_;refine lo h (fun (l4,i5,c6,c7,c8,ov9,ov10)=>⟨look [(0,(Qe ev1)),(3,.ptr (Γ.n0+3) 0),(4,.ptr (Γ.n0+4) 0),(6,.ptr (Γ.n0+6) 0),(7,(Qn l4)),(8,(i_ i5))],Qh Γ.n0 (bxs [(3,.cells ((Qo a2))),(4,.cells ([(o_ c6),(i_ 0),(o_ c7),(Q4 c8)])),(6,.cells ([(l_ a2.zD),(i_ 0),(o_ ov9),(Q4 ov10)]))]) M,Γ.n0+91⟩) wk (fun _ ⟨l4,i5,c6,c7,c8,ov9,ov10⟩ h=>?_);refine Z 8 0 ?_;refine ci h rfl (fun h=>?_) (fun h=>Y);refine Tr.skip ?_;refine cu h (fun (l49,ov50,ov51)=>⟨look [(0,(Qe ev1)),(3,.ptr (Γ.n0+3) 0),(4,.ptr (Γ.n0+4) 0),(6,.ptr (Γ.n0+6) 0),(7,(Qn l49)),(8,(i_ i5))],Qh Γ.n0 (bxs [(3,.cells ((Qo a2))),(4,.cells ([(o_ c6),(i_ 0),(o_ c7),(Q4 c8)])),(6,.cells ([(l_ a2.zD),(i_ 0),(o_ ov50),(Q4 ov51)]))]) M,Γ.n0+91⟩) (fun _ h=>?_) (fun ⟨l49,ov50,ov51⟩ h=>Y);refine Tr.block ?_;refine cu h (fun ov20=>⟨look [(0,(Qe ev1)),(3,.ptr (Γ.n0+3) 0),(4,.ptr (Γ.n0+4) 0),(6,.ptr (Γ.n0+6) 0),(7,(Qn l4)),(8,(i_ i5))],Qh Γ.n0 (bxs [(3,.cells ((Qo a2))),(4,.cells ([(o_ c6),(i_ 0),(o_ c7),(Q4 c8)])),(6,.cells ([(l_ a2.zD),(i_ 0),(o_ ov20),(Q4 ov10)]))]) M,Γ.n0+91⟩) (fun _ h=>?_) (fun ov20 h=>?_)
 ·refine Z 9 1 ?_;intro _ h;refine cl (Hbj _ _) h (cq fun _ h=>?_);refine Z 1 0 ?_;exact cd h rfl (fun h=>Y) (fun h=>Y)
 ·refine Z 8 0 ?_;refine lo h (fun (l21,x22,ov23)=>⟨look [(0,(Qe ev1)),(3,.ptr (Γ.n0+3) 0),(4,.ptr (Γ.n0+4) 0),(6,.ptr (Γ.n0+6) 0),(7,(Qn l21)),(8,(i_ i5)),(43,(Qf a2.zG)),(44,(i_ (a2.zG.length:Int))),(45,(i_ x22))],Qh Γ.n0 (bxs [(3,.cells ((Qo a2))),(4,.cells ([(o_ c6),(i_ 0),(o_ c7),(Q4 c8)])),(6,.cells ([(l_ a2.zD),(i_ 0),(o_ ov20),(Q4 ov23)]))]) M,Γ.n0+91⟩) wk (fun _ ⟨l21,x22,ov23⟩ h=>?_);refine Z 5 0 ?_;refine ci h rfl (fun h=>?_) (fun h=>Y);refine Tr.skip ?_;refine cu h (fun (l44,ov45,y46,y47,y48)=>⟨look [(0,(Qe ev1)),(3,.ptr (Γ.n0+3) 0),(4,.ptr (Γ.n0+4) 0),(6,.ptr (Γ.n0+6) 0),(7,(Qn l44)),(8,(i_ i5)),(43,(Qf a2.zG)),(44,(i_ (a2.zG.length:Int))),(45,(i_ x22))],Qh Γ.n0 (bxs [(3,.cells ((Qo a2))),(4,.cells ([(o_ c6),(i_ 0),(o_ c7),(Q4 c8)])),(6,.cells ([(l_ a2.zD),(i_ 0),(o_ ov20),(Q4 ov45)])),(10,.cells ([(i_ y46),(i_ y47),(i_ y48)]))]) M,Γ.n0+91⟩) (fun _ h=>?_) (fun ⟨l44,ov45,y46,y47,y48⟩ h=>Y);refine Z 20 1 ?_;intro x26 _ h;refine cd h rfl (fun h=>Y) (fun h=>?_);refine Z 9 1 ?_;intro _ h;refine cl (Hbp _ _ _) h (cq fun x34 h=>?_);refine Z 7 0 ?_;refine cl (Hbi _ _) h (cq fun _ h=>?_);refine Z 2 0 ?_;refine cu h (fun (l40,k41)=>⟨look [(0,(Qe ev1)),(3,.ptr (Γ.n0+3) 0),(4,.ptr (Γ.n0+4) 0),(6,.ptr (Γ.n0+6) 0),(7,(Qn l40)),(8,(i_ i5)),(10,.ptr (Γ.n0+10) 0),(12,(i_ k41)),(43,(Qf a2.zG)),(44,(i_ (a2.zG.length:Int))),(45,(i_ x22))],Qh Γ.n0 (bxs [(3,.cells ((Qo a2))),(4,.cells ([(o_ c6),(i_ 0),(o_ c7),(Q4 c8)])),(6,.cells ([(l_ a2.zD),(i_ 0),(o_ ov20),(Q4 ov23)])),(10,.cells ((Qij x26))),(11,.cells ((Qbm x34)))]) M,Γ.n0+91⟩) (fun _ h=>?_) (fun ⟨l40,k41⟩ h=>Y);refine Z 5 0 ?_;exact ci h rfl (fun h=>Y) (fun h=>Y)
theorem Qp5 {P:Program} {c:Nat} {Qcd:_}
    (Hbl:Qh8 P 19 Qcd) (hcf:Qq P c=some Qlx):Qix P c (Qcj Qcd):=by
 intro ev1 a2 e3 r h;refine Qcf hcf rfl fun Γ M hP hnt hM=>?_;subst hP;refine ini ?_;refine Z 9 0 ?_;refine cl (Hbl _ _) h (cq fun ⟨_,_⟩ h=>?_);refine Z 12 0 ?_;exact bs h (fun _ h=>Y) (fun _ h=>Y)
theorem Qjp {P:Program} {c:Nat} {Qcp:_} {Qbv:_} {Qcj:_} {Qt:_} {Qb3:_} {Qx:_} {Qda:_} {Qcq:_} {Qbk:_} {Qeb:_} {Qw:_}
    (Hbk:Qh6 P 11 Qcp)
    (Hap:Qik P 13 Qbv)
    (Hbq:Qix P 14 Qcj)
    (Hav:Qeo P 18 Qt)
    (Hbm:Qiu P 24 Qb3)
    (Har:Qfb P 27 Qx)
    (Hbh:Qje P 32 Qda)
    (Hbg:Qh7 P 33 Qcq)
    (Hat:Qg0 P 34 Qbk)
    (Haz:Qm8 P 35 Qeb)
    (Haq:Qfl P 36 Qw) (hcf:Qq P c=some Qgt) (fuel:Nat):Qgs P c (Qet Qcp Qbv Qcj Qt Qb3 Qx Qda Qcq Qbk Qeb Qw fuel):=by
 intro ev1 a2 r h;refine Qcf hcf rfl fun Γ M hP hnt hM=>?_;subst hP;refine ini ?_;refine Z 6 0 ?_;refine cw h [0,3] [3] (fun x9 e=>(31,(b_ x9))::e) (fun _ l=>l) ke (fun _ h=>?_) (fun x9 h=>?_)
 ·refine Tr.rgn ?_;refine cl Hbk h (cq fun _ h=>?_);refine Z 2 0 ?_;refine bs h (fun _ h=>?_) (fun _ h=>Y);refine Z 5 0 ?_;refine bi h (fun _ h=>Y) (fun _ h=>?_);refine Z 1 0 ?_;refine cl (Hbh _) h (cq fun _ h=>?_);exact Y
 ·refine cd h rfl (fun h=>?_) (fun h=>?_)
  ·refine Z 2 0 ?_;refine cl Hbk h (cq fun _ h=>?_);exact Y
  ·refine Z 7 0 ?_;refine lw h [0,3] [3] (fun i13 e=>(5,(i_ i13))::e) (fun _ l=>l) ke wk (fun _ i13 h=>?_);refine Z 8 0 ?_;refine ci h rfl (fun h=>?_) (fun h=>?_)
   ·refine Z 13 1 ?_;intro _ h;exact ci h rfl (fun h=>Y) (fun h=>Y)
   ·refine Z 5 0 ?_;refine cl (Hbg _ _) h (cq fun _ h=>?_);refine Z 6 0 ?_;refine cl (Hav _ _) h (cq fun ⟨r22,_,_⟩ h=>?_);refine Z 13 0 ?_;refine cl (Hap _ _) h (cq fun ⟨r26,_⟩ h=>?_);refine Z 11 0 ?_;obtain ⟨⟨r29,r30⟩,h28,h⟩:=bnd h;refine Rn.call (args:=[(Qe ev1),(Ql a2),.nils 1]) tv rfl (fun M2 nb2=>ACalls.weak (args':=[(Qe ev1),(Ql a2),(l_ [])]) (Har _ _ _ _ h28 M2 nb2) (cS rfl (cS rfl (.cons (WkV.nilsD _) .nil))) rfl) pc9 ?_;refine Z 10 0 ?_;obtain ⟨⟨r32,r33,r34,r35⟩,h31,h⟩:=bnd h;refine Rn.call (args:=[(Qe ev1),(Ql a2),.nils 1,(i_ 0)]) tv rfl (fun M2 nb2=>ACalls.weak (args':=[(Qe ev1),(Ql a2),(l_ []),(i_ 0)]) (Hat _ _ _ _ _ h31 M2 nb2) (cS rfl (cS rfl (.cons (WkV.nilsD _) (cS rfl .nil)))) rfl) pc9 ?_;refine Z 14 0 ?_;obtain ⟨⟨r36,ok37,r40⟩,h38,h⟩:=bnd h;refine bs h (fun hb39 h=>?_) (fun hb39 h=>?_)
    ·refine Rn.callNW (m:=206) (args:=[(Qe ev1),(Ql a2)]) (r':=.tup [.ptr (Γ.n0+237) 0,(i_ r40)]) (B:=[]) (L':=[(237,.cells (Qbe r36))]) tv rfl (fun M2 hx0=>have hx:=Qber hx0;nwT hb39 (Haz _ _ _ h38 M2 _ )) rfl tv tv hM cw0 rfl rfl rfl rfl ?_;refine Z 11 0 ?_;refine cl (Haq _ _) h (cq fun _ h=>?_);refine Z 3 0 ?_;refine cd h rfl (fun h=>Y) (fun h=>?_);refine Z 7 0 ?_;refine cd h rfl (fun h=>?_) (fun h=>?_)
     ·refine Tr.cutB (fun (_:Unit)=>⟨look [(4,(b_ false))],Qh Γ.n0 (bxs [(3,.cells ((Qo a2))),(7,.cells ((Qo r22))),(10,.cells ((Qu r26))),(237,.cells (Qbe r36))]) M,Γ.n0+241⟩) h (fun z h=>?_) (fun z h=>?_)
      ·refine Z 2 0 ?_;refine cl (Hbm _) h (cq fun _ h=>?_);refine Z 1 0 ?_;refine bs h (fun _ h=>?_) (fun _ h=>Y);refine Z 5 0 ?_;refine bs h (fun _ h=>?_) (fun _ h=>Y);refine Z 5 0 ?_;refine bs h (fun _ h=>?_) (fun _ h=>Y);refine Z 2 0 ?_;refine cl (Hbm _) h (cq fun _ h=>?_);refine Z 2 0 ?_;refine bs h (fun _ h=>?_) (fun _ h=>Y);refine Z 6 0 ?_;refine bs h (fun _ h=>?_) (fun _ h=>Y);refine Z 5 0 ?_;refine bs h (fun _ h=>?_) (fun _ h=>Y);refine Z 5 0 ?_;refine bs h (fun _ h=>?_) (fun _ h=>Y);refine Z 5 0 ?_;refine bs h (fun _ h=>?_) (fun _ h=>Y);refine Z 10 0 ?_;refine bs h (fun _ h=>?_) (fun _ h=>Y);refine Z 5 0 ?_;refine bs h (fun hb58 h=>?_) (fun hb58 h=>Y);refine Z 1 0 ?_;refine Rn.k (v:=(b_ false)) (gw rfl hb58) rfl rfl rfl ?_;exact Y
      ·exact Y
     ·refine Z 2 0 ?_;refine cw h [3,18,19] [3,7,10,237] (fun x68 e=>(181,(b_ x68))::e) (fun _ l=>l) ke (fun _ h=>?_) (fun x68 h=>?_)
      ·refine Z 4 0 ?_;refine bs h (fun _ h=>Y) (fun _ h=>?_);refine Z 3 0 ?_;refine bs h (fun _ h=>?_) (fun _ h=>?_)
       ·refine Z 3 0 ?_;refine cl (Hbq _ _ _) h (cq fun _ h=>?_);refine Z 4 0 ?_;refine bs h (fun _ h=>?_) (fun _ h=>Y);refine Z 4 0 ?_;refine bs h (fun _ h=>Y) (fun _ h=>?_);refine Z 10 0 ?_;exact bs h (fun _ h=>Y) (fun _ h=>Y)
       ·refine Z 12 0 ?_;refine bs h (fun _ h=>Y) (fun _ h=>?_);refine Z 10 0 ?_;exact bs h (fun _ h=>Y) (fun _ h=>Y)
      ·refine cd h rfl (fun h=>Y) (fun h=>?_);refine Z 7 0 ?_;refine bs h (fun hb70 h=>?_) (fun hb70 h=>?_)
       ·refine Z 1 0 ?_;refine Rn.k (v:=(b_ false)) (gw rfl hb70) rfl rfl rfl ?_;refine Z 10 0 ?_;refine bi h (fun hb71 h=>?_) (fun hb71 h=>Y);refine Z 1 0 ?_;refine Rn.k (v:=(b_ true)) (gw rfl hb71) rfl rfl rfl ?_;exact Y
       ·refine Z 12 0 ?_;refine bi h (fun hb72 h=>?_) (fun hb72 h=>Y);refine Z 1 0 ?_;refine Rn.k (v:=(b_ true)) (gw rfl hb72) rfl rfl rfl ?_;exact Y
    ·refine Rn.callNW (m:=206) (args:=[(Qe ev1),(Ql a2)]) (r':=.tup [.nilp,(i_ r40)]) (B:=[]) (L':=[]) tv rfl (fun M2 hx0=>have hx:=Qber hx0;nwF hb39 (Haz _ _ _ h38 M2 _ )) rfl tv tv hM cw0 rfl rfl rfl rfl ?_;refine Z 11 0 ?_;refine cl (Haq _ _) h (cq fun _ h=>?_);refine Z 3 0 ?_;refine cd h rfl (fun h=>Y) (fun h=>?_);refine Z 7 0 ?_;refine cd h rfl (fun h=>?_) (fun h=>?_)
     ·refine cw h [] [3,7,10] (fun x91 e=>(4,(b_ x91))::e) (fun _ l=>l) ke (fun _ h=>?_) (fun x91 h=>Y);refine Z 2 0 ?_;refine cl (Hbm _) h (cq fun _ h=>?_);refine Z 1 0 ?_;refine bs h (fun _ h=>?_) (fun _ h=>Y);refine Z 5 0 ?_;refine bs h (fun _ h=>?_) (fun _ h=>Y);refine Z 5 0 ?_;refine bs h (fun _ h=>?_) (fun _ h=>Y);refine Z 2 0 ?_;refine cl (Hbm _) h (cq fun _ h=>?_);refine Z 2 0 ?_;refine bs h (fun _ h=>?_) (fun _ h=>Y);refine Z 6 0 ?_;refine bs h (fun _ h=>?_) (fun _ h=>Y);refine Z 5 0 ?_;refine bs h (fun _ h=>?_) (fun _ h=>Y);refine Z 5 0 ?_;refine bs h (fun _ h=>?_) (fun _ h=>Y);refine Z 5 0 ?_;refine bs h (fun _ h=>?_) (fun _ h=>Y);refine Z 10 0 ?_;refine bs h (fun _ h=>?_) (fun _ h=>Y);refine Z 5 0 ?_;refine bs h (fun hb90 h=>?_) (fun hb90 h=>Y);refine Z 1 0 ?_;refine Rn.k (v:=(b_ true)) (gw rfl hb90) rfl rfl rfl ?_;exact Y
     ·refine Z 2 0 ?_;refine cw h [3,18,19] [3,7,10] (fun x101 e=>(181,(b_ x101))::e) (fun _ l=>l) ke (fun _ h=>?_) (fun x101 h=>?_)
      ·refine Z 4 0 ?_;refine bs h (fun _ h=>Y) (fun _ h=>?_);refine Z 3 0 ?_;refine bs h (fun _ h=>?_) (fun _ h=>?_)
       ·refine Z 3 0 ?_;refine cl (Hbq _ _ _) h (cq fun _ h=>?_);refine Z 4 0 ?_;refine bs h (fun _ h=>?_) (fun _ h=>Y);refine Z 4 0 ?_;refine bs h (fun _ h=>Y) (fun _ h=>?_);refine Z 10 0 ?_;exact bs h (fun _ h=>Y) (fun _ h=>Y)
       ·refine Z 12 0 ?_;refine bs h (fun _ h=>Y) (fun _ h=>?_);refine Z 10 0 ?_;exact bs h (fun _ h=>Y) (fun _ h=>Y)
      ·refine cd h rfl (fun h=>Y) (fun h=>?_);refine Tr.skip ?_;refine cw h [] [3,7,10] (fun x107 e=>(4,(b_ x107))::e) (fun _ l=>l) ke (fun _ h=>?_) (fun x107 h=>Y);refine Z 5 0 ?_;refine bs h (fun hb103 h=>?_) (fun hb103 h=>?_)
       ·refine Z 1 0 ?_;refine Rn.k (v:=(b_ true)) (gw rfl hb103) rfl rfl rfl ?_;refine Z 6 0 ?_;refine bs h (fun _ h=>Y) (fun _ h=>?_);refine Z 4 0 ?_;refine bi h (fun hb105 h=>?_) (fun hb105 h=>Y);refine Z 1 0 ?_;refine Rn.k (v:=(b_ false)) (gw rfl hb105) rfl rfl rfl ?_;exact Y
       ·refine Z 12 0 ?_;refine bi h (fun hb106 h=>?_) (fun hb106 h=>Y);refine Z 1 0 ?_;refine Rn.k (v:=(b_ false)) (gw rfl hb106) rfl rfl rfl ?_;exact Y
end Go.Abs
end
section
namespace Go.Proofs
open Go.Abs
set_option maxRecDepth 100000
theorem Qkm:Qq Tryz.prog 6=some Qgt:=by kernel_rfl
theorem Qrr:Qq Tryz.prog 11=some Qk7:=by kernel_rfl
theorem Qwc:Qq Tryz.prog 13=some Qox:=by kernel_rfl
theorem Qs5:Qq Tryz.prog 14=some Qlx:=by kernel_rfl
theorem Qwd:Qq Tryz.prog 15=some Qo0:=by kernel_rfl
theorem Q3h:Qq Tryz.prog 17=some Qw4:=by kernel_rfl
theorem Qwe:Qq Tryz.prog 18=some Qow:=by kernel_rfl
theorem Qrs:Qq Tryz.prog 19=some Qk9:=by kernel_rfl
theorem Qs6:Qq Tryz.prog 20=some Qls:=by kernel_rfl
theorem Qwf:Qq Tryz.prog 22=some Qo2:=by kernel_rfl
theorem Qs7:Qq Tryz.prog 23=some Qlt:=by kernel_rfl
theorem Qs8:Qq Tryz.prog 24=some Qlu:=by kernel_rfl
theorem Qs9:Qq Tryz.prog 27=some Qlr:=by kernel_rfl
theorem Qrt:Qq Tryz.prog 29=some Qk5:=by kernel_rfl
theorem Qt7:Qq Tryz.prog 31=some Qm4:=by kernel_rfl
theorem Qt8:Qq Tryz.prog 32=some Qm7:=by kernel_rfl
theorem Qru:Qq Tryz.prog 33=some Qk8:=by kernel_rfl
theorem Qt9:Qq Tryz.prog 34=some Qm6:=by kernel_rfl
theorem Qy1:Qq Tryz.prog 35=some Qrk:=by kernel_rfl
theorem Qwg:Qq Tryz.prog 36=some Qou:=by kernel_rfl
theorem Qod:Qq Tryz.prog 37=some Qi2:=by kernel_rfl
theorem Qta:Qq Tryz.prog 45=some Qlw:=by kernel_rfl
theorem Qtb:Qq Tryz.prog 47=some Qlv:=by kernel_rfl
theorem Qrv:Qq Tryz.prog 50=some Qk1:=by kernel_rfl
theorem Qqr:Qq Tryz.prog 54=some Qj7:=by kernel_rfl
theorem Qu3:Qq Tryz.prog 55=some Qny:=by kernel_rfl
theorem Qwh:Qq Tryz.prog 56=some Qoy:=by kernel_rfl
theorem Qua:Qq Tryz.prog 61=some Qm5:=by kernel_rfl
theorem Qu4:Qq Tryz.prog 62=some Qnz:=by kernel_rfl
theorem Qu5:Qq Tryz.prog 63=some Qnw:=by kernel_rfl
theorem Qub:Qq Tryz.prog 64=some Qm2:=by kernel_rfl
theorem Qy2:Qq Tryz.prog 65=some Qri:=by kernel_rfl
theorem Quc:Qq Tryz.prog 66=some Qna:=by kernel_rfl
theorem Qu6:Qq Tryz.prog 67=some Qnx:=by kernel_rfl
theorem Qtc:Qq Tryz.prog 68=some Qlq:=by kernel_rfl
theorem Qnb:Qq Tryz.prog 69=some Qh4:=by kernel_rfl
theorem Qld:Qq Tryz.prog 71=some Qgv:=by kernel_rfl
theorem Qnm:Qq Tryz.prog 72=some Qip:=by kernel_rfl
theorem Qud:Qq Tryz.prog 73=some Qm9:=by kernel_rfl
theorem Qtd:Qq Tryz.prog 74=some Qlp:=by kernel_rfl
theorem Qoe:Qq Tryz.prog 75=some Qi1:=by kernel_rfl
theorem Qqs:Qq Tryz.prog 76=some Qj9:=by kernel_rfl
theorem Qnc:Qq Tryz.prog 77=some Qh2:=by kernel_rfl
theorem Qwi:Qq Tryz.prog 78=some Qoz:=by kernel_rfl
theorem Qwj:Qq Tryz.prog 79=some Qot:=by kernel_rfl
theorem Qxc:Qq Tryz.prog 80=some Qqf:=by kernel_rfl
theorem Qrw:Qq Tryz.prog 81=some Qk6:=by kernel_rfl
theorem Qwk:Qq Tryz.prog 82=some Qo1:=by kernel_rfl
theorem Qrx:Qq Tryz.prog 87=some Qk2:=by kernel_rfl
theorem Qof:Qq Tryz.prog 100=some Qi0:=by kernel_rfl
theorem Qry:Qq Tryz.prog 101=some Qk4:=by kernel_rfl
theorem Qnd:Qq Tryz.prog 102=some Qh3:=by kernel_rfl
theorem Qj5:Qq Tryz.prog 105=some Qgf:=by kernel_rfl
theorem Qxd:Qq Tryz.prog 106=some Qqg:=by kernel_rfl
theorem Qqt:Qq Tryz.prog 107=some Qj8:=by kernel_rfl
theorem Qqu:Qq Tryz.prog 108=some Qka:=by kernel_rfl
theorem Qlm:Qq Tryz.prog 109=some Qg7:=by kernel_rfl
theorem Qte:Qq Tryz.prog 110=some Qlo:=by kernel_rfl
theorem Qqv:Qq Tryz.prog 111=some Qj6:=by kernel_rfl
theorem Qwl:Qq Tryz.prog 112=some Qos:=by kernel_rfl
theorem Qu7:Qq Tryz.prog 118=some Qnu:=by kernel_rfl
theorem Que:Qq Tryz.prog 125=some Qm0:=by kernel_rfl
theorem Qwm:Qq Tryz.prog 129=some Qov:=by kernel_rfl
theorem Qzs:Qq Tryz.prog 143=some Qtq:=by kernel_rfl
theorem Qu8:Qq Tryz.prog 144=some Qnv:=by kernel_rfl
theorem Qln:Qq Tryz.prog 145=some Qg8:=by kernel_rfl
theorem Qy3:Qq Tryz.prog 162=some Qrh:=by kernel_rfl
theorem Qrz:Qq Tryz.prog 90=some Qk3:=by kernel_rfl
end Go.Proofs
end
section
namespace Go.Abs
open Go Go.Sort
section plain
variable {β:Type}
def insB (lt:β→β→Bool) (x:β):List β→List β
 | []=>[x]
 | y::ys=>if lt y x then y::insB lt x ys else x::y::ys
def Qly (lt:β→β→Bool):List β→List β
 | []=>[]
 | x::xs=>insB lt x (Qly lt xs)
theorem Qy4 (lt:β→β→Bool) (x:β):∀ l,(insB lt x l).Perm (x::l)
 | []=>.refl _
 | y::ys=>by
  unfold insB;split
  ·exact ((Qy4 lt x ys).cons y).trans (.swap x y ys)
  ·exact .refl _
theorem Qne (lt:β→β→Bool):∀ l,(Qly lt l).Perm l
 | []=>.refl _
 | x::xs=>(Qy4 lt x _).trans ((Qne lt xs).cons x)
theorem Qjz (lt:β→β→Bool) (l:List β):(Qly lt l).length=l.length:=(Qne lt l).length_eq
theorem Qy5 {lt:β→β→Bool} (h:SWO lt) (x:β):∀ l,l.Pairwise (fun a b=>lt b a=false)→(insB lt x l).Pairwise fun a b=>lt b a=false
 | [],_=>by simp [insB]
 | y::ys,hl=>by
  obtain ⟨h1,h2⟩:=List.pairwise_cons.1 hl;unfold insB;split
  ·rename_i hc;refine List.pairwise_cons.2 ⟨fun z hz=>?_,Qy5 h x ys h2⟩;rcases List.mem_cons.1 ((Qy4 lt x ys).mem_iff.1 hz) with rfl|hz
   ·cases hb:lt z y with
    | false=>rfl
    | true=>have:=h.trans _ _ _ hc hb;rw [h.irrefl] at this;cases this
   ·exact h1 z hz
  ·rename_i hc;have hc:lt y x=false:=by cases h:lt y x<;>simp_all
   refine List.pairwise_cons.2 ⟨fun z hz=>?_,hl⟩;rcases List.mem_cons.1 hz with rfl|hz
   ·exact hc
   ·exact h.ntrans _ _ _ (h1 z hz) hc
theorem Qmf {lt:β→β→Bool} (h:SWO lt):∀ l,(Qly lt l).Pairwise fun a b=>lt b a=false
 | []=>.nil
 | x::xs=>Qy5 h x _ (Qmf h xs)
end plain
def Qfh (a b:Int):Bool:=decide (a<b)
def Qba8 (l:List Int):Option (List Int):=if l.length≤lim then some (Qly Qfh l) else none
end Go.Abs
end
section
namespace Go.Abs
open Go Go.Sort Go.RowKit
theorem Q4w {P:Program} {f:FuncId} {ex:Array Value} {exV:List V} {sz nb:Nat} {M:Mem} (hb:Qgw P f=true) (hex:∀ g w us,RFs g w exV us→us=ex.toList)
  (h:∀ (p:Option Addr) (cap:Nat) (w:World),Calls P f (#[.slice p 0 cap]++ex) w fun e' w'=>e' = .returned (.tuple #[])∧w'=w) (hexf:V.dems exV=exV:=by rfl) :
  ACalls P f (.d (.lst sz [])::exV) M nb (.tup []) M nb:=by
 refine ACalls.mk' hb (Nat.le_refl _) (by simp only [V.dems,V.dem,hexf]) fun w g us hm hMon hus hfl hons=>?_;obtain ⟨u0,us',rfl,hu0,hus'⟩:=hus;have h1:=hex _ _ _ hus';subst h1;have h2:∃ p cap,u0 = .slice p 0 cap:=by
  have:=RF_d.1 hu0;obtain ⟨a,cap,rfl,_,_⟩:=this;exact ⟨a,cap,rfl⟩
 obtain ⟨p,cap,rfl⟩:=h2;have e1:(Value.slice p 0 cap::ex.toList).toArray = #[.slice p 0 cap]++ex:=by apply Array.ext';simp
 rw [e1];refine (h p cap w).mono ?_;rintro e' w' ⟨rfl,rfl⟩;exact ⟨_,g,rfl,hm,⟨[],rfl,rfl⟩,trivial,hMon,Fr.refl _ _ _⟩
theorem Qy6 (l:List Int):(l.mergeSort fun x y=>decide (x≤y))=Qly Qfh l:=by
 have hO:Go.Sort.SWO Qfh:=⟨fun x=>by simp [Qfh],fun x y z h1 h2=>by simp [Qfh] at *;omega,fun x y z h1 h2=>by simp [Qfh] at *;omega⟩;refine List.Perm.eq_of_pairwise (le:=fun a b=>Qfh b a=false) (fun a b _ _ h1 h2=>by simp [Qfh] at *;omega) ?_ (Qmf hO l) ((List.mergeSort_perm _ _).trans (Qne _ l).symm);have:=List.pairwise_mergeSort (le:=fun x y:Int=>decide (x≤y)) (fun a b c h1 h2=>by simp at *;omega) (fun a b=>by simp;omega) l;exact this.imp fun h=>by simp [Qfh] at *;omega
end Go.Abs
end
section
namespace Go.Abs
open Go Go.Sort Go.Shelf Go.RowKit Go.Lib Go.Proofs
section
variable {α:Type} [Inhabited α]
end
end Go.Abs
end
section
namespace Go.Abs
open Go Go.RowKit
def Q58 (g:Nat):CFn:=⟨1,4,[.t 2],.seq (.region [⟨some 1,.box 1,[.t 0],false,none⟩,⟨some 2,.mov,[.c .und],false,none⟩] 9 []) (.seq (.region [⟨some 3,.func g,[.t 1],false,none⟩,⟨some 2,.mov,[.t 3],false,none⟩] 9 []) .ret)⟩
theorem Qba9 {P:Program} {c g:Nat} (hcf:Qq P c=some (Q58 g)):Qba5 P c g 1 4:=by
 intro x M nb;by_cases hM:∀ k,nb≤k→M k=none
 case neg=>exact Qoq (Qhy hcf) (by omega) hM
 by_cases hon:MOn (There M) M
 case neg=>exact ⟨Qhy hcf,by omega,fun w g us _ hm h=>absurd h hon⟩
 refine Qbc7 hcf hM rfl (by omega) fun Γ hP hn ht=>?_;have hlt:∀ k,There M k→k<nb:=fun k hk=>by
  rcases Nat.lt_or_ge k nb with h|h
  ·exact h
  ·simp [There,hM k h] at hk
 subst hn;rw [← Qk0 hM];refine Tr.init [(0,.d x)] rfl ?_;unfold Q58;refine Tr.seq ?_;refine Tr.rgn ?_;refine Rn.box (v:=.d x) (cs:=[.d x]) trivial rfl rfl rfl rfl rfl ?_;refine Rn.mov (v:=.und) trivial rfl ?_;refine Rn.nil ?_;refine toN ?_;refine Tr.seq ?_;refine Tr.rgn ?_;refine Rn.k (v:=.clo g [.ptr (Γ.n0+1) 0]) trivial rfl rfl rfl ?_;refine Rn.mov (v:=.clo g [.ptr (Γ.n0+1) 0]) trivial rfl ?_;refine Rn.nil ?_;refine toN ?_;refine Tr.ret ?_;rw [Qk0 hM];have hth:There (M.put (Γ.n0+1) (.cells [.d x])) (Γ.n0+1):=by simp [There,Mem.put]
 refine ⟨.inr rfl,.clo g [.ptr (Γ.n0+1) 0],rfl,fun _ _ _ _ h=>h,fun k b hk=>?_,⟨hth,trivial⟩,fun k cs hk=>?_,fun k hk=>?_⟩
 ·show Qh Γ.n0 [(1,.cells [.d x])] M k=some b;have:=Qdj (n0:=Γ.n0) (L:=[]) (M0:=M) (t:=1) (b:=.cells [.d x]);rw [← this,Qk0 hM];exact hk
 ·by_cases h:k=Γ.n0+1
  ·subst h;rw [Qf0] at hk;cases hk;exact ⟨trivial,trivial⟩
  ·rw [Qb8 _ _ h] at hk;exact ons_mono (fun j hj=>There.put hj) _ (hon k cs hk)
 ·by_cases h:k=Γ.n0+1
  ·omega
  ·have:There M k:=by simpa [There,Mem.put,h] using hk
   have:=hlt k this;omega
theorem Q59 {imm:Nat→Nat→Prop} {w:World} {b:Nat}:∀ (xs:List Int) (o:Nat),(∀ j x,xs[j]? = some x→imm b (o+j)∧w.cell? ⟨b,o+j,none⟩=some (.int .i64 x))→RDL imm w 1 b (List.map (eI .i64) xs) o
 | [],_,_=>by simp [RDL]
 | x::xs,o,h=>by
  simp only [List.map_cons,RDL];obtain ⟨h1,h2⟩:=h 0 x rfl;refine ⟨rfl,⟨h1,⟨_,h2,rfl⟩,trivial⟩,Q59 xs (o+1) fun j y hj=>?_⟩;have:=h (j+1) y (by simpa using hj)
  rwa [show o+(j+1)=o+1+j from by omega] at this
theorem Q6a {imm:Nat→Nat→Prop} {w:World} {b:Nat}:∀ (xs:List Int) (o:Nat),RDL imm w 1 b (List.map (eI .i64) xs) o→∀ j x,xs[j]? = some x→w.cell? ⟨b,o+j,none⟩=some (.int .i64 x)
 | [],_,_,j,x,hj=>by simp at hj
 | y::ys,o,h,j,x,hj=>by
  simp only [List.map_cons,RDL] at h;obtain ⟨_,⟨_,⟨u,h2,h3⟩,_⟩,h4⟩:=h;cases j with
  | zero =>
   simp at hj;subst hj;have:u = .int .i64 y:=h3;rw [← this];exact h2
  | succ j =>
   have:=Q6a ys (o+1) h4 j x (by simpa using hj)
   rwa [show o+1+j=o+(j+1) from by omega] at this
def Ints (n₀:Nat) (W:World) (sv:Value) (zs:List Int):Prop :=
 (∃ a cap,sv = .slice a 0 cap∧zs=[])∨∃ b off cap,sv = .slice (some ⟨b,off,none⟩) zs.length cap∧b<n₀∧∀ j,j<zs.length→W.cell? ⟨b,off+j,none⟩=some (.int .i64 (zs[j]?.getD 0))
theorem Ints.below {n₀:Nat} {A B:World} (h:Below n₀ A B) {sv:Value} {zs:List Int}:Ints n₀ A sv zs→Ints n₀ B sv zs
 | .inl e=>.inl e
 | .inr ⟨b,off,cap,e,hb,hc⟩=>.inr ⟨b,off,cap,e,hb,fun j hj=>(h.cell (p:=⟨b,off+j,none⟩) hb).trans (hc j hj)⟩
theorem Qbba {P:Program} {c g:Nat} {t:TypeId} (hb:Qgw P c=true)
  (hcall:∀ (Bs:Nat) (sv:Value) (zs:List Int) (w:World),zs.length*8≤140737488351232→Bs<w.heap.size→w.cell? ⟨Bs,0,none⟩=some sv→Ints w.heap.size w sv zs →
   Calls P c #[.func (.func g) #[] #[.pointer (some ⟨Bs,0,none⟩)]] w fun e W'=>∃ v,e = .returned v∧W'.ownsRow w.heap.size t 1 v zs.length ((zs.mergeSort fun x y=>decide (x≤y)).map (Value.int .i64))∧Below w.heap.size w W') :
  Qbdg P c g (eI .i64) 1 Qba8:=by
 intro xs ys hf M nb k hM;unfold Qba8 at hf;split at hf<;>cases hf;rename_i hlen;refine ACalls.mk' hb (Nat.le_refl _) rfl fun w g0 us hm hMon hus hfl hons=>?_;obtain ⟨u0,us',rfl,hu0,rfl⟩:=hus;obtain ⟨hk0,hown,vals,et,hh,hrv,hone⟩:=hm.box k _ hM;obtain ⟨vs,rfl,hvs⟩ : ∃ vs:List Value,u0 = .func (.func g) #[] vs.toArray∧RVs g0 w [.ptr k 0] .ext 0 vs:=by
  have:=hu0 .ext;simpa only [RV] using this
 obtain ⟨p,_,rfl,hp,rfl⟩:=hvs;simp only [RV] at hp;subst hp;obtain ⟨sv,_,rfl,hsv,rfl⟩:=hrv;simp only [RV] at hsv;obtain ⟨a,cap,rfl,hcap,hcells⟩:=hsv;have hBs:g0.box k<w.heap.size:=(Array.getElem?_eq_some_iff.1 hh).1;have hI:Ints w.heap.size w (.slice a (List.map (eI .i64) xs).length cap) xs:=by
  rcases hcells with h|⟨b,o,rfl,h⟩
  ·have:xs=[]:=by simpa using h
   subst this;exact .inl ⟨a,cap,rfl,rfl⟩
  ·by_cases h0:xs=[]
   ·subst h0;exact .inl ⟨_,cap,rfl,rfl⟩
   ·have hc:=Q6a xs o h;refine .inr ⟨b,o,cap,by rw [List.length_map],?_,fun j hj=>?_⟩
    ·have h1:0<xs.length:=List.length_pos_iff.2 h0;have:=hc 0 xs[0] (List.getElem?_eq_getElem h1);simp only [World.cell?] at this;cases hbk:w.heap[b]? with
     | none=>simp [hbk] at this
     | some ob=>exact (Array.getElem?_eq_some_iff.1 hbk).1
    ·have:=hc j xs[j] (List.getElem?_eq_getElem hj);rw [this,List.getElem?_eq_getElem hj];rfl
 have hlen8:xs.length*8≤140737488351232:=by unfold lim at hlen;omega
 refine (hcall (g0.box k) _ xs w hlen8 hBs (by simp [World.cell?,hh]) hI).mono ?_;rintro e W' ⟨v,rfl,hrow,hbel⟩;rw [Qy6] at hrow;generalize Qly Qfh xs=ys at hrow ⊢;obtain ⟨gb,hgb,hv⟩ : ∃ gb,w.heap.size≤gb∧(ys=[]∧v = .slice none 0 0∨∃ cap,v = .slice (some ⟨gb,0,none⟩) ys.length cap∧ys.length≤cap∧∀ j x,ys[j]? = some x→gb<W'.heap.size∧W'.cell? ⟨gb,j,none⟩=some (.int .i64 x)):=by
  obtain ⟨h1,h2⟩:=hrow;have h1:ys.length=xs.length:=by simpa using h1
  rcases h2 with ⟨rfl,h0⟩|⟨gb,cap,cur,rfl,hbase,hgb,r1,r2,r3,r4⟩
  ·exact ⟨w.heap.size,Nat.le_refl _,.inl ⟨List.eq_nil_of_length_eq_zero (by omega),rfl⟩⟩
  ·refine ⟨gb,hbase,.inr ⟨cap,by rw [h1],by omega,fun j x hj=>⟨(Array.getElem?_eq_some_iff.1 hgb).1,?_⟩⟩⟩;have hj2:=(List.getElem?_eq_some_iff.1 hj).1;have:(cur.toList.take (xs.length*1))[j]? = some (.int .i64 x):=by rw [r4,List.getElem?_map,hj];rfl
   rw [List.getElem?_take_of_lt (by omega)] at this;simp only [World.cell?,hgb];simpa using this
 let g' : G:=⟨g0.box,fun b o=>g0.imm b o∨(b=gb∧o<ys.length),fun b=>if b=gb then .ext else g0.own b⟩;have hne:∀ b,b<w.heap.size→b≠gb:=fun b h=>by omega
 have himm:Imm g0.imm g'.imm w W':=by
  refine ⟨fun _ _ h=>.inl h,fun b o h=>?_⟩;have:=(hm.imm b o h).1;exact Qdv (hbel.block b this)
 have hkept:Kept g0 w g' W' (There M) (fun _=>True):=⟨himm,fun _ _=>rfl,fun b _ hl=>⟨by simp [g',hne b hl],hbel.block b hl,fun o=>by simp [g',hne b hl]⟩⟩;refine ⟨v,g',rfl,hm.kept hkept hMon (fun _ _ _=>trivial) trivial (fun _ _=>trivial) fun b o h=>?_,?_,trivial,hMon,?_⟩
 ·rcases h with h|⟨rfl,h⟩
  ·obtain ⟨h1,h2⟩:=hm.imm b o h;refine ⟨Nat.lt_of_lt_of_le h1 hbel.size,fun k=>?_⟩;simp only [g',hne b h1,if_false];exact h2 k
  ·refine ⟨?_,fun k=>by simp [g']⟩;rcases hv with ⟨rfl,_⟩|⟨cap,_,_,hc⟩
   ·simp at h
   ·exact (hc o _ (List.getElem?_eq_getElem h)).1
 ·simp only [RV];rcases hv with ⟨rfl,rfl⟩|⟨cap,rfl,hcp,hc⟩
  ·simp only [RD];exact ⟨none,0,rfl,Nat.le_refl _,.inl rfl⟩
  ·simp only [RD,List.length_map];refine ⟨_,cap,rfl,hcp,.inr ⟨gb,0,rfl,Q59 ys 0 fun j x hj=>?_⟩⟩;rw [Nat.zero_add];have h2:=(hc j x hj).2;exact ⟨⟨.inr ⟨rfl,(List.getElem?_eq_some_iff.1 hj).1⟩,by simp [g'],.inl (by rw [h2];rfl)⟩,h2⟩
 ·exact ⟨hbel.os,hbel.tape,hbel.output,hbel.size,himm,fun _ _=>rfl,fun b hb _=>⟨by simp [g',hne b hb],hbel.block b hb,fun o=>by simp [g',hne b hb]⟩⟩
end Go.Abs
end
section
namespace Go.Abs
def Qbdi (l:List Int):Option (List Int):=if l.length≤lim then some (Qly Qfh l) else none
def keyB (l:List Int):ByteArray:=⟨(l.flatMap fun x=>Lib.encodeRune (x+1)).toArray⟩
def keyS (l:List Int):Option ByteArray:=if l.length≤lim∧∀ x∈l,0≤x∧x<50000 then some (keyB l) else none
def Qbdj (a:Qa):Option (List (List Int)×Int):=if a=⟨[0,1],2,[],[⟨0,0,0⟩]⟩ then some ([[0],[1]],0) else none
def Qbdk (l:List (List Int)):Option Unit:=if l.length≤1 then some () else none
end Go.Abs
end
section
namespace Go.Abs
open Go Go.Abs
set_option maxRecDepth 10000
set_option maxHeartbeats 4000000
def Qbx:Nat:=1099511627776
def Qle:=Qc8
def Qfm:=Qd0 Qbx
def Qej:=Qbi Qfm Qbx
def Qgh:=Qci Qbx
def Qhn:=Qdo Qbx
def Qbh:=Qj Qhn
def Qfr:=Qcg Qbh Qbx
def Qd3:=Q0 Qgh Qfr
def Qcs:=Qw Qd3 Qej
def Qji:=Qdx
def Qil:=Qd1 Qbx
def Qh9:=Qcn Qej Qji Qil
def Qc0:=Qr Qh9
def Qi8:=Qei Qbx
def Qhg:=Qcz
def Qfc:=Qbn Qi8 Qhg
def Qnf:=Qd6
def Qi3:=Qfg Qnf
def Qho:=Qc2
def Qev:=Qb4 Qi3 Qho Qbx
def Qfn:=Qbu Qev
def Qhh:=Qch Qfn
def Qfs:=Qb9 Qbx
def Qb6:=Qs Qfs
def Qf5:=Qbz
def Qia:=Qd7
def Qb1:=Qt Qcs Qf5 Qfn Qia Qbx
def Qib:=Qc9 Qbx
def Qec:=Qbb Qd3 Qib
def Qeg:=Q5 Qbh Qbx
def Qe9:=Qbp Qbh
def Qdd:=Q1 Qb6 Qe9
def Qba:=Qbd
def Qde:=Q2 Qbh Qbdi Qba Qbx
def Qdf:=Q3 Qde
def Qdk:=Q6 Qde Qbx
def Qe2:=Qbf Qec Qeg Qdf Qdk Qdd Qbx
def Qf6:=Qb0 Qbx
def Qcy:=Qx Qb1 Qe2 Qcs Qc0 Qf6 Qfc Qb6 Qhh
def Qel:=Qbc Qbh
def Qdp:=Qbj Qb6 Qel
def Qeh:=Qcu Qec Qeg Qdf keyS Qdp Qdk Qbx
def Qct:=Qbv Qb1 Qeh Qc0 Qf6 Qbx
def Qim:=Qbg
def Qpc:=Qep Qbx
def Qjj:=Qb2 Qim Qpc
def Qng:=Qeq
def Qpd:=Qer Qjj Qim Qbdj Qba8 Qbdk Qng Qbx
def Qpe:=Qes Qf5 Qec Qeg Qdd Qbh Qbx
def Qlf:=Qco Qc0 Qpe Qbx
def Qdy:=Qbk Qb1 Qcy Qjj Qcs Qim Qlf
def Qlz:=Qcv Qbx
def Qf7:=Qbs Qbx
def Qw5:=Qf4 Qf7
def Qic:=Qcp Qct Qpd Qw5 Qlz Qcy Qdy Qle
def Qg1:=Qda Qd3
def Qf8:=Qcq Qd3 Qej Qbx
def Qgd:=Qb5 Qe2
def Qfo:=Qeb Qb1 Qgd Qc0 Qfc
def Qg2:=Qdb Qbx
def Qin:=Qd2 Qf7 Qg2
def Qgi:=Qb3 Qin
def Qg3:=Qdc Qbx
def Qgj:=Qcw
def Qgk:=Qcx Qbx
def Qdg:=Qcd Qgk Qgj Qg3 Qbx
def Qgl:=Qcj Qdg
def Qeu:=Qet Qic Qct Qgl Qb1 Qgi Qcy Qg1 Qf8 Qdy Qfo Qcs Qbx
end Go.Abs
end
section
namespace Go.Proofs
open Go.Shelf
def Tryz.lays169_ren:Go.Shelf.Ren:=⟨fun|169=>104|n=>n,fun|70=>163|9=>9|0=>0|72=>165|37=>146|127=>211|3=>3|5=>5|n=>n,fun|n=>n⟩
theorem Tryz.lays169:Go.Proofs.Lays.n169 Tryz.prog Tryz.lays169_ren:={
 mixed:=by kernel_rfl
 f169:=Tryz.func104.trans (congrArg some (by kernel_rfl))
 t0:=Tryz.underlying0
 a0:=Tryz.isAgg0
 z0:=Tryz.sizeOf0
 v0:=Tryz.zeroValue0
 t3:=Tryz.underlying3
 a3:=Tryz.isAgg3
 z3:=Tryz.sizeOf3
 v3:=Tryz.zeroValue3
 t9:=Tryz.underlying9
 a9:=Tryz.isAgg9
 z9:=Tryz.sizeOf9
 v9:=Tryz.zeroValue9
 t37:=Tryz.underlying146
 a37:=Tryz.isAgg146
 z37:=Tryz.sizeOf146
 v37:=Tryz.zeroValue146
 t70:=Tryz.underlying163
 a70:=Tryz.isAgg163
 z70:=Tryz.sizeOf163
 v70:=Tryz.zeroValue163
 t72:=Tryz.underlying165
 a72:=Tryz.isAgg165
 z72:=Tryz.sizeOf165
 v72:=Tryz.zeroValue165
 t127:=Tryz.underlying211
 a127:=Tryz.isAgg211
 z127:=Tryz.sizeOf211
 v127:=Tryz.zeroValue211 }
theorem Tryz.Builder_Extra_169:Builder.Extra Tryz.prog Tryz.lays169_ren:={
 sizeBuilder:=by kernel_rfl
 liesBuilder:=by kernel_rfl
 t5:=Tryz.underlying5
 a5:=Tryz.isAgg5
 z5:=Tryz.sizeOf5
 v5:=Tryz.zeroValue5
 infoByte:=by kernel_rfl
 cellsByte:=by kernel_rfl
 sizeByte:=by kernel_rfl
 neB5:=by decide }
def Tryz.lays125_ren:Go.Shelf.Ren:=⟨fun|125=>99|128=>141|129=>142|n=>n,fun|46=>160|3=>3|51=>206|53=>208|4=>4|5=>5|9=>9|n=>n,fun|n=>n⟩
theorem Tryz.lays125:Go.Proofs.Lays.n125 Tryz.prog Tryz.lays125_ren:={
 mixed:=by kernel_rfl
 f125:=Tryz.func99.trans (congrArg some (by kernel_rfl))
 f128:=Tryz.func141.trans (congrArg some (by kernel_rfl))
 f129:=Tryz.func142.trans (congrArg some (by kernel_rfl))
 t3:=Tryz.underlying3
 a3:=Tryz.isAgg3
 z3:=Tryz.sizeOf3
 v3:=Tryz.zeroValue3
 t4:=Tryz.underlying4
 a4:=Tryz.isAgg4
 z4:=Tryz.sizeOf4
 v4:=Tryz.zeroValue4
 t5:=Tryz.underlying5
 a5:=Tryz.isAgg5
 z5:=Tryz.sizeOf5
 v5:=Tryz.zeroValue5
 t9:=Tryz.underlying9
 a9:=Tryz.isAgg9
 z9:=Tryz.sizeOf9
 v9:=Tryz.zeroValue9
 t46:=Tryz.underlying160
 a46:=Tryz.isAgg160
 z46:=Tryz.sizeOf160
 v46:=Tryz.zeroValue160
 t51:=Tryz.underlying206
 a51:=Tryz.isAgg206
 z51:=Tryz.sizeOf206
 v51:=Tryz.zeroValue206
 t53:=Tryz.underlying208
 a53:=Tryz.isAgg208
 z53:=Tryz.sizeOf208
 v53:=Tryz.zeroValue208 }
theorem Tryz.bits_Len (x:Int) (w:World) (h0:0≤x) (h1:x≤18446744073709551615) :
  Calls Tryz.prog 99 #[.int .u64 x] w fun e w'=>e = .returned (.int .i64 (Lib.bitLen x.toNat))∧w'=w:=Any.bits_Len Tryz.lays125 x w h0 h1
open Go.RowKit in
theorem Tryz.Builder_String_any_k (B b:Nat) (l:List UInt8) (w:World) (h:Lib.IsBuilderF 165 5 B b (Lib.byteCells l) w) (hBw:B≤w.heap.size) :
  Calls Tryz.prog 104 #[.pointer (some ⟨b,0,none⟩)] w fun e w'=>e = .returned (.string ⟨l.toArray⟩)∧(Lib.IsBuilderF 165 5 B b (Lib.byteCells l) w'∧Below B w w'∧Lib.OthersKept 5 (some b) w w'):=Any.Builder_String_any_k Tryz.lays169 Tryz.Builder_Extra_169 B b l w h hBw
def Tryz.lays189_ren:Go.Shelf.Ren:=⟨fun|189=>94|125=>99|257=>131|128=>141|129=>142|294=>149|295=>150|296=>151|297=>152|298=>153|299=>154|216=>143|300=>155|301=>156|328=>167|329=>158|330=>159|331=>168|332=>169|215=>162|343=>171|n=>n,fun|28=>32|3=>3|46=>160|0=>0|51=>206|53=>208|4=>4|183=>200|182=>199|131=>122|5=>5|9=>9|218=>217|222=>221|228=>229|229=>181|n=>n,fun|n=>n⟩
theorem Tryz.lays189:Go.Proofs.Lays.n189 Tryz.prog Tryz.lays189_ren:={
 mixed:=by kernel_rfl
 f125:=Tryz.func99.trans (congrArg some (by kernel_rfl))
 f128:=Tryz.func141.trans (congrArg some (by kernel_rfl))
 f129:=Tryz.func142.trans (congrArg some (by kernel_rfl))
 f189:=Tryz.func94.trans (congrArg some (by kernel_rfl))
 f215:=Tryz.func162.trans (congrArg some (by kernel_rfl))
 f216:=Tryz.func143.trans (congrArg some (by kernel_rfl))
 f257:=Tryz.func131.trans (congrArg some (by kernel_rfl))
 f294:=Tryz.func149.trans (congrArg some (by kernel_rfl))
 f295:=Tryz.func150.trans (congrArg some (by kernel_rfl))
 f296:=Tryz.func151.trans (congrArg some (by kernel_rfl))
 f297:=Tryz.func152.trans (congrArg some (by kernel_rfl))
 f298:=Tryz.func153.trans (congrArg some (by kernel_rfl))
 f299:=Tryz.func154.trans (congrArg some (by kernel_rfl))
 f300:=Tryz.func155.trans (congrArg some (by kernel_rfl))
 f301:=Tryz.func156.trans (congrArg some (by kernel_rfl))
 f328:=Tryz.func167.trans (congrArg some (by kernel_rfl))
 f329:=Tryz.func158.trans (congrArg some (by kernel_rfl))
 f330:=Tryz.func159.trans (congrArg some (by kernel_rfl))
 f331:=Tryz.func168.trans (congrArg some (by kernel_rfl))
 f332:=Tryz.func169.trans (congrArg some (by kernel_rfl))
 f343:=Tryz.func171.trans (congrArg some (by kernel_rfl))
 t0:=Tryz.underlying0
 a0:=Tryz.isAgg0
 z0:=Tryz.sizeOf0
 v0:=Tryz.zeroValue0
 t3:=Tryz.underlying3
 a3:=Tryz.isAgg3
 z3:=Tryz.sizeOf3
 v3:=Tryz.zeroValue3
 t4:=Tryz.underlying4
 a4:=Tryz.isAgg4
 z4:=Tryz.sizeOf4
 v4:=Tryz.zeroValue4
 t5:=Tryz.underlying5
 a5:=Tryz.isAgg5
 z5:=Tryz.sizeOf5
 v5:=Tryz.zeroValue5
 t9:=Tryz.underlying9
 a9:=Tryz.isAgg9
 z9:=Tryz.sizeOf9
 v9:=Tryz.zeroValue9
 t28:=Tryz.underlying32
 a28:=Tryz.isAgg32
 z28:=Tryz.sizeOf32
 v28:=Tryz.zeroValue32
 t46:=Tryz.underlying160
 a46:=Tryz.isAgg160
 z46:=Tryz.sizeOf160
 v46:=Tryz.zeroValue160
 t51:=Tryz.underlying206
 a51:=Tryz.isAgg206
 z51:=Tryz.sizeOf206
 v51:=Tryz.zeroValue206
 t53:=Tryz.underlying208
 a53:=Tryz.isAgg208
 z53:=Tryz.sizeOf208
 v53:=Tryz.zeroValue208
 t131:=Tryz.underlying122
 a131:=Tryz.isAgg122
 z131:=Tryz.sizeOf122
 v131:=Tryz.zeroValue122
 t182:=Tryz.underlying199
 a182:=Tryz.isAgg199
 z182:=Tryz.sizeOf199
 v182:=Tryz.zeroValue199
 t183:=Tryz.underlying200
 a183:=Tryz.isAgg200
 z183:=Tryz.sizeOf200
 v183:=Tryz.zeroValue200
 t218:=Tryz.underlying217
 a218:=Tryz.isAgg217
 z218:=Tryz.sizeOf217
 v218:=Tryz.zeroValue217
 t222:=Tryz.underlying221
 a222:=Tryz.isAgg221
 z222:=Tryz.sizeOf221
 v222:=Tryz.zeroValue221
 t228:=Tryz.underlying229
 a228:=Tryz.isAgg229
 z228:=Tryz.sizeOf229
 v228:=Tryz.zeroValue229
 t229:=Tryz.underlying181
 a229:=Tryz.isAgg181
 z229:=Tryz.sizeOf181
 v229:=Tryz.zeroValue181 }
open Go.Sort Go.RowKit in
theorem Tryz.slices_Sort_int (blk off cap:Nat) (zs:List Int) (w:World) (hH:Holds (Value.int .i64) w blk off zs.toArray) (hblk:blk<w.heap.size) (hsz:zs.length<4611686018427387904) :
  Calls Tryz.prog 94 #[.slice (some ⟨blk,off,none⟩) zs.length cap] w fun e w' =>
   e = .returned (.tuple #[])∧∃ n os,w'=grow (putRow (Value.int .i64) (Sort.ahead w n) blk off (zs.mergeSort fun x y=>decide (x≤y)).toArray) os:=Any.slices_Sort_int Tryz.lays189 blk off cap zs w hH hblk hsz
open Go.RowKit Go.Sort in
theorem Tryz.slices_Sort_int_none (p:Option Addr) (cap:Nat) (w:World) :
  Calls Tryz.prog 94 #[.slice p 0 cap] w fun e w'=>e = .returned (.tuple #[])∧w'=w:=Any.slices_Sort_int_none Tryz.lays189 p cap w
def Tryz.laysSlF6_f60_ren:Go.Shelf.Ren:=⟨fun|6=>60|15=>99|14=>98|28=>141|29=>142|20=>133|21=>134|22=>135|23=>136|24=>137|25=>138|26=>139|27=>140|46=>157|47=>158|48=>159|49=>160|50=>161|57=>170|n=>n,fun|22=>45|24=>32|25=>116|3=>3|39=>160|0=>0|53=>206|55=>208|4=>4|46=>200|45=>199|50=>122|5=>5|9=>9|66=>217|70=>221|76=>229|77=>181|n=>n,fun|n=>n⟩
theorem Tryz.laysSlF6_f60:Go.Proofs.SlLaysF.n6 Tryz.prog Tryz.laysSlF6_f60_ren:={
 mixed:=by kernel_rfl
 f6:=⟨Tryz.f60.name,by decide,Tryz.func60.trans (congrArg some (by kernel_rfl))⟩
 f14:=⟨Tryz.f98.name,by decide,Tryz.func98.trans (congrArg some (by kernel_rfl))⟩
 f15:=Tryz.func99.trans (congrArg some (by kernel_rfl))
 f20:=⟨Tryz.f133.name,by decide,Tryz.func133.trans (congrArg some (by kernel_rfl))⟩
 f21:=⟨Tryz.f134.name,by decide,Tryz.func134.trans (congrArg some (by kernel_rfl))⟩
 f22:=⟨Tryz.f135.name,by decide,Tryz.func135.trans (congrArg some (by kernel_rfl))⟩
 f23:=⟨Tryz.f136.name,by decide,Tryz.func136.trans (congrArg some (by kernel_rfl))⟩
 f24:=⟨Tryz.f137.name,by decide,Tryz.func137.trans (congrArg some (by kernel_rfl))⟩
 f25:=⟨Tryz.f138.name,by decide,Tryz.func138.trans (congrArg some (by kernel_rfl))⟩
 f26:=⟨Tryz.f139.name,by decide,Tryz.func139.trans (congrArg some (by kernel_rfl))⟩
 f27:=⟨Tryz.f140.name,by decide,Tryz.func140.trans (congrArg some (by kernel_rfl))⟩
 f28:=Tryz.func141.trans (congrArg some (by kernel_rfl))
 f29:=Tryz.func142.trans (congrArg some (by kernel_rfl))
 f46:=⟨Tryz.f157.name,by decide,Tryz.func157.trans (congrArg some (by kernel_rfl))⟩
 f47:=Tryz.func158.trans (congrArg some (by kernel_rfl))
 f48:=Tryz.func159.trans (congrArg some (by kernel_rfl))
 f49:=⟨Tryz.f160.name,by decide,Tryz.func160.trans (congrArg some (by kernel_rfl))⟩
 f50:=⟨Tryz.f161.name,by decide,Tryz.func161.trans (congrArg some (by kernel_rfl))⟩
 f57:=⟨Tryz.f170.name,by decide,Tryz.func170.trans (congrArg some (by kernel_rfl))⟩
 t0:=Tryz.underlying0
 a0:=Tryz.isAgg0
 z0:=Tryz.sizeOf0
 v0:=Tryz.zeroValue0
 t3:=Tryz.underlying3
 a3:=Tryz.isAgg3
 z3:=Tryz.sizeOf3
 v3:=Tryz.zeroValue3
 t4:=Tryz.underlying4
 a4:=Tryz.isAgg4
 z4:=Tryz.sizeOf4
 v4:=Tryz.zeroValue4
 t5:=Tryz.underlying5
 a5:=Tryz.isAgg5
 z5:=Tryz.sizeOf5
 v5:=Tryz.zeroValue5
 t9:=Tryz.underlying9
 a9:=Tryz.isAgg9
 z9:=Tryz.sizeOf9
 v9:=Tryz.zeroValue9
 t22:=Tryz.underlying45
 a22:=Tryz.isAgg45
 z22:=Tryz.sizeOf45
 v22:=Tryz.zeroValue45
 a24:=Tryz.isAgg32
 z24:=Tryz.sizeOf32
 t25:=Tryz.underlying116
 a25:=Tryz.isAgg116
 z25:=Tryz.sizeOf116
 v25:=Tryz.zeroValue116
 t39:=Tryz.underlying160
 a39:=Tryz.isAgg160
 z39:=Tryz.sizeOf160
 v39:=Tryz.zeroValue160
 t45:=Tryz.underlying199
 a45:=Tryz.isAgg199
 z45:=Tryz.sizeOf199
 v45:=Tryz.zeroValue199
 t46:=Tryz.underlying200
 a46:=Tryz.isAgg200
 z46:=Tryz.sizeOf200
 v46:=Tryz.zeroValue200
 t50:=Tryz.underlying122
 a50:=Tryz.isAgg122
 z50:=Tryz.sizeOf122
 v50:=Tryz.zeroValue122
 t53:=Tryz.underlying206
 a53:=Tryz.isAgg206
 z53:=Tryz.sizeOf206
 v53:=Tryz.zeroValue206
 t55:=Tryz.underlying208
 a55:=Tryz.isAgg208
 z55:=Tryz.sizeOf208
 v55:=Tryz.zeroValue208
 t66:=Tryz.underlying217
 a66:=Tryz.isAgg217
 z66:=Tryz.sizeOf217
 v66:=Tryz.zeroValue217
 t70:=Tryz.underlying221
 a70:=Tryz.isAgg221
 z70:=Tryz.sizeOf221
 v70:=Tryz.zeroValue221
 t76:=Tryz.underlying229
 a76:=Tryz.isAgg229
 z76:=Tryz.sizeOf229
 v76:=Tryz.zeroValue229
 t77:=Tryz.underlying181
 a77:=Tryz.isAgg181
 z77:=Tryz.sizeOf181
 v77:=Tryz.zeroValue181 }
open Go.RowKit Go.Lib Go.Sort in
theorem Tryz.slices_SortFunc_eq {α:Type} [Inhabited α] (enc:α→Value) (h1:OneCell enc) (cf:α→α→Int) (hO:SWO (ltOf cf)) (g:Nat) (cb:Array Value) (blk off cap:Nat) (d:Array α) (w:World) (eg:∀ args w,(callFunc g args).run Tryz.prog w = .ok (.enter g args) w) (hcmp:CmpLays1 Tryz.prog g cb enc cf blk off d.size w) (hH:Holds enc w blk off d) (hblk:blk<w.heap.size) (hsz:d.size<4611686018427387904) :
  Calls Tryz.prog 60 #[.slice (some ⟨blk,off,none⟩) d.size cap,.func (.func g) #[] cb] w fun e w' =>
   e = .returned (.tuple #[])∧∃ n os,w'=sortWorld enc w blk off n (pdq (ltOf cf) d 0 d.size (Lib.bitLen d.size) true true) os:=Any.slices_SortFunc_eq Tryz.laysSlF6_f60 enc h1 cf hO g cb blk off cap d w eg hcmp hH hblk hsz
def Tryz.lays168_ren:Go.Shelf.Ren:=⟨fun|168=>103|240=>146|242=>147|276=>163|278=>164|n=>n,fun|0=>0|3=>3|4=>4|5=>5|9=>9|20=>20|21=>21|37=>146|46=>160|51=>206|70=>163|72=>165|75=>167|80=>170|164=>223|n=>n,fun|n=>n⟩
theorem Tryz.lays168:Go.Proofs.Lays.n168 Tryz.prog Tryz.lays168_ren:={
 mixed:=by kernel_rfl
 f168:=Tryz.func103.trans (congrArg some (by kernel_rfl))
 f240:=Tryz.func146.trans (congrArg some (by kernel_rfl))
 f242:=Tryz.func147.trans (congrArg some (by kernel_rfl))
 f276:=Tryz.func163.trans (congrArg some (by kernel_rfl))
 f278:=Tryz.func164.trans (congrArg some (by kernel_rfl))
 t0:=Tryz.underlying0
 a0:=Tryz.isAgg0
 z0:=Tryz.sizeOf0
 v0:=Tryz.zeroValue0
 t3:=Tryz.underlying3
 a3:=Tryz.isAgg3
 z3:=Tryz.sizeOf3
 v3:=Tryz.zeroValue3
 t4:=Tryz.underlying4
 a4:=Tryz.isAgg4
 z4:=Tryz.sizeOf4
 v4:=Tryz.zeroValue4
 t5:=Tryz.underlying5
 a5:=Tryz.isAgg5
 z5:=Tryz.sizeOf5
 v5:=Tryz.zeroValue5
 t9:=Tryz.underlying9
 a9:=Tryz.isAgg9
 z9:=Tryz.sizeOf9
 v9:=Tryz.zeroValue9
 t20:=Tryz.underlying20
 a20:=Tryz.isAgg20
 z20:=Tryz.sizeOf20
 v20:=Tryz.zeroValue20
 t21:=Tryz.underlying21
 a21:=Tryz.isAgg21
 z21:=Tryz.sizeOf21
 v21:=Tryz.zeroValue21
 t37:=Tryz.underlying146
 a37:=Tryz.isAgg146
 z37:=Tryz.sizeOf146
 v37:=Tryz.zeroValue146
 t46:=Tryz.underlying160
 a46:=Tryz.isAgg160
 z46:=Tryz.sizeOf160
 v46:=Tryz.zeroValue160
 t51:=Tryz.underlying206
 a51:=Tryz.isAgg206
 z51:=Tryz.sizeOf206
 v51:=Tryz.zeroValue206
 t70:=Tryz.underlying163
 a70:=Tryz.isAgg163
 z70:=Tryz.sizeOf163
 v70:=Tryz.zeroValue163
 t72:=Tryz.underlying165
 a72:=Tryz.isAgg165
 z72:=Tryz.sizeOf165
 v72:=Tryz.zeroValue165
 t75:=Tryz.underlying167
 a75:=Tryz.isAgg167
 z75:=Tryz.sizeOf167
 v75:=Tryz.zeroValue167
 t164:=Tryz.underlying223
 a164:=Tryz.isAgg223
 z164:=Tryz.sizeOf223
 v164:=Tryz.zeroValue223 }
theorem Tryz.Builder_Extra_168:Builder.Extra Tryz.prog Tryz.lays168_ren:={
 sizeBuilder:=by kernel_rfl
 liesBuilder:=by kernel_rfl
 t5:=Tryz.underlying5
 a5:=Tryz.isAgg5
 z5:=Tryz.sizeOf5
 v5:=Tryz.zeroValue5
 infoByte:=by kernel_rfl
 cellsByte:=by kernel_rfl
 sizeByte:=by kernel_rfl
 neB5:=by decide }
open Go.RowKit in
theorem Tryz.Builder_WriteRune_k (B b:Nat) (bs:List Value) (r:Int) (hr0 : -2147483648≤r) (hr1:r≤2147483647) (w:World) (h:Lib.IsBuilderF 165 5 B b bs w) (hlen:bs.length+4≤140737488355328) (hBw:B≤w.heap.size) :
  Calls Tryz.prog 103 #[.pointer (some ⟨b,0,none⟩),.int .i32 r] w fun e w'=>e = .returned (.tuple #[.int .i64 (Lib.runeCells r).length,.nilIface])∧(Lib.BuilderAtF 165 5 B b (.pointer (some ⟨b,0,none⟩)) (bs++Lib.runeCells r) w'∧Below B w w'∧Lib.OthersKept 5 (some b) w w'):=Any.Builder_WriteRune_k Tryz.lays168 Tryz.Builder_Extra_168 B b bs r hr0 hr1 w h hlen hBw
end Go.Proofs
end
section
namespace Go.Abs
open Go Go.Sort Go.RowKit
theorem Qy7 (xs:List Int):rowV (eI .i64) xs=xs.map (Value.int .i64):=by
 unfold rowV
 induction xs with
 | nil=>rfl
 | cons x xs ih=>simp only [List.map_cons,List.flatten_cons,List.map_append,ih];rfl
theorem Q9n {P:Program} {c:Nat} (hb:Qgw P c=true)
  (hs:∀ (blk off cap:Nat) (zs:List Int) (w:World),Holds (Value.int .i64) w blk off zs.toArray→blk<w.heap.size→zs.length<4611686018427387904 →
   Calls P c #[.slice (some ⟨blk,off,none⟩) zs.length cap] w fun e w'=>e = .returned (.tuple #[])∧∃ n os,w'=grow (putRow (Value.int .i64) (Sort.ahead w n) blk off (zs.mergeSort fun x y=>decide (x≤y)).toArray) os)
  (hnone:∀ (p:Option Addr) (cap:Nat) (w:World),Calls P c (#[.slice p 0 cap] ++ #[]) w fun e' w'=>e' = .returned (.tuple #[])∧w'=w) :
  RowK P c (eI .i64) 1 [] (fun l=>if l.length≤lim then some (Qly Qfh l) else none):=by
 have hrow:Qbel P c (eI .i64) #[] (fun xs=>Qly Qfh xs):=by
  intro blk cap xs w hcell hblk hsz;refine Calls.mono (hs blk 0 cap xs w ?_ hblk hsz) ?_
  ·intro j hj;have hj' : j<xs.length:=by simpa using hj
   have:=hcell j (by rw [Qy7];simpa using hj');rw [Qy7] at this;rw [Nat.zero_add];refine ⟨?_,this.2⟩;rw [this.1,getElem!_pos xs.toArray j hj];simp [hj']
  ·rintro e w' ⟨rfl,n,os,rfl⟩;refine ⟨rfl,n,os,?_⟩;rw [Qy6,Qy7];congr 1;unfold putRow;congr 1;funext c;unfold putCells;congr 1;funext k x;simp only [List.size_toArray,List.length_map];split
   ·rename_i h;simp only [id];rw [getElem!_pos _ _ (by simp;omega),getElem!_pos _ _ (by simp;omega)];simp
   ·rfl
 intro xs ys h;dsimp only at h;split at h<;>cases h;rename_i hl;refine ⟨Qjz _ _,fun h0=>?_,fun hl2 cap k0 M nb hM=>?_⟩
 ·subst h0;exact ⟨rfl,fun M nb=>Q4w (ex:=#[]) (exV:=[]) hb (fun _ _ _ h=>h) hnone⟩
 ·exact Q7a (e:=eI .i64) (fun _=>rfl) (fun _=>rfl) (fun xs=>Qjz _ _) (ex:=#[]) (exV:=[]) (fun _ _ _ h=>h) hb hrow xs cap k0 M nb hM (by unfold lim at hl;omega)
end Go.Abs
end
section
namespace Go.Proofs
open Go.Shelf Go.RowKit Go.Lib Go.Sort Go.Abs
theorem Tryz.rowK94:Go.Abs.RowK Tryz.prog 94 (eI .i64) 1 [] Qbdi :=
 Q9n (by kernel_rfl) Tryz.slices_Sort_int Tryz.slices_Sort_int_none
end Go.Proofs
end
section
namespace Go.Proofs
open Go.RowKit Go.Maps Go.Sort Go.Shelf
attribute [local go_sem] Oper.semAt_some
def Tryz.upto {α:Type} (f:Nat→α) (k:Nat):List α:=(List.range k).map f
theorem Tryz.upto_succ {α:Type} (f:Nat→α) (k:Nat):Tryz.upto f (k+1)=Tryz.upto f k++[f k]:=by simp [Tryz.upto,List.range_succ]
theorem Tryz.upto_length {α:Type} (f:Nat→α) (k:Nat):(Tryz.upto f k).length=k:=by simp [Tryz.upto]
theorem Tryz.upto_all (zs:List Int):Tryz.upto (fun j=>zs[j]?.getD 0) zs.length=zs:=by
 apply List.ext_getElem
 ·simp [Tryz.upto]
 ·intro i h1 h2;simp [Tryz.upto,h2]
theorem Tryz.upto_take (zs:List Int) {k:Nat} (hk:k≤zs.length):Tryz.upto (fun j=>zs[j]?.getD 0) k=zs.take k:=by
 apply List.ext_getElem
 ·simp [Tryz.upto,hk]
 ·intro i h1 h2;have:i<zs.length:=by simp [Tryz.upto] at h1;omega
  simp [Tryz.upto,this]
set_option maxRecDepth 100000 in
set_option maxHeartbeats 2000000 in
theorem Tryz.values1_in (F:Fence) (n:Nat) (h7:F.fn 97) (hro:F.round=none) (hn:1≤n) (l Bs n₀ b off len cap:Nat) (zs:List Int) (hreach:len*8≤140737488351232) (hb:b<n₀) (J Jx:List Int→World→Prop)
  (hY:∀ pre x W,J pre W→pre.length<len→YieldAt F (n-1) Tryz.prog l #[.int .i64 x] W fun e W' =>
   (e = .returned (.bool true)∧J (pre++[x]) W'∧Below n₀ W W')∨(e = .returned (.bool false)∧Jx (pre++[x]) W'))
  (W:World) (hBs:W.cell? ⟨Bs,0,none⟩=some (.slice (some ⟨b,off,none⟩) len cap)) (hc:∀ j,j<len→W.cell? ⟨b,off+j,none⟩=some (.int .i64 (zs[j]?.getD 0))) (h0:J [] W) :
  CallsIn F n Tryz.prog 97 #[.func (.yield l) #[] #[],.pointer (some ⟨Bs,0,none⟩)] W fun e W'=>(∃ v,e = .returned v) ∧
   ((∃ ys,ys=Tryz.upto (fun j=>zs[j]?.getD 0) len∧J ys W')∨(∃ pre,(∃ k,k≤len∧pre=Tryz.upto (fun j=>zs[j]?.getD 0) k)∧Jx pre W')):=by
 refine callsIn_of_wp Tryz.func97 rfl h7 ?_ hro;simp only [Tryz.ntmps97,List.size_toArray,List.length_cons,List.length_nil,Nat.reduceAdd,Nat.reduceSub,Array.replicate_succ,Array.replicate_zero,List.push_toArray,List.append_toArray,List.nil_append,List.cons_append]
 gi_wp2
 gi_loopw [7] (fun i wr=>∃ k:Nat,k≤len∧i = .int .i64 k∧J (Tryz.upto (fun j=>zs[j]?.getD 0) k) wr∧Below n₀ W wr)
  (fun i _=>len-(intOf i).toNat)
 case atStart=>exact ⟨0,Nat.zero_le _,rfl,h0,Below.refl _ _⟩
 case round =>
  obtain ⟨k,hk,rfl,hJs,hnx⟩:=hrel;have hcx:k<len→wr.cell? ⟨b,off+k,none⟩=some (.int .i64 (zs[k]?.getD 0)):=fun h=>(hnx.cell (p:=⟨b,off+k,none⟩) hb).trans (hc k h);by_cases hlt:k<len
  ·obtain ⟨fn,tmps,assign,body,hy,hR⟩:=hY _ (zs[k]?.getD 0) wr hJs (by rw [Tryz.upto_length];exact hlt);have hcx':=hcx hlt
   gi_wp2
   refine hR.mono ?_;rintro e W3 (⟨rfl,hJ3,hk3⟩|⟨rfl,hJx3⟩)
   ·gi_wp2
    go_roundw
    case rel=>exact ⟨k+1,by omega,by simp,by rw [Tryz.upto_succ];exact hJ3,hnx.trans hk3⟩
    case measure=>simp [intOf];omega
   ·gi_wp2
    refine bodyPost_ret (results_none rfl _ _ _) rfl ?_;exact ⟨⟨_,rfl⟩,.inr ⟨_,⟨k+1,by omega,(Tryz.upto_succ _ _).symm⟩,hJx3⟩⟩
  ·obtain rfl:k=len:=by omega
   gi_wp2
   go_end0
   exact ⟨⟨_,rfl⟩,.inl ⟨_,rfl,hJs⟩⟩
set_option maxRecDepth 100000 in
set_option maxHeartbeats 1000000 in
theorem Tryz.values1_nil_in (F:Fence) (n:Nat) (h7:F.fn 97) (hro:F.round=none) (l Bs:Nat) (a:Option Addr) (cap:Nat) (J:List Int→World→Prop) (W:World) (hBs:W.cell? ⟨Bs,0,none⟩=some (.slice a 0 cap)) (h0:J [] W) :
  CallsIn F n Tryz.prog 97 #[.func (.yield l) #[] #[],.pointer (some ⟨Bs,0,none⟩)] W fun e W'=>(∃ v,e = .returned v)∧J [] W':=by
 refine callsIn_of_wp Tryz.func97 rfl h7 ?_ hro;simp only [Tryz.ntmps97,List.size_toArray,List.length_cons,List.length_nil,Nat.reduceAdd,Nat.reduceSub,Array.replicate_succ,Array.replicate_zero,List.push_toArray,List.append_toArray,List.nil_append,List.cons_append]
 gi_wp2
 gi_loopw [7] (fun i wr=>i = .int .i64 0∧J [] wr) (fun _ _=>0)
 case atStart=>exact ⟨rfl,h0⟩
 case round =>
  obtain ⟨rfl,hJs⟩:=hrel
  gi_wp2
  go_end0
  exact ⟨⟨_,rfl⟩,hJs⟩
theorem Tryz.values_stops (F:Fence) (n:Nat) (h7:F.fn 97) (hro:F.round=none) (hn:1≤n) (Bs n₀:Nat) (sv:Value) (zs:List Int) (hreach:zs.length*8≤140737488351232) (w:World) (hBs:Bs<w.heap.size) (hn₀:n₀≤w.heap.size)
  (hc:w.cell? ⟨Bs,0,none⟩=some sv) (hI:Go.Abs.Ints n₀ w sv zs) :
  SeqStopsK F n Tryz.prog 97 #[.pointer (some ⟨Bs,0,none⟩)] (fun x:Int=>#[Value.int .i64 x]) (Below n₀) (fun ys=>ys=zs) (fun pre=>pre <+: zs) zs.length w:=fun l J Jx W hW _ _ hY h0=>by
 have hc':=(hW.cell (p:=⟨Bs,0,none⟩) hBs).trans hc;rcases hI.below (hW.mono hn₀) with ⟨a,cap,rfl,rfl⟩|⟨b,off,cap,rfl,hb,hcs⟩
 ·exact (Tryz.values1_nil_in F n h7 hro l Bs a cap J W hc' h0).mono fun e W' ⟨he,hj⟩=>⟨he,.inl ⟨_,rfl,hj⟩⟩
 ·refine (Tryz.values1_in F n h7 hro hn l Bs n₀ b off zs.length cap zs hreach hb J Jx hY W hc' hcs h0).mono ?_;rintro e W' ⟨he,⟨ys,rfl,hj⟩|⟨pre,⟨k,hk,rfl⟩,hj⟩⟩
  ·exact ⟨he,.inl ⟨_,Tryz.upto_all zs,hj⟩⟩
  ·exact ⟨he,.inr ⟨_,by rw [Tryz.upto_take zs hk];exact List.take_prefix _ _,hj⟩⟩
theorem Tryz.info3:(Tryz.prog.info? 3).map (fun i=>(i.zero,i.size,i.bytes))=some (some (.int .i64 0),1,8):=by kernel_rfl
set_option maxRecDepth 100000 in
set_option maxHeartbeats 2000000 in
theorem Tryz.appendSeq_in (F:Fence) (n:Nat) (h132:F.fn 132) (h97:F.fn 97) (hro:F.round=none) (hn:3≤n) (Bs:Nat) (sv:Value) (zs:List Int) (hlen:zs.length*8≤140737488351232) (w:World) (hBs:Bs<w.heap.size) (hc0:w.cell? ⟨Bs,0,none⟩=some sv) (hI:Go.Abs.Ints w.heap.size w sv zs) :
  CallsIn F n Tryz.prog 132 #[.slice none 0 0,.func (.func 97) #[] #[.pointer (some ⟨Bs,0,none⟩)]] w fun e W'=>∃ v,e = .returned v∧W'.ownsRow w.heap.size 3 1 v zs.length (zs.map (Value.int .i64))∧(v = .slice none 0 0↔zs=[])∧Below w.heap.size w W':=by
 have h1:1≤n:=by omega
 obtain ⟨i0,hi,hz0,hz1,hz2⟩:=info_parts Tryz.info3;refine callsIn_of_wp_marks Tryz.func132 rfl h132 ?_ hro;simp only [Tryz.ntmps132,List.size_toArray,List.length_cons,List.length_nil,Nat.reduceAdd,Nat.reduceSub,Array.replicate_succ,Array.replicate_zero,List.push_toArray,List.append_toArray,List.nil_append,List.cons_append]
 gi_wp2
 have bO:=Boxed.new w 32 (.slice none 0 0);have hB0:Below w.heap.size w (w.alloc (.cells #[.slice none 0 0] 32)):=(Below.refl _ w).alloc (Nat.le_refl _) _;refine wpIn_rangeFunc_ownG hro h1 (gf:=97) (lb:=#[.pointer (some ⟨Bs,0,none⟩)]) rfl h97 (enters_of Tryz.func97 (by kernel_rfl) rfl)
  (Tryz.values_stops F (n-1) h97 hro (by omega) Bs w.heap.size sv zs hlen _ (by simp;omega) (by simp) ((hB0.cell (p:=⟨Bs,0,none⟩) hBs).trans hc0) (hI.below hB0)) belowK_t (belowK_b (by simp)) (Below.refl _ _) (fun _=>rfl)
  (fun pre W=>(∃ v,Boxed W w.heap.size 32 v∧W.ownsRow w.heap.size 3 1 v pre.length (pre.map (Value.int .i64))∧(v = .slice none 0 0↔pre=[]))∧Below w.heap.size w W)
  (fun _ _ _=>False)
  (OwnFrom.and (Own.from (holdsRow_own w.heap.size w.heap.size 32 3 1 (fun pre=>pre.length) (fun pre=>pre.map (Value.int .i64)) (fun pre v=>v = .slice none 0 0↔pre=[])) _) (ownFrom_below (Nat.le_refl _) (by simp)))
  (fun _ _ _ _ _ hs _ _=>hs)
  ⟨⟨_,bO,World.ownsRow_nil _ _ _ _,by simp⟩,hB0⟩
  (fun x=>{ tmps:=#[.slice none 0 0,.func (.func 97) #[] #[.pointer (some ⟨Bs,0,none⟩)],.pointer (some ⟨w.heap.size,0,none⟩),undef,.slice none 0 0,.int .i64 x,.func (.func 97) #[] #[.pointer (some ⟨Bs,0,none⟩)],.int .i64 x,undef,undef,undef,undef,undef],defers:=[] }) ?assign ?body ?done ?stop
 case assign =>
  intro l x W K hK
  gi_wp2
  exact hK
 case body =>
  rintro l pre x W ⟨⟨v,hv,hrow,hnil⟩,hB⟩ hlt;have hc:=hv.cell
  gi_wp2_with (gi_at_builtin;refine wpListIn_append_own _ rfl _ _ 32 rfl w.heap.size 3 i0 (.int .i64 0) 1 8 Tryz.underlying32 hi hz0 hz1 hz2 rfl (by decide) _ _ _ rfl (hrow.alloc _) ⟨W.heap.size,0,none⟩ 1 1 [.int .i64 x] rfl rfl (cell_one_new _ _ _) (by simp [Value.oneCell']) (by have:maxLen=9223372036854775807:=rfl;omega) (by omega) (by have:=hB.size;simp;omega) ?_;intro v' w1 hown' hgrow _;obtain ⟨g',cap',rfl⟩:=ownsRow_succ hown';obtain ⟨hv1,hv2,hr2,hk2,hb2⟩:=hv.appended (by decide) hrow hB.size (Nat.le_refl _) hown' hgrow;have hc1:=hv1.cell;have hf1:=hv1.frozen)
  exact ⟨hk2.from _,hb2,⟨_,hv2,by simpa using hr2,by simp⟩,hB.trans hb2⟩
 case done =>
  rintro D ys W hD rfl ⟨⟨v,hv,hrow,hnil⟩,hB⟩ hK;have hc:=hv.cell
  gi_wp2
  refine ⟨by simp,.inl ⟨_,_,rfl,run_takeDeferred hK,?_⟩⟩;exact ⟨_,results_tmp rfl _ _ _,v,rfl,ownsRow_putObj hrow _ hK rfl,hnil,hB.trans (belowK_b (w:=w) (Nat.le_refl _) W D _ _ (by simp at hD;omega) hK rfl rfl)⟩
 case stop =>
  rintro D c pre W _ _ h _;exact h.elim
set_option maxHeartbeats 1000000 in
theorem Tryz.collect_in (F:Fence) (n:Nat) (h96:F.fn 96) (h132:F.fn 132) (h97:F.fn 97) (hro:F.round=none) (hn:4≤n) (Bs:Nat) (sv:Value) (zs:List Int) (hlen:zs.length*8≤140737488351232) (w:World) (hBs:Bs<w.heap.size) (hc0:w.cell? ⟨Bs,0,none⟩=some sv) (hI:Go.Abs.Ints w.heap.size w sv zs) :
  CallsIn F n Tryz.prog 96 #[.func (.func 97) #[] #[.pointer (some ⟨Bs,0,none⟩)]] w fun e W'=>∃ v,e = .returned v∧W'.ownsRow w.heap.size 3 1 v zs.length (zs.map (Value.int .i64))∧(v = .slice none 0 0↔zs=[])∧Below w.heap.size w W':=by
 have h1:1≤n:=by omega
 refine callsIn_of_wp Tryz.func96 rfl h96 ?_ hro;simp only [Tryz.ntmps96,List.size_toArray,List.length_cons,List.length_nil,Nat.reduceAdd,Nat.reduceSub,Array.replicate_succ,Array.replicate_zero,List.push_toArray,List.append_toArray,List.nil_append,List.cons_append]
 gi_wp2_with (gi_at_call 132;refine (Tryz.appendSeq_in F (n-1) h132 h97 hro (by omega) Bs sv zs hlen _ hBs hc0 hI).mono ?_;rintro e w' ⟨v,rfl,hrow,hnil,hb⟩)
 go_ret
 exact ⟨v,rfl,hrow,hnil,hb⟩
set_option maxRecDepth 100000 in
set_option maxHeartbeats 2000000 in
theorem Tryz.sorted_in (F:Fence) (n:Nat) (h58:F.fn 58) (h96:F.fn 96) (h132:F.fn 132) (h97:F.fn 97) (h94:F.fn 94) (hro:F.round=none) (hn:5≤n)
  (hs1:∀ (blk off cap:Nat) (ss:List Int) (W:World),Holds encZ W blk off ss.toArray→blk<W.heap.size→ss.length<4611686018427387904 →
   CallsIn F (n-1) Tryz.prog 94 #[.slice (some ⟨blk,off,none⟩) ss.length cap] W fun e w'=>e = .returned (.tuple #[])∧∃ k os,w'=grow (putRow encZ (Sort.ahead W k) blk off (ss.mergeSort fun x y=>decide (x≤y)).toArray) os)
  (hs2:∀ (p:Option Addr) (cap:Nat) (W:World),CallsIn F (n-1) Tryz.prog 94 #[.slice p 0 cap] W fun e w'=>e = .returned (.tuple #[])∧w'=W)
  (Bs:Nat) (sv:Value) (zs:List Int) (hlen:zs.length*8≤140737488351232) (w:World) (hBs:Bs<w.heap.size) (hc0:w.cell? ⟨Bs,0,none⟩=some sv) (hI:Go.Abs.Ints w.heap.size w sv zs) :
  CallsIn F n Tryz.prog 58 #[.func (.func 97) #[] #[.pointer (some ⟨Bs,0,none⟩)]] w fun e W'=>∃ v,e = .returned v∧W'.ownsRow w.heap.size 3 1 v zs.length ((zs.mergeSort fun x y=>decide (x≤y)).map encZ)∧Below w.heap.size w W':=by
 have h1:1≤n:=by omega
 refine callsIn_of_wp Tryz.func58 rfl h58 ?_ hro;simp only [Tryz.ntmps58,List.size_toArray,List.length_cons,List.length_nil,Nat.reduceAdd,Nat.reduceSub,Array.replicate_succ,Array.replicate_zero,List.push_toArray,List.append_toArray,List.nil_append,List.cons_append]
 gi_wp2_with (gi_at_call 96;refine (Tryz.collect_in F (n-1) h96 h132 h97 hro (by omega) Bs sv zs hlen _ hBs hc0 hI).mono ?_;rintro e W ⟨v,rfl,hrow,hnil,hb⟩)
 rcases hrow.2 with ⟨rfl,hz⟩|⟨gb,cap,cur,rfl,hbase,hgb,r1,r2,r3,r4⟩
 ·have hss:zs=[]:=List.eq_nil_of_length_eq_zero hz;subst hss
  gi_wp2_with (gi_at_call 94;refine (hs2 none 0 W).mono ?_;rintro e w' ⟨rfl,rfl⟩)
  go_ret
  exact ⟨_,rfl,by simpa using hrow,hb⟩
 ·have hH:Holds encZ W gb 0 zs.toArray:=holds_of_block_i hgb (by simpa using r4);have hgl:gb<W.heap.size:=(Array.getElem?_eq_some_iff.1 hgb).1;have cS:=hs1 gb 0 cap zs W hH hgl (by omega)
  gi_wp2_with (gi_at_call 94;refine cS.mono ?_;rintro e w' ⟨rfl,nn,os,rfl⟩)
  go_ret
  exact ⟨_,rfl,ownsRow_sorted_i (by simp) hbase hgb r1 r2 r3,hb.grown (grownBy_sorted_i _) hb.size (fun j hj=>by cases hj;exact hbase)⟩
theorem Tryz.sorted58 (Bs:Nat) (sv:Value) (zs:List Int) (hlen:zs.length*8≤140737488351232) (w:World) (hBs:Bs<w.heap.size) (hc0:w.cell? ⟨Bs,0,none⟩=some sv) (hI:Go.Abs.Ints w.heap.size w sv zs) :
  Calls Tryz.prog 58 #[.func (.func 97) #[] #[.pointer (some ⟨Bs,0,none⟩)]] w fun e W'=>∃ v,e = .returned v∧W'.ownsRow w.heap.size 3 1 v zs.length ((zs.mergeSort fun x y=>decide (x≤y)).map encZ)∧Below w.heap.size w W' :=
 (callsIn_wide (n:=5)).1 (Tryz.sorted_in Fence.wide 5 trivial trivial trivial trivial trivial rfl (by omega) (fun blk off cap ss W hH hblk hsz=>callsIn_wide.2 (Tryz.slices_Sort_int blk off cap ss W hH hblk hsz)) (fun p cap W=>callsIn_wide.2 (Tryz.slices_Sort_int_none p cap W)) Bs sv zs hlen w hBs hc0 hI)
end Go.Proofs
end
section
namespace Go.Proofs
open Go.Abs
theorem Tryz.valuesK:Qba5 Tryz.prog 59 97 1 4:=Qba9 (by kernel_rfl)
theorem Tryz.overK:Qbdg Tryz.prog 58 97 (eI .i64) 1 Qba8 :=
 Qbba (by kernel_rfl) fun Bs sv zs w h1 h2 h3 h4=>Tryz.sorted58 Bs sv zs h1 w h2 h3 h4
end Go.Proofs
end
section
namespace Go.Abs
open Go Go.RowKit
theorem Q10 {P:Program} {f:FuncId} {args:List V} {x:D} (hx:x.scalar=true) (hb:Qgw P f=true)
  (h:∀ (w:World) (g:G) (us:List Value),(∀ b o,g.imm b o→b<w.heap.size)→RFs g w args us→Calls P f us.toArray w fun e w'=>e = .returned x.val∧Below w.heap.size w w') (M:Mem) (nb:Nat) (hfl0:V.dems args=args:=by rfl):ACalls P f args M nb (.d x) M nb:=by
 refine ACalls.mk' hb (Nat.le_refl _) hfl0 fun w g us hm hMon hus hfl hons=>?_;refine Calls.mono (h w g us (fun b o hi=>(hm.imm b o hi).1) hus) ?_;rintro e w' ⟨rfl,hbw⟩;have hI:Imm g.imm g.imm w w':=⟨fun _ _ h=>h,fun b o hi=>Qdv (hbw.block b (hm.imm b o hi).1)⟩;have hk:Kept g w g w' (There M) (fun _=>True):=⟨hI,fun _ _=>rfl,fun b _ hlt=>⟨rfl,hbw.block b hlt,fun _=>Iff.rfl⟩⟩;refine ⟨_,g,rfl,hm.kept hk hMon (fun _ _ _=>trivial) trivial (fun _ _=>trivial) (fun b o hi=>?_),?_,trivial,hMon,?_⟩
 ·obtain ⟨h1,h2⟩:=hm.imm b o hi;exact ⟨Nat.lt_of_lt_of_le h1 hbw.size,h2⟩
 ·simp only [RV];exact (Q9h hx).2 rfl
 ·exact ⟨hbw.os,hbw.tape,hbw.output,hbw.size,hI,fun _ _=>rfl,fun b hb _=>⟨rfl,hbw.block b hb,fun _=>Iff.rfl⟩⟩
theorem Qbdl {g:G} {w:World} {l:List Int} {k:IntKind} {u:Value} (h:RF g w (.d (.lst 1 (l.map (fun n=>[.int k n])))) u) :
  ∃ a cap,u = .slice a l.length cap∧l.length≤cap∧(l=[]∨∃ b o,a=some ⟨b,o,none⟩∧∀ (i:Nat) n,l[i]? = some n→g.imm b (o+i)∧w.cell? ⟨b,o+i,none⟩=some (.int k n)):=by
 have h:=RF_d.1 h;simp only [RD,List.length_map] at h;obtain ⟨a,cap,rfl,hc,hl⟩:=h;refine ⟨a,cap,rfl,hc,?_⟩;rcases hl with hl|⟨b,o,rfl,hl⟩
 ·exact .inl (by simpa using hl)
 ·refine .inr ⟨b,o,rfl,fun i n hi=>?_⟩;have:=(Qtu hl i [.int k n] (by simp [hi])).2;simp only [RDc,Nat.mul_one,RD] at this;obtain ⟨h1,⟨u,h2,rfl⟩,_⟩:=this;exact ⟨h1,h2⟩
end Go.Abs
end
section
namespace Go.Proofs
open Go.RowKit Go.Abs
def keyL (l:List Int):List UInt8:=l.flatMap fun x=>Lib.encodeRune (x+1)
theorem Q9o:∀ l:List Int,(keyL l).length≤4*l.length
 | []=>by simp [keyL]
 | x::l=>by
  have h:=Lib.runeCells_le (x+1);rw [Lib.runeCells_length] at h;have ih:=Q9o l;simp only [keyL,List.flatMap_cons,List.length_append,List.length_cons] at *
  omega
set_option maxHeartbeats 4000000 in
set_option maxRecDepth 1000000 in
theorem Tryz.key_walk (l:List Int) (hl:l.length≤lim) (hx:∀ x∈l,0≤x∧x<50000) (a:Option Addr) (cap:Nat) (w:World)
  (hc:∀ (i:Nat) n,l[i]? = some n→∃ b o,a=some ⟨b,o,none⟩∧b<w.heap.size∧w.cell? ⟨b,o+i,none⟩=some (.int .i64 n)) :
  Calls Tryz.prog 70 #[.slice a l.length cap] w fun e w'=>e = .returned (.string (keyB l))∧Below w.heap.size w w':=by
 have hlim:l.length≤1099511627776:=hl
 go_enter Tryz.func70,Tryz.ntmps70
 go_wp2
 go_loopw [8] (fun vi wr=>∃ (k:Nat),vi = .int .i64 k∧k≤l.length∧Lib.IsBuilderF 165 5 w.heap.size w.heap.size (Lib.byteCells (keyL (l.take k))) wr∧Below w.heap.size w wr) (fun vi _=>l.length-(intOf vi).toNat)
 case atStart =>
  refine ⟨0,rfl,by omega,?_,((Below.refl _ w).alloc (Nat.le_refl _) _)⟩;exact Lib.IsBuilderF.of (Lib.fresh_isBuilder 165 5 w)
 case round =>
  obtain ⟨k,rfl,hk,hI,hbw⟩:=hrel;by_cases hlt:k<l.length
  ·obtain ⟨b,o,rfl,hb,hcell⟩:=hc k l[k] (List.getElem?_eq_getElem hlt);have hcr:wr.cell? ⟨b,o+k,none⟩=some (.int .i64 l[k]):=by
    rw [← hcell];simp only [World.cell?];rw [hbw.block b hb]
   have hxk:=hx l[k] (List.getElem_mem hlt);have w1:IntKind.i64.wrap (l[k]+1)=l[k]+1:=by simp [IntKind.wrap,IntKind.bits,IntKind.signed];omega
   have w2:IntKind.i32.wrap (l[k]+1)=l[k]+1:=by simp [IntKind.wrap,IntKind.bits,IntKind.signed];omega
   have hsz:w.heap.size≤wr.heap.size:=hbw.size;have hkl:=Q9o (l.take k);rw [List.length_take] at hkl
   go_wp2_with (go_at_call 103;refine (Tryz.Builder_WriteRune_k w.heap.size w.heap.size _ (l[k]+1) (by omega) (by omega) _ hI (by rw [Lib.byteCells_length];omega) hsz).mono ?_)
   rintro e W1 ⟨rfl,h1,b1,k1⟩
   go_wp2
   go_roundw
   case rel =>
    refine ⟨k+1,by simp,by omega,?_,hbw.trans b1⟩;have e1:keyL (l.take (k+1))=keyL (l.take k)++Lib.encodeRune (l[k]+1):=by
     rw [List.take_succ_eq_append_getElem hlt];simp only [keyL,List.flatMap_append,List.flatMap_cons,List.flatMap_nil,List.append_nil]
    rw [e1,Lib.byteCells_append,Lib.byteCells_encodeRune];exact Or.inr h1
   case measure =>
    simp [intOf];omega
  ·have hk2:k=l.length:=by omega
   subst hk2
   go_wp2_with (go_at_call 104;refine (Tryz.Builder_String_any_k w.heap.size w.heap.size _ _ hI hbw.size).mono ?_)
   rintro e W1 ⟨rfl,_,b1,_⟩
   go_wp2
   go_ret
   exact ⟨rfl,hbw.trans b1⟩
theorem Tryz.keyK:Go.Abs.K_projection_key Tryz.prog 70 keyS:=by
 intro l r h;unfold keyS at h;split at h<;>cases h;rename_i hc;intro M nb;refine Q10 rfl (by kernel_rfl) (fun w g us himm hus=>?_) M nb;obtain ⟨u,us',rfl,hu,hus'⟩:=hus;simp only [RFs] at hus';subst hus';obtain ⟨a,cap,rfl,hcap,hl⟩:=Qbdl hu;refine Tryz.key_walk l hc.1 hc.2 a cap w fun i n hi=>?_;rcases hl with rfl|⟨b,o,rfl,hl⟩
 ·simp at hi
 ·exact ⟨b,o,rfl,himm _ _ (hl i n hi).1,(hl i n hi).2⟩
end Go.Proofs
end
section
namespace Go.Proofs
open Go.Shelf Go.RowKit Go.Lib Go.Sort Go.Abs
set_option maxRecDepth 100000
set_option maxHeartbeats 4000000
theorem Qbfm (W:World):W.drew.heap=W.heap:=rfl
theorem Qf9 (W:World) (o:Obj) (n:Nat) (h:n=W.heap.size):(W.alloc o).heap[n]? = some o:=by subst h;exact heap_alloc_new _ _
theorem Qbq (W:World) (o:Obj) (n:Nat) (h:n<W.heap.size):(W.alloc o).heap[n]? = W.heap[n]?:=Lib.alloc_old _ _ _ h
theorem Tryz.graph_walk (al mk:Option Addr) (ca cm be oe ce:Nat) (w:World) (h0:w.cell? ⟨be,oe,none⟩=some (.int .i64 0)) (h1:w.cell? ⟨be,oe+1,none⟩=some (.int .i64 0)) (h2:w.cell? ⟨be,oe+2,none⟩=some (.int .i64 0)) (hb:be<w.heap.size) :
  Calls Tryz.prog 91 #[.agg #[.slice al 2 ca,.int .i64 2,.slice mk 0 cm,.slice (some ⟨be,oe,none⟩) 1 ce]] w fun e w'=>∃ B,e = .returned (.agg #[.slice al 2 ca,.int .i64 2,.slice mk 0 cm,.slice (some ⟨be,oe,none⟩) 1 ce,.slice (some ⟨B,0,none⟩) 3 3]) ∧
   w.heap.size≤B∧w'.heap[B]? = some (.cells #[.int .i64 0,.int .i64 1,.int .i64 1] 3 (0,0))∧Below w.heap.size w w':=by
 have hmk:∀ w,(Instr.makeSlice 32 (.int .i64 3) (.int .i64 3)).run Tryz.prog w = .ok (.slice (some ⟨w.heap.size,0,none⟩) 3 3) (w.alloc (.cells #[.int .i64 0,.int .i64 0,.int .i64 0] 3)):=fun _=>by kernel_rfl
 have hb1:be<w.heap.size+1:=by omega
 have hb2:be<w.heap.size+1+1:=by omega
 have hb3:be<w.heap.size+1+1+1:=by omega
 have hb4:be<w.heap.size+1+1+1+1:=by omega
 have hn0:be≠w.heap.size:=by omega
 have hn1:be≠w.heap.size+1:=by omega
 have hn2:be≠w.heap.size+1+1:=by omega
 have hn3:be≠w.heap.size+1+1+1:=by omega
 have hn4:be≠w.heap.size+1+1+1+1:=by omega
 go_enter Tryz.func91,Tryz.ntmps91
 go_wp2
 go_region
 all_goals
  go_wp2
  refine wp_loop_rounds 2 ?_;rw [rounds_succ]
  go_wp2
  rw [rounds_succ]
  go_wp2
  refine wp_loop_rounds 3 ?_;rw [rounds_succ]
  go_wp2
  go_region
  go_wp2
  rw [rounds_succ]
  go_wp2
  go_region
  go_wp2
  rw [rounds_succ]
  go_wp2
  (try simp only [Exit.inBlock,Exit.then])
  refine bodyPost_ret (by simp [results,show Tryz.f91.results = #[.cell 2 151] from rfl,loadVar,asAddr,Tryz.isAgg151,Tryz.sizeOf151,go_sem];rfl) rfl ?_;refine ⟨_,rfl,by omega,?_,?_⟩
  ·simp only [Qbfm]
   repeat (first|exact Qf9 _ _ _ (by simp)|rw [Qbq _ _ _ (by simp;try omega)])
  ·first|exact ((((((((Below.refl _ w).alloc (Nat.le_refl _) _).alloc (by simp) _).alloc (by simp;omega) _).alloc (by simp;omega) _).alloc (by simp;omega) _).drew.drew.drew))|trace_state
end Go.Proofs
end
