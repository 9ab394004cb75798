/-
  Part 9 of the proof: see the last text.
-/
import Derived.Test.YtjngkimolkhdmaaGreatP8
import Derived.Test.YtjngkimolkhdmaaGreatProg
import Derived.KernelRfl
import Derived.Sort.Statements
import Derived.Shelf.SlSortCmp.NoneTotal
import Derived.Lib.RuneBytes
import Derived.Shelf.SortM.Plain
import Derived.Shelf.SortM.SortNone
import Derived.Shelf.Small.Bits
import Derived.Shelf.Strings.BuilderK
import Derived.Shelf.Strings.BuilderRune
import Derived.Shelf.SlGeneric
import Derived.Shelf.Strconv.Itoa0
import Derived.Shelf.Strings.Builder1
import Derived.Shelf.Sort.Plain
import Derived.Shelf.SlSortCmp.Whole1
import Derived.Shelf.Slices.In.SortNone
import Derived.Ground.SlsfProg
import Derived.Ground.Names2Prog
import Derived.WalkKit
set_option linter.unusedVariables false
set_option linter.unusedSimpArgs false
set_option linter.unusedSectionVars false
section
namespace Go.Abs
open Go
set_option maxRecDepth 10000
set_option maxHeartbeats 4000000
theorem Qvm {P:Program} {c:Nat} {Q6:_} {Qd3:_} {Qt:_} {Qbi:_}
    (Hau:Qgh P 18 Q6)
    (Hcf:Qj4 P 20 Qd3)
    (Hbi:Qeb P 54 Qt)
    (Hbh:Qg8 P 55 Qbi) (hcf:Qr P c=some Qrb) (fuel:Nat):Ql1 P c (Qe9 Q6 Qd3 Qt Qbi fuel):=by
 intro ev1 a2 r h;refine Qcj hcf rfl fun Γ M hP hnt hM=>?_;subst hP;refine ini ?_;refine Z 10 0 ?_;refine cl (Hau _ _) h (cq fun ⟨_,_,_⟩ h=>?_);refine Z 15 0 ?_;refine cd h rfl (fun h=>Y) (fun h=>?_);refine Z 5 0 ?_;refine cl (Hbi _) h (cq fun _ h=>?_);refine cl (Hcf _ _) h (cq fun ⟨r11,_,_⟩ h=>?_);refine Z 15 0 ?_;refine cd h rfl (fun h=>Y) (fun h=>?_);refine Z 8 0 ?_;refine cw h [4,11] [3,6,9] (fun _ e=>e) (fun (c29,c30,c31,c32,d33) l=>(4,.cells ([(o_ c29),(i_ 0),(o_ c30),(Qv c31),.own 1 (List.map (eL 2 Q0) c32)]))::(11,.cells ([(l_ r11.zD),(i_ r11.zH),(l_ r11.zF),(Qg r11.zG),.own 1 (List.map (eL 2 Q0) d33)]))::l) ke (fun _ h=>?_) (fun ⟨c29,c30,c31,c32,d33⟩ h=>Y);refine Z 7 0 ?_;refine lw h [4,7,11,39,40] [3,6,9] (fun (x15,c16,c17,c18,c19,d20) e=>(41,(i_ x15))::e) (fun (x15,c16,c17,c18,c19,d20) l=>(4,.cells ([(o_ c16),(i_ 0),(o_ c17),(Qv c18),.own 1 (List.map (eL 2 Q0) c19)]))::(11,.cells ([(l_ r11.zD),(i_ r11.zH),(l_ r11.zF),(Qg r11.zG),.own 1 (List.map (eL 2 Q0) d20)]))::l) ke wk (fun _ ⟨x15,c16,c17,c18,c19,d20⟩ h=>?_);refine Z 5 0 ?_;refine ci h rfl (fun h=>?_) (fun h=>Y);refine Z 14 1 ?_;intro _ h;refine cl (Hbh _ _) h (cq fun _ h=>?_);exact Y
theorem Qvn {P:Program} {c:Nat} (hcf:Qr P c=some Qrc):Qh0 P c (Qbm):=by
 intro cv1 r h;refine Qcj hcf rfl fun Γ M hP hnt hM=>?_;subst hP;refine ini ?_;refine Z 9 0 ?_;exact bi h (fun _ h=>Y) (fun _ h=>Y)
theorem Qvo {P:Program} {c:Nat} (hcf:Qr P c=some Qrd) (fuel:Nat):Ql2 P c (Qel fuel):=by
 intro ev1 cv2 r h;refine Qcj hcf rfl fun Γ M hP hnt hM=>?_;subst hP;refine ini ?_;refine Z 8 0 ?_;refine cw h [] [] (fun n11 e=>(5,(i_ n11))::e) (fun _ l=>l) ke (fun _ h=>?_) (fun n11 h=>Y);refine Z 7 0 ?_;refine lw h [1,8,9] [] (fun (n3,x4) e=>(5,(i_ n3))::(10,(i_ x4))::e) (fun _ l=>l) ke wk (fun _ ⟨n3,x4⟩ h=>?_);refine Z 5 0 ?_;refine ci h rfl (fun h=>?_) (fun h=>Y);refine Z 16 1 ?_;intro _ h;obtain ⟨s9,h10,h⟩:=bnd h;refine Rn.bin tv rfl rfl (Q4v h10) ?_;exact Y
theorem Qs9 {P:Program} {c:Nat} {Qbm:_} {Qel:_}
    (Hbj:Qh0 P 56 Qbm)
    (Hbg:Ql2 P 78 Qel) (hcf:Qr P c=some Qo6):Qfa P c (Qz Qbm Qel):=by
 intro ev1 cv2 r h;refine Qcj hcf rfl fun Γ M hP hnt hM=>?_;subst hP;refine ini ?_;refine Z 10 0 ?_;refine cl (Hbj _) h (cq fun _ h=>?_);refine Z 2 0 ?_;refine cd h rfl (fun h=>Y) (fun h=>?_);refine Z 7 0 ?_;refine cd h rfl (fun h=>Y) (fun h=>?_);refine Z 6 0 ?_;refine cl (Hbg _ _) h (cq fun _ h=>?_);refine Z 7 0 ?_;refine cd h rfl (fun h=>Y) (fun h=>?_);refine Z 7 0 ?_;exact cd h rfl (fun h=>Y) (fun h=>Y)
theorem Qta {P:Program} {c:Nat} (hcf:Qr P c=some Qo7):Qkr P c (Qfb):=by
 intro a1 b2 r h;refine Qcj hcf rfl fun Γ M hP hnt hM=>?_;subst hP;refine ini ?_;exact Y
theorem Qvp {P:Program} {c:Nat} {gv:Nat} {Qz:_} {Qbm:_} {f_reach_Components:_} {f_slices_Sorted_int:_} {f_slices_SortFunc___int:_} {Qfb:_}
    (Hbe:Qfa P 31 Qz)
    (Hbj:Qh0 P 56 Qbm)
    (Hcs:K_reach_Components P 57 f_reach_Components)
    (Hdc:Qbgq P 58 gv (eI .i64) 1 f_slices_Sorted_int)
    (Hdd:Qbed P 59 gv 1 4)
    (Hda:K_slices_SortFunc___int P 60 f_slices_SortFunc___int)
    (Haw:Qkr P 61 Qfb) (hcf:Qr P c=some Qre) (fuel:Nat):Ql3 P c (Qfc Qz Qbm f_reach_Components f_slices_Sorted_int f_slices_SortFunc___int Qfb fuel):=by
 intro d1 cv2 r h;refine Qcj hcf rfl fun Γ M hP hnt hM=>?_;subst hP;refine ini ?_;refine Z 10 0 ?_;refine cl (Hbj _) h (cq fun _ h=>?_);refine Z 1 0 ?_;refine cd h rfl (fun h=>Y) (fun h=>?_);refine Z 6 0 ?_;obtain ⟨x6,h7,h⟩:=bnd h;refine Rn.makes (g:=(fun (x:Bool)=>[V.d (.bool x)])) tv rfl rfl rfl rfl rfl h7 ?_;refine Z 2 0 ?_;refine cu h (fun c21=>⟨look [(2,.ptr (Γ.n0+2) 0),(6,.sl 1 (Γ.n0+25) 0 (Int.toNat (d1.Estimates.length:Int)) (Int.toNat (d1.Estimates.length:Int)))],Qi Γ.n0 (bxs [(2,.cells ((Q2 d1))),(25,.cells (Qcp (fun (x:Bool)=>[V.d (.bool x)]) c21))]) M,Γ.n0+132⟩) (fun _ h=>?_) (fun c21 h=>?_)
 ·refine Z 8 0 ?_;refine lo h (fun (x8,c9)=>⟨look [(1,(i_ cv2)),(2,.ptr (Γ.n0+2) 0),(6,.sl 1 (Γ.n0+25) 0 (Int.toNat (d1.Estimates.length:Int)) (Int.toNat (d1.Estimates.length:Int))),(27,.d (.lst 1 (List.map (eL 2 Q0) d1.Estimates))),(28,(i_ (d1.Estimates.length:Int))),(29,(i_ x8))],Qi Γ.n0 (bxs [(2,.cells ((Q2 d1))),(25,.cells (Qcp (fun (x:Bool)=>[V.d (.bool x)]) c9))]) M,Γ.n0+132⟩) wk (fun _ ⟨x8,c9⟩ h=>?_);refine Z 5 0 ?_;refine ci h rfl (fun h=>?_) (fun h=>Y);refine Z 15 1 ?_;intro _ h;refine cl (Hbe _ _) h (cq fun ⟨r15,_⟩ h=>?_);refine Z 12 1 ?_;intro h;obtain ⟨x19,h20,h⟩:=bnd h;refine Rn.storeA (g:=(fun (x:Bool)=>[V.d (.bool x)])) (v:=(b_ (r15==3))) (fun _=>rfl) tv rfl rfl rfl rfl rfl h20 ?_;exact Y
 ·refine Z 8 0 ?_;refine Rn.buildT (v:=.agg [(l_ d1.zB.zD),(i_ d1.zB.zH),.nils 1,.nils 3]) tv rfl ?_;refine Z 8 0 ?_;obtain ⟨x22,h23,h⟩:=bnd h;refine Rn.makes (g:=(fun (x:Bool)=>[V.d (.bool x)])) tv rfl rfl rfl rfl rfl h23 ?_;refine Z 2 0 ?_;refine cu h (fun (pv63,pv64,c65)=>⟨look [(11,.ptr (Γ.n0+11) 0),(12,.sl 1 (Γ.n0+56) 0 (Int.toNat (d1.Estimates.length:Int)) (Int.toNat (d1.Estimates.length:Int)))],Qi Γ.n0 (bxs [(2,.cells ((Q2 d1))),(11,.cells ([(l_ d1.zB.zD),(i_ d1.zB.zH),(o_ pv63),(Qv pv64)])),(25,.cells (Qcp (fun (x:Bool)=>[V.d (.bool x)]) c21)),(56,.cells (Qcp (fun (x:Bool)=>[V.d (.bool x)]) c65))]) M,Γ.n0+132⟩) (fun _ h=>?_) (fun ⟨pv63,pv64,c65⟩ h=>?_)
  ·refine Z 9 0 ?_;refine lo h (fun (x24,pv25,pv26,c27)=>⟨look [(6,.sl 1 (Γ.n0+25) 0 (Int.toNat (d1.Estimates.length:Int)) (Int.toNat (d1.Estimates.length:Int))),(11,.ptr (Γ.n0+11) 0),(12,.sl 1 (Γ.n0+56) 0 (Int.toNat (d1.Estimates.length:Int)) (Int.toNat (d1.Estimates.length:Int))),(59,(Qg d1.zB.zG)),(60,(i_ (d1.zB.zG.length:Int))),(61,(i_ x24))],Qi Γ.n0 (bxs [(2,.cells ((Q2 d1))),(11,.cells ([(l_ d1.zB.zD),(i_ d1.zB.zH),(o_ pv25),(Qv pv26)])),(25,.cells (Qcp (fun (x:Bool)=>[V.d (.bool x)]) c21)),(56,.cells (Qcp (fun (x:Bool)=>[V.d (.bool x)]) c27))]) M,Γ.n0+132⟩) wk (fun _ ⟨x24,pv25,pv26,c27⟩ h=>?_);refine Z 5 0 ?_;refine ci h rfl (fun h=>?_) (fun h=>Y);refine Tr.skip ?_;refine cu h (fun (pv58,c59,c60,c61,c62)=>⟨look [(6,.sl 1 (Γ.n0+25) 0 (Int.toNat (d1.Estimates.length:Int)) (Int.toNat (d1.Estimates.length:Int))),(11,.ptr (Γ.n0+11) 0),(12,.sl 1 (Γ.n0+56) 0 (Int.toNat (d1.Estimates.length:Int)) (Int.toNat (d1.Estimates.length:Int))),(59,(Qg d1.zB.zG)),(60,(i_ (d1.zB.zG.length:Int))),(61,(i_ x24))],Qi Γ.n0 (bxs [(2,.cells ((Q2 d1))),(11,.cells ([(l_ d1.zB.zD),(i_ d1.zB.zH),(o_ pv25),(Qv pv58)])),(14,.cells ([(i_ c60),(i_ c61),(i_ c62)])),(25,.cells (Qcp (fun (x:Bool)=>[V.d (.bool x)]) c21)),(56,.cells (Qcp (fun (x:Bool)=>[V.d (.bool x)]) c59))]) M,Γ.n0+132⟩) (fun _ h=>?_) (fun ⟨pv58,c59,c60,c61,c62⟩ h=>Y);refine Z 8 1 ?_;intro x30 h;refine cu h (fun x41=>⟨look [(6,.sl 1 (Γ.n0+25) 0 (Int.toNat (d1.Estimates.length:Int)) (Int.toNat (d1.Estimates.length:Int))),(11,.ptr (Γ.n0+11) 0),(12,.sl 1 (Γ.n0+56) 0 (Int.toNat (d1.Estimates.length:Int)) (Int.toNat (d1.Estimates.length:Int))),(14,.ptr (Γ.n0+14) 0),(59,(Qg d1.zB.zG)),(60,(i_ (d1.zB.zG.length:Int))),(61,(i_ x24)),(76,(b_ x41))],Qi Γ.n0 (bxs [(2,.cells ((Q2 d1))),(11,.cells ([(l_ d1.zB.zD),(i_ d1.zB.zH),(o_ pv25),(Qv pv26)])),(14,.cells ((Qjt x30))),(25,.cells (Qcp (fun (x:Bool)=>[V.d (.bool x)]) c21)),(56,.cells (Qcp (fun (x:Bool)=>[V.d (.bool x)]) c27))]) M,Γ.n0+132⟩) (fun _ h=>?_) (fun x41 h=>?_)
   ·refine Z 7 1 ?_;intro _ h;exact bs h (fun _ h=>Y) (fun _ h=>Y)
   ·refine cd h rfl (fun h=>?_) (fun h=>Y);refine Z 20 1 ?_;intro _ _ h;refine bs h (fun _ h=>?_) (fun _ h=>?_)
    ·refine Z 7 1 ?_;intro h;obtain ⟨x52,h53,h⟩:=bnd h;refine Rn.storeA (g:=(fun (x:Bool)=>[V.d (.bool x)])) (v:=(b_ true)) (fun _=>rfl) tv rfl rfl rfl rfl rfl h53 ?_;exact Y
    ·refine Z 7 1 ?_;intro h;obtain ⟨x56,h57,h⟩:=bnd h;refine Rn.storeA (g:=(fun (x:Bool)=>[V.d (.bool x)])) (v:=(b_ (x30.From==x30.To))) (fun _=>rfl) tv rfl rfl rfl rfl rfl h57 ?_;exact Y
  ·refine Z 3 0 ?_;refine cl (Hcs _) h (cq fun ⟨r67,_⟩ h=>?_);refine Z 10 0 ?_;refine cu h (fun ov89=>⟨look [(17,.own 1 (List.map (eL 1 (eI .i64)) ov89))],Qi Γ.n0 (bxs [(2,.cells ((Q2 d1))),(11,.cells ([(l_ d1.zB.zD),(i_ d1.zB.zH),(o_ pv63),(Qv pv64)])),(25,.cells (Qcp (fun (x:Bool)=>[V.d (.bool x)]) c21)),(56,.cells (Qcp (fun (x:Bool)=>[V.d (.bool x)]) c65))]) M,Γ.n0+132⟩) (fun _ h=>?_) (fun ov89 h=>?_)
   ·refine Z 7 0 ?_;refine lo h (fun (ov69,x70)=>⟨look [(12,.sl 1 (Γ.n0+56) 0 (Int.toNat (d1.Estimates.length:Int)) (Int.toNat (d1.Estimates.length:Int))),(17,.own 1 (List.map (eL 1 (eI .i64)) ov69)),(105,.d (.lst 1 (List.map (eL 1 (eI .i64)) r67))),(106,(i_ (r67.length:Int))),(107,(i_ x70))],Qi Γ.n0 (bxs [(2,.cells ((Q2 d1))),(11,.cells ([(l_ d1.zB.zD),(i_ d1.zB.zH),(o_ pv63),(Qv pv64)])),(25,.cells (Qcp (fun (x:Bool)=>[V.d (.bool x)]) c21)),(56,.cells (Qcp (fun (x:Bool)=>[V.d (.bool x)]) c65))]) M,Γ.n0+132⟩) wk (fun _ ⟨ov69,x70⟩ h=>?_);refine Z 5 0 ?_;refine ci h rfl (fun h=>?_) (fun h=>Y);refine Tr.skip ?_;refine cu h (fun ov88=>⟨look [(12,.sl 1 (Γ.n0+56) 0 (Int.toNat (d1.Estimates.length:Int)) (Int.toNat (d1.Estimates.length:Int))),(17,.own 1 (List.map (eL 1 (eI .i64)) ov88)),(105,.d (.lst 1 (List.map (eL 1 (eI .i64)) r67))),(106,(i_ (r67.length:Int))),(107,(i_ x70))],Qi Γ.n0 (bxs [(2,.cells ((Q2 d1))),(11,.cells ([(l_ d1.zB.zD),(i_ d1.zB.zH),(o_ pv63),(Qv pv64)])),(25,.cells (Qcp (fun (x:Bool)=>[V.d (.bool x)]) c21)),(56,.cells (Qcp (fun (x:Bool)=>[V.d (.bool x)]) c65))]) M,Γ.n0+132⟩) (fun _ h=>?_) (fun ov88 h=>Y);refine Z 7 1 ?_;intro x73 h;refine cu h (fun x82=>⟨look [(12,.sl 1 (Γ.n0+56) 0 (Int.toNat (d1.Estimates.length:Int)) (Int.toNat (d1.Estimates.length:Int))),(17,.own 1 (List.map (eL 1 (eI .i64)) ov69)),(19,(l_ x73)),(105,.d (.lst 1 (List.map (eL 1 (eI .i64)) r67))),(106,(i_ (r67.length:Int))),(107,(i_ x70)),(121,(b_ x82))],Qi Γ.n0 (bxs [(2,.cells ((Q2 d1))),(11,.cells ([(l_ d1.zB.zD),(i_ d1.zB.zH),(o_ pv63),(Qv pv64)])),(25,.cells (Qcp (fun (x:Bool)=>[V.d (.bool x)]) c21)),(56,.cells (Qcp (fun (x:Bool)=>[V.d (.bool x)]) c65))]) M,Γ.n0+132⟩) (fun _ h=>?_) (fun x82 h=>?_)
    ·refine Z 5 0 ?_;exact bi h (fun _ h=>Y) (fun _ h=>Y)
    ·refine cd h rfl (fun h=>?_) (fun h=>Y);refine Z 3 0 ?_;refine Rn.callVals (x:=.lst 1 (List.map (eI .i64) x73)) (m:=132) tv rfl Hdd rfl rfl hM rfl ?_;refine cm h (fun _ h85 M2 nb2 hn hx=>Hdc _ _ h85 M2 nb2 (Γ.n0+133) (hx _ _ (Qcm rfl))) rfl (cq fun x84 h=>?_);refine Rn.weak (wS [12,17,19,105,106,107,121,122,123,124] [2,11,25,56,133] (fun e=>(125,(l_ x84))::e) (fun l=>l) ke wk) ?_;refine Z 3 1 ?_;intro x86 h;refine Rn.weak (σ':=⟨look [(12,.sl 1 (Γ.n0+56) 0 (Int.toNat (d1.Estimates.length:Int)) (Int.toNat (d1.Estimates.length:Int))),(17,.own 1 (List.map (eL 1 (eI .i64)) x86)),(19,(l_ x73)),(105,.d (.lst 1 (List.map (eL 1 (eI .i64)) r67))),(106,(i_ (r67.length:Int))),(107,(i_ x70)),(121,(b_ x82)),(122,.d (.lst 1 (List.map (eL 1 (eI .i64)) ov69))),(123,(l_ x73)),(125,(l_ x84)),(126,.sl 1 (Γ.n0+126) 0 1 1),(127,.d (.lst 1 (List.map (eL 1 (eI .i64)) x86)))],Qi Γ.n0 (bxs [(2,.cells ((Q2 d1))),(11,.cells ([(l_ d1.zB.zD),(i_ d1.zB.zH),(o_ pv63),(Qv pv64)])),(25,.cells (Qcp (fun (x:Bool)=>[V.d (.bool x)]) c21)),(56,.cells (Qcp (fun (x:Bool)=>[V.d (.bool x)]) c65)),(126,.cells ([(l_ x84)]))]) M,Γ.n0+132⟩) (WeakSt.trans (σ':=⟨look [(12,.sl 1 (Γ.n0+56) 0 (Int.toNat (d1.Estimates.length:Int)) (Int.toNat (d1.Estimates.length:Int))),(17,.own 1 (List.map (eL 1 (eI .i64)) x86)),(19,(l_ x73)),(105,.d (.lst 1 (List.map (eL 1 (eI .i64)) r67))),(106,(i_ (r67.length:Int))),(107,(i_ x70)),(121,(b_ x82)),(122,.d (.lst 1 (List.map (eL 1 (eI .i64)) ov69))),(123,(l_ x73)),(125,(l_ x84)),(126,.sl 1 (Γ.n0+126) 0 1 1),(127,.d (.lst 1 (List.map (eL 1 (eI .i64)) x86)))],Qi Γ.n0 (bxs [(2,.cells ((Q2 d1))),(11,.cells ([(l_ d1.zB.zD),(i_ d1.zB.zH),(o_ pv63),(Qv pv64)])),(25,.cells (Qcp (fun (x:Bool)=>[V.d (.bool x)]) c21)),(56,.cells (Qcp (fun (x:Bool)=>[V.d (.bool x)]) c65)),(126,.cells ([(l_ x84)]))]) M,Γ.n0+(132+4)⟩) (by exact Qiy [133] ⟨(kSl rfl),sq,sq,sq,sq,sq,sq,sq,sq,sq,(kSl rfl),sq,tv⟩ ⟨bS rfl rfl rfl,bS rfl rfl rfl,bM rfl rfl fun _=>rfl,bM rfl rfl fun _=>rfl,bS rfl rfl rfl,tv⟩ rfl) (Q9a rfl (Nat.le_of_eq hnt) hM)) ?_;exact Y
   ·refine Z 3 0 ?_;refine cl (Hda _) h (cq fun _ h=>?_);exact Y
theorem Qvq {P:Program} {c:Nat} {Q3:_} {Q4:_} {Qy:_} {Qu:_} {Ql:_}
    (Hcu:Qfu P 63 Q3)
    (Hcg:Qfv P 67 Q4)
    (Hcj:Qe2 P 68 Qy)
    (Hcm:Qdt P 77 Qu)
    (Hcw:Qc6 P 87 Ql) (hcf:Qr P c=some Qrf) (fuel:Nat):Ql4 P c (Qfd Q3 Q4 Qy Qu Ql fuel):=by
 intro a1 ov2 ov3 mv4 r h;refine Qcj hcf rfl fun Γ M hP hnt hM=>?_;subst hP;refine ini ?_;refine Z 12 0 ?_;refine cl (Hcg _ _) h (cq fun x6 h=>?_);refine Z 7 0 ?_;refine cd h rfl (fun h=>Y) (fun h=>?_);refine Z 5 0 ?_;refine cl (Hcj _ _) h (cq fun x9 h=>?_);refine Z 8 0 ?_;refine cl (Hcm _ _) h (cq fun x11 h=>?_);refine Z 2 0 ?_;refine Tr.cond rfl (fun hb12=>?_) (fun hb12=>?_)
 ·have hb12:=nT' hb12;replace h:=bF hb12 h;exact Y
 ·have hb12:=nF' hb12;replace h:=bT hb12 h;refine Z 8 0 ?_;refine cd h rfl (fun h=>Y) (fun h=>?_);refine Z 3 0 ?_;refine Rn.mkmap tv rfl (fun (x:Qp)=>(.agg (Qbc x):V)) (fun (x:List Int)=>((l_ x):V)) ?_;refine Z 1 0 ?_;refine Rn.mapset (ek:=(fun (x:Qp)=>(.agg (Qbc x):V))) (ev:=(fun (x:List Int)=>((l_ x):V))) (m:=([]:List (Qp×(List Int)))) (k:=(Qp.mk 0 0)) (v:=[]) Qfo (fun _=>rfl) (fun _=>rfl) tv rfl rfl rfl rfl rfl ?_;refine Z 11 0 ?_;refine Tr.weak (by show WeakSt Γ _ ⟨look ((13,.own 2 (List.map Qdm [(Qp.mk 0 0)]))::[(0,(Qq a1)),(1,(l_ ov2)),(2,(l_ ov3)),(3,(b_ mv4)),(4,.ptr (Γ.n0+4) 0),(8,.nils 1),(9,(b_ false)),(10,(i_ x6)),(11,.ptr (Γ.n0+11) 0),(12,.mp (Γ.n0+36)),(20,(Qq a1)),(21,(l_ ov2)),(22,(i_ x6)),(23,(i_ x6)),(24,(b_ (x6 != 0))),(26,(Qq a1)),(27,(l_ ov2)),(28,(Qbj x9)),(29,(Qbj x9)),(30,(l_ ov3)),(31,(b_ x11)),(32,(b_ (!x11))),(33,.ptr (Γ.n0+4) 1),(34,(i_ a1.zH)),(35,(b_ (a1.zH==0))),(36,.mp (Γ.n0+36)),(37,.agg [(i_ 0),(i_ 0)]),(38,.mp (Γ.n0+36)),(39,.agg [(i_ 0),(i_ 0)])] ),Qi Γ.n0 (bxs [(4,.cells ((Qm a1))),(11,.cells ((Q1 x9))),(36,.mp (mapE (fun (x:Qp)=>(.agg (Qbc x):V)) (fun (x:List Int)=>((l_ x):V)) 0 (setM ([]:List (Qp×(List Int))) (Qp.mk 0 0) [])) ((setM ([]:List (Qp×(List Int))) (Qp.mk 0 0) [])).length)]) M,Γ.n0+131⟩;exact Q1u 40 13 [.int .i64 0,.int .i64 0] rfl rfl rfl rfl rfl ⟨sq,sq,sq,sq,(kPtr rfl),sq,sq,sq,(kPtr rfl),(kMp rfl),sq,sq,sq,sq,sq,sq,sq,sq,sq,sq,sq,sq,(kPtr rfl),sq,sq,(kMp rfl),sq,(kMp rfl),sq,tv⟩ ⟨bS rfl rfl rfl,bS rfl rfl rfl,⟨rfl,rfl⟩,tv⟩ rfl) ?_;refine lo h (fun (l14,c15)=>⟨look [(2,(l_ ov3)),(3,(b_ mv4)),(4,.ptr (Γ.n0+4) 0),(11,.ptr (Γ.n0+11) 0),(12,.mp (Γ.n0+36)),(13,.ownT 2 (List.map Qdm l14))],Qi Γ.n0 (bxs [(4,.cells ((Qm a1))),(11,.cells ((Q1 x9))),(36,.mp (mapE (fun (x:Qp)=>(.agg (Qbc x):V)) (fun (x:List Int)=>((l_ x):V)) 0 c15) (c15).length)]) M,Γ.n0+131⟩) wk (fun _ ⟨l14,c15⟩ h=>?_);refine Z 7 0 ?_;refine ci h rfl (fun h=>?_) (fun h=>Y);refine Z 12 1 ?_;intro x18 h;refine cu h (fun x24=>⟨look [(2,(l_ ov3)),(3,(b_ mv4)),(4,.ptr (Γ.n0+4) 0),(11,.ptr (Γ.n0+11) 0),(12,.mp (Γ.n0+36)),(13,.ownT 2 (List.map Qdm l14)),(14,.ptr (Γ.n0+14) 0),(64,(b_ x24))],Qi Γ.n0 (bxs [(4,.cells ((Qm a1))),(11,.cells ((Q1 x9))),(14,.cells ((Qbc x18))),(36,.mp (mapE (fun (x:Qp)=>(.agg (Qbc x):V)) (fun (x:List Int)=>((l_ x):V)) 0 c15) (c15).length)]) M,Γ.n0+131⟩) (fun _ h=>?_) (fun x24 h=>?_)
  ·refine Z 7 0 ?_;refine bs h (fun _ h=>?_) (fun _ h=>Y);refine Z 3 0 ?_;refine bs h (fun _ h=>?_) (fun _ h=>Y);refine Z 4 0 ?_;refine cl (Hcw _ _) h (cq fun _ h=>?_);exact Y
  ·refine cd h rfl (fun h=>?_) (fun h=>?_)
   ·refine Z 4 0 ?_;refine Rn.lookup (ek:=(fun (x:Qp)=>(.agg (Qbc x):V))) (ev:=(fun (x:List Int)=>((l_ x):V))) (m:=c15) (k:=x18) Qfo (fun _=>rfl) (fun _=>rfl) [] rfl tv rfl rfl rfl ?_;exact Y
   ·refine Z 13 1 ?_;intro x26 h;refine lo h (fun (l28,x29,c30)=>⟨look [(2,(l_ ov3)),(3,(b_ mv4)),(4,.ptr (Γ.n0+4) 0),(11,.ptr (Γ.n0+11) 0),(12,.mp (Γ.n0+36)),(13,.ownT 2 (List.map Qdm l28)),(14,.ptr (Γ.n0+14) 0),(73,(Qg x26)),(74,(i_ (x26.length:Int))),(75,(i_ x29))],Qi Γ.n0 (bxs [(4,.cells ((Qm a1))),(11,.cells ((Q1 x9))),(14,.cells ((Qbc x18))),(36,.mp (mapE (fun (x:Qp)=>(.agg (Qbc x):V)) (fun (x:List Int)=>((l_ x):V)) 0 c30) (c30).length)]) M,Γ.n0+131⟩) wk (fun _ ⟨l28,x29,c30⟩ h=>?_);refine Z 5 0 ?_;refine ci h rfl (fun h=>?_) (fun h=>?_)
    ·refine Tr.skip ?_;refine cu h (fun (l52,c53,c54,c55,c56,q57,q58)=>⟨look [(2,(l_ ov3)),(3,(b_ mv4)),(4,.ptr (Γ.n0+4) 0),(11,.ptr (Γ.n0+11) 0),(12,.mp (Γ.n0+36)),(13,.ownT 2 (List.map Qdm l52)),(14,.ptr (Γ.n0+14) 0),(73,(Qg x26)),(74,(i_ (x26.length:Int))),(75,(i_ x29))],Qi Γ.n0 (bxs [(4,.cells ((Qm a1))),(11,.cells ((Q1 x9))),(14,.cells ((Qbc x18))),(16,.cells ([(i_ c54),(i_ c55),(i_ c56)])),(17,.cells ([(i_ q57),(i_ q58)])),(36,.mp (mapE (fun (x:Qp)=>(.agg (Qbc x):V)) (fun (x:List Int)=>((l_ x):V)) 0 c53) (c53).length)]) M,Γ.n0+131⟩) (fun _ h=>?_) (fun ⟨l52,c53,c54,c55,c56,q57,q58⟩ h=>Y);refine Z 18 1 ?_;intro x33 h;refine Tr.cutJ (fun (q43:Int)=>⟨look [(2,(l_ ov3)),(3,(b_ mv4)),(4,.ptr (Γ.n0+4) 0),(11,.ptr (Γ.n0+11) 0),(12,.mp (Γ.n0+36)),(13,.ownT 2 (List.map Qdm l28)),(14,.ptr (Γ.n0+14) 0),(16,.ptr (Γ.n0+16) 0),(17,.ptr (Γ.n0+17) 0),(73,(Qg x26)),(74,(i_ (x26.length:Int))),(75,(i_ x29))],Qi Γ.n0 (bxs [(4,.cells ((Qm a1))),(11,.cells ((Q1 x9))),(14,.cells ((Qbc x18))),(16,.cells ((Qjt x33))),(17,.cells ([(i_ x33.To),(i_ q43)])),(36,.mp (mapE (fun (x:Qp)=>(.agg (Qbc x):V)) (fun (x:List Int)=>((l_ x):V)) 0 c30) (c30).length)]) M,Γ.n0+131⟩) h (fun J51 h=>?_) (fun z h=>?_)
     ·refine Z 6 0 ?_;refine cl (Hcw _ _) h (cq fun _ h=>?_);refine Z 1 0 ?_;refine cd h rfl (fun h=>?_) (fun h=>?_)
      ·refine Tr.seq ?_;refine cu h (fun x41=>⟨look [(2,(l_ ov3)),(3,(b_ mv4)),(4,.ptr (Γ.n0+4) 0),(11,.ptr (Γ.n0+11) 0),(12,.mp (Γ.n0+36)),(13,.ownT 2 (List.map Qdm l28)),(14,.ptr (Γ.n0+14) 0),(16,.ptr (Γ.n0+16) 0),(17,.ptr (Γ.n0+17) 0),(73,(Qg x26)),(74,(i_ (x26.length:Int))),(75,(i_ x29)),(103,(b_ x41))],Qi Γ.n0 (bxs [(4,.cells ((Qm a1))),(11,.cells ((Q1 x9))),(14,.cells ((Qbc x18))),(16,.cells ((Qjt x33))),(17,.cells ([(i_ x33.To),(i_ x18.done_)])),(36,.mp (mapE (fun (x:Qp)=>(.agg (Qbc x):V)) (fun (x:List Int)=>((l_ x):V)) 0 c30) (c30).length)]) M,Γ.n0+131⟩) (fun _ h=>?_) (fun x41 h=>?_)
       ·refine Z 7 0 ?_;exact bs h (fun _ h=>Y) (fun _ h=>Y)
       ·refine cd h rfl (fun h=>Y) (fun h=>?_);refine Z 8 0 ?_;exact ⟨_,h,(by exact Qiy [] ⟨sq,sq,(kPtr rfl),(kPtr rfl),(kMp rfl),sq,(kPtr rfl),(kPtr rfl),(kPtr rfl),sq,sq,sq,tv⟩ ⟨bS rfl rfl rfl,bS rfl rfl rfl,bS rfl rfl rfl,bS rfl rfl rfl,bS rfl rfl rfl,⟨rfl,rfl⟩,tv⟩ rfl)⟩
      ·refine Tr.skip ?_;exact ⟨_,h,(by exact Qiy [] ⟨sq,sq,(kPtr rfl),(kPtr rfl),(kMp rfl),sq,(kPtr rfl),(kPtr rfl),(kPtr rfl),sq,sq,sq,tv⟩ ⟨bS rfl rfl rfl,bS rfl rfl rfl,bS rfl rfl rfl,bS rfl rfl rfl,bS rfl rfl rfl,⟨rfl,rfl⟩,tv⟩ rfl)⟩
     ·obtain ⟨q43,rfl⟩ : ∃ x,x=z:=⟨_,rfl⟩;refine Z 4 0 ?_;refine Rn.lookupC (ek:=(fun (x:Qp)=>(.agg (Qbc x):V))) (ev:=(fun (x:List Int)=>((l_ x):V))) (m:=c30) (k:=(Qp.mk x33.To q43)) Qfo (fun _=>rfl) (fun _=>rfl) [] rfl tv rfl rfl rfl ?_;refine Z 11 0 ?_;refine Tr.cond rfl (fun hb44=>?_) (fun hb44=>?_)
      ·have hb44:=nT' hb44;replace h:=bF hb44 h;refine Z 6 0 ?_;refine Rn.lookup (ek:=(fun (x:Qp)=>(.agg (Qbc x):V))) (ev:=(fun (x:List Int)=>((l_ x):V))) (m:=c30) (k:=x18) Qfo (fun _=>rfl) (fun _=>rfl) [] rfl tv rfl rfl rfl ?_;refine cl (Hcu _) h (cq fun _ h=>?_);refine Z 4 1 ?_;intro x47 h;refine Rn.mapset (ek:=(fun (x:Qp)=>(.agg (Qbc x):V))) (ev:=(fun (x:List Int)=>((l_ x):V))) (m:=c30) (k:=(Qp.mk x33.To q43)) (v:=x47) Qfo (fun _=>rfl) (fun _=>rfl) tv rfl rfl rfl rfl rfl ?_;refine Z 5 0 ?_;obtain ⟨x49,h50,h⟩:=bnd h;refine Rn.appT (e:=Qdm) tv rfl rfl rfl (Q1r rfl rfl rfl) h50 rfl ?_;exact Y
      ·have hb44:=nF' hb44;replace h:=bT hb44 h;exact Y
    ·refine Z 3 0 ?_;obtain ⟨x59,h60,h⟩:=bnd h;refine Rn.slcT (e:=Qdm) tv (.inr rfl) rfl h60 ?_;exact Y
theorem Qrm {P:Program} {c:Nat} {Qt:_} {Qfd:_}
    (Hbi:Qeb P 54 Qt)
    (Hcd:Ql4 P 82 Qfd) (hcf:Qr P c=some Qmp) (fuel:Nat):Qjf P c (Qc8 Qt Qfd fuel):=by
 intro ov1 x2 x5 x8 x11 x14 k3 k6 k9 k12 k15 r h;intro M nb hk4 hk7 hk10 hk13 hk16 hv17 hv18 hv19 hv20;refine Q9b hcf rfl M _ nb (fun hM=>Qwx hM ⟨(ltB hM hk4),tv⟩) fun Γ hP hnt hn0 hM=>?_;subst hP hn0;refine ini ?_;refine Tr.puts [(k3,.cells ((Qm x2)))] ⟨hk4,tv⟩ ?_;refine Z 7 0 ?_;refine Rn.storeB (v:=.nils 1) (cs':=[(l_ x2.zD),(i_ x2.zH),.nils 1,(Qg x2.zG)]) tv rfl rfl rfl (ltB hM hk4) rfl pg0 rfl rfl ps0 ?_;refine Rn.weak (Q1z (B:=[(k3,.cells ([(l_ x2.zD),(i_ x2.zH),.nils 1,(Qg x2.zG)]))]) (B':=[(k3,.cells ([(l_ x2.zD),(i_ x2.zH),.own 1 (List.map (eI .i64) []),(Qg x2.zG)]))]) ⟨⟨rfl,(cS rfl (cS rfl (.cons (WkV.nilsO _) (cS rfl .nil))))⟩,tv⟩ (by show WeakSt Γ _ ⟨look [(0,(i_ ov1)),(1,.ptr k3 0),(2,.ptr k6 0),(3,.ptr k9 0),(4,.ptr k12 0),(5,.ptr k15 0),(7,.nils 1),(13,.ptr k3 2)],Qi Γ.n0 (bxs []) (Mem.puts M [(k3,.cells ([(l_ x2.zD),(i_ x2.zH),.own 1 (List.map (eI .i64) []),(Qg x2.zG)]))]),Γ.n0+46⟩;exact Qiy [] ⟨sq,(Qn7 (ltB hM hk4)),(Qn7 (ltB hM hk7)),(Qn7 (ltB hM hk10)),(Qn7 (ltB hM hk13)),(Qn7 (ltB hM hk16)),sq,(Qn7 (ltB hM hk4)),tv⟩ tv rfl)) ?_;refine Z 1 0 ?_;refine cu h (fun c35=>⟨look [(1,.ptr k3 0),(4,.ptr k12 0),(5,.ptr k15 0)],Qi Γ.n0 (bxs []) (Mem.puts M [(k3,.cells ([(l_ x2.zD),(i_ x2.zH),(o_ c35),(Qg x2.zG)]))]),Γ.n0+46⟩) (fun _ h=>?_) (fun c35 h=>?_)
 ·refine Z 2 0 ?_;refine Rn.load (v:=(Qc x5)) tv rfl (Qia (ltB hM hk7) (pgS hv17.symm hk7)) rfl rfl ?_;refine Z 4 0 ?_;refine lo h (fun (x21,c22)=>⟨look [(0,(i_ ov1)),(1,.ptr k3 0),(3,.ptr k9 0),(4,.ptr k12 0),(5,.ptr k15 0),(14,(Qc x5)),(15,(i_ (x5.length:Int))),(16,(i_ x21))],Qi Γ.n0 (bxs []) (Mem.puts M [(k3,.cells ([(l_ x2.zD),(i_ x2.zH),(o_ c22),(Qg x2.zG)]))]),Γ.n0+46⟩) wk (fun _ ⟨x21,c22⟩ h=>?_);refine Z 5 0 ?_;refine ci h rfl (fun h=>?_) (fun h=>Y);refine Tr.skip ?_;refine cu h (fun (c32,c33,c34)=>⟨look [(0,(i_ ov1)),(1,.ptr k3 0),(3,.ptr k9 0),(4,.ptr k12 0),(5,.ptr k15 0),(14,(Qc x5)),(15,(i_ (x5.length:Int))),(16,(i_ x21))],Qi Γ.n0 (bxs [(9,.cells ([(i_ c32),(i_ c33)]))]) (Mem.puts M [(k3,.cells ([(l_ x2.zD),(i_ x2.zH),(o_ c34),(Qg x2.zG)]))]),Γ.n0+46⟩) (fun _ h=>?_) (fun ⟨c32,c33,c34⟩ h=>Y);refine Z 14 1 ?_;intro _ h;refine Rn.load (v:=(i_ x8)) tv rfl (Qia (ltB hM hk10) (pgS hv18.symm hk10)) rfl rfl ?_;refine Z 1 0 ?_;obtain ⟨s27,h28,h⟩:=bnd h;refine Rn.bin tv rfl rfl (Q4v h28) ?_;refine Z 4 0 ?_;refine cd h rfl (fun h=>?_) (fun h=>Y);refine Z 2 0 ?_;refine Rn.loadTB (cs':=[(l_ x2.zD),(i_ x2.zH),(l_ c22),(Qg x2.zG)]) tv rfl (ltB hM hk4) pg0 rfl rfl ps0 ?_;refine Z 4 1 ?_;intro x30 h;refine Rn.storeOB (cs':=[(l_ x2.zD),(i_ x2.zH),(o_ x30),(Qg x2.zG)]) tv rfl rfl (ltB hM hk4) pg0 rfl rfl ps0 ?_;exact Y
 ·refine Z 2 0 ?_;refine Rn.load (v:=.agg [(l_ x2.zD),(i_ x2.zH),(l_ c35),(Qg x2.zG)]) tv rfl (Qia (ltB hM hk4) pg0) rfl rfl (Rn.load (v:=(Qe x11)) tv rfl (Qia (ltB hM hk13) (pgS hv19.symm hk13)) rfl rfl ?_);obtain ⟨x37,h36,h⟩:=bnd h;refine Rn.call (args:=[(Qe x11)]) tv rfl (Hbi _ _ h36) (fun _=>Q1s (Qwx hM ⟨(ltB hM hk4),tv⟩) rfl) (Rn.load (v:=(l_ x14)) tv rfl (Qia (ltB hM hk16) (pgS hv20.symm hk16)) rfl rfl ?_);obtain ⟨⟨r39,r40,r41⟩,h38,h⟩:=bnd h;refine Rn.call (args:=[.agg [(l_ x2.zD),(i_ x2.zH),(l_ c35),(Qg x2.zG)],(l_ x37),(l_ x14),(b_ true)]) tv rfl (Hcd _ _ _ _ _ h38) (fun _=>Q1s (Qwx hM ⟨(ltB hM hk4),tv⟩) rfl) ?_;refine Z 13 0 ?_;refine Tr.weak (Q1z (B:=[(k3,.cells ([(l_ x2.zD),(i_ x2.zH),(o_ c35),(Qg x2.zG)]))]) (B':=[(k3,.cells ([(l_ x2.zD),(i_ x2.zH),(l_ c35),(Qg x2.zG)]))]) ⟨⟨rfl,(cS rfl (cS rfl (.cons (WkV.dem' rfl) (cS rfl .nil))))⟩,tv⟩ (by show WeakSt Γ _ ⟨look [(1,.ptr k3 0),(4,.ptr k12 0),(5,.ptr k15 0),(7,(l_ r39)),(10,(l_ r39)),(11,(b_ r40)),(12,(i_ r41)),(36,.tup [(l_ r39),(b_ r40),(i_ r41)]),(37,.agg [(l_ x2.zD),(i_ x2.zH),(l_ c35),(Qg x2.zG)]),(38,(Qe x11)),(39,(l_ x37)),(40,(l_ x14)),(41,.tup [(l_ r39),(b_ r40),(i_ r41)]),(42,(l_ r39)),(43,(b_ r40)),(44,(i_ r41)),(45,(l_ r39))],Qi Γ.n0 (bxs []) (Mem.puts M [(k3,.cells ([(l_ x2.zD),(i_ x2.zH),(l_ c35),(Qg x2.zG)]))]),Γ.n0+46⟩;exact Qiy [] ⟨(Qn7 (ltB hM hk4)),(Qn7 (ltB hM hk13)),(Qn7 (ltB hM hk16)),sq,sq,sq,sq,sq,sq,sq,sq,sq,sq,sq,sq,sq,sq,tv⟩ tv rfl)) ?_;exact Y
theorem Qtb {P:Program} {c:Nat} {Q6:_} {Q5:_} {Qz:_} {Qbl:_} {Qbm:_} {Qc8:_}
    (Hau:Qgh P 18 Q6)
    (Haq:Qf6 P 27 Q5)
    (Hbe:Qfa P 31 Qz)
    (Hap:Qhz P 36 Qbl)
    (Hbj:Qh0 P 56 Qbm)
    (Hat:Qjf P 81 Qc8) (hcf:Qr P c=some Qo8):Qks P c (Qeh Q6 Q5 Qz Qbl Qbm Qc8):=by
 intro ev1 a2 ov3 cv4 r h;refine Qcj hcf rfl fun Γ M hP hnt hM=>?_;subst hP;refine ini ?_;refine Z 16 0 ?_;refine cl (Hap _ _) h (cq fun _ h=>?_);refine Z 7 0 ?_;refine cd h rfl (fun h=>Y) (fun h=>?_);refine Z 5 0 ?_;refine cl (Hbj _) h (cq fun _ h=>?_);refine Z 1 0 ?_;refine cd h rfl (fun h=>Y) (fun h=>?_);refine Z 6 0 ?_;refine cl (Haq _ _ _) h (cq fun ⟨_,_⟩ h=>?_);refine Z 12 0 ?_;refine cd h rfl (fun h=>Y) (fun h=>?_);refine Z 6 0 ?_;refine cl (Hbe _ _) h (cq fun ⟨_,_⟩ h=>?_);refine Z 11 0 ?_;refine cd h rfl (fun h=>Y) (fun h=>?_);refine Z 5 0 ?_;refine cl (Hau _ _) h (cq fun ⟨_,_,_⟩ h=>?_);refine Z 12 0 ?_;refine Rn.k (v:=.clo 81 [.ptr (Γ.n0+14) 0,.ptr (Γ.n0+15) 0,.ptr (Γ.n0+7) 0,.ptr (Γ.n0+4) 0,.ptr (Γ.n0+6) 0]) tv rfl rfl rfl ?_;refine Z 5 0 ?_;obtain ⟨⟨r23,c24⟩,h25,h⟩:=bnd h;refine Rn.callvW (args:=([(i_ 1)]++[.ptr (Γ.n0+14) 0,.ptr (Γ.n0+15) 0,.ptr (Γ.n0+7) 0,.ptr (Γ.n0+4) 0,.ptr (Γ.n0+6) 0])) (B:=[((Γ.n0+14),.cells ((Qm c24)))]) tv rfl rfl (Hat _ _ _ _ _ _ (Γ.n0+14) (Γ.n0+15) (Γ.n0+7) (Γ.n0+4) (Γ.n0+6) _ h25 _ _ (Qcm rfl) (Qcm rfl) (Qcm rfl) (Qcm rfl) (Qcm rfl) (Qxv rfl) (Qxv rfl) (Qxv rfl) (Qxv rfl)) ⟨(.inl (Nat.le_add_right _ _)),tv⟩ (Q42 cw0) rfl ?_;refine Z 1 0 ?_;obtain ⟨⟨r26,c27⟩,h28,h⟩:=bnd h;refine Rn.callvW (args:=([(i_ 0)]++[.ptr (Γ.n0+14) 0,.ptr (Γ.n0+15) 0,.ptr (Γ.n0+7) 0,.ptr (Γ.n0+4) 0,.ptr (Γ.n0+6) 0])) (B:=[((Γ.n0+14),.cells ((Qm c27)))]) tv rfl rfl (Hat _ _ _ _ _ _ (Γ.n0+14) (Γ.n0+15) (Γ.n0+7) (Γ.n0+4) (Γ.n0+6) _ h28 _ _ (Qcm rfl) (Qcm rfl) (Qcm rfl) (Qcm rfl) (Qcm rfl) (Qxv rfl) (Qxv rfl) (Qxv rfl) (Qxv rfl)) ⟨(.inl (Nat.le_add_right _ _)),tv⟩ (Q42 cw0) rfl ?_;exact Y
theorem Qsl {P:Program} {c:Nat} (hcf:Qr P c=some Qnq) (fuel:Nat):Qhn P c (Qbo fuel):=by
 intro a1 b2 r h;refine Qcj hcf rfl fun Γ M hP hnt hM=>?_;subst hP;refine ini ?_;refine Z 13 0 ?_;refine cd h rfl (fun h=>Y) (fun h=>?_);refine Z 7 0 ?_;refine lw h [0,1] [] (fun i4 e=>(5,(i_ i4))::e) (fun _ l=>l) ke wk (fun _ i4 h=>?_);refine Z 8 0 ?_;refine ci h rfl (fun h=>?_) (fun h=>Y);refine Z 13 1 ?_;intro x7 x9 h;refine Rn.eqa (r:=((x7.State==x9.State)&&((x7.Classes==x9.Classes)&&true))) tv rfl rfl rfl ?_;refine Z 1 0 ?_;refine Tr.cond rfl (fun hb11=>?_) (fun hb11=>?_)
 ·have hb11:=nT' hb11;replace h:=bF hb11 h;exact Y
 ·have hb11:=nF' hb11;replace h:=bT hb11 h;exact Y
theorem Qud {P:Program} {c:Nat} (hcf:Qr P c=some Qp8) (fuel:Nat):Qlb P c (Qd8 fuel):=by
 intro s1 s2 r h;refine Qcj hcf rfl fun Γ M hP hnt hM=>?_;subst hP;refine ini ?_;refine Z 13 0 ?_;refine cd h rfl (fun h=>Y) (fun h=>?_);refine Z 9 0 ?_;refine lw h [0,1,12] [] (fun x4 e=>(13,(i_ x4))::e) (fun _ l=>l) ke wk (fun _ x4 h=>?_);refine Z 5 0 ?_;refine ci h rfl (fun h=>?_) (fun h=>Y);refine Z 20 1 ?_;intro _ _ h;exact cd h rfl (fun h=>Y) (fun h=>Y)
theorem Q12 {P:Program} {c:Nat} {Qd8:_}
    (Hcx:Qlb P 62 Qd8) (hcf:Qr P c=some Qzx):Qp9 P c (Qdf Qd8):=by
 intro a1 b2 r h;refine Qcj hcf rfl fun Γ M hP hnt hM=>?_;subst hP;refine ini ?_;refine Z 8 0 ?_;refine cl (Hcx _ _) h (cq fun _ h=>?_);exact Y
theorem Qrn {P:Program} {c:Nat} {Qe9:_} {Qfc:_} {Qdf:_} {Qbo:_} {Q5:_} {Qeh:_} {Qds:_}
    (Hao:Ql1 P 13 Qe9)
    (Hav:Ql3 P 15 Qfc)
    (Hdf:Qp9 P 17 Qdf)
    (Hbu:Qhn P 23 Qbo)
    (Haq:Qf6 P 27 Q5)
    (Has:Qks P 34 Qeh)
    (Hbt:Qja P 50 Qds) (hcf:Qr P c=some Qmq):Qjg P c (Qc9 Qe9 Qfc Qdf Qbo Q5 Qeh Qds):=by
 intro  r h;refine Qcj hcf rfl fun Γ M hP hnt hM=>?_;subst hP;refine ini ?_;refine Z 6 0 ?_;refine cl Hbt h (cq fun ⟨r2,r3⟩ h=>?_);refine Z 11 0 ?_;obtain ⟨⟨r5,r6⟩,h4,h⟩:=bnd h;refine Rn.call (args:=[(Qe r2),.agg [(l_ r3.zD),(i_ r3.zH),.nils 1,(Qg r3.zG)],.nils 1]) tv rfl (fun M2 nb2=>ACalls.weak (args':=[(Qe r2),.agg [(l_ r3.zD),(i_ r3.zH),(l_ []),(Qg r3.zG)],(l_ [])]) (Haq _ _ _ _ h4 M2 nb2) (cS rfl (.cons (WkV.agg (cS rfl (cS rfl (.cons (WkV.nilsD _) (cS rfl .nil))))) (.cons (WkV.nilsD _) .nil))) rfl) pc9 ?_;refine Z 11 0 ?_;refine Rn.weak (by show WeakSt Γ _ ⟨look [(0,(b_ false)),(1,(Qe r2)),(2,.ptr (Γ.n0+2) 0),(3,(Qc r5)),(4,(i_ r6)),(15,.tup [(Qe r2),.agg [(l_ r3.zD),(i_ r3.zH),.nils 1,(Qg r3.zG)]]),(16,.tup [(Qe r2),.agg [(l_ r3.zD),(i_ r3.zH),.nils 1,(Qg r3.zG)]]),(17,(Qe r2)),(18,.agg [(l_ r3.zD),(i_ r3.zH),.nils 1,(Qg r3.zG)]),(19,.tup [(Qc r5),(i_ r6)]),(20,(Qe r2)),(21,.agg [(l_ r3.zD),(i_ r3.zH),.nils 1,(Qg r3.zG)]),(22,.tup [(Qo r5),(i_ r6)]),(23,(Qc r5)),(24,(i_ r6)),(26,(Qe r2)),(27,.agg [(l_ r3.zD),(i_ r3.zH),.nils 1,(Qg r3.zG)]),(28,(l_ [1]))],Qi Γ.n0 (bxs [(2,.cells ([(l_ r3.zD),(i_ r3.zH),.nils 1,(Qg r3.zG)]))]) M,Γ.n0+121⟩;exact Qes 28 [.int .i64 1] rfl rfl ⟨sq,sq,(fPtr rfl),sq,sq,sq,sq,sq,sq,sq,sq,sq,sq,sq,sq,sq,sq,(fSl rfl rfl),tv⟩ ⟨bS rfl rfl rfl,tv⟩ rfl) ?_;obtain ⟨⟨r8,r9⟩,h7,h⟩:=bnd h;refine Rn.call (args:=[(Qe r2),.agg [(l_ r3.zD),(i_ r3.zH),.nils 1,(Qg r3.zG)],(l_ [1])]) tv rfl (fun M2 nb2=>ACalls.weak (args':=[(Qe r2),.agg [(l_ r3.zD),(i_ r3.zH),(l_ []),(Qg r3.zG)],(l_ [1])]) (Haq _ _ _ _ h7 M2 nb2) (cS rfl (.cons (WkV.agg (cS rfl (cS rfl (.cons (WkV.nilsD _) (cS rfl .nil))))) (cS rfl .nil))) rfl) pc9 ?_;refine Z 10 0 ?_;obtain ⟨⟨r11,r12⟩,h10,h⟩:=bnd h;refine Rn.call (args:=[(Qe r2),.agg [(l_ r3.zD),(i_ r3.zH),.nils 1,(Qg r3.zG)]]) tv rfl (fun M2 nb2=>ACalls.weak (args':=[(Qe r2),.agg [(l_ r3.zD),(i_ r3.zH),(l_ []),(Qg r3.zG)]]) (Hao _ _ _ h10 M2 nb2) (cS rfl (.cons (WkV.agg (cS rfl (cS rfl (.cons (WkV.nilsD _) (cS rfl .nil))))) .nil)) rfl) pc9 ?_;refine Z 10 0 ?_;refine cl (Hav _ _) h (cq fun ⟨r14,r15⟩ h=>?_);refine Z 11 0 ?_;refine Rn.weak (by show WeakSt Γ _ ⟨look [(0,(b_ false)),(1,(Qe r2)),(2,.ptr (Γ.n0+2) 0),(3,(Qc r5)),(4,(i_ r6)),(5,(Qc r8)),(6,(i_ r9)),(7,.ptr (Γ.n0+7) 0),(8,(i_ r12)),(9,.d (.lst 1 (List.map (eL 1 (eI .i64)) r14))),(10,(i_ r15)),(15,.tup [(Qe r2),.agg [(l_ r3.zD),(i_ r3.zH),.nils 1,(Qg r3.zG)]]),(16,.tup [(Qe r2),.agg [(l_ r3.zD),(i_ r3.zH),.nils 1,(Qg r3.zG)]]),(17,(Qe r2)),(18,.agg [(l_ r3.zD),(i_ r3.zH),.nils 1,(Qg r3.zG)]),(19,.tup [(Qc r5),(i_ r6)]),(20,(Qe r2)),(21,.agg [(l_ r3.zD),(i_ r3.zH),.nils 1,(Qg r3.zG)]),(22,.tup [(Qo r5),(i_ r6)]),(23,(Qc r5)),(24,(i_ r6)),(25,.tup [(Qc r8),(i_ r9)]),(26,(Qe r2)),(27,.agg [(l_ r3.zD),(i_ r3.zH),.nils 1,(Qg r3.zG)]),(28,(l_ [1])),(29,.tup [(Qo r8),(i_ r9)]),(30,(Qc r8)),(31,(i_ r9)),(32,.tup [(Qs r11),(i_ r12)]),(33,(Qe r2)),(34,.agg [(l_ r3.zD),(i_ r3.zH),.nils 1,(Qg r3.zG)]),(35,.tup [(Qs r11),(i_ r12)]),(36,(Qs r11)),(37,(i_ r12)),(38,.tup [.d (.lst 1 (List.map (eL 1 (eI .i64)) r14)),(i_ r15)]),(39,(Qs r11)),(40,.tup [.own 1 (List.map (eL 1 (eI .i64)) r14),(i_ r15)]),(41,.d (.lst 1 (List.map (eL 1 (eI .i64)) r14))),(42,(i_ r15)),(44,(Qe r2)),(45,.agg [(l_ r3.zD),(i_ r3.zH),.nils 1,(Qg r3.zG)]),(46,(l_ [0]))],Qi Γ.n0 (bxs [(2,.cells ([(l_ r3.zD),(i_ r3.zH),.nils 1,(Qg r3.zG)])),(7,.cells ((Q2 r11)))]) M,Γ.n0+121⟩;exact Qes 46 [.int .i64 0] rfl rfl ⟨sq,sq,(fPtr rfl),sq,sq,sq,sq,(fPtr rfl),sq,sq,sq,sq,sq,sq,sq,sq,sq,sq,sq,sq,sq,sq,sq,sq,sq,sq,sq,sq,sq,sq,sq,sq,sq,sq,sq,sq,sq,sq,sq,sq,sq,(fSl rfl rfl),tv⟩ ⟨bS rfl rfl rfl,bS rfl rfl rfl,tv⟩ rfl) ?_;obtain ⟨⟨r17,r18,r19,r20⟩,h16,h⟩:=bnd h;refine Rn.call (args:=[(Qe r2),.agg [(l_ r3.zD),(i_ r3.zH),.nils 1,(Qg r3.zG)],(l_ [0]),(i_ 1)]) tv rfl (fun M2 nb2=>ACalls.weak (args':=[(Qe r2),.agg [(l_ r3.zD),(i_ r3.zH),(l_ []),(Qg r3.zG)],(l_ [0]),(i_ 1)]) (Has _ _ _ _ _ h16 M2 nb2) (cS rfl (.cons (WkV.agg (cS rfl (cS rfl (.cons (WkV.nilsD _) (cS rfl .nil))))) (cS rfl (cS rfl .nil)))) rfl) pc9 ?_;refine Z 10 0 ?_;refine cw h [] [2,7] (fun x48 e=>(0,(b_ x48))::e) (fun _ l=>l) ke (fun _ h=>?_) (fun x48 h=>Y);refine Z 4 0 ?_;refine bs h (fun _ h=>?_) (fun _ h=>Y);refine Z 4 0 ?_;refine Rn.weak (by show WeakSt Γ _ ⟨look [(0,(b_ false)),(1,(Qe r2)),(2,.ptr (Γ.n0+2) 0),(3,(Qc r5)),(4,(i_ r6)),(5,(Qc r8)),(6,(i_ r9)),(7,.ptr (Γ.n0+7) 0),(8,(i_ r12)),(9,.d (.lst 1 (List.map (eL 1 (eI .i64)) r14))),(10,(i_ r15)),(11,(l_ r17)),(12,(l_ r18)),(13,(i_ r19)),(14,(i_ r20)),(15,.tup [(Qe r2),.agg [(l_ r3.zD),(i_ r3.zH),.nils 1,(Qg r3.zG)]]),(16,.tup [(Qe r2),.agg [(l_ r3.zD),(i_ r3.zH),.nils 1,(Qg r3.zG)]]),(17,(Qe r2)),(18,.agg [(l_ r3.zD),(i_ r3.zH),.nils 1,(Qg r3.zG)]),(19,.tup [(Qc r5),(i_ r6)]),(20,(Qe r2)),(21,.agg [(l_ r3.zD),(i_ r3.zH),.nils 1,(Qg r3.zG)]),(22,.tup [(Qo r5),(i_ r6)]),(23,(Qc r5)),(24,(i_ r6)),(25,.tup [(Qc r8),(i_ r9)]),(26,(Qe r2)),(27,.agg [(l_ r3.zD),(i_ r3.zH),.nils 1,(Qg r3.zG)]),(28,(l_ [1])),(29,.tup [(Qo r8),(i_ r9)]),(30,(Qc r8)),(31,(i_ r9)),(32,.tup [(Qs r11),(i_ r12)]),(33,(Qe r2)),(34,.agg [(l_ r3.zD),(i_ r3.zH),.nils 1,(Qg r3.zG)]),(35,.tup [(Qs r11),(i_ r12)]),(36,(Qs r11)),(37,(i_ r12)),(38,.tup [.d (.lst 1 (List.map (eL 1 (eI .i64)) r14)),(i_ r15)]),(39,(Qs r11)),(40,.tup [.own 1 (List.map (eL 1 (eI .i64)) r14),(i_ r15)]),(41,.d (.lst 1 (List.map (eL 1 (eI .i64)) r14))),(42,(i_ r15)),(43,.tup [(l_ r17),(l_ r18),(i_ r19),(i_ r20)]),(44,(Qe r2)),(45,.agg [(l_ r3.zD),(i_ r3.zH),.nils 1,(Qg r3.zG)]),(46,(l_ [0])),(47,.tup [(l_ r17),(l_ r18),(i_ r19),(i_ r20)]),(48,(l_ r17)),(49,(l_ r18)),(50,(i_ r19)),(51,(i_ r20)),(52,(i_ r6)),(53,(b_ (r6==0))),(54,(b_ (r6==0))),(55,(Qc r5)),(56,.agg [(i_ 0),(i_ 0)]),(57,.agg [(i_ 1),(i_ 1)]),(58,.d (.lst 2 (List.map Q0 [(Qb.mk 0 0),(Qb.mk 1 1)])))],Qi Γ.n0 (bxs [(2,.cells ([(l_ r3.zD),(i_ r3.zH),.nils 1,(Qg r3.zG)])),(7,.cells ((Q2 r11)))]) M,Γ.n0+121⟩;exact Qes 58 [.int .i64 0,.int .i64 0,.int .i64 1,.int .i64 1] rfl rfl ⟨sq,sq,(fPtr rfl),sq,sq,sq,sq,(fPtr rfl),sq,sq,sq,sq,sq,sq,sq,sq,sq,sq,sq,sq,sq,sq,sq,sq,sq,sq,sq,sq,sq,sq,sq,sq,sq,sq,sq,sq,sq,sq,sq,sq,sq,sq,sq,sq,sq,sq,sq,sq,sq,sq,sq,sq,sq,sq,sq,sq,sq,sq,(fSl rfl rfl),tv⟩ ⟨bS rfl rfl rfl,bS rfl rfl rfl,tv⟩ rfl) ?_;refine cl (Hbu _ _) h (cq fun x23 h=>?_);refine Z 2 0 ?_;refine bs h (fun _ h=>?_) (fun _ h=>Y);refine Z 4 0 ?_;refine bs h (fun _ h=>?_) (fun _ h=>Y);refine Z 3 0 ?_;refine Rn.weak (by show WeakSt Γ _ ⟨look [(0,(b_ false)),(1,(Qe r2)),(2,.ptr (Γ.n0+2) 0),(3,(Qc r5)),(4,(i_ r6)),(5,(Qc r8)),(6,(i_ r9)),(7,.ptr (Γ.n0+7) 0),(8,(i_ r12)),(9,.d (.lst 1 (List.map (eL 1 (eI .i64)) r14))),(10,(i_ r15)),(11,(l_ r17)),(12,(l_ r18)),(13,(i_ r19)),(14,(i_ r20)),(15,.tup [(Qe r2),.agg [(l_ r3.zD),(i_ r3.zH),.nils 1,(Qg r3.zG)]]),(16,.tup [(Qe r2),.agg [(l_ r3.zD),(i_ r3.zH),.nils 1,(Qg r3.zG)]]),(17,(Qe r2)),(18,.agg [(l_ r3.zD),(i_ r3.zH),.nils 1,(Qg r3.zG)]),(19,.tup [(Qc r5),(i_ r6)]),(20,(Qe r2)),(21,.agg [(l_ r3.zD),(i_ r3.zH),.nils 1,(Qg r3.zG)]),(22,.tup [(Qo r5),(i_ r6)]),(23,(Qc r5)),(24,(i_ r6)),(25,.tup [(Qc r8),(i_ r9)]),(26,(Qe r2)),(27,.agg [(l_ r3.zD),(i_ r3.zH),.nils 1,(Qg r3.zG)]),(28,(l_ [1])),(29,.tup [(Qo r8),(i_ r9)]),(30,(Qc r8)),(31,(i_ r9)),(32,.tup [(Qs r11),(i_ r12)]),(33,(Qe r2)),(34,.agg [(l_ r3.zD),(i_ r3.zH),.nils 1,(Qg r3.zG)]),(35,.tup [(Qs r11),(i_ r12)]),(36,(Qs r11)),(37,(i_ r12)),(38,.tup [.d (.lst 1 (List.map (eL 1 (eI .i64)) r14)),(i_ r15)]),(39,(Qs r11)),(40,.tup [.own 1 (List.map (eL 1 (eI .i64)) r14),(i_ r15)]),(41,.d (.lst 1 (List.map (eL 1 (eI .i64)) r14))),(42,(i_ r15)),(43,.tup [(l_ r17),(l_ r18),(i_ r19),(i_ r20)]),(44,(Qe r2)),(45,.agg [(l_ r3.zD),(i_ r3.zH),.nils 1,(Qg r3.zG)]),(46,(l_ [0])),(47,.tup [(l_ r17),(l_ r18),(i_ r19),(i_ r20)]),(48,(l_ r17)),(49,(l_ r18)),(50,(i_ r19)),(51,(i_ r20)),(52,(i_ r6)),(53,(b_ (r6==0))),(54,(b_ (r6==0))),(55,(Qc r5)),(56,.agg [(i_ 0),(i_ 0)]),(57,.agg [(i_ 1),(i_ 1)]),(58,.d (.lst 2 (List.map Q0 [(Qb.mk 0 0),(Qb.mk 1 1)]))),(59,(b_ x23)),(60,(b_ x23)),(61,(b_ x23)),(62,(i_ r9)),(63,(b_ (r9==0))),(64,(b_ (r9==0))),(65,(b_ (r9==0))),(66,(Qc r8)),(67,.agg [(i_ 2),(i_ 1)]),(68,.d (.lst 2 (List.map Q0 [(Qb.mk 2 1)])))],Qi Γ.n0 (bxs [(2,.cells ([(l_ r3.zD),(i_ r3.zH),.nils 1,(Qg r3.zG)])),(7,.cells ((Q2 r11)))]) M,Γ.n0+121⟩;exact Qes 68 [.int .i64 2,.int .i64 1] rfl rfl ⟨sq,sq,(fPtr rfl),sq,sq,sq,sq,(fPtr rfl),sq,sq,sq,sq,sq,sq,sq,sq,sq,sq,sq,sq,sq,sq,sq,sq,sq,sq,sq,sq,sq,sq,sq,sq,sq,sq,sq,sq,sq,sq,sq,sq,sq,sq,sq,sq,sq,sq,sq,sq,sq,sq,sq,sq,sq,sq,sq,sq,sq,sq,sq,sq,sq,sq,sq,sq,sq,sq,sq,sq,(fSl rfl rfl),tv⟩ ⟨bS rfl rfl rfl,bS rfl rfl rfl,tv⟩ rfl) ?_;refine cl (Hbu _ _) h (cq fun x27 h=>?_);refine Z 2 0 ?_;refine bs h (fun _ h=>?_) (fun _ h=>Y);refine Z 4 0 ?_;refine bs h (fun _ h=>?_) (fun _ h=>Y);refine Z 4 0 ?_;refine bs h (fun _ h=>?_) (fun _ h=>Y);refine Z 5 0 ?_;refine bs h (fun _ h=>?_) (fun _ h=>Y);refine Z 4 1 ?_;intro x32 h;refine Rn.weak (by show WeakSt Γ _ ⟨look [(0,(b_ false)),(1,(Qe r2)),(2,.ptr (Γ.n0+2) 0),(3,(Qc r5)),(4,(i_ r6)),(5,(Qc r8)),(6,(i_ r9)),(7,.ptr (Γ.n0+7) 0),(8,(i_ r12)),(9,.d (.lst 1 (List.map (eL 1 (eI .i64)) r14))),(10,(i_ r15)),(11,(l_ r17)),(12,(l_ r18)),(13,(i_ r19)),(14,(i_ r20)),(15,.tup [(Qe r2),.agg [(l_ r3.zD),(i_ r3.zH),.nils 1,(Qg r3.zG)]]),(16,.tup [(Qe r2),.agg [(l_ r3.zD),(i_ r3.zH),.nils 1,(Qg r3.zG)]]),(17,(Qe r2)),(18,.agg [(l_ r3.zD),(i_ r3.zH),.nils 1,(Qg r3.zG)]),(19,.tup [(Qc r5),(i_ r6)]),(20,(Qe r2)),(21,.agg [(l_ r3.zD),(i_ r3.zH),.nils 1,(Qg r3.zG)]),(22,.tup [(Qo r5),(i_ r6)]),(23,(Qc r5)),(24,(i_ r6)),(25,.tup [(Qc r8),(i_ r9)]),(26,(Qe r2)),(27,.agg [(l_ r3.zD),(i_ r3.zH),.nils 1,(Qg r3.zG)]),(28,(l_ [1])),(29,.tup [(Qo r8),(i_ r9)]),(30,(Qc r8)),(31,(i_ r9)),(32,.tup [(Qs r11),(i_ r12)]),(33,(Qe r2)),(34,.agg [(l_ r3.zD),(i_ r3.zH),.nils 1,(Qg r3.zG)]),(35,.tup [(Qs r11),(i_ r12)]),(36,(Qs r11)),(37,(i_ r12)),(38,.tup [.d (.lst 1 (List.map (eL 1 (eI .i64)) r14)),(i_ r15)]),(39,(Qs r11)),(40,.tup [.own 1 (List.map (eL 1 (eI .i64)) r14),(i_ r15)]),(41,.d (.lst 1 (List.map (eL 1 (eI .i64)) r14))),(42,(i_ r15)),(43,.tup [(l_ r17),(l_ r18),(i_ r19),(i_ r20)]),(44,(Qe r2)),(45,.agg [(l_ r3.zD),(i_ r3.zH),.nils 1,(Qg r3.zG)]),(46,(l_ [0])),(47,.tup [(l_ r17),(l_ r18),(i_ r19),(i_ r20)]),(48,(l_ r17)),(49,(l_ r18)),(50,(i_ r19)),(51,(i_ r20)),(52,(i_ r6)),(53,(b_ (r6==0))),(54,(b_ (r6==0))),(55,(Qc r5)),(56,.agg [(i_ 0),(i_ 0)]),(57,.agg [(i_ 1),(i_ 1)]),(58,.d (.lst 2 (List.map Q0 [(Qb.mk 0 0),(Qb.mk 1 1)]))),(59,(b_ x23)),(60,(b_ x23)),(61,(b_ x23)),(62,(i_ r9)),(63,(b_ (r9==0))),(64,(b_ (r9==0))),(65,(b_ (r9==0))),(66,(Qc r8)),(67,.agg [(i_ 2),(i_ 1)]),(68,.d (.lst 2 (List.map Q0 [(Qb.mk 2 1)]))),(69,(b_ x27)),(70,(b_ x27)),(71,(b_ x27)),(72,(i_ r12)),(73,(b_ (r12==0))),(74,(b_ (r12==0))),(75,(b_ (r12==0))),(76,(i_ r15)),(77,(b_ (r15==0))),(78,(b_ (r15==0))),(79,(b_ (r15==0))),(80,.d (.lst 1 (List.map (eL 1 (eI .i64)) r14))),(81,(i_ (r14.length:Int))),(82,(b_ ((r14.length:Int)==1))),(83,(b_ ((r14.length:Int)==1))),(84,(b_ ((r14.length:Int)==1))),(85,.d (.lst 1 (List.map (eL 1 (eI .i64)) r14))),(86,.cref ((eL 1 (eI .i64)) x32)),(87,(l_ x32)),(88,(l_ [0]))],Qi Γ.n0 (bxs [(2,.cells ([(l_ r3.zD),(i_ r3.zH),.nils 1,(Qg r3.zG)])),(7,.cells ((Q2 r11)))]) M,Γ.n0+121⟩;exact Qes 88 [.int .i64 0] rfl rfl ⟨sq,sq,(fPtr rfl),sq,sq,sq,sq,(fPtr rfl),sq,sq,sq,sq,sq,sq,sq,sq,sq,sq,sq,sq,sq,sq,sq,sq,sq,sq,sq,sq,sq,sq,sq,sq,sq,sq,sq,sq,sq,sq,sq,sq,sq,sq,sq,sq,sq,sq,sq,sq,sq,sq,sq,sq,sq,sq,sq,sq,sq,sq,sq,sq,sq,sq,sq,sq,sq,sq,sq,sq,sq,sq,sq,sq,sq,sq,sq,sq,sq,sq,sq,sq,sq,sq,sq,sq,sq,sq,sq,sq,(fSl rfl rfl),tv⟩ ⟨bS rfl rfl rfl,bS rfl rfl rfl,tv⟩ rfl) ?_;refine cl (Hdf _ _) h (cq fun x35 h=>?_);refine Z 2 0 ?_;refine bs h (fun _ h=>?_) (fun _ h=>Y);refine Z 7 1 ?_;intro x37 h;refine bs h (fun _ h=>?_) (fun _ h=>Y);refine Z 4 0 ?_;refine bs h (fun _ h=>?_) (fun _ h=>Y);refine Z 4 0 ?_;refine bs h (fun _ h=>?_) (fun _ h=>Y);refine Z 2 0 ?_;refine Rn.weak (by show WeakSt Γ _ ⟨look [(0,(b_ false)),(1,(Qe r2)),(2,.ptr (Γ.n0+2) 0),(3,(Qc r5)),(4,(i_ r6)),(5,(Qc r8)),(6,(i_ r9)),(7,.ptr (Γ.n0+7) 0),(8,(i_ r12)),(9,.d (.lst 1 (List.map (eL 1 (eI .i64)) r14))),(10,(i_ r15)),(11,(l_ r17)),(12,(l_ r18)),(13,(i_ r19)),(14,(i_ r20)),(15,.tup [(Qe r2),.agg [(l_ r3.zD),(i_ r3.zH),.nils 1,(Qg r3.zG)]]),(16,.tup [(Qe r2),.agg [(l_ r3.zD),(i_ r3.zH),.nils 1,(Qg r3.zG)]]),(17,(Qe r2)),(18,.agg [(l_ r3.zD),(i_ r3.zH),.nils 1,(Qg r3.zG)]),(19,.tup [(Qc r5),(i_ r6)]),(20,(Qe r2)),(21,.agg [(l_ r3.zD),(i_ r3.zH),.nils 1,(Qg r3.zG)]),(22,.tup [(Qo r5),(i_ r6)]),(23,(Qc r5)),(24,(i_ r6)),(25,.tup [(Qc r8),(i_ r9)]),(26,(Qe r2)),(27,.agg [(l_ r3.zD),(i_ r3.zH),.nils 1,(Qg r3.zG)]),(28,(l_ [1])),(29,.tup [(Qo r8),(i_ r9)]),(30,(Qc r8)),(31,(i_ r9)),(32,.tup [(Qs r11),(i_ r12)]),(33,(Qe r2)),(34,.agg [(l_ r3.zD),(i_ r3.zH),.nils 1,(Qg r3.zG)]),(35,.tup [(Qs r11),(i_ r12)]),(36,(Qs r11)),(37,(i_ r12)),(38,.tup [.d (.lst 1 (List.map (eL 1 (eI .i64)) r14)),(i_ r15)]),(39,(Qs r11)),(40,.tup [.own 1 (List.map (eL 1 (eI .i64)) r14),(i_ r15)]),(41,.d (.lst 1 (List.map (eL 1 (eI .i64)) r14))),(42,(i_ r15)),(43,.tup [(l_ r17),(l_ r18),(i_ r19),(i_ r20)]),(44,(Qe r2)),(45,.agg [(l_ r3.zD),(i_ r3.zH),.nils 1,(Qg r3.zG)]),(46,(l_ [0])),(47,.tup [(l_ r17),(l_ r18),(i_ r19),(i_ r20)]),(48,(l_ r17)),(49,(l_ r18)),(50,(i_ r19)),(51,(i_ r20)),(52,(i_ r6)),(53,(b_ (r6==0))),(54,(b_ (r6==0))),(55,(Qc r5)),(56,.agg [(i_ 0),(i_ 0)]),(57,.agg [(i_ 1),(i_ 1)]),(58,.d (.lst 2 (List.map Q0 [(Qb.mk 0 0),(Qb.mk 1 1)]))),(59,(b_ x23)),(60,(b_ x23)),(61,(b_ x23)),(62,(i_ r9)),(63,(b_ (r9==0))),(64,(b_ (r9==0))),(65,(b_ (r9==0))),(66,(Qc r8)),(67,.agg [(i_ 2),(i_ 1)]),(68,.d (.lst 2 (List.map Q0 [(Qb.mk 2 1)]))),(69,(b_ x27)),(70,(b_ x27)),(71,(b_ x27)),(72,(i_ r12)),(73,(b_ (r12==0))),(74,(b_ (r12==0))),(75,(b_ (r12==0))),(76,(i_ r15)),(77,(b_ (r15==0))),(78,(b_ (r15==0))),(79,(b_ (r15==0))),(80,.d (.lst 1 (List.map (eL 1 (eI .i64)) r14))),(81,(i_ (r14.length:Int))),(82,(b_ ((r14.length:Int)==1))),(83,(b_ ((r14.length:Int)==1))),(84,(b_ ((r14.length:Int)==1))),(85,.d (.lst 1 (List.map (eL 1 (eI .i64)) r14))),(86,.cref ((eL 1 (eI .i64)) x32)),(87,(l_ x32)),(88,(l_ [0])),(89,(b_ x35)),(90,(b_ x35)),(91,(b_ x35)),(92,.d (.lst 1 (List.map (eL 1 (eI .i64)) r14))),(93,.cref ((eL 1 (eI .i64)) x37)),(94,(l_ x37)),(95,(i_ (x37.length:Int))),(96,(b_ ((x37.length:Int)==1))),(97,(b_ ((x37.length:Int)==1))),(98,(b_ ((x37.length:Int)==1))),(99,(i_ r20)),(100,(b_ (r20==0))),(101,(b_ (r20==0))),(102,(b_ (r20==0))),(103,(i_ r19)),(104,(b_ (r19==3))),(105,(b_ (r19==3))),(106,(b_ (r19==3))),(107,(l_ r17)),(108,(l_ [0,2]))],Qi Γ.n0 (bxs [(2,.cells ([(l_ r3.zD),(i_ r3.zH),.nils 1,(Qg r3.zG)])),(7,.cells ((Q2 r11)))]) M,Γ.n0+121⟩;exact Qes 108 [.int .i64 0,.int .i64 2] rfl rfl ⟨sq,sq,(fPtr rfl),sq,sq,sq,sq,(fPtr rfl),sq,sq,sq,sq,sq,sq,sq,sq,sq,sq,sq,sq,sq,sq,sq,sq,sq,sq,sq,sq,sq,sq,sq,sq,sq,sq,sq,sq,sq,sq,sq,sq,sq,sq,sq,sq,sq,sq,sq,sq,sq,sq,sq,sq,sq,sq,sq,sq,sq,sq,sq,sq,sq,sq,sq,sq,sq,sq,sq,sq,sq,sq,sq,sq,sq,sq,sq,sq,sq,sq,sq,sq,sq,sq,sq,sq,sq,sq,sq,sq,sq,sq,sq,sq,sq,sq,sq,sq,sq,sq,sq,sq,sq,sq,sq,sq,sq,sq,sq,sq,(fSl rfl rfl),tv⟩ ⟨bS rfl rfl rfl,bS rfl rfl rfl,tv⟩ rfl) ?_;refine cl (Hdf _ _) h (cq fun x43 h=>?_);refine Z 2 0 ?_;refine bs h (fun _ h=>?_) (fun _ h=>Y);refine Z 5 0 ?_;refine bs h (fun _ h=>?_) (fun _ h=>Y);refine Z 2 0 ?_;refine Rn.weak (by show WeakSt Γ _ ⟨look [(0,(b_ false)),(1,(Qe r2)),(2,.ptr (Γ.n0+2) 0),(3,(Qc r5)),(4,(i_ r6)),(5,(Qc r8)),(6,(i_ r9)),(7,.ptr (Γ.n0+7) 0),(8,(i_ r12)),(9,.d (.lst 1 (List.map (eL 1 (eI .i64)) r14))),(10,(i_ r15)),(11,(l_ r17)),(12,(l_ r18)),(13,(i_ r19)),(14,(i_ r20)),(15,.tup [(Qe r2),.agg [(l_ r3.zD),(i_ r3.zH),.nils 1,(Qg r3.zG)]]),(16,.tup [(Qe r2),.agg [(l_ r3.zD),(i_ r3.zH),.nils 1,(Qg r3.zG)]]),(17,(Qe r2)),(18,.agg [(l_ r3.zD),(i_ r3.zH),.nils 1,(Qg r3.zG)]),(19,.tup [(Qc r5),(i_ r6)]),(20,(Qe r2)),(21,.agg [(l_ r3.zD),(i_ r3.zH),.nils 1,(Qg r3.zG)]),(22,.tup [(Qo r5),(i_ r6)]),(23,(Qc r5)),(24,(i_ r6)),(25,.tup [(Qc r8),(i_ r9)]),(26,(Qe r2)),(27,.agg [(l_ r3.zD),(i_ r3.zH),.nils 1,(Qg r3.zG)]),(28,(l_ [1])),(29,.tup [(Qo r8),(i_ r9)]),(30,(Qc r8)),(31,(i_ r9)),(32,.tup [(Qs r11),(i_ r12)]),(33,(Qe r2)),(34,.agg [(l_ r3.zD),(i_ r3.zH),.nils 1,(Qg r3.zG)]),(35,.tup [(Qs r11),(i_ r12)]),(36,(Qs r11)),(37,(i_ r12)),(38,.tup [.d (.lst 1 (List.map (eL 1 (eI .i64)) r14)),(i_ r15)]),(39,(Qs r11)),(40,.tup [.own 1 (List.map (eL 1 (eI .i64)) r14),(i_ r15)]),(41,.d (.lst 1 (List.map (eL 1 (eI .i64)) r14))),(42,(i_ r15)),(43,.tup [(l_ r17),(l_ r18),(i_ r19),(i_ r20)]),(44,(Qe r2)),(45,.agg [(l_ r3.zD),(i_ r3.zH),.nils 1,(Qg r3.zG)]),(46,(l_ [0])),(47,.tup [(l_ r17),(l_ r18),(i_ r19),(i_ r20)]),(48,(l_ r17)),(49,(l_ r18)),(50,(i_ r19)),(51,(i_ r20)),(52,(i_ r6)),(53,(b_ (r6==0))),(54,(b_ (r6==0))),(55,(Qc r5)),(56,.agg [(i_ 0),(i_ 0)]),(57,.agg [(i_ 1),(i_ 1)]),(58,.d (.lst 2 (List.map Q0 [(Qb.mk 0 0),(Qb.mk 1 1)]))),(59,(b_ x23)),(60,(b_ x23)),(61,(b_ x23)),(62,(i_ r9)),(63,(b_ (r9==0))),(64,(b_ (r9==0))),(65,(b_ (r9==0))),(66,(Qc r8)),(67,.agg [(i_ 2),(i_ 1)]),(68,.d (.lst 2 (List.map Q0 [(Qb.mk 2 1)]))),(69,(b_ x27)),(70,(b_ x27)),(71,(b_ x27)),(72,(i_ r12)),(73,(b_ (r12==0))),(74,(b_ (r12==0))),(75,(b_ (r12==0))),(76,(i_ r15)),(77,(b_ (r15==0))),(78,(b_ (r15==0))),(79,(b_ (r15==0))),(80,.d (.lst 1 (List.map (eL 1 (eI .i64)) r14))),(81,(i_ (r14.length:Int))),(82,(b_ ((r14.length:Int)==1))),(83,(b_ ((r14.length:Int)==1))),(84,(b_ ((r14.length:Int)==1))),(85,.d (.lst 1 (List.map (eL 1 (eI .i64)) r14))),(86,.cref ((eL 1 (eI .i64)) x32)),(87,(l_ x32)),(88,(l_ [0])),(89,(b_ x35)),(90,(b_ x35)),(91,(b_ x35)),(92,.d (.lst 1 (List.map (eL 1 (eI .i64)) r14))),(93,.cref ((eL 1 (eI .i64)) x37)),(94,(l_ x37)),(95,(i_ (x37.length:Int))),(96,(b_ ((x37.length:Int)==1))),(97,(b_ ((x37.length:Int)==1))),(98,(b_ ((x37.length:Int)==1))),(99,(i_ r20)),(100,(b_ (r20==0))),(101,(b_ (r20==0))),(102,(b_ (r20==0))),(103,(i_ r19)),(104,(b_ (r19==3))),(105,(b_ (r19==3))),(106,(b_ (r19==3))),(107,(l_ r17)),(108,(l_ [0,2])),(109,(b_ x43)),(110,(b_ x43)),(111,(b_ x43)),(112,(l_ r17)),(113,(i_ (r17.length:Int))),(114,(b_ ((r17.length:Int)==2))),(115,(b_ ((r17.length:Int)==2))),(116,(b_ ((r17.length:Int)==2))),(117,(l_ r18)),(118,(l_ [0]))],Qi Γ.n0 (bxs [(2,.cells ([(l_ r3.zD),(i_ r3.zH),.nils 1,(Qg r3.zG)])),(7,.cells ((Q2 r11)))]) M,Γ.n0+121⟩;exact Qes 118 [.int .i64 0] rfl rfl ⟨sq,sq,(fPtr rfl),sq,sq,sq,sq,(fPtr rfl),sq,sq,sq,sq,sq,sq,sq,sq,sq,sq,sq,sq,sq,sq,sq,sq,sq,sq,sq,sq,sq,sq,sq,sq,sq,sq,sq,sq,sq,sq,sq,sq,sq,sq,sq,sq,sq,sq,sq,sq,sq,sq,sq,sq,sq,sq,sq,sq,sq,sq,sq,sq,sq,sq,sq,sq,sq,sq,sq,sq,sq,sq,sq,sq,sq,sq,sq,sq,sq,sq,sq,sq,sq,sq,sq,sq,sq,sq,sq,sq,sq,sq,sq,sq,sq,sq,sq,sq,sq,sq,sq,sq,sq,sq,sq,sq,sq,sq,sq,sq,sq,sq,sq,sq,sq,sq,sq,sq,sq,sq,(fSl rfl rfl),tv⟩ ⟨bS rfl rfl rfl,bS rfl rfl rfl,tv⟩ rfl) ?_;refine cl (Hdf _ _) h (cq fun _ h=>?_);exact Y
theorem Qqn {P:Program} {c:Nat} (hcf:Qr P c=some Qlr) (fuel:Nat):Qit P c (Qc1 fuel):=by
 intro f1 r h;refine Qcj hcf rfl fun Γ M hP hnt hM=>?_;subst hP;refine ini ?_;refine Z 9 0 ?_;refine cw h [] [1] (fun ov35 e=>(3,(Qo1 ov35))::e) (fun _ l=>l) ke (fun _ h=>?_) (fun ov35 h=>Y);refine Z 5 0 ?_;refine lw h [1] [1] (fun (ov2,i3) e=>(3,(Qo1 ov2))::(4,(i_ i3))::e) (fun _ l=>l) ke wk (fun _ ⟨ov2,i3⟩ h=>?_);refine Z 6 0 ?_;refine ci h rfl (fun h=>?_) (fun h=>Y);refine Z 9 0 ?_;refine Rn.weak (by show WeakSt Γ _ ⟨look [(1,.ptr (Γ.n0+1) 0),(3,(Qo1 ov2)),(4,(i_ i3)),(6,(i_ i3)),(7,(b_ (decide (i3<5)))),(10,(i_ i3)),(11,.d (.int .u8 (IntKind.wrap .u8 i3))),(12,.d (.int .u8 (IntKind.wrap .u8 (97+(IntKind.wrap .u8 i3))))),(13,.d (.lst 1 (List.map (eI .u8) [(IntKind.wrap .u8 (97+(IntKind.wrap .u8 i3)))])))],Qi Γ.n0 (bxs [(1,.cells ([.d (.int .u8 f1.1),.d (.int .u8 f1.2.1),.d (.int .u8 f1.2.2.1),.d (.int .u8 f1.2.2.2.1),.d (.int .u8 f1.2.2.2.2)]))]) M,Γ.n0+55⟩;exact Qes 13 [.int .u8 (IntKind.wrap .u8 (97+(IntKind.wrap .u8 i3)))] rfl rfl ⟨(fPtr rfl),sq,sq,sq,sq,sq,sq,sq,(fSl rfl rfl),tv⟩ ⟨bS rfl rfl rfl,tv⟩ rfl) ?_;refine Rn.bstr (xs:=[(IntKind.wrap .u8 (97+(IntKind.wrap .u8 i3)))]) tv rfl ?_;refine Z 4 0 ?_;refine cw h [1,3,4,5] [1] (fun _ e=>e) (fun (c28,c29,c30,c31,c32) l=>(5,.cells ([.d (.str c28),(b_ c29),(b_ c30),(b_ c31),(i_ c32)]))::l) ke (fun _ h=>?_) (fun ⟨c28,c29,c30,c31,c32⟩ h=>Y);refine cw h [1,3,4,5] [1] (fun (x13,c14) e=>(25,(b_ x13))::e) (fun (x13,c14) l=>(5,.cells ([.d (.str c14),(b_ false),(b_ false),(b_ false),(i_ 0)]))::l) ke (fun _ h=>?_) (fun ⟨x13,c14⟩ h=>?_)
 ·refine Z 2 0 ?_;obtain ⟨⟨⟩,h6,h⟩:=bnd h;refine Rn.idxArr (o':=0+(Int.toNat i3*1)) tv rfl rfl rfl h6 ?_;obtain ⟨x7,h8,h⟩:=bnd h;refine Rn.loadArr (e:=(fun (z:Int)=>.int .u8 z)) (pre:=[]) (post:=[]) tv rfl rfl (Qcm rfl) rfl rfl h8 ?_;refine Z 2 0 ?_;refine bi h (fun hb9 h=>?_) (fun hb9 h=>Y);refine Z 1 0 ?_;obtain ⟨⟨⟩,h10,h⟩:=bnd h;refine Rn.idxArr (o':=0+(Int.toNat i3*1)) (gw rfl hb9) rfl rfl rfl h10 ?_;obtain ⟨x11,h12,h⟩:=bnd h;refine Rn.loadArr (e:=(fun (z:Int)=>.int .u8 z)) (pre:=[]) (post:=[]) (gw rfl hb9) rfl rfl (Qcm rfl) rfl rfl h12 ?_;exact Y
 ·refine cd h rfl (fun h=>?_) (fun h=>?_)
  ·refine Z 2 0 ?_;obtain ⟨⟨⟩,h16,h⟩:=bnd h;refine Rn.idxArr (o':=0+(Int.toNat i3*1)) tv rfl rfl rfl h16 ?_;obtain ⟨x17,h18,h⟩:=bnd h;refine Rn.loadArr (e:=(fun (z:Int)=>.int .u8 z)) (pre:=[]) (post:=[]) tv rfl rfl (Qcm rfl) rfl rfl h18 ?_;exact Y
  ·refine Z 2 0 ?_;obtain ⟨⟨⟩,h19,h⟩:=bnd h;refine Rn.idxArr (o':=0+(Int.toNat i3*1)) tv rfl rfl rfl h19 ?_;obtain ⟨x20,h21,h⟩:=bnd h;refine Rn.loadArr (e:=(fun (z:Int)=>.int .u8 z)) (pre:=[]) (post:=[]) tv rfl rfl (Qcm rfl) rfl rfl h21 ?_;refine Z 3 0 ?_;obtain ⟨⟨⟩,h22,h⟩:=bnd h;refine Rn.idxArr (o':=0+(Int.toNat i3*1)) tv rfl rfl rfl h22 ?_;obtain ⟨x23,h24,h⟩:=bnd h;refine Rn.loadArr (e:=(fun (z:Int)=>.int .u8 z)) (pre:=[]) (post:=[]) tv rfl rfl (Qcm rfl) rfl rfl h24 ?_;refine Z 3 0 ?_;obtain ⟨⟨⟩,h25,h⟩:=bnd h;refine Rn.idxArr (o':=0+(Int.toNat i3*1)) tv rfl rfl rfl h25 ?_;obtain ⟨x26,h27,h⟩:=bnd h;refine Rn.loadArr (e:=(fun (z:Int)=>.int .u8 z)) (pre:=[]) (post:=[]) tv rfl rfl (Qcm rfl) rfl rfl h27 ?_;exact Y
theorem Qnf {P:Program} {c:Nat} (hcf:Qr P c=some Qjz) (fuel:Nat):Qgy P c (Qcq fuel):=by
 intro s1 r h;refine Qcj hcf rfl fun Γ M hP hnt hM=>?_;subst hP;refine ini ?_;refine Z 8 0 ?_;refine cw h [] [] (fun ov12 e=>(3,(o_ ov12))::e) (fun _ l=>l) ke (fun _ h=>?_) (fun ov12 h=>Y);refine Z 5 0 ?_;refine lw h [0] [] (fun (ov2,i3) e=>(3,(o_ ov2))::(4,(i_ i3))::e) (fun _ l=>l) ke wk (fun _ ⟨ov2,i3⟩ h=>?_);refine Z 6 0 ?_;refine ci h rfl (fun h=>?_) (fun h=>Y);refine Tr.skip ?_;refine cw h [0,4] [] (fun ov11 e=>(3,(o_ ov11))::e) (fun _ l=>l) ke (fun _ h=>?_) (fun ov11 h=>Y);refine Z 5 0 ?_;obtain ⟨s6,h7,h⟩:=bnd h;refine Rn.bin tv rfl rfl (Q4v h7) ?_;refine Z 3 0 ?_;exact cd h rfl (fun h=>Y) (fun h=>Y)
theorem Qro {P:Program} {c:Nat} (hcf:Qr P c=some Qmr):Qg9 P c (Qbk):=by
 intro av1 r h;refine Qcj hcf rfl fun Γ M hP hnt hM=>?_;subst hP;refine ini ?_;refine Z 9 1 ?_;intro x2 h;refine Rn.buildT (v:=.agg [(o_ x2),(i_ 0),.nils 1,.nils 3]) tv rfl ?_;exact Y
theorem Qsm {P:Program} {c:Nat} (hcf:Qr P c=some Qnr) (fuel:Nat):Qho P c (Qbw fuel):=by
 intro a1 sv2 ev3 r h;refine Qcj hcf rfl fun Γ M hP hnt hM=>?_;subst hP;refine ini ?_;refine Z 11 0 ?_;refine lw h [1,2,3] [3] (fun i4 e=>(7,(i_ i4))::e) (fun _ l=>l) ke wk (fun _ i4 h=>?_);refine Z 9 0 ?_;refine ci h rfl (fun h=>?_) (fun h=>Y);refine Z 3 0 ?_;refine cw h [1,2,3,7] [3] (fun x12 e=>(32,(b_ x12))::e) (fun _ l=>l) ke (fun _ h=>?_) (fun x12 h=>?_)
 ·refine Z 10 1 ?_;intro _ h;exact bs h (fun _ h=>Y) (fun _ h=>Y)
 ·exact cd h rfl (fun h=>Y) (fun h=>Y)
theorem Qtc {P:Program} {c:Nat} (hcf:Qr P c=some Qo9) (fuel:Nat):Qib P c (Qb4 fuel):=by
 intro l1 n2 r h;refine Qcj hcf rfl fun Γ M hP hnt hM=>?_;subst hP;refine ini ?_;refine Z 10 0 ?_;refine lw h [0,1] [] (fun i3 e=>(5,(i_ i3))::e) (fun _ l=>l) ke wk (fun _ i3 h=>?_);refine Z 8 0 ?_;refine ci h rfl (fun h=>?_) (fun h=>Y);refine Z 12 1 ?_;intro _ h;exact cd h rfl (fun h=>Y) (fun h=>Y)
theorem Qrp {P:Program} {c:Nat} {Qb4:_} {Qbw:_}
    (Hca:Qib P 120 Qb4)
    (Hbz:Qho P 121 Qbw) (hcf:Qr P c=some Qms) (fuel:Nat):Qjh P c (Qda Qb4 Qbw fuel):=by
 intro a1 r h;refine Qcj hcf rfl fun Γ M hP hnt hM=>?_;subst hP;refine ini ?_;refine Z 9 0 ?_;refine cw h [1] [1] (fun ov5 e=>(3,(o_ ov5))::e) (fun _ l=>l) ke (fun _ h=>?_) (fun ov5 h=>?_)
 ·refine Z 6 0 ?_;refine ci h rfl (fun h=>?_) (fun h=>Y);refine Z 3 0 ?_;refine Rn.weak (wS [0,1,2,3,7,8,9,11] [1,11] (fun e=>(10,.own 1 (List.map (eI .i64) []))::e) (fun l=>l) ke wk) ?_;exact Y
 ·refine cw h [] [1] (fun ov29 e=>(3,(o_ ov29))::e) (fun _ l=>l) ke (fun _ h=>?_) (fun ov29 h=>Y);refine Z 5 0 ?_;refine lw h [1] [1] (fun (ov6,i7) e=>(3,(o_ ov6))::(4,(i_ i7))::e) (fun _ l=>l) ke wk (fun _ ⟨ov6,i7⟩ h=>?_);refine Z 8 0 ?_;refine ci h rfl (fun h=>?_) (fun h=>Y);refine Tr.skip ?_;refine cw h [1,4] [1] (fun ov28 e=>(3,(o_ ov28))::e) (fun _ l=>l) ke (fun _ h=>?_) (fun ov28 h=>Y);refine Z 6 0 ?_;refine lw h [1,4] [1] (fun (ov10,k11) e=>(3,(o_ ov10))::(5,(i_ k11))::e) (fun _ l=>l) ke wk (fun _ ⟨ov10,k11⟩ h=>?_);refine Z 9 0 ?_;refine ci h rfl (fun h=>?_) (fun h=>Y);refine Tr.skip ?_;refine cw h [1,4,5] [1] (fun ov27 e=>(3,(o_ ov27))::e) (fun _ l=>l) ke (fun _ h=>?_) (fun ov27 h=>Y);refine Z 13 1 ?_;intro _ _ h;refine cl (Hbz _ _ _) h (cq fun _ h=>?_);refine Z 2 0 ?_;refine cw h [1,3,4,5,6] [1] (fun x23 e=>(44,(b_ x23))::e) (fun _ l=>l) ke (fun _ h=>?_) (fun x23 h=>?_)
  ·refine Z 4 0 ?_;refine bi h (fun _ h=>?_) (fun _ h=>Y);refine Z 2 0 ?_;refine cl (Hca _ _) h (cq fun _ h=>?_);exact Y
  ·exact cd h rfl (fun h=>Y) (fun h=>Y)
theorem Qrq {P:Program} {c:Nat} (hcf:Qr P c=some Qmt) (fuel:Nat):Qji P c (Qdb fuel):=by
 intro l1 n2 r h;refine Qcj hcf rfl fun Γ M hP hnt hM=>?_;subst hP;refine ini ?_;refine Z 10 0 ?_;refine lw h [0,1] [] (fun i3 e=>(5,(i_ i3))::e) (fun _ l=>l) ke wk (fun _ i3 h=>?_);refine Z 8 0 ?_;refine ci h rfl (fun h=>?_) (fun h=>Y);refine Z 12 1 ?_;intro _ h;exact cd h rfl (fun h=>Y) (fun h=>Y)
theorem Qoa {P:Program} {c:Nat} {Qbk:_} {Qda:_} {Qb4:_} {Qbw:_} {Qdb:_}
    (Hbx:Qg9 P 88 Qbk)
    (Hby:Qjh P 119 Qda)
    (Hca:Qib P 120 Qb4)
    (Hbz:Qho P 121 Qbw)
    (Hcb:Qji P 122 Qdb) (hcf:Qr P c=some Qke) (fuel:Nat):Qhh P c (Qce Qbk Qda Qb4 Qbw Qdb fuel):=by
 intro a1 r h;refine Qcj hcf rfl fun Γ M hP hnt hM=>?_;subst hP;refine ini ?_;refine Z 8 0 ?_;refine cl (Hby _) h (cq fun x3 h=>?_);refine Z 6 0 ?_;refine cl (Hbx _) h (cq fun x5 h=>?_);refine Z 10 0 ?_;refine cw h [2,4] [1] (fun _ e=>e) (fun (c42,c43,c44,ov45,ov46) l=>(2,.cells ([(o_ c42),(i_ 0),(o_ c43),(Qv c44)]))::(4,.cells ([(l_ x5.zD),(i_ (x3.length:Int)),(o_ ov45),(Qv ov46)]))::l) ke (fun _ h=>?_) (fun ⟨c42,c43,c44,ov45,ov46⟩ h=>Y);refine Z 5 0 ?_;refine lw h [1,2,3,4] [1] (fun (i6,c7,c8,c9,ov10,ov11) e=>(5,(i_ i6))::e) (fun (i6,c7,c8,c9,ov10,ov11) l=>(2,.cells ([(o_ c7),(i_ 0),(o_ c8),(Qv c9)]))::(4,.cells ([(l_ x5.zD),(i_ (x3.length:Int)),(o_ ov10),(Qv ov11)]))::l) ke wk (fun _ ⟨i6,c7,c8,c9,ov10,ov11⟩ h=>?_);refine Z 8 0 ?_;refine ci h rfl (fun h=>?_) (fun h=>Y);refine Tr.skip ?_;refine cw h [1,2,3,4,5] [1,2] (fun _ e=>e) (fun (ov40,ov41) l=>(4,.cells ([(l_ x5.zD),(i_ (x3.length:Int)),(o_ ov40),(Qv ov41)]))::l) ke (fun _ h=>?_) (fun ⟨ov40,ov41⟩ h=>Y);refine Tr.block ?_;refine cw h [1,2,3,4,5] [1,2] (fun _ e=>e) (fun ov21 l=>(4,.cells ([(l_ x5.zD),(i_ (x3.length:Int)),(o_ ov21),(Qv ov11)]))::l) ke (fun _ h=>?_) (fun ov21 h=>?_)
 ·refine Z 8 1 ?_;intro _ h;refine cl (Hca _ _) h (cq fun _ h=>?_);refine Z 1 0 ?_;exact cd h rfl (fun h=>Y) (fun h=>Y)
 ·refine Z 5 0 ?_;refine lw h [1,2,3,4,5] [1,2] (fun (k22,ov23) e=>(6,(i_ k22))::e) (fun (k22,ov23) l=>(4,.cells ([(l_ x5.zD),(i_ (x3.length:Int)),(o_ ov21),(Qv ov23)]))::l) ke wk (fun _ ⟨k22,ov23⟩ h=>?_);refine Z 9 0 ?_;refine ci h rfl (fun h=>?_) (fun h=>Y);refine Tr.skip ?_;refine cw h [1,2,3,4,5,6] [1,2] (fun _ e=>e) (fun ov39 l=>(4,.cells ([(l_ x5.zD),(i_ (x3.length:Int)),(o_ ov21),(Qv ov39)]))::l) ke (fun _ h=>?_) (fun ov39 h=>Y);refine Z 13 1 ?_;intro _ _ h;refine cl (Hbz _ _ _) h (cq fun _ h=>?_);refine Z 7 0 ?_;refine ci h rfl (fun h=>?_) (fun h=>Y);refine Z 11 1 ?_;intro _ h;refine cl (Hcb _ _) h (cq fun _ h=>?_);exact Y
theorem Qsn {P:Program} {c:Nat} {Qbk:_} {Qce:_}
    (Hbx:Qg9 P 88 Qbk)
    (Hbw:Qhh P 89 Qce) (hcf:Qr P c=some Qns) (fuel:Nat):Qj5 P c (Qdg Qbk Qce fuel):=by
 intro av1 g2 r h;refine Qcj hcf rfl fun Γ M hP hnt hM=>?_;subst hP;refine ini ?_;refine Z 12 0 ?_;refine ci h rfl (fun h=>?_) (fun h=>?_)
 ·refine Z 3 0 ?_;refine cl (Hbx _) h (cq fun _ h=>?_);exact Y
 ·refine Z 4 0 ?_;refine cl (Hbx _) h (cq fun x7 h=>?_);refine Z 13 0 ?_;refine cw h [4,5] [3] (fun _ e=>e) (fun (c43,c44,c45,a46,a47,a48) l=>(4,.cells ([(o_ c43),(i_ 0),(o_ c44),(Qv c45)]))::(5,.cells ([(l_ x7.zD),(i_ a46),(o_ a47),(Qv a48)]))::l) ke (fun _ h=>?_) (fun ⟨c43,c44,c45,a46,a47,a48⟩ h=>?_)
  ·refine Z 5 0 ?_;refine lw h [0,3,4,5] [3] (fun (i8,c9,c10,c11,a12,a13,a14) e=>(6,(i_ i8))::e) (fun (i8,c9,c10,c11,a12,a13,a14) l=>(4,.cells ([(o_ c9),(i_ 0),(o_ c10),(Qv c11)]))::(5,.cells ([(l_ x7.zD),(i_ a12),(o_ a13),(Qv a14)]))::l) ke wk (fun _ ⟨i8,c9,c10,c11,a12,a13,a14⟩ h=>?_);refine Z 8 0 ?_;refine ci h rfl (fun h=>?_) (fun h=>Y);refine Tr.skip ?_;refine cw h [0,3,4,5,6] [3,4] (fun _ e=>e) (fun (a41,a42) l=>(5,.cells ([(l_ x7.zD),(i_ a12),(o_ a41),(Qv a42)]))::l) ke (fun _ h=>?_) (fun ⟨a41,a42⟩ h=>Y);refine Tr.block ?_;refine cw h [0,3,4,5,6] [3,4] (fun _ e=>e) (fun a22 l=>(5,.cells ([(l_ x7.zD),(i_ a12),(o_ a22),(Qv a14)]))::l) ke (fun _ h=>?_) (fun a22 h=>?_)
   ·refine Z 5 0 ?_;obtain ⟨s17,h18,h⟩:=bnd h;refine Rn.bin tv rfl rfl (Q4v h18) ?_;refine Z 3 0 ?_;exact cd h rfl (fun h=>Y) (fun h=>Y)
   ·refine Z 5 0 ?_;refine lw h [0,3,4,5,6] [3,4] (fun (k23,a24) e=>(7,(i_ k23))::e) (fun (k23,a24) l=>(5,.cells ([(l_ x7.zD),(i_ a12),(o_ a22),(Qv a24)]))::l) ke wk (fun _ ⟨k23,a24⟩ h=>?_);refine Tr.seq ?_;refine cw h [0,3,4,5,6,7] [3,4,5] (fun x27 e=>(47,(b_ x27))::e) (fun _ l=>l) ke (fun _ h=>?_) (fun x27 h=>?_)
    ·refine Z 6 0 ?_;exact bi h (fun _ h=>Y) (fun _ h=>Y)
    ·refine cd h rfl (fun h=>?_) (fun h=>Y);refine Tr.skip ?_;refine cw h [0,3,4,5,6,7] [3,4] (fun _ e=>e) (fun a40 l=>(5,.cells ([(l_ x7.zD),(i_ a12),(o_ a22),(Qv a40)]))::l) ke (fun _ h=>?_) (fun a40 h=>Y);refine Z 6 0 ?_;obtain ⟨⟨⟩,h29,h⟩:=bnd h;refine Rn.idxArr (o':=2+(Int.toNat i8*5)) tv rfl rfl rfl h29 ?_;obtain ⟨⟨⟩,h30,h⟩:=bnd h;refine Rn.idxArr (o':=2+(Int.toNat i8*5+Int.toNat k23*1)) tv rfl rfl (Nat.add_assoc ..).symm h30 ?_;obtain ⟨x31,h32,h⟩:=bnd h;refine Rn.loadArr (e:=(fun (z:Int)=>.int .u8 z)) (pre:=[.d (.int .u8 g2.zH),.d (.int .u8 g2.Marks)]) (post:=[]) tv rfl rfl (Qcm rfl) rfl rfl h32 ?_;refine Z 4 0 ?_;obtain ⟨s33,h34,h⟩:=bnd h;refine Rn.bin tv rfl rfl (Qbgk h34) ?_;refine Z 9 0 ?_;exact ci h rfl (fun h=>Y) (fun h=>Y)
  ·refine Z 3 0 ?_;refine cl (Hbw _) h (cq fun _ h=>?_);exact Y
theorem Qso {P:Program} {c:Nat} {Qc1:_} {Qdg:_} {Qcq:_}
    (Hbk:Qit P 51 Qc1)
    (Hbl:Qj5 P 52 Qdg)
    (Hbm:Qgy P 53 Qcq) (hcf:Qr P c=some Qnt):Qj6 P c (Qdh Qc1 Qdg Qcq):=by
 intro p1 r h;refine Qcj hcf rfl fun Γ M hP hnt hM=>?_;subst hP;refine ini ?_;refine Z 10 0 ?_;refine cl (Hbk _) h (cq fun _ h=>?_);refine Z 2 0 ?_;refine cl (Hbm _) h (cq fun _ h=>?_);refine Z 2 0 ?_;refine cl (Hbl _ _) h (cq fun _ h=>?_);exact Y
end Go.Abs
end
section
namespace Go.Abs
open Go
set_option maxRecDepth 10000
set_option maxHeartbeats 4000000
theorem Qob {P:Program} {c:Nat} {Qbq:_}
    (Hcc:Qg7 P 29 Qbq) (hcf:Qr P c=some Qkf):Qff P c (Qba Qbq):=by
 intro m1 k2 r h;intro M nb hk3;refine Q9b hcf rfl M _ nb (fun hM=>Qwx hM ⟨(ltB hM hk3),tv⟩) fun Γ hP hnt hn0 hM=>?_;subst hP hn0;refine ini ?_;refine Tr.puts [(k2,.cells (Qk m1))] ⟨hk3,tv⟩ ?_;refine Z 3 0 ?_;refine Rn.k (v:=(b_ true)) tv rfl rfl rfl ?_;refine Z 1 0 ?_;refine Tr.condT rfl rfl ?_;refine Z 6 0 ?_;refine Rn.load (v:=(Qq m1.automaton_)) tv rfl (Qia (ltB hM hk3) pg0) rfl rfl ?_;refine Z 3 0 ?_;refine Rn.load (v:=(l_ m1.observable_)) tv rfl (Qia (ltB hM hk3) pg0) rfl rfl ?_;obtain ⟨⟨r5,r6⟩,h4,h⟩:=bnd h;refine Rn.call (args:=[(Qq m1.automaton_),(l_ m1.observable_),.nils 1]) tv rfl (fun M2 nb2=>ACalls.weak (args':=[(Qq m1.automaton_),(l_ m1.observable_),(l_ [])]) (Hcc _ _ _ _ h4 M2 nb2) (cS rfl (cS rfl (.cons (WkV.nilsD _) .nil))) rfl) pc0 ?_;refine Z 5 0 ?_;refine Rn.storeDB (cs':=[(l_ m1.automaton_.zD),(i_ m1.automaton_.zH),(l_ m1.automaton_.zF),(Qg m1.automaton_.zG),(Qc m1.labels_),(l_ m1.observable_),(l_ r5),(o_ m1.seen_)]) tv rfl rfl (ltB hM hk3) pg0 rfl rfl ps0 ?_;refine Z 5 0 ?_;refine Rn.storeB (v:=.nils 1) (cs':=[(l_ m1.automaton_.zD),(i_ m1.automaton_.zH),(l_ m1.automaton_.zF),(Qg m1.automaton_.zG),(Qc m1.labels_),(l_ m1.observable_),(l_ r5),.nils 1]) tv rfl rfl rfl (ltB hM hk3) rfl pg0 rfl rfl ps0 ?_;refine Rn.weak (Q1z (B:=[(k2,.cells ([(l_ m1.automaton_.zD),(i_ m1.automaton_.zH),(l_ m1.automaton_.zF),(Qg m1.automaton_.zG),(Qc m1.labels_),(l_ m1.observable_),(l_ r5),.nils 1]))]) (B':=[(k2,.cells ([(l_ m1.automaton_.zD),(i_ m1.automaton_.zH),(l_ m1.automaton_.zF),(Qg m1.automaton_.zG),(Qc m1.labels_),(l_ m1.observable_),(l_ r5),.own 1 (List.map (eI .i64) [])]))]) ⟨⟨rfl,(cS rfl (cS rfl (cS rfl (cS rfl (cS rfl (cS rfl (cS rfl (.cons (WkV.nilsO _) .nil))))))))⟩,tv⟩ (by show WeakSt Γ _ ⟨look [(0,.ptr k2 0),(2,.ptr k2 0),(3,(b_ true)),(4,.tup [(l_ r5),(i_ r6)]),(5,.ptr k2 0),(6,.ptr k2 0),(7,.ptr k2 0),(8,.ptr k2 0),(9,(Qq m1.automaton_)),(10,.ptr k2 0),(11,.ptr k2 0),(12,.ptr k2 5),(13,(l_ m1.observable_)),(14,.tup [(l_ r5),(i_ r6)]),(15,(l_ r5)),(16,(i_ r6)),(17,.ptr k2 0),(18,.ptr k2 6),(19,.ptr k2 0),(20,.ptr k2 0),(21,.ptr k2 7)],Qi Γ.n0 (bxs []) (Mem.puts M [(k2,.cells ([(l_ m1.automaton_.zD),(i_ m1.automaton_.zH),(l_ m1.automaton_.zF),(Qg m1.automaton_.zG),(Qc m1.labels_),(l_ m1.observable_),(l_ r5),.own 1 (List.map (eI .i64) [])]))]),Γ.n0+22⟩;exact Qiy [] ⟨(Qn7 (ltB hM hk3)),(Qn7 (ltB hM hk3)),sq,sq,(Qn7 (ltB hM hk3)),(Qn7 (ltB hM hk3)),(Qn7 (ltB hM hk3)),(Qn7 (ltB hM hk3)),sq,(Qn7 (ltB hM hk3)),(Qn7 (ltB hM hk3)),(Qn7 (ltB hM hk3)),sq,sq,sq,sq,(Qn7 (ltB hM hk3)),(Qn7 (ltB hM hk3)),(Qn7 (ltB hM hk3)),(Qn7 (ltB hM hk3)),(Qn7 (ltB hM hk3)),tv⟩ tv rfl)) ?_;exact Y
theorem Qxy {P:Program} {c:Nat} {Q6:_} {Qba:_} {Qt:_} {Qbv:_}
    (Hau:Qgh P 18 Q6)
    (Hba:Qff P 37 Qba)
    (Hbi:Qeb P 54 Qt)
    (Hac:Qhm P 74 Qbv) (hcf:Qr P c=some Qt7):Qpa P c (Qfq Q6 Qba Qt Qbv):=by
 intro ev1 a2 r h M nb;refine Qbgr hcf rfl M (Mem.puts M []) nb (fun hM=>hM) fun Γ hP hnt hn0 hM=>?_;subst hP hn0;refine Tr.init [(0,(Qe ev1)),(1,(Qq a2))] rfl ?_;refine Z 10 0 ?_;refine cl (Hau _ _) h (cq fun ⟨r4,r5,r6⟩ h=>?_);refine Z 15 0 ?_;refine cd h rfl (fun h=>?_) (fun h=>?_)
 ·refine Z 7 0 ?_;cases sj h;exact ⟨.inr rfl,.tup [.nilp,(i_ r6)],res2 rfl rfl,(WkV.tup (cS rfl (cS rfl .nil))).rd,⟨tv,tv,tv⟩,tv,fun k hk=>Qcc hk,fun _ _ h=>(by cases h),rfl⟩
 ·refine Z 8 0 ?_;refine cd h rfl (fun h=>?_) (fun h=>?_)
  ·refine Z 6 0 ?_;cases sj h;exact ⟨.inr rfl,.tup [.nilp,(i_ 12)],res2 rfl rfl,(WkV.tup (cS rfl (cS rfl .nil))).rd,⟨tv,tv,tv⟩,tv,fun k hk=>Qcc hk,fun _ _ h=>(by cases h),rfl⟩
  ·refine Z 6 0 ?_;refine cl (Hbi _) h (cq fun _ h=>?_);refine Z 2 0 ?_;refine cl (Hac _ _) h (cq fun x12 h=>?_);refine Rn.buildT (v:=.agg [(l_ r4.zD),(i_ r4.zH),(l_ r4.zF),(Qg r4.zG),(Qc r5),(o_ x12),.nils 1,.nils 1]) tv rfl ?_;refine Z 6 0 ?_;refine Rn.weak (wS [0,1,3,4,5,6,7,8,9,10,11,12,13,14,15,16,17,18,20,21,22,23,24,25,26,27,28,29,30,31,32] [3,6] (fun e=>e) (fun l=>(31,.cells ([(l_ r4.zD),(i_ r4.zH),(l_ r4.zF),(Qg r4.zG),(Qc r5),(l_ x12),(l_ []),.own 1 (List.map (eI .i64) [])]))::l) ke wk) ?_;obtain ⟨c13,h14,h⟩:=bnd h;refine Rn.callW (args:=[.ptr (Γ.n0+31) 0]) (B:=[((Γ.n0+31),.cells (Qk c13))]) tv rfl (Hba _ (Γ.n0+31) _ h14 _ _ (Qcm rfl)) ⟨(.inl (Nat.le_add_right _ _)),tv⟩ (Q42 cw0) rfl ?_;refine Z 8 0 ?_;cases sj h;exact ⟨.inr rfl,.tup [.ptr (Γ.n0+31) 0,(i_ 0)],res2 rfl rfl,(WkV.tup (cS rfl (cS rfl .nil))).rd,⟨(show There _ _ from thN rfl),tv,tv⟩,⟨⟨tv,tv,tv,tv,tv,tv,tv,tv,tv⟩,tv⟩,fun k hk=>Qcc hk,lrAt ⟨(by show Qi Γ.n0 _ _ (Γ.n0+31)=some (.cells (Qk c13));exact Qcm rfl),tv⟩,rfl⟩
theorem Qoc {P:Program} {c:Nat} {Q3:_}
    (Hcu:Qfu P 63 Q3) (hcf:Qr P c=some Qkg):Qhi P c (Qcf Q3):=by
 intro m1 k2 r h M nb hk3;refine Qbh7 hcf rfl M nb fun Γ hP hnt hn0 hM=>?_;subst hP hn0;refine Tr.init [(0,.ptr k2 0)] rfl ?_;refine Z 8 0 ?_;refine Rn.k (v:=(b_ false)) tv rfl rfl rfl ?_;refine Z 1 0 ?_;refine Tr.condF rfl rfl ?_;refine Z 15 0 ?_;refine cl (Hcu _) h (cq fun x5 h=>?_);refine Z 8 0 ?_;cases sj h;exact ⟨.inr rfl,_,rfl,fun _ _ _ _ h=>h,(show There _ _ from thN rfl),⟨⟨tv,tv,tv,tv,tv,tv,tv,tv,tv⟩,tv⟩,fun k hk=>Qcc hk,lrAt ⟨(by show Qi Γ.n0 _ M (Γ.n0+3)=some (.cells [(l_ m1.automaton_.zD),(i_ m1.automaton_.zH),(l_ m1.automaton_.zF),(Qg m1.automaton_.zG),(Qc m1.labels_),(l_ m1.observable_),(l_ m1.estimate_),(o_ x5)]);exact Qcm rfl),tv⟩,rfl⟩
theorem Qvr {P:Program} {c:Nat} {Q4:_} {Qy:_} {Qx:_} {Qu:_} {Qby:_}
    (Hcg:Qfv P 67 Q4)
    (Hcj:Qe2 P 68 Qy)
    (Hco:Qd1 P 72 Qx)
    (Hcm:Qdt P 77 Qu)
    (Hch:Qg6 P 101 Qby) (hcf:Qr P c=some Qrg):Ql5 P c (Qem Q4 Qy Qx Qu Qby):=by
 intro a1 ov2 ev3 ev4 r h;refine Qcj hcf rfl fun Γ M hP hnt hM=>?_;subst hP;refine ini ?_;refine Z 11 0 ?_;refine cl (Hcg _ _) h (cq fun x6 h=>?_);refine Z 7 0 ?_;refine cd h rfl (fun h=>Y) (fun h=>?_);refine Z 7 0 ?_;refine cl (Hch _ _) h (cq fun x9 h=>?_);refine Z 7 0 ?_;refine cd h rfl (fun h=>Y) (fun h=>?_);refine Z 5 0 ?_;refine cl (Hcj _ _) h (cq fun x12 h=>?_);refine Z 9 0 ?_;refine Rn.weak (by show WeakSt Γ _ ⟨look [(0,(Qq a1)),(1,(l_ ov2)),(2,(l_ ev3)),(3,(i_ ev4)),(4,.ptr (Γ.n0+4) 0),(8,.nils 1),(9,(i_ 0)),(10,(i_ x6)),(11,(i_ x9)),(12,.ptr (Γ.n0+12) 0),(13,(Qq a1)),(14,(l_ ov2)),(15,(i_ x6)),(16,(i_ x6)),(17,(b_ (x6 != 0))),(19,(l_ ev3)),(20,.ptr (Γ.n0+4) 1),(21,(i_ a1.zH)),(22,(i_ x9)),(23,(i_ x9)),(24,(b_ (x9 != 0))),(26,(Qq a1)),(27,(l_ ov2)),(28,(Qbj x12)),(29,(Qbj x12)),(30,(i_ ev4)),(31,(l_ [ev4]))],Qi Γ.n0 (bxs [(4,.cells ((Qm a1))),(12,.cells ((Q1 x12)))]) M,Γ.n0+38⟩;exact Qes 31 [.int .i64 ev4] rfl rfl ⟨sq,sq,sq,sq,(fPtr rfl),sq,sq,sq,sq,(fPtr rfl),sq,sq,sq,sq,sq,sq,(fPtr rfl),sq,sq,sq,sq,sq,sq,sq,sq,sq,(fSl rfl rfl),tv⟩ ⟨bS rfl rfl rfl,bS rfl rfl rfl,tv⟩ rfl) ?_;refine cl (Hcm _ _) h (cq fun _ h=>?_);refine Z 2 0 ?_;refine Tr.cond rfl (fun hb15=>?_) (fun hb15=>?_)
 ·have hb15:=nT' hb15;replace h:=bF hb15 h;exact Y
 ·have hb15:=nF' hb15;replace h:=bT hb15 h;refine Z 6 0 ?_;refine cl (Hco _ _ _) h (cq fun _ h=>?_);exact Y
theorem Qmz {P:Program} {c:Nat} {Qbe:_} {Qem:_}
    (Hab:Qgm P 64 Qbe)
    (Hce:Ql5 P 83 Qem) (hcf:Qr P c=some Qjj):Qgn P c (Qb7 Qbe Qem):=by
 intro m1 ev4 k2 r h;intro M nb hk3;refine Q9b hcf rfl M _ nb (fun hM=>Qwx hM ⟨(ltB hM hk3),tv⟩) fun Γ hP hnt hn0 hM=>?_;subst hP hn0;refine ini ?_;refine Tr.puts [(k2,.cells (Qk m1))] ⟨hk3,tv⟩ ?_;refine Z 9 0 ?_;refine Rn.k (v:=(b_ false)) tv rfl rfl rfl ?_;refine Z 2 0 ?_;refine Tr.condF rfl rfl ?_;refine Z 5 0 ?_;refine Rn.load (v:=(l_ m1.observable_)) tv rfl (Qia (ltB hM hk3) pg0) rfl rfl ?_;refine Z 1 0 ?_;refine cl (Hab _ _) h (cq fun _ h=>?_);refine Z 3 0 ?_;refine Tr.cond rfl (fun hb7=>?_) (fun hb7=>?_)
 ·have hb7:=nT' hb7;replace h:=bF hb7 h;exact Y
 ·have hb7:=nF' hb7;replace h:=bT hb7 h;refine Z 5 0 ?_;refine Rn.load (v:=(l_ m1.seen_)) tv rfl (Qia (ltB hM hk3) pg0) rfl rfl ?_;refine Z 4 0 ?_;refine cd h rfl (fun h=>Y) (fun h=>?_);refine Z 6 0 ?_;refine Rn.load (v:=(Qq m1.automaton_)) tv rfl (Qia (ltB hM hk3) pg0) rfl rfl ?_;refine Z 3 0 ?_;refine Rn.load (v:=(l_ m1.observable_)) tv rfl (Qia (ltB hM hk3) pg0) rfl rfl ?_;refine Z 3 0 ?_;refine Rn.load (v:=(l_ m1.estimate_)) tv rfl (Qia (ltB hM hk3) pg0) rfl rfl ?_;refine Z 1 0 ?_;refine cl (Hce _ _ _ _) h (cq fun ⟨r10,_⟩ h=>?_);refine Z 13 0 ?_;refine cd h rfl (fun h=>Y) (fun h=>?_);refine Z 7 0 ?_;refine Rn.storeDB (cs':=[(l_ m1.automaton_.zD),(i_ m1.automaton_.zH),(l_ m1.automaton_.zF),(Qg m1.automaton_.zG),(Qc m1.labels_),(l_ m1.observable_),(l_ r10),(o_ m1.seen_)]) tv rfl rfl (ltB hM hk3) pg0 rfl rfl ps0 ?_;refine Z 7 0 ?_;refine Rn.loadTB (cs':=[(l_ m1.automaton_.zD),(i_ m1.automaton_.zH),(l_ m1.automaton_.zF),(Qg m1.automaton_.zG),(Qc m1.labels_),(l_ m1.observable_),(l_ r10),(l_ m1.seen_)]) tv rfl (ltB hM hk3) pg0 rfl rfl ps0 ?_;refine Z 5 1 ?_;intro x13 h;refine Rn.storeOB (cs':=[(l_ m1.automaton_.zD),(i_ m1.automaton_.zH),(l_ m1.automaton_.zF),(Qg m1.automaton_.zG),(Qc m1.labels_),(l_ m1.observable_),(l_ r10),(o_ x13)]) tv rfl rfl (ltB hM hk3) pg0 rfl rfl ps0 ?_;exact Y
theorem Qng {P:Program} {c:Nat} (hcf:Qr P c=some Qj0) (fuel:Nat):Qgz P c (Qcb fuel):=by
 intro ev1 r h;refine Qcj hcf rfl fun Γ M hP hnt hM=>?_;subst hP;refine ini ?_;refine Z 8 0 ?_;refine cw h [] [] (fun ov12 e=>(3,(o_ ov12))::e) (fun _ l=>l) ke (fun _ h=>?_) (fun ov12 h=>Y);refine Z 5 0 ?_;refine lw h [0] [] (fun (ov2,i3) e=>(3,(o_ ov2))::(4,(i_ i3))::e) (fun _ l=>l) ke wk (fun _ ⟨ov2,i3⟩ h=>?_);refine Z 8 0 ?_;refine ci h rfl (fun h=>?_) (fun h=>Y);refine Tr.skip ?_;refine cw h [0,4] [] (fun ov11 e=>(3,(o_ ov11))::e) (fun _ l=>l) ke (fun _ h=>?_) (fun ov11 h=>Y);refine Z 9 1 ?_;intro _ h;exact cd h rfl (fun h=>Y) (fun h=>Y)
theorem Qtd {P:Program} {c:Nat} (hcf:Qr P c=some Qpb) (fuel:Nat):Qic P c (Qbt fuel):=by
 intro l1 n2 r h;refine Qcj hcf rfl fun Γ M hP hnt hM=>?_;subst hP;refine ini ?_;refine Z 10 0 ?_;refine lw h [0,1] [] (fun i3 e=>(5,(i_ i3))::e) (fun _ l=>l) ke wk (fun _ i3 h=>?_);refine Z 8 0 ?_;refine ci h rfl (fun h=>?_) (fun h=>Y);refine Z 12 1 ?_;intro _ h;exact cd h rfl (fun h=>Y) (fun h=>Y)
theorem Qpc {P:Program} {c:Nat} {Qcb:_} {Qbt:_}
    (Hbr:Qgz P 21 Qcb)
    (Hbp:Qic P 66 Qbt) (hcf:Qr P c=some Qkz) (fuel:Nat):Qh1 P c (Qcn Qcb Qbt fuel):=by
 intro ev1 a2 l3 r h;refine Qcj hcf rfl fun Γ M hP hnt hM=>?_;subst hP;refine ini ?_;refine Z 11 0 ?_;refine lw h [0,2,4] [4] (fun i4 e=>(7,(i_ i4))::e) (fun _ l=>l) ke wk (fun _ i4 h=>?_);refine Z 8 0 ?_;refine ci h rfl (fun h=>?_) (fun h=>Y);refine Z 3 0 ?_;refine cw h [0,2,4,7] [4] (fun x18 e=>(31,(b_ x18))::e) (fun _ l=>l) ke (fun _ h=>?_) (fun x18 h=>?_)
 ·refine Z 2 0 ?_;refine cl (Hbr _) h (cq fun _ h=>?_);refine Z 4 1 ?_;intro _ h;refine cl (Hbp _ _) h (cq fun _ h=>?_);refine Z 2 0 ?_;refine bs h (fun _ h=>?_) (fun _ h=>Y);refine Z 6 1 ?_;intro _ h;refine cl (Hbp _ _) h (cq fun _ h=>?_);exact Y
 ·exact cd h rfl (fun h=>Y) (fun h=>Y)
theorem Qpd {P:Program} {c:Nat} {Q3:_}
    (Hcu:Qfu P 63 Q3) (hcf:Qr P c=some Qk0):Qh2 P c (Qb9 Q3):=by
 intro m1 k2 r h;intro M nb hk3;refine Qwd hcf rfl M nb fun Γ hP hnt hn0 hM=>?_;subst hP hn0;refine ini ?_;refine Z 8 0 ?_;refine Rn.k (v:=(b_ false)) tv rfl rfl rfl ?_;refine Z 1 0 ?_;refine Tr.condF rfl rfl ?_;refine Z 7 0 ?_;refine cl (Hcu _) h (cq fun _ h=>?_);exact Y
theorem Ql6 {P:Program} {c:Nat} {Qbi:_}
    (Hbh:Qg8 P 55 Qbi) (hcf:Qr P c=some Qiz):Qeq P c (Q7 Qbi):=by
 intro m1 k2 r h;intro M nb hk3;refine Qwd hcf rfl M nb fun Γ hP hnt hn0 hM=>?_;subst hP hn0;refine ini ?_;refine Z 8 0 ?_;refine Rn.k (v:=(b_ false)) tv rfl rfl rfl ?_;refine Z 1 0 ?_;refine Tr.condF rfl rfl ?_;refine Z 11 0 ?_;refine cl (Hbh _ _) h (cq fun _ h=>?_);exact Y
theorem Qm0 {P:Program} {c:Nat} {Qz:_} {Q7:_}
    (Hbe:Qfa P 31 Qz)
    (Hay:Qeq P 40 Q7) (hcf:Qr P c=some Qjk):Qgo P c (Qb8 Qz Q7):=by
 intro m1 cv4 k2 r h;intro M nb hk3;refine Qwd hcf rfl M nb fun Γ hP hnt hn0 hM=>?_;subst hP hn0;refine ini ?_;refine Z 9 0 ?_;refine Rn.k (v:=(b_ false)) tv rfl rfl rfl ?_;refine Z 1 0 ?_;refine Tr.condF rfl rfl ?_;refine Z 4 0 ?_;refine cm h (fun _ h5 M2 nb2 hn hx=>Hay _ k2 _ h5 M2 nb2 (hx _ _ (Q4w hM hk3))) rfl (cq fun _ h=>?_);refine Z 1 0 ?_;refine cl (Hbe _ _) h (cq fun ⟨_,_⟩ h=>?_);exact Y
theorem Qlj {P:Program} {c:Nat} {Qc9:_} {Qdh:_} {Qdf:_} {Qbo:_} {Q5:_} {Qcn:_} {Qz:_} {Qfq:_} {Qba:_} {Qb8:_} {Qb7:_} {Q7:_} {Qb9:_} {Qcf:_}
    (Hbq:Qjg P 11 Qc9)
    (Hbn:Qj6 P 12 Qdh)
    (Hdf:Qp9 P 17 Qdf)
    (Hbu:Qhn P 23 Qbo)
    (Haq:Qf6 P 27 Q5)
    (Hbs:Qh1 P 28 Qcn)
    (Hbe:Qfa P 31 Qz)
    (Hbd:Qpa P 35 Qfq)
    (Hba:Qff P 37 Qba)
    (Hbc:Qgo P 38 Qb8)
    (Haz:Qgn P 39 Qb7)
    (Hay:Qeq P 40 Q7)
    (Hbb:Qh2 P 41 Qb9)
    (Hax:Qhi P 42 Qcf) (hcf:Qr P c=some Qik) (fuel:Nat):Qij P c (Qf2 Qc9 Qdh Qdf Qbo Q5 Qcn Qz Qfq Qba Qb8 Qb7 Q7 Qb9 Qcf fuel):=by
 intro p1 w2 rv3 r h;refine Qcj hcf rfl fun Γ M hP hnt hM=>?_;subst hP;refine ini ?_;refine Z 6 0 ?_;refine cu h (fun x7=>⟨look [(1,(l_ w2)),(2,.d (.int .u8 rv3)),(3,.ptr (Γ.n0+3) 0),(32,(b_ x7))],Qi Γ.n0 (bxs [(3,.cells ((Qbx p1)))]) M,Γ.n0+174⟩) (fun _ h=>?_) (fun x7 h=>?_)
 ·refine Tr.rgn ?_;refine cl Hbq h (cq fun _ h=>?_);refine Z 2 0 ?_;exact bs h (fun _ h=>Y) (fun _ h=>Y)
 ·refine cd h rfl (fun h=>?_) (fun h=>?_)
  ·refine Z 2 0 ?_;refine cl Hbq h (cq fun _ h=>?_);exact Y
  ·refine Z 4 0 ?_;refine cl (Hbn _) h (cq fun ⟨r12,r13⟩ h=>?_);refine Z 11 0 ?_;obtain ⟨⟨r14,ok15,r18⟩,h16,h⟩:=bnd h;refine bs h (fun hb17 h=>?_) (fun hb17 h=>?_)
   ·refine Rn.callNW (m:=174) (args:=[(Qe r12),(Qq r13)]) (r':=.tup [.ptr (Γ.n0+205) 0,(i_ r18)]) (B:=[]) (L':=[(205,.cells (Qk r14))]) tv rfl (fun M2 hx0=>have hx:=Qbh8 hx0;nwT hb17 (Hbd _ _ _ h16 M2 _ )) rfl tv tv hM cw0 rfl rfl rfl rfl ?_;refine Z 13 0 ?_;refine cd h rfl (fun h=>?_) (fun h=>?_)
    ·refine Z 3 0 ?_;refine Rn.k (v:=(b_ false)) tv rfl rfl rfl ?_;exact Y
    ·refine Z 5 0 ?_;refine Rn.k (v:=(b_ false)) tv rfl rfl rfl ?_;refine Z 5 0 ?_;refine cd h rfl (fun h=>Y) (fun h=>?_);refine Z 11 0 ?_;refine lo h (fun (sv21,i22,c23,c24,c25,c26,c27,c28,c29,c30)=>⟨look [(1,(l_ w2)),(2,.d (.int .u8 rv3)),(7,(Qe r12)),(8,.ptr (Γ.n0+8) 0),(9,.ptr (Γ.n0+205) 0),(11,(o_ sv21)),(12,(i_ i22))],Qi Γ.n0 (bxs [(3,.cells ((Qbx p1))),(8,.cells ((Qm r13))),(205,.cells ([(l_ c23),(i_ c24),(l_ c25),(Qg c26),(Qc c27),(l_ c28),(l_ c29),(o_ c30)]))]) M,Γ.n0+209⟩) wk (fun _ ⟨sv21,i22,c23,c24,c25,c26,c27,c28,c29,c30⟩ h=>?_);refine Z 8 0 ?_;refine ci h rfl (fun h=>?_) (fun h=>Y);refine Z 3 0 ?_;refine cu h (fun (sv36,c37,c38,c39,c40,c41,c42,c43,c44)=>⟨look [(1,(l_ w2)),(2,.d (.int .u8 rv3)),(7,(Qe r12)),(8,.ptr (Γ.n0+8) 0),(9,.ptr (Γ.n0+205) 0),(11,(o_ sv36)),(12,(i_ i22))],Qi Γ.n0 (bxs [(3,.cells ((Qbx p1))),(8,.cells ((Qm r13))),(205,.cells ([(l_ c37),(i_ c38),(l_ c39),(Qg c40),(Qc c41),(l_ c42),(l_ c43),(o_ c44)]))]) M,Γ.n0+209⟩) (fun _ h=>?_) (fun ⟨sv36,c37,c38,c39,c40,c41,c42,c43,c44⟩ h=>?_)
     ·refine Z 8 0 ?_;refine cd h rfl (fun h=>?_) (fun h=>Y);refine Z 3 0 ?_;obtain ⟨c34,h35,h⟩:=bnd h;refine Rn.callW (args:=[.ptr (Γ.n0+205) 0]) (B:=[((Γ.n0+205),.cells (Qk c34))]) tv rfl (Hba _ (Γ.n0+205) _ h35 _ _ (Qcm rfl)) ⟨(.inl (Nat.le_add_right _ _)),tv⟩ (Q42 cw0) rfl ?_;exact Y
     ·refine Z 3 0 ?_;obtain ⟨x45,h46,h⟩:=bnd h;refine Rn.callNew (m:=209) (args:=[.ptr (Γ.n0+205) 0]) (r':=.ptr (Γ.n0+212) 0) (L':=[(212,.cells (Qk x45))]) tv rfl (Hax _ (Γ.n0+205) _ h46 _ _ (Qcm rfl)) rfl rfl rfl hM rfl ?_;refine Z 9 1 ?_;intro x47 h;obtain ⟨⟨r49,c50⟩,h51,h⟩:=bnd h;refine Rn.callW (args:=[.ptr (Γ.n0+205) 0,(i_ x47)]) (B:=[((Γ.n0+205),.cells (Qk c50))]) tv rfl (Haz _ _ (Γ.n0+205) _ h51 _ _ (Qcm rfl)) ⟨(.inl (Nat.le_add_right _ _)),tv⟩ (Q42 cw0) rfl ?_;refine Z 11 1 ?_;intro _ h;refine cl (Hbs _ _ _) h (cq fun _ h=>?_);refine Z 15 1 ?_;intro _ x58 x60 h;refine cu h (fun wv67=>⟨look [(1,(l_ w2)),(2,.d (.int .u8 rv3)),(7,(Qe r12)),(8,.ptr (Γ.n0+8) 0),(9,.ptr (Γ.n0+205) 0),(11,(o_ sv36)),(12,(i_ i22)),(13,.ptr (Γ.n0+212) 0),(14,(i_ r49)),(15,(i_ wv67)),(16,(o_ x60))],Qi Γ.n0 (bxs [(3,.cells ((Qbx p1))),(8,.cells ((Qm r13))),(89,.cells ([])),(96,.cells ([(i_ x58)])),(205,.cells (Qk c50)),(212,.cells (Qk x45))]) M,Γ.n0+224⟩) (fun _ h=>?_) (fun wv67 h=>?_)
      ·refine Z 5 0 ?_;refine cd h rfl (fun h=>?_) (fun h=>Y);refine Z 5 0 ?_;refine cl (Haq _ _ _) h (cq fun ⟨_,_⟩ h=>?_);refine Z 12 0 ?_;exact cd h rfl (fun h=>Y) (fun h=>Y)
      ·refine Tr.seq ?_;refine cu h (fun x73=>⟨look [(1,(l_ w2)),(2,.d (.int .u8 rv3)),(7,(Qe r12)),(8,.ptr (Γ.n0+8) 0),(9,.ptr (Γ.n0+205) 0),(11,(o_ sv36)),(12,(i_ i22)),(15,(i_ wv67)),(16,(o_ x60)),(123,(b_ x73))],Qi Γ.n0 (bxs [(3,.cells ((Qbx p1))),(8,.cells ((Qm r13))),(89,.cells ([])),(96,.cells ([(i_ x58)])),(205,.cells (Qk c50)),(212,.cells (Qk x45))]) M,Γ.n0+224⟩) (fun _ h=>?_) (fun x73 h=>?_)
       ·refine Z 5 0 ?_;refine bs h (fun hb68 h=>Y) (fun hb68 h=>?_);refine Z 1 0 ?_;refine Rn.k (v:=(b_ false)) (gw rfl hb68) rfl rfl rfl ?_;refine Z 3 0 ?_;refine cm h (fun _ h69 M2 nb2 hn hx=>Hbb _ (Γ.n0+212) _ h69 M2 nb2 (hx _ _ (Qcm rfl))) rfl (cq fun _ h=>?_);refine Z 1 0 ?_;refine cl (Hdf _ _) h (cq fun _ h=>?_);exact Y
       ·refine cd h rfl (fun h=>Y) (fun h=>?_);refine Tr.skip ?_;refine cu h (fun sv76=>⟨look [(1,(l_ w2)),(2,.d (.int .u8 rv3)),(7,(Qe r12)),(8,.ptr (Γ.n0+8) 0),(9,.ptr (Γ.n0+205) 0),(11,(o_ sv76)),(12,(i_ i22))],Qi Γ.n0 (bxs [(3,.cells ((Qbx p1))),(8,.cells ((Qm r13))),(89,.cells ([])),(96,.cells ([(i_ x58)])),(205,.cells (Qk c50)),(212,.cells (Qk x45))]) M,Γ.n0+224⟩) (fun _ h=>?_) (fun sv76 h=>?_)
        ·refine Z 5 0 ?_;exact cd h rfl (fun h=>Y) (fun h=>Y)
        ·refine Z 5 0 ?_;refine cl (Haq _ _ _) h (cq fun ⟨r78,_⟩ h=>?_);refine Z 7 0 ?_;refine cu h (fun x90=>⟨look [(1,(l_ w2)),(2,.d (.int .u8 rv3)),(7,(Qe r12)),(8,.ptr (Γ.n0+8) 0),(9,.ptr (Γ.n0+205) 0),(11,(o_ sv76)),(12,(i_ i22)),(19,(Qc r78)),(149,(b_ x90))],Qi Γ.n0 (bxs [(3,.cells ((Qbx p1))),(8,.cells ((Qm r13))),(89,.cells ([])),(96,.cells ([(i_ x58)])),(205,.cells (Qk c50)),(212,.cells (Qk x45))]) M,Γ.n0+224⟩) (fun _ h=>?_) (fun x90 h=>?_)
         ·refine Z 4 0 ?_;refine bs h (fun _ h=>Y) (fun _ h=>?_);refine Z 1 0 ?_;refine cm h (fun _ h81 M2 nb2 hn hx=>Hay _ (Γ.n0+205) _ h81 M2 nb2 (hx _ _ (Qcm rfl))) rfl (cq fun _ h=>?_);refine Z 1 0 ?_;refine cl (Hbu _ _) h (cq fun _ h=>?_);refine Z 3 0 ?_;refine bs h (fun _ h=>?_) (fun _ h=>Y);refine Z 1 0 ?_;refine cm h (fun _ h86 M2 nb2 hn hx=>Hbb _ (Γ.n0+205) _ h86 M2 nb2 (hx _ _ (Qcm rfl))) rfl (cq fun _ h=>?_);refine Z 1 0 ?_;refine cl (Hdf _ _) h (cq fun _ h=>?_);exact Y
         ·refine cd h rfl (fun h=>Y) (fun h=>?_);refine Z 6 0 ?_;refine lo h (fun cv92=>⟨look [(1,(l_ w2)),(2,.d (.int .u8 rv3)),(7,(Qe r12)),(8,.ptr (Γ.n0+8) 0),(9,.ptr (Γ.n0+205) 0),(11,(o_ sv76)),(12,(i_ i22)),(19,(Qc r78)),(21,(i_ cv92))],Qi Γ.n0 (bxs [(3,.cells ((Qbx p1))),(8,.cells ((Qm r13))),(89,.cells ([])),(96,.cells ([(i_ x58)])),(205,.cells (Qk c50)),(212,.cells (Qk x45))]) M,Γ.n0+224⟩) wk (fun _ cv92 h=>?_);refine Z 6 0 ?_;refine ci h rfl (fun h=>?_) (fun h=>?_)
          ·refine Z 7 0 ?_;refine cm h (fun _ h95 M2 nb2 hn hx=>Hbc _ _ (Γ.n0+205) _ h95 M2 nb2 (hx _ _ (Qcm rfl))) rfl (cq fun ⟨_,_⟩ h=>?_);refine Z 10 0 ?_;refine cl (Hbe _ _) h (cq fun ⟨_,_⟩ h=>?_);refine Z 6 0 ?_;refine cu h (fun x102=>⟨look [(1,(l_ w2)),(2,.d (.int .u8 rv3)),(7,(Qe r12)),(8,.ptr (Γ.n0+8) 0),(9,.ptr (Γ.n0+205) 0),(11,(o_ sv76)),(12,(i_ i22)),(19,(Qc r78)),(21,(i_ cv92)),(173,(b_ x102))],Qi Γ.n0 (bxs [(3,.cells ((Qbx p1))),(8,.cells ((Qm r13))),(89,.cells ([])),(96,.cells ([(i_ x58)])),(205,.cells (Qk c50)),(212,.cells (Qk x45))]) M,Γ.n0+224⟩) (fun _ h=>?_) (fun x102 h=>?_)
           ·refine Z 5 0 ?_;exact bs h (fun _ h=>Y) (fun _ h=>Y)
           ·exact cd h rfl (fun h=>Y) (fun h=>Y)
          ·refine Z 5 0 ?_;refine Rn.weak (σ':=⟨look [(1,(l_ w2)),(2,.d (.int .u8 rv3)),(7,(Qe r12)),(8,.ptr (Γ.n0+8) 0),(9,.ptr (Γ.n0+205) 0),(11,(o_ sv76)),(12,(i_ (IntKind.wrap .i64 (i22+1)))),(19,(Qc r78)),(21,(i_ cv92)),(64,(i_ i22)),(65,(i_ (IntKind.wrap .i64 (i22+1)))),(150,(i_ cv92)),(151,(b_ (decide (cv92≤5))))],Qi Γ.n0 (bxs [(3,.cells ((Qbx p1))),(8,.cells ((Qm r13))),(89,.cells ([])),(96,.cells ([(i_ x58)])),(205,.cells (Qk c50))]) M,Γ.n0+209⟩) (WeakSt.trans (σ':=⟨look [(1,(l_ w2)),(2,.d (.int .u8 rv3)),(7,(Qe r12)),(8,.ptr (Γ.n0+8) 0),(9,.ptr (Γ.n0+205) 0),(11,(o_ sv76)),(12,(i_ (IntKind.wrap .i64 (i22+1)))),(19,(Qc r78)),(21,(i_ cv92)),(64,(i_ i22)),(65,(i_ (IntKind.wrap .i64 (i22+1)))),(150,(i_ cv92)),(151,(b_ (decide (cv92≤5))))],Qi Γ.n0 (bxs [(3,.cells ((Qbx p1))),(8,.cells ((Qm r13))),(89,.cells ([])),(96,.cells ([(i_ x58)])),(205,.cells (Qk c50))]) M,Γ.n0+224⟩) (by exact Qiy [212] ⟨sq,sq,sq,(kPtr rfl),(kPtr rfl),sq,sq,sq,sq,sq,sq,sq,sq,tv⟩ ⟨bS rfl rfl rfl,bS rfl rfl rfl,bS rfl rfl rfl,bS rfl rfl rfl,bS rfl rfl rfl,tv⟩ rfl) (Q9a (m':=224) (m:=209) rfl (Nat.le_trans (Nat.le_of_eq hnt) (Nat.le_of_ble_eq_true rfl)) hM)) ?_;exact Y
   ·refine Rn.callNW (m:=174) (args:=[(Qe r12),(Qq r13)]) (r':=.tup [.nilp,(i_ r18)]) (B:=[]) (L':=[]) tv rfl (fun M2 hx0=>have hx:=Qbh8 hx0;nwF hb17 (Hbd _ _ _ h16 M2 _ )) rfl tv tv hM cw0 rfl rfl rfl rfl ?_;refine Z 13 0 ?_;refine cd h rfl (fun h=>?_) (fun h=>?_)
    ·refine Z 3 0 ?_;refine Rn.k (v:=(b_ true)) tv rfl rfl rfl ?_;exact Y
    ·refine Z 5 0 ?_;refine Rn.k (v:=(b_ true)) tv rfl rfl rfl ?_;refine Z 5 0 ?_;refine Tr.condT rfl rfl ?_;exact Y
theorem Qsp {P:Program} {c:Nat} (hcf:Qr P c=some Qnu):Qj7 P c (Qdi):=by
 intro ev1 x2 y3 r h;refine Qcj hcf rfl fun Γ M hP hnt hM=>?_;subst hP;refine ini ?_;refine Z 32 1 ?_;intro _ h;refine ci h rfl (fun h=>?_) (fun h=>Y);refine Z 5 0 ?_;obtain ⟨s7,h8,h⟩:=bnd h;refine Rn.bin tv rfl rfl (Qbci h8) ?_;exact Y
theorem Qsq {P:Program} {c:Nat} (hcf:Qr P c=some Qnv) (fuel:Nat):Qj8 P c (Qdj fuel):=by
 intro l1 x2 r h;refine Qcj hcf rfl fun Γ M hP hnt hM=>?_;subst hP;refine ini ?_;refine Z 11 0 ?_;refine lw h [0,3] [3] (fun i3 e=>(5,(i_ i3))::e) (fun _ l=>l) ke wk (fun _ i3 h=>?_);refine Z 8 0 ?_;refine ci h rfl (fun h=>?_) (fun h=>Y);refine Z 10 1 ?_;intro x6 h;refine Rn.eqa (r:=((x6.State==x2.State)&&((x6.Classes==x2.Classes)&&true))) tv rfl rfl rfl ?_;refine Z 1 0 ?_;exact cd h rfl (fun h=>Y) (fun h=>Y)
theorem Qrr {P:Program} {c:Nat} {Qdj:_} {Qdi:_} {Qbt:_}
    (Hbo:Qj8 P 45 Qdj)
    (Hbv:Qj7 P 47 Qdi)
    (Hbp:Qic P 66 Qbt) (hcf:Qr P c=some Qmv) (fuel:Nat):Qmu P c (Qha Qdj Qdi Qbt fuel):=by
 intro ev1 a2 r h;refine Qcj hcf rfl fun Γ M hP hnt hM=>?_;subst hP;refine ini ?_;refine Z 10 0 ?_;refine Rn.buildT (v:=.agg [(l_ a2.zD),(i_ 0),.nils 1,.nils 3]) tv rfl ?_;refine Z 10 0 ?_;refine cd h rfl (fun h=>Y) (fun h=>?_);refine Z 7 0 ?_;refine cu h (fun (l52,c53,c54,c55,ov56,ov57)=>⟨look [(4,.ptr (Γ.n0+4) 0),(6,.ptr (Γ.n0+6) 0),(7,(Qo l52))],Qi Γ.n0 (bxs [(3,.cells ((Qm a2))),(4,.cells ([(o_ c53),(i_ 0),(o_ c54),(Qv c55)])),(6,.cells ([(l_ a2.zD),(i_ 0),(o_ ov56),(Qv ov57)]))]) M,Γ.n0+91⟩) (fun _ h=>?_) (fun ⟨l52,c53,c54,c55,ov56,ov57⟩ h=>Y);refine Z 5 0 ?_;refine Tr.weak (by show WeakSt Γ _ ⟨look ((7,.own 2 (List.map Q0 [(Qb.mk 0 0)]))::[(0,(Qe ev1)),(1,(Qq a2)),(3,.ptr (Γ.n0+3) 0),(4,.ptr (Γ.n0+4) 0),(5,.nils 2),(6,.ptr (Γ.n0+6) 0),(8,(i_ 0)),(13,.ptr (Γ.n0+3) 0),(14,(l_ a2.zD)),(15,.agg [(l_ a2.zD),(i_ 0),.nils 1,.nils 3]),(16,.ptr (Γ.n0+3) 1),(17,(i_ a2.zH)),(18,(b_ (a2.zH==0))),(20,.agg [(i_ 0),(i_ 0)])] ),Qi Γ.n0 (bxs [(3,.cells ((Qm a2))),(4,.cells ([.nils 1,(i_ 0),.nils 1,.nils 3])),(6,.cells ([(l_ a2.zD),(i_ 0),.nils 1,.nils 3]))]) M,Γ.n0+91⟩;exact Q1u 21 7 [.int .i64 0,.int .i64 0] rfl rfl rfl rfl rfl ⟨sq,sq,(kPtr rfl),(kPtr rfl),sq,(kPtr rfl),sq,(kPtr rfl),sq,sq,(kPtr rfl),sq,sq,sq,tv⟩ ⟨bS rfl rfl rfl,bS rfl rfl rfl,bS rfl rfl rfl,tv⟩ rfl) ?_;refine lo h (fun (l4,i5,c6,c7,c8,ov9,ov10)=>⟨look [(0,(Qe ev1)),(3,.ptr (Γ.n0+3) 0),(4,.ptr (Γ.n0+4) 0),(6,.ptr (Γ.n0+6) 0),(7,(Qo l4)),(8,(i_ i5))],Qi Γ.n0 (bxs [(3,.cells ((Qm a2))),(4,.cells ([(o_ c6),(i_ 0),(o_ c7),(Qv c8)])),(6,.cells ([(l_ a2.zD),(i_ 0),(o_ ov9),(Qv ov10)]))]) M,Γ.n0+91⟩) wk (fun _ ⟨l4,i5,c6,c7,c8,ov9,ov10⟩ h=>?_);refine Z 8 0 ?_;refine ci h rfl (fun h=>?_) (fun h=>Y);refine Tr.skip ?_;refine cu h (fun (l49,ov50,ov51)=>⟨look [(0,(Qe ev1)),(3,.ptr (Γ.n0+3) 0),(4,.ptr (Γ.n0+4) 0),(6,.ptr (Γ.n0+6) 0),(7,(Qo l49)),(8,(i_ i5))],Qi Γ.n0 (bxs [(3,.cells ((Qm a2))),(4,.cells ([(o_ c6),(i_ 0),(o_ c7),(Qv c8)])),(6,.cells ([(l_ a2.zD),(i_ 0),(o_ ov50),(Qv ov51)]))]) M,Γ.n0+91⟩) (fun _ h=>?_) (fun ⟨l49,ov50,ov51⟩ h=>Y);refine Tr.block ?_;refine cu h (fun ov20=>⟨look [(0,(Qe ev1)),(3,.ptr (Γ.n0+3) 0),(4,.ptr (Γ.n0+4) 0),(6,.ptr (Γ.n0+6) 0),(7,(Qo l4)),(8,(i_ i5))],Qi Γ.n0 (bxs [(3,.cells ((Qm a2))),(4,.cells ([(o_ c6),(i_ 0),(o_ c7),(Qv c8)])),(6,.cells ([(l_ a2.zD),(i_ 0),(o_ ov20),(Qv ov10)]))]) M,Γ.n0+91⟩) (fun _ h=>?_) (fun ov20 h=>?_)
 ·refine Z 9 1 ?_;intro _ h;refine cl (Hbp _ _) h (cq fun _ h=>?_);refine Z 1 0 ?_;exact cd h rfl (fun h=>Y) (fun h=>Y)
 ·refine Z 8 0 ?_;refine lo h (fun (l21,x22,ov23)=>⟨look [(0,(Qe ev1)),(3,.ptr (Γ.n0+3) 0),(4,.ptr (Γ.n0+4) 0),(6,.ptr (Γ.n0+6) 0),(7,(Qo l21)),(8,(i_ i5)),(43,(Qg a2.zG)),(44,(i_ (a2.zG.length:Int))),(45,(i_ x22))],Qi Γ.n0 (bxs [(3,.cells ((Qm a2))),(4,.cells ([(o_ c6),(i_ 0),(o_ c7),(Qv c8)])),(6,.cells ([(l_ a2.zD),(i_ 0),(o_ ov20),(Qv ov23)]))]) M,Γ.n0+91⟩) wk (fun _ ⟨l21,x22,ov23⟩ h=>?_);refine Z 5 0 ?_;refine ci h rfl (fun h=>?_) (fun h=>Y);refine Tr.skip ?_;refine cu h (fun (l44,ov45,y46,y47,y48)=>⟨look [(0,(Qe ev1)),(3,.ptr (Γ.n0+3) 0),(4,.ptr (Γ.n0+4) 0),(6,.ptr (Γ.n0+6) 0),(7,(Qo l44)),(8,(i_ i5)),(43,(Qg a2.zG)),(44,(i_ (a2.zG.length:Int))),(45,(i_ x22))],Qi Γ.n0 (bxs [(3,.cells ((Qm a2))),(4,.cells ([(o_ c6),(i_ 0),(o_ c7),(Qv c8)])),(6,.cells ([(l_ a2.zD),(i_ 0),(o_ ov20),(Qv ov45)])),(10,.cells ([(i_ y46),(i_ y47),(i_ y48)]))]) M,Γ.n0+91⟩) (fun _ h=>?_) (fun ⟨l44,ov45,y46,y47,y48⟩ h=>Y);refine Z 20 1 ?_;intro x26 _ h;refine cd h rfl (fun h=>Y) (fun h=>?_);refine Z 9 1 ?_;intro _ h;refine cl (Hbv _ _ _) h (cq fun x34 h=>?_);refine Z 7 0 ?_;refine cl (Hbo _ _) h (cq fun _ h=>?_);refine Z 2 0 ?_;refine cu h (fun (l40,k41)=>⟨look [(0,(Qe ev1)),(3,.ptr (Γ.n0+3) 0),(4,.ptr (Γ.n0+4) 0),(6,.ptr (Γ.n0+6) 0),(7,(Qo l40)),(8,(i_ i5)),(10,.ptr (Γ.n0+10) 0),(12,(i_ k41)),(43,(Qg a2.zG)),(44,(i_ (a2.zG.length:Int))),(45,(i_ x22))],Qi Γ.n0 (bxs [(3,.cells ((Qm a2))),(4,.cells ([(o_ c6),(i_ 0),(o_ c7),(Qv c8)])),(6,.cells ([(l_ a2.zD),(i_ 0),(o_ ov20),(Qv ov23)])),(10,.cells ((Qjt x26))),(11,.cells ((Qbu x34)))]) M,Γ.n0+91⟩) (fun _ h=>?_) (fun ⟨l40,k41⟩ h=>Y);refine Z 5 0 ?_;exact ci h rfl (fun h=>Y) (fun h=>Y)
end Go.Abs
end
section
namespace Go.Proofs
open Go.Abs
set_option maxRecDepth 100000
theorem Qnh:Qr Tryz.prog 8=some Qik:=by kernel_rfl
theorem Que:Qr Tryz.prog 11=some Qmq:=by kernel_rfl
theorem Qvs:Qr Tryz.prog 12=some Qnt:=by kernel_rfl
theorem Qy5:Qr Tryz.prog 13=some Qrb:=by kernel_rfl
theorem Qy6:Qr Tryz.prog 15=some Qre:=by kernel_rfl
theorem Q6m:Qr Tryz.prog 17=some Qzx:=by kernel_rfl
theorem Qy7:Qr Tryz.prog 18=some Qra:=by kernel_rfl
theorem Quf:Qr Tryz.prog 19=some Qmv:=by kernel_rfl
theorem Qvt:Qr Tryz.prog 20=some Qnp:=by kernel_rfl
theorem Qps:Qr Tryz.prog 21=some Qj0:=by kernel_rfl
theorem Qvu:Qr Tryz.prog 23=some Qnq:=by kernel_rfl
theorem Qvv:Qr Tryz.prog 27=some Qno:=by kernel_rfl
theorem Qrs:Qr Tryz.prog 28=some Qkz:=by kernel_rfl
theorem Qug:Qr Tryz.prog 29=some Qmo:=by kernel_rfl
theorem Qw1:Qr Tryz.prog 31=some Qo6:=by kernel_rfl
theorem Qw2:Qr Tryz.prog 34=some Qo8:=by kernel_rfl
theorem Q13:Qr Tryz.prog 35=some Qt7:=by kernel_rfl
theorem Qy8:Qr Tryz.prog 36=some Qq8:=by kernel_rfl
theorem Qqo:Qr Tryz.prog 37=some Qkf:=by kernel_rfl
theorem Qpe:Qr Tryz.prog 38=some Qjk:=by kernel_rfl
theorem Qpf:Qr Tryz.prog 39=some Qjj:=by kernel_rfl
theorem Qod:Qr Tryz.prog 40=some Qiz:=by kernel_rfl
theorem Qrt:Qr Tryz.prog 41=some Qk0:=by kernel_rfl
theorem Qqp:Qr Tryz.prog 42=some Qkg:=by kernel_rfl
theorem Qvw:Qr Tryz.prog 45=some Qnv:=by kernel_rfl
theorem Qvx:Qr Tryz.prog 47=some Qnu:=by kernel_rfl
theorem Quh:Qr Tryz.prog 50=some Qmk:=by kernel_rfl
theorem Qte:Qr Tryz.prog 51=some Qlr:=by kernel_rfl
theorem Qvy:Qr Tryz.prog 52=some Qns:=by kernel_rfl
theorem Qpt:Qr Tryz.prog 53=some Qjz:=by kernel_rfl
theorem Qtf:Qr Tryz.prog 54=some Qln:=by kernel_rfl
theorem Qxz:Qr Tryz.prog 55=some Qp7:=by kernel_rfl
theorem Qy9:Qr Tryz.prog 56=some Qrc:=by kernel_rfl
theorem Qw3:Qr Tryz.prog 61=some Qo7:=by kernel_rfl
theorem Qx0:Qr Tryz.prog 62=some Qp8:=by kernel_rfl
theorem Qx1:Qr Tryz.prog 63=some Qp5:=by kernel_rfl
theorem Qw4:Qr Tryz.prog 64=some Qo4:=by kernel_rfl
theorem Q14:Qr Tryz.prog 65=some Qt6:=by kernel_rfl
theorem Qw5:Qr Tryz.prog 66=some Qpb:=by kernel_rfl
theorem Qx2:Qr Tryz.prog 67=some Qp6:=by kernel_rfl
theorem Qvz:Qr Tryz.prog 68=some Qnn:=by kernel_rfl
theorem Qpg:Qr Tryz.prog 69=some Qje:=by kernel_rfl
theorem Qm1:Qr Tryz.prog 71=some Qh6:=by kernel_rfl
theorem Qpu:Qr Tryz.prog 72=some Qjy:=by kernel_rfl
theorem Qv0:Qr Tryz.prog 74=some Qnm:=by kernel_rfl
theorem Qqq:Qr Tryz.prog 75=some Qkd:=by kernel_rfl
theorem Qtg:Qr Tryz.prog 76=some Qlp:=by kernel_rfl
theorem Qph:Qr Tryz.prog 77=some Qjc:=by kernel_rfl
theorem Qza:Qr Tryz.prog 78=some Qrd:=by kernel_rfl
theorem Qzb:Qr Tryz.prog 79=some Qq7:=by kernel_rfl
theorem Qz8:Qr Tryz.prog 80=some Qs3:=by kernel_rfl
theorem Qui:Qr Tryz.prog 81=some Qmp:=by kernel_rfl
theorem Qzc:Qr Tryz.prog 82=some Qrf:=by kernel_rfl
theorem Qzd:Qr Tryz.prog 83=some Qrg:=by kernel_rfl
theorem Quj:Qr Tryz.prog 87=some Qml:=by kernel_rfl
theorem Quk:Qr Tryz.prog 88=some Qmr:=by kernel_rfl
theorem Qqr:Qr Tryz.prog 89=some Qke:=by kernel_rfl
theorem Qqs:Qr Tryz.prog 100=some Qkc:=by kernel_rfl
theorem Qul:Qr Tryz.prog 101=some Qmn:=by kernel_rfl
theorem Qpi:Qr Tryz.prog 102=some Qjd:=by kernel_rfl
theorem Qlk:Qr Tryz.prog 105=some Qhk:=by kernel_rfl
theorem Qz9:Qr Tryz.prog 106=some Qs4:=by kernel_rfl
theorem Qth:Qr Tryz.prog 107=some Qlo:=by kernel_rfl
theorem Qti:Qr Tryz.prog 108=some Qlq:=by kernel_rfl
theorem Qni:Qr Tryz.prog 109=some Qih:=by kernel_rfl
theorem Qv1:Qr Tryz.prog 110=some Qnl:=by kernel_rfl
theorem Qtj:Qr Tryz.prog 111=some Qlm:=by kernel_rfl
theorem Qze:Qr Tryz.prog 112=some Qq6:=by kernel_rfl
theorem Qx3:Qr Tryz.prog 118=some Qp3:=by kernel_rfl
theorem Qum:Qr Tryz.prog 119=some Qms:=by kernel_rfl
theorem Qw6:Qr Tryz.prog 120=some Qo9:=by kernel_rfl
theorem Qv2:Qr Tryz.prog 121=some Qnr:=by kernel_rfl
theorem Qun:Qr Tryz.prog 122=some Qmt:=by kernel_rfl
theorem Qw7:Qr Tryz.prog 125=some Qo2:=by kernel_rfl
theorem Qzf:Qr Tryz.prog 129=some Qq9:=by kernel_rfl
theorem Q2w:Qr Tryz.prog 143=some Qwe:=by kernel_rfl
theorem Qx4:Qr Tryz.prog 144=some Qp4:=by kernel_rfl
theorem Qnj:Qr Tryz.prog 145=some Qii:=by kernel_rfl
theorem Q15:Qr Tryz.prog 162=some Qt5:=by kernel_rfl
theorem Quo:Qr Tryz.prog 90=some Qmm:=by kernel_rfl
end Go.Proofs
end
section
namespace Go.Abs
open Go Go.Sort
section plain
variable {β:Type}
def insB (lt:β→β→Bool) (x:β):List β→List β
 | []=>[x]
 | y::ys=>if lt y x then y::insB lt x ys else x::y::ys
def Qnw (lt:β→β→Bool):List β→List β
 | []=>[]
 | x::xs=>insB lt x (Qnw lt xs)
theorem Q16 (lt:β→β→Bool) (x:β):∀ l,(insB lt x l).Perm (x::l)
 | []=>.refl _
 | y::ys=>by
  unfold insB;split
  ·exact ((Q16 lt x ys).cons y).trans (.swap x y ys)
  ·exact .refl _
theorem Qpj (lt:β→β→Bool):∀ l,(Qnw lt l).Perm l
 | []=>.refl _
 | x::xs=>(Q16 lt x _).trans ((Qpj lt xs).cons x)
theorem Qoe (lt:β→β→Bool) (l:List β):(Qnw lt l).length=l.length:=(Qpj lt l).length_eq
theorem Q17 {lt:β→β→Bool} (h:SWO lt) (x:β):∀ l,l.Pairwise (fun a b=>lt b a=false)→(insB lt x l).Pairwise fun a b=>lt b a=false
 | [],_=>by simp [insB]
 | y::ys,hl=>by
  obtain ⟨h1,h2⟩:=List.pairwise_cons.1 hl;unfold insB;split
  ·rename_i hc;refine List.pairwise_cons.2 ⟨fun z hz=>?_,Q17 h x ys h2⟩;rcases List.mem_cons.1 ((Q16 lt x ys).mem_iff.1 hz) with rfl|hz
   ·cases hb:lt z y with
    | false=>rfl
    | true=>have:=h.trans _ _ _ hc hb;rw [h.irrefl] at this;cases this
   ·exact h1 z hz
  ·rename_i hc;have hc:lt y x=false:=by cases h:lt y x<;>simp_all
   refine List.pairwise_cons.2 ⟨fun z hz=>?_,hl⟩;rcases List.mem_cons.1 hz with rfl|hz
   ·exact hc
   ·exact h.ntrans _ _ _ (h1 z hz) hc
theorem Qof {lt:β→β→Bool} (h:SWO lt):∀ l,(Qnw lt l).Pairwise fun a b=>lt b a=false
 | []=>.nil
 | x::xs=>Q17 h x _ (Qof h xs)
end plain
def Qge (a b:Int):Bool:=decide (a<b)
def Qbef (l:List Int):Option (List Int):=if l.length≤lim then some (Qnw Qge l) else none
end Go.Abs
end
section
namespace Go.Abs
open Go Go.Sort Go.RowKit
theorem Q70 {P:Program} {f:FuncId} {ex:Array Value} {exV:List V} {sz nb:Nat} {M:Mem} (hb:Qh8 P f=true) (hex:∀ g w us,RFs g w exV us→us=ex.toList)
  (h:∀ (p:Option Addr) (cap:Nat) (w:World),Calls P f (#[.slice p 0 cap]++ex) w fun e' w'=>e' = .returned (.tuple #[])∧w'=w) (hexf:V.dems exV=exV:=by rfl) :
  ACalls P f (.d (.lst sz [])::exV) M nb (.tup []) M nb:=by
 refine ACalls.mk' hb (Nat.le_refl _) (by simp only [V.dems,V.dem,hexf]) fun w g us hm hMon hus hfl hons=>?_;obtain ⟨u0,us',rfl,hu0,hus'⟩:=hus;have h1:=hex _ _ _ hus';subst h1;have h2:∃ p cap,u0 = .slice p 0 cap:=by
  have:=RF_d.1 hu0;obtain ⟨a,cap,rfl,_,_⟩:=this;exact ⟨a,cap,rfl⟩
 obtain ⟨p,cap,rfl⟩:=h2;have e1:(Value.slice p 0 cap::ex.toList).toArray = #[.slice p 0 cap]++ex:=by apply Array.ext';simp
 rw [e1];refine (h p cap w).mono ?_;rintro e' w' ⟨rfl,rfl⟩;exact ⟨_,g,rfl,hm,⟨[],rfl,rfl⟩,trivial,hMon,Fr.refl _ _ _⟩
theorem Q18 (l:List Int):(l.mergeSort fun x y=>decide (x≤y))=Qnw Qge l:=by
 have hO:Go.Sort.SWO Qge:=⟨fun x=>by simp [Qge],fun x y z h1 h2=>by simp [Qge] at *;omega,fun x y z h1 h2=>by simp [Qge] at *;omega⟩;refine List.Perm.eq_of_pairwise (le:=fun a b=>Qge b a=false) (fun a b _ _ h1 h2=>by simp [Qge] at *;omega) ?_ (Qof hO l) ((List.mergeSort_perm _ _).trans (Qpj _ l).symm);have:=List.pairwise_mergeSort (le:=fun x y:Int=>decide (x≤y)) (fun a b c h1 h2=>by simp at *;omega) (fun a b=>by simp;omega) l;exact this.imp fun h=>by simp [Qge] at *;omega
end Go.Abs
end
section
namespace Go.Abs
open Go Go.Sort Go.Shelf Go.RowKit Go.Lib Go.Proofs
section
variable {α:Type} [Inhabited α]
end
end Go.Abs
end
section
namespace Go.Abs
open Go Go.RowKit
def Q9f (g:Nat):CFn:=⟨1,4,[.t 2],.seq (.region [⟨some 1,.box 1,[.t 0],false,none⟩,⟨some 2,.mov,[.c .und],false,none⟩] 9 []) (.seq (.region [⟨some 3,.func g,[.t 1],false,none⟩,⟨some 2,.mov,[.t 3],false,none⟩] 9 []) .ret)⟩
theorem Qbeg {P:Program} {c g:Nat} (hcf:Qr P c=some (Q9f g)):Qbed P c g 1 4:=by
 intro x M nb;by_cases hM:∀ k,nb≤k→M k=none
 case neg=>exact Qom (Qhf hcf) (by omega) hM
 by_cases hon:MOn (There M) M
 case neg=>exact ⟨Qhf hcf,by omega,fun w g us _ hm h=>absurd h hon⟩
 refine Qbd9 hcf hM rfl (by omega) fun Γ hP hn ht=>?_;have hlt:∀ k,There M k→k<nb:=fun k hk=>by
  rcases Nat.lt_or_ge k nb with h|h
  ·exact h
  ·simp [There,hM k h] at hk
 subst hn;rw [← Qk6 hM];refine Tr.init [(0,.d x)] rfl ?_;unfold Q9f;refine Tr.seq ?_;refine Tr.rgn ?_;refine Rn.box (v:=.d x) (cs:=[.d x]) trivial rfl rfl rfl rfl rfl ?_;refine Rn.mov (v:=.und) trivial rfl ?_;refine Rn.nil ?_;refine toN ?_;refine Tr.seq ?_;refine Tr.rgn ?_;refine Rn.k (v:=.clo g [.ptr (Γ.n0+1) 0]) trivial rfl rfl rfl ?_;refine Rn.mov (v:=.clo g [.ptr (Γ.n0+1) 0]) trivial rfl ?_;refine Rn.nil ?_;refine toN ?_;refine Tr.ret ?_;rw [Qk6 hM];have hth:There (M.put (Γ.n0+1) (.cells [.d x])) (Γ.n0+1):=by simp [There,Mem.put]
 refine ⟨.inr rfl,.clo g [.ptr (Γ.n0+1) 0],rfl,fun _ _ _ _ h=>h,fun k b hk=>?_,⟨hth,trivial⟩,fun k cs hk=>?_,fun k hk=>?_⟩
 ·show Qi Γ.n0 [(1,.cells [.d x])] M k=some b;have:=Qd0 (n0:=Γ.n0) (L:=[]) (M0:=M) (t:=1) (b:=.cells [.d x]);rw [← this,Qk6 hM];exact hk
 ·by_cases h:k=Γ.n0+1
  ·subst h;rw [Qg4] at hk;cases hk;exact ⟨trivial,trivial⟩
  ·rw [Qci _ _ h] at hk;exact ons_mono (fun j hj=>There.put hj) _ (hon k cs hk)
 ·by_cases h:k=Γ.n0+1
  ·omega
  ·have:There M k:=by simpa [There,Mem.put,h] using hk
   have:=hlt k this;omega
theorem Q9g {imm:Nat→Nat→Prop} {w:World} {b:Nat}:∀ (xs:List Int) (o:Nat),(∀ j x,xs[j]? = some x→imm b (o+j)∧w.cell? ⟨b,o+j,none⟩=some (.int .i64 x))→RDL imm w 1 b (List.map (eI .i64) xs) o
 | [],_,_=>by simp [RDL]
 | x::xs,o,h=>by
  simp only [List.map_cons,RDL];obtain ⟨h1,h2⟩:=h 0 x rfl;refine ⟨rfl,⟨h1,⟨_,h2,rfl⟩,trivial⟩,Q9g xs (o+1) fun j y hj=>?_⟩;have:=h (j+1) y (by simpa using hj)
  rwa [show o+(j+1)=o+1+j from by omega] at this
theorem Q9h {imm:Nat→Nat→Prop} {w:World} {b:Nat}:∀ (xs:List Int) (o:Nat),RDL imm w 1 b (List.map (eI .i64) xs) o→∀ j x,xs[j]? = some x→w.cell? ⟨b,o+j,none⟩=some (.int .i64 x)
 | [],_,_,j,x,hj=>by simp at hj
 | y::ys,o,h,j,x,hj=>by
  simp only [List.map_cons,RDL] at h;obtain ⟨_,⟨_,⟨u,h2,h3⟩,_⟩,h4⟩:=h;cases j with
  | zero =>
   simp at hj;subst hj;have:u = .int .i64 y:=h3;rw [← this];exact h2
  | succ j =>
   have:=Q9h ys (o+1) h4 j x (by simpa using hj)
   rwa [show o+1+j=o+(j+1) from by omega] at this
def Ints (n₀:Nat) (W:World) (sv:Value) (zs:List Int):Prop :=
 (∃ a cap,sv = .slice a 0 cap∧zs=[])∨∃ b off cap,sv = .slice (some ⟨b,off,none⟩) zs.length cap∧b<n₀∧∀ j,j<zs.length→W.cell? ⟨b,off+j,none⟩=some (.int .i64 (zs[j]?.getD 0))
theorem Ints.below {n₀:Nat} {A B:World} (h:Below n₀ A B) {sv:Value} {zs:List Int}:Ints n₀ A sv zs→Ints n₀ B sv zs
 | .inl e=>.inl e
 | .inr ⟨b,off,cap,e,hb,hc⟩=>.inr ⟨b,off,cap,e,hb,fun j hj=>(h.cell (p:=⟨b,off+j,none⟩) hb).trans (hc j hj)⟩
theorem Qbeh {P:Program} {c g:Nat} {t:TypeId} (hb:Qh8 P c=true)
  (hcall:∀ (Bs:Nat) (sv:Value) (zs:List Int) (w:World),zs.length*8≤140737488351232→Bs<w.heap.size→w.cell? ⟨Bs,0,none⟩=some sv→Ints w.heap.size w sv zs →
   Calls P c #[.func (.func g) #[] #[.pointer (some ⟨Bs,0,none⟩)]] w fun e W'=>∃ v,e = .returned v∧W'.ownsRow w.heap.size t 1 v zs.length ((zs.mergeSort fun x y=>decide (x≤y)).map (Value.int .i64))∧Below w.heap.size w W') :
  Qbgq P c g (eI .i64) 1 Qbef:=by
 intro xs ys hf M nb k hM;unfold Qbef at hf;split at hf<;>cases hf;rename_i hlen;refine ACalls.mk' hb (Nat.le_refl _) rfl fun w g0 us hm hMon hus hfl hons=>?_;obtain ⟨u0,us',rfl,hu0,rfl⟩:=hus;obtain ⟨hk0,hown,vals,et,hh,hrv,hone⟩:=hm.box k _ hM;obtain ⟨vs,rfl,hvs⟩ : ∃ vs:List Value,u0 = .func (.func g) #[] vs.toArray∧RVs g0 w [.ptr k 0] .ext 0 vs:=by
  have:=hu0 .ext;simpa only [RV] using this
 obtain ⟨p,_,rfl,hp,rfl⟩:=hvs;simp only [RV] at hp;subst hp;obtain ⟨sv,_,rfl,hsv,rfl⟩:=hrv;simp only [RV] at hsv;obtain ⟨a,cap,rfl,hcap,hcells⟩:=hsv;have hBs:g0.box k<w.heap.size:=(Array.getElem?_eq_some_iff.1 hh).1;have hI:Ints w.heap.size w (.slice a (List.map (eI .i64) xs).length cap) xs:=by
  rcases hcells with h|⟨b,o,rfl,h⟩
  ·have:xs=[]:=by simpa using h
   subst this;exact .inl ⟨a,cap,rfl,rfl⟩
  ·by_cases h0:xs=[]
   ·subst h0;exact .inl ⟨_,cap,rfl,rfl⟩
   ·have hc:=Q9h xs o h;refine .inr ⟨b,o,cap,by rw [List.length_map],?_,fun j hj=>?_⟩
    ·have h1:0<xs.length:=List.length_pos_iff.2 h0;have:=hc 0 xs[0] (List.getElem?_eq_getElem h1);simp only [World.cell?] at this;cases hbk:w.heap[b]? with
     | none=>simp [hbk] at this
     | some ob=>exact (Array.getElem?_eq_some_iff.1 hbk).1
    ·have:=hc j xs[j] (List.getElem?_eq_getElem hj);rw [this,List.getElem?_eq_getElem hj];rfl
 have hlen8:xs.length*8≤140737488351232:=by unfold lim at hlen;omega
 refine (hcall (g0.box k) _ xs w hlen8 hBs (by simp [World.cell?,hh]) hI).mono ?_;rintro e W' ⟨v,rfl,hrow,hbel⟩;rw [Q18] at hrow;generalize Qnw Qge xs=ys at hrow ⊢;obtain ⟨gb,hgb,hv⟩ : ∃ gb,w.heap.size≤gb∧(ys=[]∧v = .slice none 0 0∨∃ cap,v = .slice (some ⟨gb,0,none⟩) ys.length cap∧ys.length≤cap∧∀ j x,ys[j]? = some x→gb<W'.heap.size∧W'.cell? ⟨gb,j,none⟩=some (.int .i64 x)):=by
  obtain ⟨h1,h2⟩:=hrow;have h1:ys.length=xs.length:=by simpa using h1
  rcases h2 with ⟨rfl,h0⟩|⟨gb,cap,cur,rfl,hbase,hgb,r1,r2,r3,r4⟩
  ·exact ⟨w.heap.size,Nat.le_refl _,.inl ⟨List.eq_nil_of_length_eq_zero (by omega),rfl⟩⟩
  ·refine ⟨gb,hbase,.inr ⟨cap,by rw [h1],by omega,fun j x hj=>⟨(Array.getElem?_eq_some_iff.1 hgb).1,?_⟩⟩⟩;have hj2:=(List.getElem?_eq_some_iff.1 hj).1;have:(cur.toList.take (xs.length*1))[j]? = some (.int .i64 x):=by rw [r4,List.getElem?_map,hj];rfl
   rw [List.getElem?_take_of_lt (by omega)] at this;simp only [World.cell?,hgb];simpa using this
 let g' : G:=⟨g0.box,fun b o=>g0.imm b o∨(b=gb∧o<ys.length),fun b=>if b=gb then .ext else g0.own b⟩;have hne:∀ b,b<w.heap.size→b≠gb:=fun b h=>by omega
 have himm:Imm g0.imm g'.imm w W':=by
  refine ⟨fun _ _ h=>.inl h,fun b o h=>?_⟩;have:=(hm.imm b o h).1;exact Qee (hbel.block b this)
 have hkept:Kept g0 w g' W' (There M) (fun _=>True):=⟨himm,fun _ _=>rfl,fun b _ hl=>⟨by simp [g',hne b hl],hbel.block b hl,fun o=>by simp [g',hne b hl]⟩⟩;refine ⟨v,g',rfl,hm.kept hkept hMon (fun _ _ _=>trivial) trivial (fun _ _=>trivial) fun b o h=>?_,?_,trivial,hMon,?_⟩
 ·rcases h with h|⟨rfl,h⟩
  ·obtain ⟨h1,h2⟩:=hm.imm b o h;refine ⟨Nat.lt_of_lt_of_le h1 hbel.size,fun k=>?_⟩;simp only [g',hne b h1,if_false];exact h2 k
  ·refine ⟨?_,fun k=>by simp [g']⟩;rcases hv with ⟨rfl,_⟩|⟨cap,_,_,hc⟩
   ·simp at h
   ·exact (hc o _ (List.getElem?_eq_getElem h)).1
 ·simp only [RV];rcases hv with ⟨rfl,rfl⟩|⟨cap,rfl,hcp,hc⟩
  ·simp only [RD];exact ⟨none,0,rfl,Nat.le_refl _,.inl rfl⟩
  ·simp only [RD,List.length_map];refine ⟨_,cap,rfl,hcp,.inr ⟨gb,0,rfl,Q9g ys 0 fun j x hj=>?_⟩⟩;rw [Nat.zero_add];have h2:=(hc j x hj).2;exact ⟨⟨.inr ⟨rfl,(List.getElem?_eq_some_iff.1 hj).1⟩,by simp [g'],.inl (by rw [h2];rfl)⟩,h2⟩
 ·exact ⟨hbel.os,hbel.tape,hbel.output,hbel.size,himm,fun _ _=>rfl,fun b hb _=>⟨by simp [g',hne b hb],hbel.block b hb,fun o=>by simp [g',hne b hb]⟩⟩
end Go.Abs
end
section
namespace Go.Abs
def Qbgs (l:List Int):Option (List Int):=if l.length≤lim then some (Qnw Qge l) else none
def keyB (l:List Int):ByteArray:=⟨(l.flatMap fun x=>Lib.encodeRune (x+1)).toArray⟩
def keyS (l:List Int):Option ByteArray:=if l.length≤lim∧∀ x∈l,0≤x∧x<50000 then some (keyB l) else none
def Qbgt (a:Qa):Option (List (List Int)×Int):=if a=⟨[0,1],2,[],[⟨0,0,0⟩]⟩ then some ([[0],[1]],0) else none
def Qbgu (l:List (List Int)):Option Unit:=if l.length≤1 then some () else none
end Go.Abs
end
section
namespace Go.Abs
open Go Go.Abs
set_option maxRecDepth 10000
set_option maxHeartbeats 4000000
def Qbp:Nat:=1099511627776
def Qm2:=Qds
def Qgi:=Qej Qbp
def Qf3:=Qcr Qgi Qbp
def Qhp:=Qc2 Qbp
def Qi0:=Qd7 Qbp
def Qbr:=Ql Qi0
def Qgt:=Qcz Qbr Qbp
def Qgj:=Qch Qhp Qgt
def Qgk:=Qbl Qgj Qf3
def Qku:=Qeg
def Qjv:=Qek Qbp
def Qjl:=Qc7 Qf3 Qku Qjv
def Qdl:=Qt Qjl
def Qkn:=Qe4 Qbp
def Qiu:=Qdk
def Qf7:=Qbv Qkn Qiu
def Qpk:=Qet
def Qkh:=Qgd Qpk
def Qi1:=Qdn
def Qfg:=Qcd Qkh Qi1 Qbp
def Qfe:=Qbe Qfg
def Qiv:=Qc0 Qfe
def Qgu:=Qcl Qbp
def Qcg:=Qw Qgu
def Qex:=Q3
def Qjm:=Qeu
def Qde:=Q6 Qgk Qex Qfe Qjm Qbp
def Qhb:=Qby Qbp
def Qd9:=Q4 Qgj Qhb
def Qd4:=Qy Qbr Qbp
def Qf4:=Qbz Qbr
def Qc4:=Qu Qcg Qf4
def Qbh:=Qbn
def Qdu:=Q8 Qbr Qbgs Qbh Qbp
def Qdv:=Q9 Qdu
def Qdc:=Qx Qdu Qbp
def Qfr:=Qbq Qd9 Qd4 Qdv Qdc Qc4 Qbp
def Qfw:=Qbi Qbp
def Qd5:=Q5 Qde Qfr Qgk Qdl Qfw Qf7 Qcg Qiv
def Qhl:=Qb0 Qbr
def Qh7:=Qb6 Qcg Qhl
def Qnx:=Qd3 Qd9 Qd4 Qdv keyS Qh7 Qdc Qbp
def Qru:=Qe9 Qde Qnx Qdl Qfw Qbp
def Qh3:=Qbm
def Qjw:=Qel Qbp
def Qdd:=Qz Qh3 Qjw
def Qpl:=Qfb
def Qrv:=Qfc Qdd Qh3 Qbgt Qbef Qbgu Qpl Qbp
def Qrw:=Qfd Qex Qd9 Qd4 Qc4 Qbr Qbp
def Qm3:=Qc8 Qdl Qrw Qbp
def Qpm:=Qeh Qde Qd5 Qdd Qgk Qh3 Qm3
def Qe3:=Qbo Qbp
def Qi2:=Qd8 Qbp
def Qk1:=Qdf Qi2
def Qjn:=Qc9 Qru Qrv Qk1 Qe3 Qd5 Qpm Qm2
def Qgv:=Qc1 Qbp
def Qe6:=Qcq Qbp
def Qfs:=Qbk
def Qc3:=Qbw Qbp
def Qdw:=Qb4 Qbp
def Qhc:=Qda Qdw Qc3 Qbp
def Qft:=Qdb Qbp
def Qfh:=Qce Qfs Qhc Qdw Qc3 Qft Qbp
def Qhq:=Qdg Qfs Qfh Qbp
def Qhr:=Qdh Qgv Qhq Qe6
def Qcx:=Qba Qfr
def Qjo:=Qfq Qde Qcx Qdl Qf7
def Qfi:=Qcf Qex
def Qjx:=Qem Qd9 Qd4 Qdc Qc4 Qhb
def Qey:=Qb7 Qfe Qjx
def Qe7:=Qcb Qbp
def Qgp:=Qbt Qbp
def Qfx:=Qcn Qe7 Qgp Qbp
def Qen:=Qb9 Qex
def Qcy:=Q7 Qfw
def Qdx:=Qb8 Qdd Qcy
def Qf5:=Qf2 Qjn Qhr Qk1 Qe3 Qd5 Qfx Qdd Qjo Qcx Qdx Qey Qcy Qen Qfi Qbp
def Qhs:=Qdi
def Qht:=Qdj Qbp
def Qeo:=Qha Qht Qhs Qgp Qbp
end Go.Abs
end
section
namespace Go.Proofs
open Go.Shelf
def Tryz.lays169_ren:Go.Shelf.Ren:=⟨fun|169=>104|n=>n,fun|70=>163|9=>9|0=>0|72=>165|37=>146|127=>211|3=>3|5=>5|n=>n,fun|n=>n⟩
theorem Tryz.lays169:Go.Proofs.Lays.n169 Tryz.prog Tryz.lays169_ren:={
 mixed:=by kernel_rfl
 f169:=Tryz.func104.trans (congrArg some (by kernel_rfl))
 t0:=Tryz.underlying0
 a0:=Tryz.isAgg0
 z0:=Tryz.sizeOf0
 v0:=Tryz.zeroValue0
 t3:=Tryz.underlying3
 a3:=Tryz.isAgg3
 z3:=Tryz.sizeOf3
 v3:=Tryz.zeroValue3
 t9:=Tryz.underlying9
 a9:=Tryz.isAgg9
 z9:=Tryz.sizeOf9
 v9:=Tryz.zeroValue9
 t37:=Tryz.underlying146
 a37:=Tryz.isAgg146
 z37:=Tryz.sizeOf146
 v37:=Tryz.zeroValue146
 t70:=Tryz.underlying163
 a70:=Tryz.isAgg163
 z70:=Tryz.sizeOf163
 v70:=Tryz.zeroValue163
 t72:=Tryz.underlying165
 a72:=Tryz.isAgg165
 z72:=Tryz.sizeOf165
 v72:=Tryz.zeroValue165
 t127:=Tryz.underlying211
 a127:=Tryz.isAgg211
 z127:=Tryz.sizeOf211
 v127:=Tryz.zeroValue211 }
theorem Tryz.Builder_Extra_169:Builder.Extra Tryz.prog Tryz.lays169_ren:={
 sizeBuilder:=by kernel_rfl
 liesBuilder:=by kernel_rfl
 t5:=Tryz.underlying5
 a5:=Tryz.isAgg5
 z5:=Tryz.sizeOf5
 v5:=Tryz.zeroValue5
 infoByte:=by kernel_rfl
 cellsByte:=by kernel_rfl
 sizeByte:=by kernel_rfl
 neB5:=by decide }
def Tryz.lays125_ren:Go.Shelf.Ren:=⟨fun|125=>99|128=>141|129=>142|n=>n,fun|46=>160|3=>3|51=>206|53=>208|4=>4|5=>5|9=>9|n=>n,fun|n=>n⟩
theorem Tryz.lays125:Go.Proofs.Lays.n125 Tryz.prog Tryz.lays125_ren:={
 mixed:=by kernel_rfl
 f125:=Tryz.func99.trans (congrArg some (by kernel_rfl))
 f128:=Tryz.func141.trans (congrArg some (by kernel_rfl))
 f129:=Tryz.func142.trans (congrArg some (by kernel_rfl))
 t3:=Tryz.underlying3
 a3:=Tryz.isAgg3
 z3:=Tryz.sizeOf3
 v3:=Tryz.zeroValue3
 t4:=Tryz.underlying4
 a4:=Tryz.isAgg4
 z4:=Tryz.sizeOf4
 v4:=Tryz.zeroValue4
 t5:=Tryz.underlying5
 a5:=Tryz.isAgg5
 z5:=Tryz.sizeOf5
 v5:=Tryz.zeroValue5
 t9:=Tryz.underlying9
 a9:=Tryz.isAgg9
 z9:=Tryz.sizeOf9
 v9:=Tryz.zeroValue9
 t46:=Tryz.underlying160
 a46:=Tryz.isAgg160
 z46:=Tryz.sizeOf160
 v46:=Tryz.zeroValue160
 t51:=Tryz.underlying206
 a51:=Tryz.isAgg206
 z51:=Tryz.sizeOf206
 v51:=Tryz.zeroValue206
 t53:=Tryz.underlying208
 a53:=Tryz.isAgg208
 z53:=Tryz.sizeOf208
 v53:=Tryz.zeroValue208 }
theorem Tryz.bits_Len (x:Int) (w:World) (h0:0≤x) (h1:x≤18446744073709551615) :
  Calls Tryz.prog 99 #[.int .u64 x] w fun e w'=>e = .returned (.int .i64 (Lib.bitLen x.toNat))∧w'=w:=Any.bits_Len Tryz.lays125 x w h0 h1
open Go.RowKit in
theorem Tryz.Builder_String_any_k (B b:Nat) (l:List UInt8) (w:World) (h:Lib.IsBuilderF 165 5 B b (Lib.byteCells l) w) (hBw:B≤w.heap.size) :
  Calls Tryz.prog 104 #[.pointer (some ⟨b,0,none⟩)] w fun e w'=>e = .returned (.string ⟨l.toArray⟩)∧(Lib.IsBuilderF 165 5 B b (Lib.byteCells l) w'∧Below B w w'∧Lib.OthersKept 5 (some b) w w'):=Any.Builder_String_any_k Tryz.lays169 Tryz.Builder_Extra_169 B b l w h hBw
def Tryz.lays189_ren:Go.Shelf.Ren:=⟨fun|189=>94|125=>99|257=>131|128=>141|129=>142|294=>149|295=>150|296=>151|297=>152|298=>153|299=>154|216=>143|300=>155|301=>156|328=>167|329=>158|330=>159|331=>168|332=>169|215=>162|343=>171|n=>n,fun|28=>32|3=>3|46=>160|0=>0|51=>206|53=>208|4=>4|183=>200|182=>199|131=>122|5=>5|9=>9|218=>217|222=>221|228=>229|229=>181|n=>n,fun|n=>n⟩
theorem Tryz.lays189:Go.Proofs.Lays.n189 Tryz.prog Tryz.lays189_ren:={
 mixed:=by kernel_rfl
 f125:=Tryz.func99.trans (congrArg some (by kernel_rfl))
 f128:=Tryz.func141.trans (congrArg some (by kernel_rfl))
 f129:=Tryz.func142.trans (congrArg some (by kernel_rfl))
 f189:=Tryz.func94.trans (congrArg some (by kernel_rfl))
 f215:=Tryz.func162.trans (congrArg some (by kernel_rfl))
 f216:=Tryz.func143.trans (congrArg some (by kernel_rfl))
 f257:=Tryz.func131.trans (congrArg some (by kernel_rfl))
 f294:=Tryz.func149.trans (congrArg some (by kernel_rfl))
 f295:=Tryz.func150.trans (congrArg some (by kernel_rfl))
 f296:=Tryz.func151.trans (congrArg some (by kernel_rfl))
 f297:=Tryz.func152.trans (congrArg some (by kernel_rfl))
 f298:=Tryz.func153.trans (congrArg some (by kernel_rfl))
 f299:=Tryz.func154.trans (congrArg some (by kernel_rfl))
 f300:=Tryz.func155.trans (congrArg some (by kernel_rfl))
 f301:=Tryz.func156.trans (congrArg some (by kernel_rfl))
 f328:=Tryz.func167.trans (congrArg some (by kernel_rfl))
 f329:=Tryz.func158.trans (congrArg some (by kernel_rfl))
 f330:=Tryz.func159.trans (congrArg some (by kernel_rfl))
 f331:=Tryz.func168.trans (congrArg some (by kernel_rfl))
 f332:=Tryz.func169.trans (congrArg some (by kernel_rfl))
 f343:=Tryz.func171.trans (congrArg some (by kernel_rfl))
 t0:=Tryz.underlying0
 a0:=Tryz.isAgg0
 z0:=Tryz.sizeOf0
 v0:=Tryz.zeroValue0
 t3:=Tryz.underlying3
 a3:=Tryz.isAgg3
 z3:=Tryz.sizeOf3
 v3:=Tryz.zeroValue3
 t4:=Tryz.underlying4
 a4:=Tryz.isAgg4
 z4:=Tryz.sizeOf4
 v4:=Tryz.zeroValue4
 t5:=Tryz.underlying5
 a5:=Tryz.isAgg5
 z5:=Tryz.sizeOf5
 v5:=Tryz.zeroValue5
 t9:=Tryz.underlying9
 a9:=Tryz.isAgg9
 z9:=Tryz.sizeOf9
 v9:=Tryz.zeroValue9
 t28:=Tryz.underlying32
 a28:=Tryz.isAgg32
 z28:=Tryz.sizeOf32
 v28:=Tryz.zeroValue32
 t46:=Tryz.underlying160
 a46:=Tryz.isAgg160
 z46:=Tryz.sizeOf160
 v46:=Tryz.zeroValue160
 t51:=Tryz.underlying206
 a51:=Tryz.isAgg206
 z51:=Tryz.sizeOf206
 v51:=Tryz.zeroValue206
 t53:=Tryz.underlying208
 a53:=Tryz.isAgg208
 z53:=Tryz.sizeOf208
 v53:=Tryz.zeroValue208
 t131:=Tryz.underlying122
 a131:=Tryz.isAgg122
 z131:=Tryz.sizeOf122
 v131:=Tryz.zeroValue122
 t182:=Tryz.underlying199
 a182:=Tryz.isAgg199
 z182:=Tryz.sizeOf199
 v182:=Tryz.zeroValue199
 t183:=Tryz.underlying200
 a183:=Tryz.isAgg200
 z183:=Tryz.sizeOf200
 v183:=Tryz.zeroValue200
 t218:=Tryz.underlying217
 a218:=Tryz.isAgg217
 z218:=Tryz.sizeOf217
 v218:=Tryz.zeroValue217
 t222:=Tryz.underlying221
 a222:=Tryz.isAgg221
 z222:=Tryz.sizeOf221
 v222:=Tryz.zeroValue221
 t228:=Tryz.underlying229
 a228:=Tryz.isAgg229
 z228:=Tryz.sizeOf229
 v228:=Tryz.zeroValue229
 t229:=Tryz.underlying181
 a229:=Tryz.isAgg181
 z229:=Tryz.sizeOf181
 v229:=Tryz.zeroValue181 }
open Go.Sort Go.RowKit in
theorem Tryz.slices_Sort_int (blk off cap:Nat) (zs:List Int) (w:World) (hH:Holds (Value.int .i64) w blk off zs.toArray) (hblk:blk<w.heap.size) (hsz:zs.length<4611686018427387904) :
  Calls Tryz.prog 94 #[.slice (some ⟨blk,off,none⟩) zs.length cap] w fun e w' =>
   e = .returned (.tuple #[])∧∃ n os,w'=grow (putRow (Value.int .i64) (Sort.ahead w n) blk off (zs.mergeSort fun x y=>decide (x≤y)).toArray) os:=Any.slices_Sort_int Tryz.lays189 blk off cap zs w hH hblk hsz
open Go.RowKit Go.Sort in
theorem Tryz.slices_Sort_int_none (p:Option Addr) (cap:Nat) (w:World) :
  Calls Tryz.prog 94 #[.slice p 0 cap] w fun e w'=>e = .returned (.tuple #[])∧w'=w:=Any.slices_Sort_int_none Tryz.lays189 p cap w
def Tryz.laysSlF6_f60_ren:Go.Shelf.Ren:=⟨fun|6=>60|15=>99|14=>98|28=>141|29=>142|20=>133|21=>134|22=>135|23=>136|24=>137|25=>138|26=>139|27=>140|46=>157|47=>158|48=>159|49=>160|50=>161|57=>170|n=>n,fun|22=>45|24=>32|25=>116|3=>3|39=>160|0=>0|53=>206|55=>208|4=>4|46=>200|45=>199|50=>122|5=>5|9=>9|66=>217|70=>221|76=>229|77=>181|n=>n,fun|n=>n⟩
theorem Tryz.laysSlF6_f60:Go.Proofs.SlLaysF.n6 Tryz.prog Tryz.laysSlF6_f60_ren:={
 mixed:=by kernel_rfl
 f6:=⟨Tryz.f60.name,by decide,Tryz.func60.trans (congrArg some (by kernel_rfl))⟩
 f14:=⟨Tryz.f98.name,by decide,Tryz.func98.trans (congrArg some (by kernel_rfl))⟩
 f15:=Tryz.func99.trans (congrArg some (by kernel_rfl))
 f20:=⟨Tryz.f133.name,by decide,Tryz.func133.trans (congrArg some (by kernel_rfl))⟩
 f21:=⟨Tryz.f134.name,by decide,Tryz.func134.trans (congrArg some (by kernel_rfl))⟩
 f22:=⟨Tryz.f135.name,by decide,Tryz.func135.trans (congrArg some (by kernel_rfl))⟩
 f23:=⟨Tryz.f136.name,by decide,Tryz.func136.trans (congrArg some (by kernel_rfl))⟩
 f24:=⟨Tryz.f137.name,by decide,Tryz.func137.trans (congrArg some (by kernel_rfl))⟩
 f25:=⟨Tryz.f138.name,by decide,Tryz.func138.trans (congrArg some (by kernel_rfl))⟩
 f26:=⟨Tryz.f139.name,by decide,Tryz.func139.trans (congrArg some (by kernel_rfl))⟩
 f27:=⟨Tryz.f140.name,by decide,Tryz.func140.trans (congrArg some (by kernel_rfl))⟩
 f28:=Tryz.func141.trans (congrArg some (by kernel_rfl))
 f29:=Tryz.func142.trans (congrArg some (by kernel_rfl))
 f46:=⟨Tryz.f157.name,by decide,Tryz.func157.trans (congrArg some (by kernel_rfl))⟩
 f47:=Tryz.func158.trans (congrArg some (by kernel_rfl))
 f48:=Tryz.func159.trans (congrArg some (by kernel_rfl))
 f49:=⟨Tryz.f160.name,by decide,Tryz.func160.trans (congrArg some (by kernel_rfl))⟩
 f50:=⟨Tryz.f161.name,by decide,Tryz.func161.trans (congrArg some (by kernel_rfl))⟩
 f57:=⟨Tryz.f170.name,by decide,Tryz.func170.trans (congrArg some (by kernel_rfl))⟩
 t0:=Tryz.underlying0
 a0:=Tryz.isAgg0
 z0:=Tryz.sizeOf0
 v0:=Tryz.zeroValue0
 t3:=Tryz.underlying3
 a3:=Tryz.isAgg3
 z3:=Tryz.sizeOf3
 v3:=Tryz.zeroValue3
 t4:=Tryz.underlying4
 a4:=Tryz.isAgg4
 z4:=Tryz.sizeOf4
 v4:=Tryz.zeroValue4
 t5:=Tryz.underlying5
 a5:=Tryz.isAgg5
 z5:=Tryz.sizeOf5
 v5:=Tryz.zeroValue5
 t9:=Tryz.underlying9
 a9:=Tryz.isAgg9
 z9:=Tryz.sizeOf9
 v9:=Tryz.zeroValue9
 t22:=Tryz.underlying45
 a22:=Tryz.isAgg45
 z22:=Tryz.sizeOf45
 v22:=Tryz.zeroValue45
 a24:=Tryz.isAgg32
 z24:=Tryz.sizeOf32
 t25:=Tryz.underlying116
 a25:=Tryz.isAgg116
 z25:=Tryz.sizeOf116
 v25:=Tryz.zeroValue116
 t39:=Tryz.underlying160
 a39:=Tryz.isAgg160
 z39:=Tryz.sizeOf160
 v39:=Tryz.zeroValue160
 t45:=Tryz.underlying199
 a45:=Tryz.isAgg199
 z45:=Tryz.sizeOf199
 v45:=Tryz.zeroValue199
 t46:=Tryz.underlying200
 a46:=Tryz.isAgg200
 z46:=Tryz.sizeOf200
 v46:=Tryz.zeroValue200
 t50:=Tryz.underlying122
 a50:=Tryz.isAgg122
 z50:=Tryz.sizeOf122
 v50:=Tryz.zeroValue122
 t53:=Tryz.underlying206
 a53:=Tryz.isAgg206
 z53:=Tryz.sizeOf206
 v53:=Tryz.zeroValue206
 t55:=Tryz.underlying208
 a55:=Tryz.isAgg208
 z55:=Tryz.sizeOf208
 v55:=Tryz.zeroValue208
 t66:=Tryz.underlying217
 a66:=Tryz.isAgg217
 z66:=Tryz.sizeOf217
 v66:=Tryz.zeroValue217
 t70:=Tryz.underlying221
 a70:=Tryz.isAgg221
 z70:=Tryz.sizeOf221
 v70:=Tryz.zeroValue221
 t76:=Tryz.underlying229
 a76:=Tryz.isAgg229
 z76:=Tryz.sizeOf229
 v76:=Tryz.zeroValue229
 t77:=Tryz.underlying181
 a77:=Tryz.isAgg181
 z77:=Tryz.sizeOf181
 v77:=Tryz.zeroValue181 }
open Go.RowKit Go.Lib Go.Sort in
theorem Tryz.slices_SortFunc_eq {α:Type} [Inhabited α] (enc:α→Value) (h1:OneCell enc) (cf:α→α→Int) (hO:SWO (ltOf cf)) (g:Nat) (cb:Array Value) (blk off cap:Nat) (d:Array α) (w:World) (eg:∀ args w,(callFunc g args).run Tryz.prog w = .ok (.enter g args) w) (hcmp:CmpLays1 Tryz.prog g cb enc cf blk off d.size w) (hH:Holds enc w blk off d) (hblk:blk<w.heap.size) (hsz:d.size<4611686018427387904) :
  Calls Tryz.prog 60 #[.slice (some ⟨blk,off,none⟩) d.size cap,.func (.func g) #[] cb] w fun e w' =>
   e = .returned (.tuple #[])∧∃ n os,w'=sortWorld enc w blk off n (pdq (ltOf cf) d 0 d.size (Lib.bitLen d.size) true true) os:=Any.slices_SortFunc_eq Tryz.laysSlF6_f60 enc h1 cf hO g cb blk off cap d w eg hcmp hH hblk hsz
def Tryz.lays168_ren:Go.Shelf.Ren:=⟨fun|168=>103|240=>146|242=>147|276=>163|278=>164|n=>n,fun|0=>0|3=>3|4=>4|5=>5|9=>9|20=>20|21=>21|37=>146|46=>160|51=>206|70=>163|72=>165|75=>167|80=>170|164=>223|n=>n,fun|n=>n⟩
theorem Tryz.lays168:Go.Proofs.Lays.n168 Tryz.prog Tryz.lays168_ren:={
 mixed:=by kernel_rfl
 f168:=Tryz.func103.trans (congrArg some (by kernel_rfl))
 f240:=Tryz.func146.trans (congrArg some (by kernel_rfl))
 f242:=Tryz.func147.trans (congrArg some (by kernel_rfl))
 f276:=Tryz.func163.trans (congrArg some (by kernel_rfl))
 f278:=Tryz.func164.trans (congrArg some (by kernel_rfl))
 t0:=Tryz.underlying0
 a0:=Tryz.isAgg0
 z0:=Tryz.sizeOf0
 v0:=Tryz.zeroValue0
 t3:=Tryz.underlying3
 a3:=Tryz.isAgg3
 z3:=Tryz.sizeOf3
 v3:=Tryz.zeroValue3
 t4:=Tryz.underlying4
 a4:=Tryz.isAgg4
 z4:=Tryz.sizeOf4
 v4:=Tryz.zeroValue4
 t5:=Tryz.underlying5
 a5:=Tryz.isAgg5
 z5:=Tryz.sizeOf5
 v5:=Tryz.zeroValue5
 t9:=Tryz.underlying9
 a9:=Tryz.isAgg9
 z9:=Tryz.sizeOf9
 v9:=Tryz.zeroValue9
 t20:=Tryz.underlying20
 a20:=Tryz.isAgg20
 z20:=Tryz.sizeOf20
 v20:=Tryz.zeroValue20
 t21:=Tryz.underlying21
 a21:=Tryz.isAgg21
 z21:=Tryz.sizeOf21
 v21:=Tryz.zeroValue21
 t37:=Tryz.underlying146
 a37:=Tryz.isAgg146
 z37:=Tryz.sizeOf146
 v37:=Tryz.zeroValue146
 t46:=Tryz.underlying160
 a46:=Tryz.isAgg160
 z46:=Tryz.sizeOf160
 v46:=Tryz.zeroValue160
 t51:=Tryz.underlying206
 a51:=Tryz.isAgg206
 z51:=Tryz.sizeOf206
 v51:=Tryz.zeroValue206
 t70:=Tryz.underlying163
 a70:=Tryz.isAgg163
 z70:=Tryz.sizeOf163
 v70:=Tryz.zeroValue163
 t72:=Tryz.underlying165
 a72:=Tryz.isAgg165
 z72:=Tryz.sizeOf165
 v72:=Tryz.zeroValue165
 t75:=Tryz.underlying167
 a75:=Tryz.isAgg167
 z75:=Tryz.sizeOf167
 v75:=Tryz.zeroValue167
 t164:=Tryz.underlying223
 a164:=Tryz.isAgg223
 z164:=Tryz.sizeOf223
 v164:=Tryz.zeroValue223 }
theorem Tryz.Builder_Extra_168:Builder.Extra Tryz.prog Tryz.lays168_ren:={
 sizeBuilder:=by kernel_rfl
 liesBuilder:=by kernel_rfl
 t5:=Tryz.underlying5
 a5:=Tryz.isAgg5
 z5:=Tryz.sizeOf5
 v5:=Tryz.zeroValue5
 infoByte:=by kernel_rfl
 cellsByte:=by kernel_rfl
 sizeByte:=by kernel_rfl
 neB5:=by decide }
open Go.RowKit in
theorem Tryz.Builder_WriteRune_k (B b:Nat) (bs:List Value) (r:Int) (hr0 : -2147483648≤r) (hr1:r≤2147483647) (w:World) (h:Lib.IsBuilderF 165 5 B b bs w) (hlen:bs.length+4≤140737488355328) (hBw:B≤w.heap.size) :
  Calls Tryz.prog 103 #[.pointer (some ⟨b,0,none⟩),.int .i32 r] w fun e w'=>e = .returned (.tuple #[.int .i64 (Lib.runeCells r).length,.nilIface])∧(Lib.BuilderAtF 165 5 B b (.pointer (some ⟨b,0,none⟩)) (bs++Lib.runeCells r) w'∧Below B w w'∧Lib.OthersKept 5 (some b) w w'):=Any.Builder_WriteRune_k Tryz.lays168 Tryz.Builder_Extra_168 B b bs r hr0 hr1 w h hlen hBw
end Go.Proofs
end
section
namespace Go.Abs
open Go Go.Sort Go.RowKit
theorem Q19 (xs:List Int):rowV (eI .i64) xs=xs.map (Value.int .i64):=by
 unfold rowV
 induction xs with
 | nil=>rfl
 | cons x xs ih=>simp only [List.map_cons,List.flatten_cons,List.map_append,ih];rfl
theorem Qbcu {P:Program} {c:Nat} (hb:Qh8 P c=true)
  (hs:∀ (blk off cap:Nat) (zs:List Int) (w:World),Holds (Value.int .i64) w blk off zs.toArray→blk<w.heap.size→zs.length<4611686018427387904 →
   Calls P c #[.slice (some ⟨blk,off,none⟩) zs.length cap] w fun e w'=>e = .returned (.tuple #[])∧∃ n os,w'=grow (putRow (Value.int .i64) (Sort.ahead w n) blk off (zs.mergeSort fun x y=>decide (x≤y)).toArray) os)
  (hnone:∀ (p:Option Addr) (cap:Nat) (w:World),Calls P c (#[.slice p 0 cap] ++ #[]) w fun e' w'=>e' = .returned (.tuple #[])∧w'=w) :
  RowK P c (eI .i64) 1 [] (fun l=>if l.length≤lim then some (Qnw Qge l) else none):=by
 have hrow:Qbh1 P c (eI .i64) #[] (fun xs=>Qnw Qge xs):=by
  intro blk cap xs w hcell hblk hsz;refine Calls.mono (hs blk 0 cap xs w ?_ hblk hsz) ?_
  ·intro j hj;have hj' : j<xs.length:=by simpa using hj
   have:=hcell j (by rw [Q19];simpa using hj');rw [Q19] at this;rw [Nat.zero_add];refine ⟨?_,this.2⟩;rw [this.1,getElem!_pos xs.toArray j hj];simp [hj']
  ·rintro e w' ⟨rfl,n,os,rfl⟩;refine ⟨rfl,n,os,?_⟩;rw [Q18,Q19];congr 1;unfold putRow;congr 1;funext c;unfold putCells;congr 1;funext k x;simp only [List.size_toArray,List.length_map];split
   ·rename_i h;simp only [id];rw [getElem!_pos _ _ (by simp;omega),getElem!_pos _ _ (by simp;omega)];simp
   ·rfl
 intro xs ys h;dsimp only at h;split at h<;>cases h;rename_i hl;refine ⟨Qoe _ _,fun h0=>?_,fun hl2 cap k0 M nb hM=>?_⟩
 ·subst h0;exact ⟨rfl,fun M nb=>Q70 (ex:=#[]) (exV:=[]) hb (fun _ _ _ h=>h) hnone⟩
 ·exact Qbag (e:=eI .i64) (fun _=>rfl) (fun _=>rfl) (fun xs=>Qoe _ _) (ex:=#[]) (exV:=[]) (fun _ _ _ h=>h) hb hrow xs cap k0 M nb hM (by unfold lim at hl;omega)
end Go.Abs
end
section
namespace Go.Proofs
open Go.Shelf Go.RowKit Go.Lib Go.Sort Go.Abs
theorem Tryz.rowK94:Go.Abs.RowK Tryz.prog 94 (eI .i64) 1 [] Qbgs :=
 Qbcu (by kernel_rfl) Tryz.slices_Sort_int Tryz.slices_Sort_int_none
end Go.Proofs
end
