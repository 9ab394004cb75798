/-
  Part 9 of the proof: see the last text.
-/
import Derived.Test.YtjngkimolkhdmaaGreatP8
import Derived.Test.YtjngkimolkhdmaaGreatProg
import Derived.KernelRfl
import Derived.Sort.Statements
import Derived.Shelf.SlSortCmp.NoneTotal
import Derived.Lib.RuneBytes
import Derived.Shelf.SortM.Plain
import Derived.Shelf.SortM.SortNone
import Derived.Shelf.Small.Bits
import Derived.Shelf.Strings.BuilderK
import Derived.Shelf.Strings.BuilderRune
import Derived.Shelf.SlGeneric
import Derived.Shelf.Strconv.Itoa0
import Derived.Shelf.Strings.Builder1
import Derived.Shelf.Sort.Plain
import Derived.Shelf.SlSortCmp.Whole1
import Derived.Shelf.Slices.In.SortNone
import Derived.Ground.SlsfProg
import Derived.Ground.Names2Prog
import Derived.WalkKit
import Derived.Shelf.SlIterI.Sorted
import Derived.RangeFuncBox
import Derived.RangeFuncLeaves
import Derived.Shelf.Abstract
import Derived.OwnWalkIn
import Derived.TacticsInMore
import Derived.RegionIn
import Derived.LoopNIn
import Derived.LoopIn
import Derived.BigCall
import Derived.Lib.OthersKept
import Derived.RegionTactic
import Derived.ChangeAlike
set_option linter.unusedVariables false
set_option linter.unusedSimpArgs false
set_option linter.unusedSectionVars false
section
namespace Go.Abs
open Go
set_option maxRecDepth 10000
set_option maxHeartbeats 4000000
theorem Qp9 {P:Program} {c:Nat} {Qz:_} {Qt:_} {Q5:_} {f_projection_key:_} {Qbs:_} {Qp:_}
    (Hbr:Qd9 P 67 Qz)
    (Hbu:Qdi P 68 Qt)
    (Hcc:Qdd P 69 Q5)
    (Hbt:K_projection_key P 70 f_projection_key)
    (Hbv:Qd7 P 71 Qbs)
    (Hbz:Qcv P 72 Qp) (hcf:Ql P c=some Qln) (fuel:Nat):Qhz P c (Qcy Qz Qt Q5 f_projection_key Qbs Qp fuel):=by
 intro a1 ov2 r h;refine Qb4 hcf rfl fun Γ M hP hnt hM=>?_;subst hP;refine ini ?_;refine Z 12 0 ?_;refine cl (Hbr _ _) h (cq fun x4 h=>?_);refine Z 7 0 ?_;refine cd h rfl (fun h=>Y) (fun h=>?_);refine Z 5 0 ?_;refine cl (Hbu _ _) h (cq fun x7 h=>?_);refine Z 7 0 ?_;refine Rn.buildT (v:=.agg [(l_ x7.kept_),(i_ 0),.nils 1,.nils 3]) tv rfl ?_;refine Z 10 0 ?_;refine cd h rfl (fun h=>Y) (fun h=>?_);refine Z 4 0 ?_;refine cl (Hcc _) h (cq fun x10 h=>?_);refine Z 5 0 ?_;refine Rn.mkmap tv rfl (fun (x:ByteArray)=>(.d (.str x):V)) (fun (x:Int)=>((i_ x):V)) ?_;refine Z 1 0 ?_;refine Rn.k (v:=.ptr (Γ.n0+37) 0) tv rfl rfl rfl ?_;refine Z 1 0 ?_;refine cl (Hbt _) h (cq fun x12 h=>?_);refine Rn.mapset (ek:=(fun (x:ByteArray)=>(.d (.str x):V))) (ev:=(fun (x:Int)=>((i_ x):V))) (m:=([]:List (ByteArray×Int))) (k:=x12) (v:=0) (fun _ _=>rfl) (fun _=>rfl) (fun _=>rfl) tv rfl rfl rfl rfl rfl ?_;refine Z 9 0 ?_;refine Tr.weak (by show WeakSt Γ _ ⟨look ((10,.own 1 (List.map (eL 1 (eI .i64)) [x10]))::[(0,(Qu a1)),(1,(l_ ov2)),(2,.ptr (Γ.n0+2) 0),(4,.ptr (Γ.n0+4) 0),(5,.nils 1),(6,(i_ 0)),(7,(i_ x4)),(8,.ptr (Γ.n0+8) 0),(9,.ptr (Γ.n0+9) 0),(11,.mp (Γ.n0+38)),(12,(i_ 0)),(18,(Qu a1)),(19,(l_ ov2)),(20,(i_ x4)),(21,(i_ x4)),(22,(b_ (x4 != 0))),(25,(Qu a1)),(26,(l_ ov2)),(27,(Qbb x7)),(28,.ptr (Γ.n0+8) 1),(29,(l_ x7.kept_)),(30,.agg [(l_ x7.kept_),(i_ 0),.nils 1,.nils 3]),(31,.ptr (Γ.n0+2) 1),(32,(i_ a1.zH)),(33,(b_ (a1.zH==0))),(35,(Qbb x7)),(36,(l_ x10)),(38,.mp (Γ.n0+38)),(41,(l_ x10)),(42,.d (.str x12)),(43,.mp (Γ.n0+38))] ),Qj Γ.n0 (bxs [(2,.cells ((Qq a1))),(4,.cells ([.nils 1,(i_ 0),.nils 1,.nils 3])),(8,.cells ((Qv x7))),(9,.cells ([(l_ x7.kept_),(i_ 0),.nils 1,.nils 3])),(38,.mp (mapE (fun (x:ByteArray)=>(.d (.str x):V)) (fun (x:Int)=>((i_ x):V)) 0 (setM ([]:List (ByteArray×Int)) x12 0)) ((setM ([]:List (ByteArray×Int)) x12 0)).length)]) M,Γ.n0+117⟩;exact Q06 37 10 [.lst 1 (List.map (eI .i64) x10)] rfl rfl rfl rfl rfl ⟨sq,sq,(kPtr rfl),(kPtr rfl),sq,sq,sq,(kPtr rfl),(kPtr rfl),(kMp rfl),sq,sq,sq,sq,sq,sq,sq,sq,sq,(kPtr rfl),sq,sq,(kPtr rfl),sq,sq,sq,sq,(kMp rfl),sq,sq,(kMp rfl),tv⟩ ⟨bS rfl rfl rfl,bS rfl rfl rfl,bS rfl rfl rfl,bS rfl rfl rfl,⟨rfl,rfl⟩,tv⟩ rfl) ?_;refine lo h (fun (sv13,i14,c15,c16,c17,r18,r19,c20)=>⟨look [(4,.ptr (Γ.n0+4) 0),(8,.ptr (Γ.n0+8) 0),(9,.ptr (Γ.n0+9) 0),(10,.own 1 (List.map (eL 1 (eI .i64)) sv13)),(11,.mp (Γ.n0+38)),(12,(i_ i14))],Qj Γ.n0 (bxs [(2,.cells ((Qq a1))),(4,.cells ([(o_ c15),(i_ 0),(o_ c16),(Qbm c17)])),(8,.cells ((Qv x7))),(9,.cells ([(l_ x7.kept_),(i_ 0),(o_ r18),(Qbm r19)])),(38,.mp (mapE (fun (x:ByteArray)=>(.d (.str x):V)) (fun (x:Int)=>((i_ x):V)) 0 c20) (c20).length)]) M,Γ.n0+117⟩) wk (fun _ ⟨sv13,i14,c15,c16,c17,r18,r19,c20⟩ h=>?_);refine Z 8 0 ?_;refine ci h rfl (fun h=>?_) (fun h=>Y);refine Z 3 0 ?_;refine cu h (fun r30=>⟨look [(4,.ptr (Γ.n0+4) 0),(8,.ptr (Γ.n0+8) 0),(9,.ptr (Γ.n0+9) 0),(10,.own 1 (List.map (eL 1 (eI .i64)) sv13)),(11,.mp (Γ.n0+38)),(12,(i_ i14))],Qj Γ.n0 (bxs [(2,.cells ((Qq a1))),(4,.cells ([(o_ c15),(i_ 0),(o_ c16),(Qbm c17)])),(8,.cells ((Qv x7))),(9,.cells ([(l_ x7.kept_),(i_ 0),(o_ r30),(Qbm r19)])),(38,.mp (mapE (fun (x:ByteArray)=>(.d (.str x):V)) (fun (x:Int)=>((i_ x):V)) 0 c20) (c20).length)]) M,Γ.n0+117⟩) (fun _ h=>?_) (fun r30 h=>?_)
 ·refine Z 7 1 ?_;intro _ h;refine cl (Hbv _ _) h (cq fun _ h=>?_);refine Z 1 0 ?_;exact cd h rfl (fun h=>Y) (fun h=>Y)
 ·refine cu h (fun (sv59,r60,c61)=>⟨look [(4,.ptr (Γ.n0+4) 0),(8,.ptr (Γ.n0+8) 0),(9,.ptr (Γ.n0+9) 0),(10,.own 1 (List.map (eL 1 (eI .i64)) sv59)),(11,.mp (Γ.n0+38)),(12,(i_ i14))],Qj Γ.n0 (bxs [(2,.cells ((Qq a1))),(4,.cells ([(o_ c15),(i_ 0),(o_ c16),(Qbm c17)])),(8,.cells ((Qv x7))),(9,.cells ([(l_ x7.kept_),(i_ 0),(o_ r30),(Qbm r60)])),(38,.mp (mapE (fun (x:ByteArray)=>(.d (.str x):V)) (fun (x:Int)=>((i_ x):V)) 0 c61) (c61).length)]) M,Γ.n0+117⟩) (fun _ h=>?_) (fun ⟨sv59,r60,c61⟩ h=>?_)
  ·refine Z 8 0 ?_;refine lo h (fun (sv31,x32,r33,c34)=>⟨look [(4,.ptr (Γ.n0+4) 0),(8,.ptr (Γ.n0+8) 0),(9,.ptr (Γ.n0+9) 0),(10,.own 1 (List.map (eL 1 (eI .i64)) sv31)),(11,.mp (Γ.n0+38)),(12,(i_ i14)),(63,(l_ x7.kept_)),(64,(i_ (x7.kept_.length:Int))),(65,(i_ x32))],Qj Γ.n0 (bxs [(2,.cells ((Qq a1))),(4,.cells ([(o_ c15),(i_ 0),(o_ c16),(Qbm c17)])),(8,.cells ((Qv x7))),(9,.cells ([(l_ x7.kept_),(i_ 0),(o_ r30),(Qbm r33)])),(38,.mp (mapE (fun (x:ByteArray)=>(.d (.str x):V)) (fun (x:Int)=>((i_ x):V)) 0 c34) (c34).length)]) M,Γ.n0+117⟩) wk (fun _ ⟨sv31,x32,r33,c34⟩ h=>?_);refine Z 5 0 ?_;refine ci h rfl (fun h=>?_) (fun h=>Y);refine Tr.skip ?_;refine cu h (fun (sv56,r57,c58)=>⟨look [(4,.ptr (Γ.n0+4) 0),(8,.ptr (Γ.n0+8) 0),(9,.ptr (Γ.n0+9) 0),(10,.own 1 (List.map (eL 1 (eI .i64)) sv56)),(11,.mp (Γ.n0+38)),(12,(i_ i14)),(63,(l_ x7.kept_)),(64,(i_ (x7.kept_.length:Int))),(65,(i_ x32))],Qj Γ.n0 (bxs [(2,.cells ((Qq a1))),(4,.cells ([(o_ c15),(i_ 0),(o_ c16),(Qbm c17)])),(8,.cells ((Qv x7))),(9,.cells ([(l_ x7.kept_),(i_ 0),(o_ r30),(Qbm r57)])),(38,.mp (mapE (fun (x:ByteArray)=>(.d (.str x):V)) (fun (x:Int)=>((i_ x):V)) 0 c58) (c58).length)]) M,Γ.n0+117⟩) (fun _ h=>?_) (fun ⟨sv56,r57,c58⟩ h=>Y);refine Z 15 1 ?_;intro x37 _ h;refine cl (Hbz _ _ _) h (cq fun _ h=>?_);refine Z 9 0 ?_;refine cd h rfl (fun h=>Y) (fun h=>?_);refine Z 5 0 ?_;refine cl (Hbt _) h (cq fun x45 h=>?_);refine Rn.lookupC (ek:=(fun (x:ByteArray)=>(.d (.str x):V))) (ev:=(fun (x:Int)=>((i_ x):V))) (m:=c34) (k:=x45) (fun _ _=>rfl) (fun _=>rfl) (fun _=>rfl) 0 rfl tv rfl rfl rfl ?_;refine Z 6 0 ?_;refine cu h (fun (sv51,to52,c53)=>⟨look [(4,.ptr (Γ.n0+4) 0),(8,.ptr (Γ.n0+8) 0),(9,.ptr (Γ.n0+9) 0),(10,.own 1 (List.map (eL 1 (eI .i64)) sv51)),(11,.mp (Γ.n0+38)),(12,(i_ i14)),(14,(i_ x37)),(16,(i_ to52)),(63,(l_ x7.kept_)),(64,(i_ (x7.kept_.length:Int))),(65,(i_ x32))],Qj Γ.n0 (bxs [(2,.cells ((Qq a1))),(4,.cells ([(o_ c15),(i_ 0),(o_ c16),(Qbm c17)])),(8,.cells ((Qv x7))),(9,.cells ([(l_ x7.kept_),(i_ 0),(o_ r30),(Qbm r33)])),(38,.mp (mapE (fun (x:ByteArray)=>(.d (.str x):V)) (fun (x:Int)=>((i_ x):V)) 0 c53) (c53).length)]) M,Γ.n0+117⟩) (fun _ h=>?_) (fun ⟨sv51,to52,c53⟩ h=>Y);refine Z 5 0 ?_;refine Tr.cond rfl (fun hb46=>?_) (fun hb46=>?_)
   ·have hb46:=nT' hb46;replace h:=bF hb46 h;refine Z 10 0 ?_;refine cl (Hbt _) h (cq fun x48 h=>?_);refine Z 1 0 ?_;refine Rn.mapset (ek:=(fun (x:ByteArray)=>(.d (.str x):V))) (ev:=(fun (x:Int)=>((i_ x):V))) (m:=c34) (k:=x48) (v:=(sv31.length:Int)) (fun _ _=>rfl) (fun _=>rfl) (fun _=>rfl) tv rfl rfl rfl rfl rfl ?_;exact Y
   ·have hb46:=nF' hb46;replace h:=bT hb46 h;exact Y
  ·refine Z 6 0 ?_;exact ci h rfl (fun h=>Y) (fun h=>Y)
theorem Qsl {P:Program} {c:Nat} {Qbe:_} {Qcy:_} {Q0:_} {Qbc:_}
    (Hau:Qfu P 18 Qbe)
    (Hbq:Qhz P 20 Qcy)
    (Hbi:Qdm P 54 Q0)
    (Hbh:Qe9 P 55 Qbc) (hcf:Ql P c=some Qoz) (fuel:Nat):Qj4 P c (Qds Qbe Qcy Q0 Qbc fuel):=by
 intro ev1 a2 r h;refine Qb4 hcf rfl fun Γ M hP hnt hM=>?_;subst hP;refine ini ?_;refine Z 10 0 ?_;refine cl (Hau _ _) h (cq fun ⟨_,_,_⟩ h=>?_);refine Z 15 0 ?_;refine cd h rfl (fun h=>Y) (fun h=>?_);refine Z 5 0 ?_;refine cl (Hbi _) h (cq fun _ h=>?_);refine cl (Hbq _ _) h (cq fun ⟨r11,_,_⟩ h=>?_);refine Z 15 0 ?_;refine cd h rfl (fun h=>Y) (fun h=>?_);refine Z 8 0 ?_;refine cw h [4,11] [3,6,9] (fun _ e=>e) (fun (c29,c30,c31,c32,d33) l=>(4,.cells ([(o_ c29),(i_ 0),(o_ c30),(Qbm c31),.own 1 (List.map (eL 2 Qx) c32)]))::(11,.cells ([(l_ r11.zD),(i_ r11.zH),(l_ r11.zF),(Qe r11.zG),.own 1 (List.map (eL 2 Qx) d33)]))::l) ke (fun _ h=>?_) (fun ⟨c29,c30,c31,c32,d33⟩ h=>Y);refine Z 7 0 ?_;refine lw h [4,7,11,39,40] [3,6,9] (fun (x15,c16,c17,c18,c19,d20) e=>(41,(i_ x15))::e) (fun (x15,c16,c17,c18,c19,d20) l=>(4,.cells ([(o_ c16),(i_ 0),(o_ c17),(Qbm c18),.own 1 (List.map (eL 2 Qx) c19)]))::(11,.cells ([(l_ r11.zD),(i_ r11.zH),(l_ r11.zF),(Qe r11.zG),.own 1 (List.map (eL 2 Qx) d20)]))::l) ke wk (fun _ ⟨x15,c16,c17,c18,c19,d20⟩ h=>?_);refine Z 5 0 ?_;refine ci h rfl (fun h=>?_) (fun h=>Y);refine Z 14 1 ?_;intro _ h;refine cl (Hbh _ _) h (cq fun _ h=>?_);exact Y
theorem Qsm {P:Program} {c:Nat} (hcf:Ql P c=some Qo0):Qfv P c (Qbf):=by
 intro cv1 r h;refine Qb4 hcf rfl fun Γ M hP hnt hM=>?_;subst hP;refine ini ?_;refine Z 9 0 ?_;exact bi h (fun _ h=>Y) (fun _ h=>Y)
theorem Qsn {P:Program} {c:Nat} (hcf:Ql P c=some Qo1) (fuel:Nat):Qj5 P c (Qdt fuel):=by
 intro ev1 cv2 r h;refine Qb4 hcf rfl fun Γ M hP hnt hM=>?_;subst hP;refine ini ?_;refine Z 8 0 ?_;refine cw h [] [] (fun n11 e=>(5,(i_ n11))::e) (fun _ l=>l) ke (fun _ h=>?_) (fun n11 h=>Y);refine Z 7 0 ?_;refine lw h [1,8,9] [] (fun (n3,x4) e=>(5,(i_ n3))::(10,(i_ x4))::e) (fun _ l=>l) ke wk (fun _ ⟨n3,x4⟩ h=>?_);refine Z 5 0 ?_;refine ci h rfl (fun h=>?_) (fun h=>Y);refine Z 16 1 ?_;intro _ h;obtain ⟨s9,h10,h⟩:=bnd h;refine Rn.bin tv rfl rfl (Q5t h10) ?_;exact Y
theorem Qqs {P:Program} {c:Nat} {Qbf:_} {Qdt:_}
    (Hbj:Qfv P 56 Qbf)
    (Hbg:Qj5 P 78 Qdt) (hcf:Ql P c=some Qm9):Qet P c (Qba Qbf Qdt):=by
 intro ev1 cv2 r h;refine Qb4 hcf rfl fun Γ M hP hnt hM=>?_;subst hP;refine ini ?_;refine Z 10 0 ?_;refine cl (Hbj _) h (cq fun _ h=>?_);refine Z 2 0 ?_;refine cd h rfl (fun h=>Y) (fun h=>?_);refine Z 7 0 ?_;refine cd h rfl (fun h=>Y) (fun h=>?_);refine Z 6 0 ?_;refine cl (Hbg _ _) h (cq fun _ h=>?_);refine Z 7 0 ?_;refine cd h rfl (fun h=>Y) (fun h=>?_);refine Z 7 0 ?_;exact cd h rfl (fun h=>Y) (fun h=>Y)
theorem Qqt {P:Program} {c:Nat} (hcf:Ql P c=some Qna):Qim P c (Qdu):=by
 intro a1 b2 r h;refine Qb4 hcf rfl fun Γ M hP hnt hM=>?_;subst hP;refine ini ?_;exact Y
theorem Qso {P:Program} {c:Nat} {gv:Nat} {Qba:_} {Qbf:_} {f_reach_Components:_} {f_slices_Sorted_int:_} {f_slices_SortFunc___int:_} {Qdu:_}
    (Hbe:Qet P 31 Qba)
    (Hbj:Qfv P 56 Qbf)
    (Hcd:K_reach_Components P 57 f_reach_Components)
    (Hcn:Q8n P 58 gv (eI .i64) 1 f_slices_Sorted_int)
    (Hco:Q6z P 59 gv 1 4)
    (Hcl:K_slices_SortFunc___int P 60 f_slices_SortFunc___int)
    (Haw:Qim P 61 Qdu) (hcf:Ql P c=some Qo2) (fuel:Nat):Qj6 P c (Qdv Qba Qbf f_reach_Components f_slices_Sorted_int f_slices_SortFunc___int Qdu fuel):=by
 intro d1 cv2 r h;refine Qb4 hcf rfl fun Γ M hP hnt hM=>?_;subst hP;refine ini ?_;refine Z 10 0 ?_;refine cl (Hbj _) h (cq fun _ h=>?_);refine Z 1 0 ?_;refine cd h rfl (fun h=>Y) (fun h=>?_);refine Z 6 0 ?_;obtain ⟨x6,h7,h⟩:=bnd h;refine Rn.makes (g:=(fun (x:Bool)=>[V.d (.bool x)])) tv rfl rfl rfl rfl rfl h7 ?_;refine Z 2 0 ?_;refine cu h (fun c21=>⟨look [(2,.ptr (Γ.n0+2) 0),(6,.sl 1 (Γ.n0+25) 0 (Int.toNat (d1.Estimates.length:Int)) (Int.toNat (d1.Estimates.length:Int)))],Qj Γ.n0 (bxs [(2,.cells ((Qw d1))),(25,.cells (Qb1 (fun (x:Bool)=>[V.d (.bool x)]) c21))]) M,Γ.n0+132⟩) (fun _ h=>?_) (fun c21 h=>?_)
 ·refine Z 8 0 ?_;refine lo h (fun (x8,c9)=>⟨look [(1,(i_ cv2)),(2,.ptr (Γ.n0+2) 0),(6,.sl 1 (Γ.n0+25) 0 (Int.toNat (d1.Estimates.length:Int)) (Int.toNat (d1.Estimates.length:Int))),(27,.d (.lst 1 (List.map (eL 2 Qx) d1.Estimates))),(28,(i_ (d1.Estimates.length:Int))),(29,(i_ x8))],Qj Γ.n0 (bxs [(2,.cells ((Qw d1))),(25,.cells (Qb1 (fun (x:Bool)=>[V.d (.bool x)]) c9))]) M,Γ.n0+132⟩) wk (fun _ ⟨x8,c9⟩ h=>?_);refine Z 5 0 ?_;refine ci h rfl (fun h=>?_) (fun h=>Y);refine Z 15 1 ?_;intro _ h;refine cl (Hbe _ _) h (cq fun ⟨r15,_⟩ h=>?_);refine Z 12 1 ?_;intro h;obtain ⟨x19,h20,h⟩:=bnd h;refine Rn.storeA (g:=(fun (x:Bool)=>[V.d (.bool x)])) (v:=(b_ (r15==3))) (fun _=>rfl) tv rfl rfl rfl rfl rfl h20 ?_;exact Y
 ·refine Z 8 0 ?_;refine Rn.buildT (v:=.agg [(l_ d1.zB.zD),(i_ d1.zB.zH),.nils 1,.nils 3]) tv rfl ?_;refine Z 8 0 ?_;obtain ⟨x22,h23,h⟩:=bnd h;refine Rn.makes (g:=(fun (x:Bool)=>[V.d (.bool x)])) tv rfl rfl rfl rfl rfl h23 ?_;refine Z 2 0 ?_;refine cu h (fun (pv63,pv64,c65)=>⟨look [(11,.ptr (Γ.n0+11) 0),(12,.sl 1 (Γ.n0+56) 0 (Int.toNat (d1.Estimates.length:Int)) (Int.toNat (d1.Estimates.length:Int)))],Qj Γ.n0 (bxs [(2,.cells ((Qw d1))),(11,.cells ([(l_ d1.zB.zD),(i_ d1.zB.zH),(o_ pv63),(Qbm pv64)])),(25,.cells (Qb1 (fun (x:Bool)=>[V.d (.bool x)]) c21)),(56,.cells (Qb1 (fun (x:Bool)=>[V.d (.bool x)]) c65))]) M,Γ.n0+132⟩) (fun _ h=>?_) (fun ⟨pv63,pv64,c65⟩ h=>?_)
  ·refine Z 9 0 ?_;refine lo h (fun (x24,pv25,pv26,c27)=>⟨look [(6,.sl 1 (Γ.n0+25) 0 (Int.toNat (d1.Estimates.length:Int)) (Int.toNat (d1.Estimates.length:Int))),(11,.ptr (Γ.n0+11) 0),(12,.sl 1 (Γ.n0+56) 0 (Int.toNat (d1.Estimates.length:Int)) (Int.toNat (d1.Estimates.length:Int))),(59,(Qe d1.zB.zG)),(60,(i_ (d1.zB.zG.length:Int))),(61,(i_ x24))],Qj Γ.n0 (bxs [(2,.cells ((Qw d1))),(11,.cells ([(l_ d1.zB.zD),(i_ d1.zB.zH),(o_ pv25),(Qbm pv26)])),(25,.cells (Qb1 (fun (x:Bool)=>[V.d (.bool x)]) c21)),(56,.cells (Qb1 (fun (x:Bool)=>[V.d (.bool x)]) c27))]) M,Γ.n0+132⟩) wk (fun _ ⟨x24,pv25,pv26,c27⟩ h=>?_);refine Z 5 0 ?_;refine ci h rfl (fun h=>?_) (fun h=>Y);refine Tr.skip ?_;refine cu h (fun (pv58,c59,c60,c61,c62)=>⟨look [(6,.sl 1 (Γ.n0+25) 0 (Int.toNat (d1.Estimates.length:Int)) (Int.toNat (d1.Estimates.length:Int))),(11,.ptr (Γ.n0+11) 0),(12,.sl 1 (Γ.n0+56) 0 (Int.toNat (d1.Estimates.length:Int)) (Int.toNat (d1.Estimates.length:Int))),(59,(Qe d1.zB.zG)),(60,(i_ (d1.zB.zG.length:Int))),(61,(i_ x24))],Qj Γ.n0 (bxs [(2,.cells ((Qw d1))),(11,.cells ([(l_ d1.zB.zD),(i_ d1.zB.zH),(o_ pv25),(Qbm pv58)])),(14,.cells ([(i_ c60),(i_ c61),(i_ c62)])),(25,.cells (Qb1 (fun (x:Bool)=>[V.d (.bool x)]) c21)),(56,.cells (Qb1 (fun (x:Bool)=>[V.d (.bool x)]) c59))]) M,Γ.n0+132⟩) (fun _ h=>?_) (fun ⟨pv58,c59,c60,c61,c62⟩ h=>Y);refine Z 8 1 ?_;intro x30 h;refine cu h (fun x41=>⟨look [(6,.sl 1 (Γ.n0+25) 0 (Int.toNat (d1.Estimates.length:Int)) (Int.toNat (d1.Estimates.length:Int))),(11,.ptr (Γ.n0+11) 0),(12,.sl 1 (Γ.n0+56) 0 (Int.toNat (d1.Estimates.length:Int)) (Int.toNat (d1.Estimates.length:Int))),(14,.ptr (Γ.n0+14) 0),(59,(Qe d1.zB.zG)),(60,(i_ (d1.zB.zG.length:Int))),(61,(i_ x24)),(76,(b_ x41))],Qj Γ.n0 (bxs [(2,.cells ((Qw d1))),(11,.cells ([(l_ d1.zB.zD),(i_ d1.zB.zH),(o_ pv25),(Qbm pv26)])),(14,.cells ((Qiu x30))),(25,.cells (Qb1 (fun (x:Bool)=>[V.d (.bool x)]) c21)),(56,.cells (Qb1 (fun (x:Bool)=>[V.d (.bool x)]) c27))]) M,Γ.n0+132⟩) (fun _ h=>?_) (fun x41 h=>?_)
   ·refine Z 7 1 ?_;intro _ h;exact bs h (fun _ h=>Y) (fun _ h=>Y)
   ·refine cd h rfl (fun h=>?_) (fun h=>Y);refine Z 20 1 ?_;intro _ _ h;refine bs h (fun _ h=>?_) (fun _ h=>?_)
    ·refine Z 7 1 ?_;intro h;obtain ⟨x52,h53,h⟩:=bnd h;refine Rn.storeA (g:=(fun (x:Bool)=>[V.d (.bool x)])) (v:=(b_ true)) (fun _=>rfl) tv rfl rfl rfl rfl rfl h53 ?_;exact Y
    ·refine Z 7 1 ?_;intro h;obtain ⟨x56,h57,h⟩:=bnd h;refine Rn.storeA (g:=(fun (x:Bool)=>[V.d (.bool x)])) (v:=(b_ (x30.From==x30.To))) (fun _=>rfl) tv rfl rfl rfl rfl rfl h57 ?_;exact Y
  ·refine Z 3 0 ?_;refine cl (Hcd _) h (cq fun ⟨r67,_⟩ h=>?_);refine Z 10 0 ?_;refine cu h (fun ov89=>⟨look [(17,.own 1 (List.map (eL 1 (eI .i64)) ov89))],Qj Γ.n0 (bxs [(2,.cells ((Qw d1))),(11,.cells ([(l_ d1.zB.zD),(i_ d1.zB.zH),(o_ pv63),(Qbm pv64)])),(25,.cells (Qb1 (fun (x:Bool)=>[V.d (.bool x)]) c21)),(56,.cells (Qb1 (fun (x:Bool)=>[V.d (.bool x)]) c65))]) M,Γ.n0+132⟩) (fun _ h=>?_) (fun ov89 h=>?_)
   ·refine Z 7 0 ?_;refine lo h (fun (ov69,x70)=>⟨look [(12,.sl 1 (Γ.n0+56) 0 (Int.toNat (d1.Estimates.length:Int)) (Int.toNat (d1.Estimates.length:Int))),(17,.own 1 (List.map (eL 1 (eI .i64)) ov69)),(105,.d (.lst 1 (List.map (eL 1 (eI .i64)) r67))),(106,(i_ (r67.length:Int))),(107,(i_ x70))],Qj Γ.n0 (bxs [(2,.cells ((Qw d1))),(11,.cells ([(l_ d1.zB.zD),(i_ d1.zB.zH),(o_ pv63),(Qbm pv64)])),(25,.cells (Qb1 (fun (x:Bool)=>[V.d (.bool x)]) c21)),(56,.cells (Qb1 (fun (x:Bool)=>[V.d (.bool x)]) c65))]) M,Γ.n0+132⟩) wk (fun _ ⟨ov69,x70⟩ h=>?_);refine Z 5 0 ?_;refine ci h rfl (fun h=>?_) (fun h=>Y);refine Tr.skip ?_;refine cu h (fun ov88=>⟨look [(12,.sl 1 (Γ.n0+56) 0 (Int.toNat (d1.Estimates.length:Int)) (Int.toNat (d1.Estimates.length:Int))),(17,.own 1 (List.map (eL 1 (eI .i64)) ov88)),(105,.d (.lst 1 (List.map (eL 1 (eI .i64)) r67))),(106,(i_ (r67.length:Int))),(107,(i_ x70))],Qj Γ.n0 (bxs [(2,.cells ((Qw d1))),(11,.cells ([(l_ d1.zB.zD),(i_ d1.zB.zH),(o_ pv63),(Qbm pv64)])),(25,.cells (Qb1 (fun (x:Bool)=>[V.d (.bool x)]) c21)),(56,.cells (Qb1 (fun (x:Bool)=>[V.d (.bool x)]) c65))]) M,Γ.n0+132⟩) (fun _ h=>?_) (fun ov88 h=>Y);refine Z 7 1 ?_;intro x73 h;refine cu h (fun x82=>⟨look [(12,.sl 1 (Γ.n0+56) 0 (Int.toNat (d1.Estimates.length:Int)) (Int.toNat (d1.Estimates.length:Int))),(17,.own 1 (List.map (eL 1 (eI .i64)) ov69)),(19,(l_ x73)),(105,.d (.lst 1 (List.map (eL 1 (eI .i64)) r67))),(106,(i_ (r67.length:Int))),(107,(i_ x70)),(121,(b_ x82))],Qj Γ.n0 (bxs [(2,.cells ((Qw d1))),(11,.cells ([(l_ d1.zB.zD),(i_ d1.zB.zH),(o_ pv63),(Qbm pv64)])),(25,.cells (Qb1 (fun (x:Bool)=>[V.d (.bool x)]) c21)),(56,.cells (Qb1 (fun (x:Bool)=>[V.d (.bool x)]) c65))]) M,Γ.n0+132⟩) (fun _ h=>?_) (fun x82 h=>?_)
    ·refine Z 5 0 ?_;exact bi h (fun _ h=>Y) (fun _ h=>Y)
    ·refine cd h rfl (fun h=>?_) (fun h=>Y);refine Z 3 0 ?_;refine Rn.callVals (x:=.lst 1 (List.map (eI .i64) x73)) (m:=132) tv rfl Hco rfl rfl hM rfl ?_;refine cm h (fun _ h85 M2 nb2 hn hx=>Hcn _ _ h85 M2 nb2 (Γ.n0+133) (hx _ _ (Qcr rfl))) rfl (cq fun x84 h=>?_);refine Rn.weak (wS [12,17,19,105,106,107,121,122,123,124] [2,11,25,56,133] (fun e=>(125,(l_ x84))::e) (fun l=>l) ke wk) ?_;refine Z 3 1 ?_;intro x86 h;refine Rn.weak (σ':=⟨look [(12,.sl 1 (Γ.n0+56) 0 (Int.toNat (d1.Estimates.length:Int)) (Int.toNat (d1.Estimates.length:Int))),(17,.own 1 (List.map (eL 1 (eI .i64)) x86)),(19,(l_ x73)),(105,.d (.lst 1 (List.map (eL 1 (eI .i64)) r67))),(106,(i_ (r67.length:Int))),(107,(i_ x70)),(121,(b_ x82)),(122,.d (.lst 1 (List.map (eL 1 (eI .i64)) ov69))),(123,(l_ x73)),(125,(l_ x84)),(126,.sl 1 (Γ.n0+126) 0 1 1),(127,.d (.lst 1 (List.map (eL 1 (eI .i64)) x86)))],Qj Γ.n0 (bxs [(2,.cells ((Qw d1))),(11,.cells ([(l_ d1.zB.zD),(i_ d1.zB.zH),(o_ pv63),(Qbm pv64)])),(25,.cells (Qb1 (fun (x:Bool)=>[V.d (.bool x)]) c21)),(56,.cells (Qb1 (fun (x:Bool)=>[V.d (.bool x)]) c65)),(126,.cells ([(l_ x84)]))]) M,Γ.n0+132⟩) (WeakSt.trans (σ':=⟨look [(12,.sl 1 (Γ.n0+56) 0 (Int.toNat (d1.Estimates.length:Int)) (Int.toNat (d1.Estimates.length:Int))),(17,.own 1 (List.map (eL 1 (eI .i64)) x86)),(19,(l_ x73)),(105,.d (.lst 1 (List.map (eL 1 (eI .i64)) r67))),(106,(i_ (r67.length:Int))),(107,(i_ x70)),(121,(b_ x82)),(122,.d (.lst 1 (List.map (eL 1 (eI .i64)) ov69))),(123,(l_ x73)),(125,(l_ x84)),(126,.sl 1 (Γ.n0+126) 0 1 1),(127,.d (.lst 1 (List.map (eL 1 (eI .i64)) x86)))],Qj Γ.n0 (bxs [(2,.cells ((Qw d1))),(11,.cells ([(l_ d1.zB.zD),(i_ d1.zB.zH),(o_ pv63),(Qbm pv64)])),(25,.cells (Qb1 (fun (x:Bool)=>[V.d (.bool x)]) c21)),(56,.cells (Qb1 (fun (x:Bool)=>[V.d (.bool x)]) c65)),(126,.cells ([(l_ x84)]))]) M,Γ.n0+(132+4)⟩) (by exact Qhp [133] ⟨(kSl rfl),sq,sq,sq,sq,sq,sq,sq,sq,sq,(kSl rfl),sq,tv⟩ ⟨bS rfl rfl rfl,bS rfl rfl rfl,bM rfl rfl fun _=>rfl,bM rfl rfl fun _=>rfl,bS rfl rfl rfl,tv⟩ rfl) (Q60 rfl (Nat.le_of_eq hnt) hM)) ?_;exact Y
   ·refine Z 3 0 ?_;refine cl (Hcl _) h (cq fun _ h=>?_);exact Y
theorem Qsp {P:Program} {c:Nat} {Qy:_} {Qz:_} {Qt:_} {Qn:_} {Qh:_}
    (Hcf:Qd8 P 63 Qy)
    (Hbr:Qd9 P 67 Qz)
    (Hbu:Qdi P 68 Qt)
    (Hbx:Qcn P 77 Qn)
    (Hch:Qb9 P 87 Qh) (hcf:Ql P c=some Qo3) (fuel:Nat):Qj7 P c (Qdw Qy Qz Qt Qn Qh fuel):=by
 intro a1 ov2 ov3 mv4 r h;refine Qb4 hcf rfl fun Γ M hP hnt hM=>?_;subst hP;refine ini ?_;refine Z 12 0 ?_;refine cl (Hbr _ _) h (cq fun x6 h=>?_);refine Z 7 0 ?_;refine cd h rfl (fun h=>Y) (fun h=>?_);refine Z 5 0 ?_;refine cl (Hbu _ _) h (cq fun x9 h=>?_);refine Z 8 0 ?_;refine cl (Hbx _ _) h (cq fun x11 h=>?_);refine Z 2 0 ?_;refine Tr.cond rfl (fun hb12=>?_) (fun hb12=>?_)
 ·have hb12:=nT' hb12;replace h:=bF hb12 h;exact Y
 ·have hb12:=nF' hb12;replace h:=bT hb12 h;refine Z 8 0 ?_;refine cd h rfl (fun h=>Y) (fun h=>?_);refine Z 3 0 ?_;refine Rn.mkmap tv rfl (fun (x:Qk)=>(.agg (Q2 x):V)) (fun (x:List Int)=>((l_ x):V)) ?_;refine Z 1 0 ?_;refine Rn.mapset (ek:=(fun (x:Qk)=>(.agg (Q2 x):V))) (ev:=(fun (x:List Int)=>((l_ x):V))) (m:=([]:List (Qk×(List Int)))) (k:=(Qk.mk 0 0)) (v:=[]) Qd5 (fun _=>rfl) (fun _=>rfl) tv rfl rfl rfl rfl rfl ?_;refine Z 11 0 ?_;refine Tr.weak (by show WeakSt Γ _ ⟨look ((13,.own 2 (List.map Qch [(Qk.mk 0 0)]))::[(0,(Qu a1)),(1,(l_ ov2)),(2,(l_ ov3)),(3,(b_ mv4)),(4,.ptr (Γ.n0+4) 0),(8,.nils 1),(9,(b_ false)),(10,(i_ x6)),(11,.ptr (Γ.n0+11) 0),(12,.mp (Γ.n0+36)),(20,(Qu a1)),(21,(l_ ov2)),(22,(i_ x6)),(23,(i_ x6)),(24,(b_ (x6 != 0))),(26,(Qu a1)),(27,(l_ ov2)),(28,(Qbb x9)),(29,(Qbb x9)),(30,(l_ ov3)),(31,(b_ x11)),(32,(b_ (!x11))),(33,.ptr (Γ.n0+4) 1),(34,(i_ a1.zH)),(35,(b_ (a1.zH==0))),(36,.mp (Γ.n0+36)),(37,.agg [(i_ 0),(i_ 0)]),(38,.mp (Γ.n0+36)),(39,.agg [(i_ 0),(i_ 0)])] ),Qj Γ.n0 (bxs [(4,.cells ((Qq a1))),(11,.cells ((Qv x9))),(36,.mp (mapE (fun (x:Qk)=>(.agg (Q2 x):V)) (fun (x:List Int)=>((l_ x):V)) 0 (setM ([]:List (Qk×(List Int))) (Qk.mk 0 0) [])) ((setM ([]:List (Qk×(List Int))) (Qk.mk 0 0) [])).length)]) M,Γ.n0+131⟩;exact Q06 40 13 [.int .i64 0,.int .i64 0] rfl rfl rfl rfl rfl ⟨sq,sq,sq,sq,(kPtr rfl),sq,sq,sq,(kPtr rfl),(kMp rfl),sq,sq,sq,sq,sq,sq,sq,sq,sq,sq,sq,sq,(kPtr rfl),sq,sq,(kMp rfl),sq,(kMp rfl),sq,tv⟩ ⟨bS rfl rfl rfl,bS rfl rfl rfl,⟨rfl,rfl⟩,tv⟩ rfl) ?_;refine lo h (fun (l14,c15)=>⟨look [(2,(l_ ov3)),(3,(b_ mv4)),(4,.ptr (Γ.n0+4) 0),(11,.ptr (Γ.n0+11) 0),(12,.mp (Γ.n0+36)),(13,.ownT 2 (List.map Qch l14))],Qj Γ.n0 (bxs [(4,.cells ((Qq a1))),(11,.cells ((Qv x9))),(36,.mp (mapE (fun (x:Qk)=>(.agg (Q2 x):V)) (fun (x:List Int)=>((l_ x):V)) 0 c15) (c15).length)]) M,Γ.n0+131⟩) wk (fun _ ⟨l14,c15⟩ h=>?_);refine Z 7 0 ?_;refine ci h rfl (fun h=>?_) (fun h=>Y);refine Z 12 1 ?_;intro x18 h;refine cu h (fun x24=>⟨look [(2,(l_ ov3)),(3,(b_ mv4)),(4,.ptr (Γ.n0+4) 0),(11,.ptr (Γ.n0+11) 0),(12,.mp (Γ.n0+36)),(13,.ownT 2 (List.map Qch l14)),(14,.ptr (Γ.n0+14) 0),(64,(b_ x24))],Qj Γ.n0 (bxs [(4,.cells ((Qq a1))),(11,.cells ((Qv x9))),(14,.cells ((Q2 x18))),(36,.mp (mapE (fun (x:Qk)=>(.agg (Q2 x):V)) (fun (x:List Int)=>((l_ x):V)) 0 c15) (c15).length)]) M,Γ.n0+131⟩) (fun _ h=>?_) (fun x24 h=>?_)
  ·refine Z 7 0 ?_;refine bs h (fun _ h=>?_) (fun _ h=>Y);refine Z 3 0 ?_;refine bs h (fun _ h=>?_) (fun _ h=>Y);refine Z 4 0 ?_;refine cl (Hch _ _) h (cq fun _ h=>?_);exact Y
  ·refine cd h rfl (fun h=>?_) (fun h=>?_)
   ·refine Z 4 0 ?_;refine Rn.lookup (ek:=(fun (x:Qk)=>(.agg (Q2 x):V))) (ev:=(fun (x:List Int)=>((l_ x):V))) (m:=c15) (k:=x18) Qd5 (fun _=>rfl) (fun _=>rfl) [] rfl tv rfl rfl rfl ?_;exact Y
   ·refine Z 13 1 ?_;intro x26 h;refine lo h (fun (l28,x29,c30)=>⟨look [(2,(l_ ov3)),(3,(b_ mv4)),(4,.ptr (Γ.n0+4) 0),(11,.ptr (Γ.n0+11) 0),(12,.mp (Γ.n0+36)),(13,.ownT 2 (List.map Qch l28)),(14,.ptr (Γ.n0+14) 0),(73,(Qe x26)),(74,(i_ (x26.length:Int))),(75,(i_ x29))],Qj Γ.n0 (bxs [(4,.cells ((Qq a1))),(11,.cells ((Qv x9))),(14,.cells ((Q2 x18))),(36,.mp (mapE (fun (x:Qk)=>(.agg (Q2 x):V)) (fun (x:List Int)=>((l_ x):V)) 0 c30) (c30).length)]) M,Γ.n0+131⟩) wk (fun _ ⟨l28,x29,c30⟩ h=>?_);refine Z 5 0 ?_;refine ci h rfl (fun h=>?_) (fun h=>?_)
    ·refine Tr.skip ?_;refine cu h (fun (l52,c53,c54,c55,c56,q57,q58)=>⟨look [(2,(l_ ov3)),(3,(b_ mv4)),(4,.ptr (Γ.n0+4) 0),(11,.ptr (Γ.n0+11) 0),(12,.mp (Γ.n0+36)),(13,.ownT 2 (List.map Qch l52)),(14,.ptr (Γ.n0+14) 0),(73,(Qe x26)),(74,(i_ (x26.length:Int))),(75,(i_ x29))],Qj Γ.n0 (bxs [(4,.cells ((Qq a1))),(11,.cells ((Qv x9))),(14,.cells ((Q2 x18))),(16,.cells ([(i_ c54),(i_ c55),(i_ c56)])),(17,.cells ([(i_ q57),(i_ q58)])),(36,.mp (mapE (fun (x:Qk)=>(.agg (Q2 x):V)) (fun (x:List Int)=>((l_ x):V)) 0 c53) (c53).length)]) M,Γ.n0+131⟩) (fun _ h=>?_) (fun ⟨l52,c53,c54,c55,c56,q57,q58⟩ h=>Y);refine Z 18 1 ?_;intro x33 h;refine Tr.cutJ (fun (q43:Int)=>⟨look [(2,(l_ ov3)),(3,(b_ mv4)),(4,.ptr (Γ.n0+4) 0),(11,.ptr (Γ.n0+11) 0),(12,.mp (Γ.n0+36)),(13,.ownT 2 (List.map Qch l28)),(14,.ptr (Γ.n0+14) 0),(16,.ptr (Γ.n0+16) 0),(17,.ptr (Γ.n0+17) 0),(73,(Qe x26)),(74,(i_ (x26.length:Int))),(75,(i_ x29))],Qj Γ.n0 (bxs [(4,.cells ((Qq a1))),(11,.cells ((Qv x9))),(14,.cells ((Q2 x18))),(16,.cells ((Qiu x33))),(17,.cells ([(i_ x33.To),(i_ q43)])),(36,.mp (mapE (fun (x:Qk)=>(.agg (Q2 x):V)) (fun (x:List Int)=>((l_ x):V)) 0 c30) (c30).length)]) M,Γ.n0+131⟩) h (fun J51 h=>?_) (fun z h=>?_)
     ·refine Z 6 0 ?_;refine cl (Hch _ _) h (cq fun _ h=>?_);refine Z 1 0 ?_;refine cd h rfl (fun h=>?_) (fun h=>?_)
      ·refine Tr.seq ?_;refine cu h (fun x41=>⟨look [(2,(l_ ov3)),(3,(b_ mv4)),(4,.ptr (Γ.n0+4) 0),(11,.ptr (Γ.n0+11) 0),(12,.mp (Γ.n0+36)),(13,.ownT 2 (List.map Qch l28)),(14,.ptr (Γ.n0+14) 0),(16,.ptr (Γ.n0+16) 0),(17,.ptr (Γ.n0+17) 0),(73,(Qe x26)),(74,(i_ (x26.length:Int))),(75,(i_ x29)),(103,(b_ x41))],Qj Γ.n0 (bxs [(4,.cells ((Qq a1))),(11,.cells ((Qv x9))),(14,.cells ((Q2 x18))),(16,.cells ((Qiu x33))),(17,.cells ([(i_ x33.To),(i_ x18.done_)])),(36,.mp (mapE (fun (x:Qk)=>(.agg (Q2 x):V)) (fun (x:List Int)=>((l_ x):V)) 0 c30) (c30).length)]) M,Γ.n0+131⟩) (fun _ h=>?_) (fun x41 h=>?_)
       ·refine Z 7 0 ?_;exact bs h (fun _ h=>Y) (fun _ h=>Y)
       ·refine cd h rfl (fun h=>Y) (fun h=>?_);refine Z 8 0 ?_;exact ⟨_,h,(by exact Qhp [] ⟨sq,sq,(kPtr rfl),(kPtr rfl),(kMp rfl),sq,(kPtr rfl),(kPtr rfl),(kPtr rfl),sq,sq,sq,tv⟩ ⟨bS rfl rfl rfl,bS rfl rfl rfl,bS rfl rfl rfl,bS rfl rfl rfl,bS rfl rfl rfl,⟨rfl,rfl⟩,tv⟩ rfl)⟩
      ·refine Tr.skip ?_;exact ⟨_,h,(by exact Qhp [] ⟨sq,sq,(kPtr rfl),(kPtr rfl),(kMp rfl),sq,(kPtr rfl),(kPtr rfl),(kPtr rfl),sq,sq,sq,tv⟩ ⟨bS rfl rfl rfl,bS rfl rfl rfl,bS rfl rfl rfl,bS rfl rfl rfl,bS rfl rfl rfl,⟨rfl,rfl⟩,tv⟩ rfl)⟩
     ·obtain ⟨q43,rfl⟩ : ∃ x,x=z:=⟨_,rfl⟩;refine Z 4 0 ?_;refine Rn.lookupC (ek:=(fun (x:Qk)=>(.agg (Q2 x):V))) (ev:=(fun (x:List Int)=>((l_ x):V))) (m:=c30) (k:=(Qk.mk x33.To q43)) Qd5 (fun _=>rfl) (fun _=>rfl) [] rfl tv rfl rfl rfl ?_;refine Z 11 0 ?_;refine Tr.cond rfl (fun hb44=>?_) (fun hb44=>?_)
      ·have hb44:=nT' hb44;replace h:=bF hb44 h;refine Z 6 0 ?_;refine Rn.lookup (ek:=(fun (x:Qk)=>(.agg (Q2 x):V))) (ev:=(fun (x:List Int)=>((l_ x):V))) (m:=c30) (k:=x18) Qd5 (fun _=>rfl) (fun _=>rfl) [] rfl tv rfl rfl rfl ?_;refine cl (Hcf _) h (cq fun _ h=>?_);refine Z 4 1 ?_;intro x47 h;refine Rn.mapset (ek:=(fun (x:Qk)=>(.agg (Q2 x):V))) (ev:=(fun (x:List Int)=>((l_ x):V))) (m:=c30) (k:=(Qk.mk x33.To q43)) (v:=x47) Qd5 (fun _=>rfl) (fun _=>rfl) tv rfl rfl rfl rfl rfl ?_;refine Z 5 0 ?_;obtain ⟨x49,h50,h⟩:=bnd h;refine Rn.appT (e:=Qch) tv rfl rfl rfl (Qxs rfl rfl rfl) h50 rfl ?_;exact Y
      ·have hb44:=nF' hb44;replace h:=bT hb44 h;exact Y
    ·refine Z 3 0 ?_;obtain ⟨x59,h60,h⟩:=bnd h;refine Rn.slcT (e:=Qch) tv (.inr rfl) rfl h60 ?_;exact Y
theorem Qpa {P:Program} {c:Nat} {Q0:_} {Qdw:_}
    (Hbi:Qdm P 54 Q0)
    (Hbo:Qj7 P 82 Qdw) (hcf:Ql P c=some Qks) (fuel:Nat):Qhd P c (Qca Q0 Qdw fuel):=by
 intro ov1 x2 x5 x8 x11 x14 k3 k6 k9 k12 k15 r h;intro M nb hk4 hk7 hk10 hk13 hk16 hv17 hv18 hv19 hv20;refine Q3g hcf rfl M _ nb (fun hM=>Qtm hM ⟨(ltB hM hk4),tv⟩) fun Γ hP hnt hn0 hM=>?_;subst hP hn0;refine ini ?_;refine Tr.puts [(k3,.cells ((Qq x2)))] ⟨hk4,tv⟩ ?_;refine Z 7 0 ?_;refine Rn.storeB (v:=.nils 1) (cs':=[(l_ x2.zD),(i_ x2.zH),.nils 1,(Qe x2.zG)]) tv rfl rfl rfl (ltB hM hk4) rfl pg0 rfl rfl ps0 ?_;refine Rn.weak (Qxw (B:=[(k3,.cells ([(l_ x2.zD),(i_ x2.zH),.nils 1,(Qe x2.zG)]))]) (B':=[(k3,.cells ([(l_ x2.zD),(i_ x2.zH),.own 1 (List.map (eI .i64) []),(Qe x2.zG)]))]) ⟨⟨rfl,(cS rfl (cS rfl (.cons (WkV.nilsO _) (cS rfl .nil))))⟩,tv⟩ (by show WeakSt Γ _ ⟨look [(0,(i_ ov1)),(1,.ptr k3 0),(2,.ptr k6 0),(3,.ptr k9 0),(4,.ptr k12 0),(5,.ptr k15 0),(7,.nils 1),(13,.ptr k3 2)],Qj Γ.n0 (bxs []) (Mem.puts M [(k3,.cells ([(l_ x2.zD),(i_ x2.zH),.own 1 (List.map (eI .i64) []),(Qe x2.zG)]))]),Γ.n0+46⟩;exact Qhp [] ⟨sq,(Qlz (ltB hM hk4)),(Qlz (ltB hM hk7)),(Qlz (ltB hM hk10)),(Qlz (ltB hM hk13)),(Qlz (ltB hM hk16)),sq,(Qlz (ltB hM hk4)),tv⟩ tv rfl)) ?_;refine Z 1 0 ?_;refine cu h (fun c35=>⟨look [(1,.ptr k3 0),(4,.ptr k12 0),(5,.ptr k15 0)],Qj Γ.n0 (bxs []) (Mem.puts M [(k3,.cells ([(l_ x2.zD),(i_ x2.zH),(o_ c35),(Qe x2.zG)]))]),Γ.n0+46⟩) (fun _ h=>?_) (fun c35 h=>?_)
 ·refine Z 2 0 ?_;refine Rn.load (v:=(Qb x5)) tv rfl (Qgn (ltB hM hk7) (pgS hv17.symm hk7)) rfl rfl ?_;refine Z 4 0 ?_;refine lo h (fun (x21,c22)=>⟨look [(0,(i_ ov1)),(1,.ptr k3 0),(3,.ptr k9 0),(4,.ptr k12 0),(5,.ptr k15 0),(14,(Qb x5)),(15,(i_ (x5.length:Int))),(16,(i_ x21))],Qj Γ.n0 (bxs []) (Mem.puts M [(k3,.cells ([(l_ x2.zD),(i_ x2.zH),(o_ c22),(Qe x2.zG)]))]),Γ.n0+46⟩) wk (fun _ ⟨x21,c22⟩ h=>?_);refine Z 5 0 ?_;refine ci h rfl (fun h=>?_) (fun h=>Y);refine Tr.skip ?_;refine cu h (fun (c32,c33,c34)=>⟨look [(0,(i_ ov1)),(1,.ptr k3 0),(3,.ptr k9 0),(4,.ptr k12 0),(5,.ptr k15 0),(14,(Qb x5)),(15,(i_ (x5.length:Int))),(16,(i_ x21))],Qj Γ.n0 (bxs [(9,.cells ([(i_ c32),(i_ c33)]))]) (Mem.puts M [(k3,.cells ([(l_ x2.zD),(i_ x2.zH),(o_ c34),(Qe x2.zG)]))]),Γ.n0+46⟩) (fun _ h=>?_) (fun ⟨c32,c33,c34⟩ h=>Y);refine Z 14 1 ?_;intro _ h;refine Rn.load (v:=(i_ x8)) tv rfl (Qgn (ltB hM hk10) (pgS hv18.symm hk10)) rfl rfl ?_;refine Z 1 0 ?_;obtain ⟨s27,h28,h⟩:=bnd h;refine Rn.bin tv rfl rfl (Q5t h28) ?_;refine Z 4 0 ?_;refine cd h rfl (fun h=>?_) (fun h=>Y);refine Z 2 0 ?_;refine Rn.loadTB (cs':=[(l_ x2.zD),(i_ x2.zH),(l_ c22),(Qe x2.zG)]) tv rfl (ltB hM hk4) pg0 rfl rfl ps0 ?_;refine Z 4 1 ?_;intro x30 h;refine Rn.storeOB (cs':=[(l_ x2.zD),(i_ x2.zH),(o_ x30),(Qe x2.zG)]) tv rfl rfl (ltB hM hk4) pg0 rfl rfl ps0 ?_;exact Y
 ·refine Z 2 0 ?_;refine Rn.load (v:=.agg [(l_ x2.zD),(i_ x2.zH),(l_ c35),(Qe x2.zG)]) tv rfl (Qgn (ltB hM hk4) pg0) rfl rfl (Rn.load (v:=(Qd x11)) tv rfl (Qgn (ltB hM hk13) (pgS hv19.symm hk13)) rfl rfl ?_);obtain ⟨x37,h36,h⟩:=bnd h;refine Rn.call (args:=[(Qd x11)]) tv rfl (Hbi _ _ h36) (fun _=>Q04 (Qtm hM ⟨(ltB hM hk4),tv⟩) rfl) (Rn.load (v:=(l_ x14)) tv rfl (Qgn (ltB hM hk16) (pgS hv20.symm hk16)) rfl rfl ?_);obtain ⟨⟨r39,r40,r41⟩,h38,h⟩:=bnd h;refine Rn.call (args:=[.agg [(l_ x2.zD),(i_ x2.zH),(l_ c35),(Qe x2.zG)],(l_ x37),(l_ x14),(b_ true)]) tv rfl (Hbo _ _ _ _ _ h38) (fun _=>Q04 (Qtm hM ⟨(ltB hM hk4),tv⟩) rfl) ?_;refine Z 13 0 ?_;refine Tr.weak (Qxw (B:=[(k3,.cells ([(l_ x2.zD),(i_ x2.zH),(o_ c35),(Qe x2.zG)]))]) (B':=[(k3,.cells ([(l_ x2.zD),(i_ x2.zH),(l_ c35),(Qe x2.zG)]))]) ⟨⟨rfl,(cS rfl (cS rfl (.cons (WkV.dem' rfl) (cS rfl .nil))))⟩,tv⟩ (by show WeakSt Γ _ ⟨look [(1,.ptr k3 0),(4,.ptr k12 0),(5,.ptr k15 0),(7,(l_ r39)),(10,(l_ r39)),(11,(b_ r40)),(12,(i_ r41)),(36,.tup [(l_ r39),(b_ r40),(i_ r41)]),(37,.agg [(l_ x2.zD),(i_ x2.zH),(l_ c35),(Qe x2.zG)]),(38,(Qd x11)),(39,(l_ x37)),(40,(l_ x14)),(41,.tup [(l_ r39),(b_ r40),(i_ r41)]),(42,(l_ r39)),(43,(b_ r40)),(44,(i_ r41)),(45,(l_ r39))],Qj Γ.n0 (bxs []) (Mem.puts M [(k3,.cells ([(l_ x2.zD),(i_ x2.zH),(l_ c35),(Qe x2.zG)]))]),Γ.n0+46⟩;exact Qhp [] ⟨(Qlz (ltB hM hk4)),(Qlz (ltB hM hk13)),(Qlz (ltB hM hk16)),sq,sq,sq,sq,sq,sq,sq,sq,sq,sq,sq,sq,sq,sq,tv⟩ tv rfl)) ?_;exact Y
theorem Qqu {P:Program} {c:Nat} {Qbe:_} {Qbg:_} {Qba:_} {Qbd:_} {Qbf:_} {Qca:_}
    (Hau:Qfu P 18 Qbe)
    (Haq:Qfn P 27 Qbg)
    (Hbe:Qet P 31 Qba)
    (Hap:Qft P 36 Qbd)
    (Hbj:Qfv P 56 Qbf)
    (Hat:Qhd P 81 Qca) (hcf:Ql P c=some Qnb):Qin P c (Qc7 Qbe Qbg Qba Qbd Qbf Qca):=by
 intro ev1 a2 ov3 cv4 r h;refine Qb4 hcf rfl fun Γ M hP hnt hM=>?_;subst hP;refine ini ?_;refine Z 16 0 ?_;refine cl (Hap _ _) h (cq fun _ h=>?_);refine Z 7 0 ?_;refine cd h rfl (fun h=>Y) (fun h=>?_);refine Z 5 0 ?_;refine cl (Hbj _) h (cq fun _ h=>?_);refine Z 1 0 ?_;refine cd h rfl (fun h=>Y) (fun h=>?_);refine Z 6 0 ?_;refine cl (Haq _ _ _) h (cq fun ⟨_,_⟩ h=>?_);refine Z 12 0 ?_;refine cd h rfl (fun h=>Y) (fun h=>?_);refine Z 6 0 ?_;refine cl (Hbe _ _) h (cq fun ⟨_,_⟩ h=>?_);refine Z 11 0 ?_;refine cd h rfl (fun h=>Y) (fun h=>?_);refine Z 5 0 ?_;refine cl (Hau _ _) h (cq fun ⟨_,_,_⟩ h=>?_);refine Z 12 0 ?_;refine Rn.k (v:=.clo 81 [.ptr (Γ.n0+14) 0,.ptr (Γ.n0+15) 0,.ptr (Γ.n0+7) 0,.ptr (Γ.n0+4) 0,.ptr (Γ.n0+6) 0]) tv rfl rfl rfl ?_;refine Z 5 0 ?_;obtain ⟨⟨r23,c24⟩,h25,h⟩:=bnd h;refine Rn.callvW (args:=([(i_ 1)]++[.ptr (Γ.n0+14) 0,.ptr (Γ.n0+15) 0,.ptr (Γ.n0+7) 0,.ptr (Γ.n0+4) 0,.ptr (Γ.n0+6) 0])) (B:=[((Γ.n0+14),.cells ((Qq c24)))]) tv rfl rfl (Hat _ _ _ _ _ _ (Γ.n0+14) (Γ.n0+15) (Γ.n0+7) (Γ.n0+4) (Γ.n0+6) _ h25 _ _ (Qcr rfl) (Qcr rfl) (Qcr rfl) (Qcr rfl) (Qcr rfl) (Qun rfl) (Qun rfl) (Qun rfl) (Qun rfl)) ⟨(.inl (Nat.le_add_right _ _)),tv⟩ (Q36 cw0) rfl ?_;refine Z 1 0 ?_;obtain ⟨⟨r26,c27⟩,h28,h⟩:=bnd h;refine Rn.callvW (args:=([(i_ 0)]++[.ptr (Γ.n0+14) 0,.ptr (Γ.n0+15) 0,.ptr (Γ.n0+7) 0,.ptr (Γ.n0+4) 0,.ptr (Γ.n0+6) 0])) (B:=[((Γ.n0+14),.cells ((Qq c27)))]) tv rfl rfl (Hat _ _ _ _ _ _ (Γ.n0+14) (Γ.n0+15) (Γ.n0+7) (Γ.n0+4) (Γ.n0+6) _ h28 _ _ (Qcr rfl) (Qcr rfl) (Qcr rfl) (Qcr rfl) (Qcr rfl) (Qun rfl) (Qun rfl) (Qun rfl) (Qun rfl)) ⟨(.inl (Nat.le_add_right _ _)),tv⟩ (Q36 cw0) rfl ?_;exact Y
theorem Qqa {P:Program} {c:Nat} (hcf:Ql P c=some Qlo) (fuel:Nat):Qh0 P c (Qcc fuel):=by
 intro a1 b2 r h;refine Qb4 hcf rfl fun Γ M hP hnt hM=>?_;subst hP;refine ini ?_;refine Z 13 0 ?_;refine cd h rfl (fun h=>Y) (fun h=>?_);refine Z 7 0 ?_;refine lw h [0,1] [] (fun i4 e=>(5,(i_ i4))::e) (fun _ l=>l) ke wk (fun _ i4 h=>?_);refine Z 8 0 ?_;refine ci h rfl (fun h=>?_) (fun h=>Y);refine Z 13 1 ?_;intro x7 x9 h;refine Rn.eqa (r:=((x7.State==x9.State)&&((x7.Classes==x9.Classes)&&true))) tv rfl rfl rfl ?_;refine Z 1 0 ?_;refine Tr.cond rfl (fun hb11=>?_) (fun hb11=>?_)
 ·have hb11:=nT' hb11;replace h:=bF hb11 h;exact Y
 ·have hb11:=nF' hb11;replace h:=bT hb11 h;exact Y
theorem Qro {P:Program} {c:Nat} (hcf:Ql P c=some Qn0) (fuel:Nat):Qi8 P c (Qde fuel):=by
 intro s1 s2 r h;refine Qb4 hcf rfl fun Γ M hP hnt hM=>?_;subst hP;refine ini ?_;refine Z 13 0 ?_;refine cd h rfl (fun h=>Y) (fun h=>?_);refine Z 9 0 ?_;refine lw h [0,1,12] [] (fun x4 e=>(13,(i_ x4))::e) (fun _ l=>l) ke wk (fun _ x4 h=>?_);refine Z 5 0 ?_;refine ci h rfl (fun h=>?_) (fun h=>Y);refine Z 20 1 ?_;intro _ _ h;exact cd h rfl (fun h=>Y) (fun h=>Y)
theorem Qxy {P:Program} {c:Nat} {Qde:_}
    (Hci:Qi8 P 62 Qde) (hcf:Ql P c=some Qwa):Qri P c (Qfa Qde):=by
 intro a1 b2 r h;refine Qb4 hcf rfl fun Γ M hP hnt hM=>?_;subst hP;refine ini ?_;refine Z 8 0 ?_;refine cl (Hci _ _) h (cq fun _ h=>?_);exact Y
theorem Qpb {P:Program} {c:Nat} {Qds:_} {Qdv:_} {Qfa:_} {Qcc:_} {Qbg:_} {Qc7:_} {Qcl:_}
    (Hao:Qj4 P 13 Qds)
    (Hav:Qj6 P 15 Qdv)
    (Hcq:Qri P 17 Qfa)
    (Hbm:Qh0 P 23 Qcc)
    (Haq:Qfn P 27 Qbg)
    (Has:Qin P 34 Qc7)
    (Hbl:Qg8 P 50 Qcl) (hcf:Ql P c=some Qkt):Qhe P c (Qco Qds Qdv Qfa Qcc Qbg Qc7 Qcl):=by
 intro  r h;refine Qb4 hcf rfl fun Γ M hP hnt hM=>?_;subst hP;refine ini ?_;refine Z 6 0 ?_;refine cl Hbl h (cq fun ⟨r2,r3⟩ h=>?_);refine Z 11 0 ?_;obtain ⟨⟨r5,r6⟩,h4,h⟩:=bnd h;refine Rn.call (args:=[(Qd r2),.agg [(l_ r3.zD),(i_ r3.zH),.nils 1,(Qe r3.zG)],.nils 1]) tv rfl (fun M2 nb2=>ACalls.weak (args':=[(Qd r2),.agg [(l_ r3.zD),(i_ r3.zH),(l_ []),(Qe r3.zG)],(l_ [])]) (Haq _ _ _ _ h4 M2 nb2) (cS rfl (.cons (WkV.agg (cS rfl (cS rfl (.cons (WkV.nilsD _) (cS rfl .nil))))) (.cons (WkV.nilsD _) .nil))) rfl) pc9 ?_;refine Z 11 0 ?_;refine Rn.weak (by show WeakSt Γ _ ⟨look [(0,(b_ false)),(1,(Qd r2)),(2,.ptr (Γ.n0+2) 0),(3,(Qb r5)),(4,(i_ r6)),(15,.tup [(Qd r2),.agg [(l_ r3.zD),(i_ r3.zH),.nils 1,(Qe r3.zG)]]),(16,.tup [(Qd r2),.agg [(l_ r3.zD),(i_ r3.zH),.nils 1,(Qe r3.zG)]]),(17,(Qd r2)),(18,.agg [(l_ r3.zD),(i_ r3.zH),.nils 1,(Qe r3.zG)]),(19,.tup [(Qb r5),(i_ r6)]),(20,(Qd r2)),(21,.agg [(l_ r3.zD),(i_ r3.zH),.nils 1,(Qe r3.zG)]),(22,.tup [(Qo r5),(i_ r6)]),(23,(Qb r5)),(24,(i_ r6)),(26,(Qd r2)),(27,.agg [(l_ r3.zD),(i_ r3.zH),.nils 1,(Qe r3.zG)]),(28,(l_ [1]))],Qj Γ.n0 (bxs [(2,.cells ([(l_ r3.zD),(i_ r3.zH),.nils 1,(Qe r3.zG)]))]) M,Γ.n0+121⟩;exact Qdp 28 [.int .i64 1] rfl rfl ⟨sq,sq,(fPtr rfl),sq,sq,sq,sq,sq,sq,sq,sq,sq,sq,sq,sq,sq,sq,(fSl rfl rfl),tv⟩ ⟨bS rfl rfl rfl,tv⟩ rfl) ?_;obtain ⟨⟨r8,r9⟩,h7,h⟩:=bnd h;refine Rn.call (args:=[(Qd r2),.agg [(l_ r3.zD),(i_ r3.zH),.nils 1,(Qe r3.zG)],(l_ [1])]) tv rfl (fun M2 nb2=>ACalls.weak (args':=[(Qd r2),.agg [(l_ r3.zD),(i_ r3.zH),(l_ []),(Qe r3.zG)],(l_ [1])]) (Haq _ _ _ _ h7 M2 nb2) (cS rfl (.cons (WkV.agg (cS rfl (cS rfl (.cons (WkV.nilsD _) (cS rfl .nil))))) (cS rfl .nil))) rfl) pc9 ?_;refine Z 10 0 ?_;obtain ⟨⟨r11,r12⟩,h10,h⟩:=bnd h;refine Rn.call (args:=[(Qd r2),.agg [(l_ r3.zD),(i_ r3.zH),.nils 1,(Qe r3.zG)]]) tv rfl (fun M2 nb2=>ACalls.weak (args':=[(Qd r2),.agg [(l_ r3.zD),(i_ r3.zH),(l_ []),(Qe r3.zG)]]) (Hao _ _ _ h10 M2 nb2) (cS rfl (.cons (WkV.agg (cS rfl (cS rfl (.cons (WkV.nilsD _) (cS rfl .nil))))) .nil)) rfl) pc9 ?_;refine Z 10 0 ?_;refine cl (Hav _ _) h (cq fun ⟨r14,r15⟩ h=>?_);refine Z 11 0 ?_;refine Rn.weak (by show WeakSt Γ _ ⟨look [(0,(b_ false)),(1,(Qd r2)),(2,.ptr (Γ.n0+2) 0),(3,(Qb r5)),(4,(i_ r6)),(5,(Qb r8)),(6,(i_ r9)),(7,.ptr (Γ.n0+7) 0),(8,(i_ r12)),(9,.d (.lst 1 (List.map (eL 1 (eI .i64)) r14))),(10,(i_ r15)),(15,.tup [(Qd r2),.agg [(l_ r3.zD),(i_ r3.zH),.nils 1,(Qe r3.zG)]]),(16,.tup [(Qd r2),.agg [(l_ r3.zD),(i_ r3.zH),.nils 1,(Qe r3.zG)]]),(17,(Qd r2)),(18,.agg [(l_ r3.zD),(i_ r3.zH),.nils 1,(Qe r3.zG)]),(19,.tup [(Qb r5),(i_ r6)]),(20,(Qd r2)),(21,.agg [(l_ r3.zD),(i_ r3.zH),.nils 1,(Qe r3.zG)]),(22,.tup [(Qo r5),(i_ r6)]),(23,(Qb r5)),(24,(i_ r6)),(25,.tup [(Qb r8),(i_ r9)]),(26,(Qd r2)),(27,.agg [(l_ r3.zD),(i_ r3.zH),.nils 1,(Qe r3.zG)]),(28,(l_ [1])),(29,.tup [(Qo r8),(i_ r9)]),(30,(Qb r8)),(31,(i_ r9)),(32,.tup [(Qm r11),(i_ r12)]),(33,(Qd r2)),(34,.agg [(l_ r3.zD),(i_ r3.zH),.nils 1,(Qe r3.zG)]),(35,.tup [(Qm r11),(i_ r12)]),(36,(Qm r11)),(37,(i_ r12)),(38,.tup [.d (.lst 1 (List.map (eL 1 (eI .i64)) r14)),(i_ r15)]),(39,(Qm r11)),(40,.tup [.own 1 (List.map (eL 1 (eI .i64)) r14),(i_ r15)]),(41,.d (.lst 1 (List.map (eL 1 (eI .i64)) r14))),(42,(i_ r15)),(44,(Qd r2)),(45,.agg [(l_ r3.zD),(i_ r3.zH),.nils 1,(Qe r3.zG)]),(46,(l_ [0]))],Qj Γ.n0 (bxs [(2,.cells ([(l_ r3.zD),(i_ r3.zH),.nils 1,(Qe r3.zG)])),(7,.cells ((Qw r11)))]) M,Γ.n0+121⟩;exact Qdp 46 [.int .i64 0] rfl rfl ⟨sq,sq,(fPtr rfl),sq,sq,sq,sq,(fPtr rfl),sq,sq,sq,sq,sq,sq,sq,sq,sq,sq,sq,sq,sq,sq,sq,sq,sq,sq,sq,sq,sq,sq,sq,sq,sq,sq,sq,sq,sq,sq,sq,sq,sq,(fSl rfl rfl),tv⟩ ⟨bS rfl rfl rfl,bS rfl rfl rfl,tv⟩ rfl) ?_;obtain ⟨⟨r17,r18,r19,r20⟩,h16,h⟩:=bnd h;refine Rn.call (args:=[(Qd r2),.agg [(l_ r3.zD),(i_ r3.zH),.nils 1,(Qe r3.zG)],(l_ [0]),(i_ 1)]) tv rfl (fun M2 nb2=>ACalls.weak (args':=[(Qd r2),.agg [(l_ r3.zD),(i_ r3.zH),(l_ []),(Qe r3.zG)],(l_ [0]),(i_ 1)]) (Has _ _ _ _ _ h16 M2 nb2) (cS rfl (.cons (WkV.agg (cS rfl (cS rfl (.cons (WkV.nilsD _) (cS rfl .nil))))) (cS rfl (cS rfl .nil)))) rfl) pc9 ?_;refine Z 10 0 ?_;refine cw h [] [2,7] (fun x48 e=>(0,(b_ x48))::e) (fun _ l=>l) ke (fun _ h=>?_) (fun x48 h=>Y);refine Z 4 0 ?_;refine bs h (fun _ h=>?_) (fun _ h=>Y);refine Z 4 0 ?_;refine Rn.weak (by show WeakSt Γ _ ⟨look [(0,(b_ false)),(1,(Qd r2)),(2,.ptr (Γ.n0+2) 0),(3,(Qb r5)),(4,(i_ r6)),(5,(Qb r8)),(6,(i_ r9)),(7,.ptr (Γ.n0+7) 0),(8,(i_ r12)),(9,.d (.lst 1 (List.map (eL 1 (eI .i64)) r14))),(10,(i_ r15)),(11,(l_ r17)),(12,(l_ r18)),(13,(i_ r19)),(14,(i_ r20)),(15,.tup [(Qd r2),.agg [(l_ r3.zD),(i_ r3.zH),.nils 1,(Qe r3.zG)]]),(16,.tup [(Qd r2),.agg [(l_ r3.zD),(i_ r3.zH),.nils 1,(Qe r3.zG)]]),(17,(Qd r2)),(18,.agg [(l_ r3.zD),(i_ r3.zH),.nils 1,(Qe r3.zG)]),(19,.tup [(Qb r5),(i_ r6)]),(20,(Qd r2)),(21,.agg [(l_ r3.zD),(i_ r3.zH),.nils 1,(Qe r3.zG)]),(22,.tup [(Qo r5),(i_ r6)]),(23,(Qb r5)),(24,(i_ r6)),(25,.tup [(Qb r8),(i_ r9)]),(26,(Qd r2)),(27,.agg [(l_ r3.zD),(i_ r3.zH),.nils 1,(Qe r3.zG)]),(28,(l_ [1])),(29,.tup [(Qo r8),(i_ r9)]),(30,(Qb r8)),(31,(i_ r9)),(32,.tup [(Qm r11),(i_ r12)]),(33,(Qd r2)),(34,.agg [(l_ r3.zD),(i_ r3.zH),.nils 1,(Qe r3.zG)]),(35,.tup [(Qm r11),(i_ r12)]),(36,(Qm r11)),(37,(i_ r12)),(38,.tup [.d (.lst 1 (List.map (eL 1 (eI .i64)) r14)),(i_ r15)]),(39,(Qm r11)),(40,.tup [.own 1 (List.map (eL 1 (eI .i64)) r14),(i_ r15)]),(41,.d (.lst 1 (List.map (eL 1 (eI .i64)) r14))),(42,(i_ r15)),(43,.tup [(l_ r17),(l_ r18),(i_ r19),(i_ r20)]),(44,(Qd r2)),(45,.agg [(l_ r3.zD),(i_ r3.zH),.nils 1,(Qe r3.zG)]),(46,(l_ [0])),(47,.tup [(l_ r17),(l_ r18),(i_ r19),(i_ r20)]),(48,(l_ r17)),(49,(l_ r18)),(50,(i_ r19)),(51,(i_ r20)),(52,(i_ r6)),(53,(b_ (r6==0))),(54,(b_ (r6==0))),(55,(Qb r5)),(56,.agg [(i_ 0),(i_ 0)]),(57,.agg [(i_ 1),(i_ 1)]),(58,.d (.lst 2 (List.map Qx [(Qa.mk 0 0),(Qa.mk 1 1)])))],Qj Γ.n0 (bxs [(2,.cells ([(l_ r3.zD),(i_ r3.zH),.nils 1,(Qe r3.zG)])),(7,.cells ((Qw r11)))]) M,Γ.n0+121⟩;exact Qdp 58 [.int .i64 0,.int .i64 0,.int .i64 1,.int .i64 1] rfl rfl ⟨sq,sq,(fPtr rfl),sq,sq,sq,sq,(fPtr rfl),sq,sq,sq,sq,sq,sq,sq,sq,sq,sq,sq,sq,sq,sq,sq,sq,sq,sq,sq,sq,sq,sq,sq,sq,sq,sq,sq,sq,sq,sq,sq,sq,sq,sq,sq,sq,sq,sq,sq,sq,sq,sq,sq,sq,sq,sq,sq,sq,sq,sq,(fSl rfl rfl),tv⟩ ⟨bS rfl rfl rfl,bS rfl rfl rfl,tv⟩ rfl) ?_;refine cl (Hbm _ _) h (cq fun x23 h=>?_);refine Z 2 0 ?_;refine bs h (fun _ h=>?_) (fun _ h=>Y);refine Z 4 0 ?_;refine bs h (fun _ h=>?_) (fun _ h=>Y);refine Z 3 0 ?_;refine Rn.weak (by show WeakSt Γ _ ⟨look [(0,(b_ false)),(1,(Qd r2)),(2,.ptr (Γ.n0+2) 0),(3,(Qb r5)),(4,(i_ r6)),(5,(Qb r8)),(6,(i_ r9)),(7,.ptr (Γ.n0+7) 0),(8,(i_ r12)),(9,.d (.lst 1 (List.map (eL 1 (eI .i64)) r14))),(10,(i_ r15)),(11,(l_ r17)),(12,(l_ r18)),(13,(i_ r19)),(14,(i_ r20)),(15,.tup [(Qd r2),.agg [(l_ r3.zD),(i_ r3.zH),.nils 1,(Qe r3.zG)]]),(16,.tup [(Qd r2),.agg [(l_ r3.zD),(i_ r3.zH),.nils 1,(Qe r3.zG)]]),(17,(Qd r2)),(18,.agg [(l_ r3.zD),(i_ r3.zH),.nils 1,(Qe r3.zG)]),(19,.tup [(Qb r5),(i_ r6)]),(20,(Qd r2)),(21,.agg [(l_ r3.zD),(i_ r3.zH),.nils 1,(Qe r3.zG)]),(22,.tup [(Qo r5),(i_ r6)]),(23,(Qb r5)),(24,(i_ r6)),(25,.tup [(Qb r8),(i_ r9)]),(26,(Qd r2)),(27,.agg [(l_ r3.zD),(i_ r3.zH),.nils 1,(Qe r3.zG)]),(28,(l_ [1])),(29,.tup [(Qo r8),(i_ r9)]),(30,(Qb r8)),(31,(i_ r9)),(32,.tup [(Qm r11),(i_ r12)]),(33,(Qd r2)),(34,.agg [(l_ r3.zD),(i_ r3.zH),.nils 1,(Qe r3.zG)]),(35,.tup [(Qm r11),(i_ r12)]),(36,(Qm r11)),(37,(i_ r12)),(38,.tup [.d (.lst 1 (List.map (eL 1 (eI .i64)) r14)),(i_ r15)]),(39,(Qm r11)),(40,.tup [.own 1 (List.map (eL 1 (eI .i64)) r14),(i_ r15)]),(41,.d (.lst 1 (List.map (eL 1 (eI .i64)) r14))),(42,(i_ r15)),(43,.tup [(l_ r17),(l_ r18),(i_ r19),(i_ r20)]),(44,(Qd r2)),(45,.agg [(l_ r3.zD),(i_ r3.zH),.nils 1,(Qe r3.zG)]),(46,(l_ [0])),(47,.tup [(l_ r17),(l_ r18),(i_ r19),(i_ r20)]),(48,(l_ r17)),(49,(l_ r18)),(50,(i_ r19)),(51,(i_ r20)),(52,(i_ r6)),(53,(b_ (r6==0))),(54,(b_ (r6==0))),(55,(Qb r5)),(56,.agg [(i_ 0),(i_ 0)]),(57,.agg [(i_ 1),(i_ 1)]),(58,.d (.lst 2 (List.map Qx [(Qa.mk 0 0),(Qa.mk 1 1)]))),(59,(b_ x23)),(60,(b_ x23)),(61,(b_ x23)),(62,(i_ r9)),(63,(b_ (r9==0))),(64,(b_ (r9==0))),(65,(b_ (r9==0))),(66,(Qb r8)),(67,.agg [(i_ 2),(i_ 1)]),(68,.d (.lst 2 (List.map Qx [(Qa.mk 2 1)])))],Qj Γ.n0 (bxs [(2,.cells ([(l_ r3.zD),(i_ r3.zH),.nils 1,(Qe r3.zG)])),(7,.cells ((Qw r11)))]) M,Γ.n0+121⟩;exact Qdp 68 [.int .i64 2,.int .i64 1] rfl rfl ⟨sq,sq,(fPtr rfl),sq,sq,sq,sq,(fPtr rfl),sq,sq,sq,sq,sq,sq,sq,sq,sq,sq,sq,sq,sq,sq,sq,sq,sq,sq,sq,sq,sq,sq,sq,sq,sq,sq,sq,sq,sq,sq,sq,sq,sq,sq,sq,sq,sq,sq,sq,sq,sq,sq,sq,sq,sq,sq,sq,sq,sq,sq,sq,sq,sq,sq,sq,sq,sq,sq,sq,sq,(fSl rfl rfl),tv⟩ ⟨bS rfl rfl rfl,bS rfl rfl rfl,tv⟩ rfl) ?_;refine cl (Hbm _ _) h (cq fun x27 h=>?_);refine Z 2 0 ?_;refine bs h (fun _ h=>?_) (fun _ h=>Y);refine Z 4 0 ?_;refine bs h (fun _ h=>?_) (fun _ h=>Y);refine Z 4 0 ?_;refine bs h (fun _ h=>?_) (fun _ h=>Y);refine Z 5 0 ?_;refine bs h (fun _ h=>?_) (fun _ h=>Y);refine Z 4 1 ?_;intro x32 h;refine Rn.weak (by show WeakSt Γ _ ⟨look [(0,(b_ false)),(1,(Qd r2)),(2,.ptr (Γ.n0+2) 0),(3,(Qb r5)),(4,(i_ r6)),(5,(Qb r8)),(6,(i_ r9)),(7,.ptr (Γ.n0+7) 0),(8,(i_ r12)),(9,.d (.lst 1 (List.map (eL 1 (eI .i64)) r14))),(10,(i_ r15)),(11,(l_ r17)),(12,(l_ r18)),(13,(i_ r19)),(14,(i_ r20)),(15,.tup [(Qd r2),.agg [(l_ r3.zD),(i_ r3.zH),.nils 1,(Qe r3.zG)]]),(16,.tup [(Qd r2),.agg [(l_ r3.zD),(i_ r3.zH),.nils 1,(Qe r3.zG)]]),(17,(Qd r2)),(18,.agg [(l_ r3.zD),(i_ r3.zH),.nils 1,(Qe r3.zG)]),(19,.tup [(Qb r5),(i_ r6)]),(20,(Qd r2)),(21,.agg [(l_ r3.zD),(i_ r3.zH),.nils 1,(Qe r3.zG)]),(22,.tup [(Qo r5),(i_ r6)]),(23,(Qb r5)),(24,(i_ r6)),(25,.tup [(Qb r8),(i_ r9)]),(26,(Qd r2)),(27,.agg [(l_ r3.zD),(i_ r3.zH),.nils 1,(Qe r3.zG)]),(28,(l_ [1])),(29,.tup [(Qo r8),(i_ r9)]),(30,(Qb r8)),(31,(i_ r9)),(32,.tup [(Qm r11),(i_ r12)]),(33,(Qd r2)),(34,.agg [(l_ r3.zD),(i_ r3.zH),.nils 1,(Qe r3.zG)]),(35,.tup [(Qm r11),(i_ r12)]),(36,(Qm r11)),(37,(i_ r12)),(38,.tup [.d (.lst 1 (List.map (eL 1 (eI .i64)) r14)),(i_ r15)]),(39,(Qm r11)),(40,.tup [.own 1 (List.map (eL 1 (eI .i64)) r14),(i_ r15)]),(41,.d (.lst 1 (List.map (eL 1 (eI .i64)) r14))),(42,(i_ r15)),(43,.tup [(l_ r17),(l_ r18),(i_ r19),(i_ r20)]),(44,(Qd r2)),(45,.agg [(l_ r3.zD),(i_ r3.zH),.nils 1,(Qe r3.zG)]),(46,(l_ [0])),(47,.tup [(l_ r17),(l_ r18),(i_ r19),(i_ r20)]),(48,(l_ r17)),(49,(l_ r18)),(50,(i_ r19)),(51,(i_ r20)),(52,(i_ r6)),(53,(b_ (r6==0))),(54,(b_ (r6==0))),(55,(Qb r5)),(56,.agg [(i_ 0),(i_ 0)]),(57,.agg [(i_ 1),(i_ 1)]),(58,.d (.lst 2 (List.map Qx [(Qa.mk 0 0),(Qa.mk 1 1)]))),(59,(b_ x23)),(60,(b_ x23)),(61,(b_ x23)),(62,(i_ r9)),(63,(b_ (r9==0))),(64,(b_ (r9==0))),(65,(b_ (r9==0))),(66,(Qb r8)),(67,.agg [(i_ 2),(i_ 1)]),(68,.d (.lst 2 (List.map Qx [(Qa.mk 2 1)]))),(69,(b_ x27)),(70,(b_ x27)),(71,(b_ x27)),(72,(i_ r12)),(73,(b_ (r12==0))),(74,(b_ (r12==0))),(75,(b_ (r12==0))),(76,(i_ r15)),(77,(b_ (r15==0))),(78,(b_ (r15==0))),(79,(b_ (r15==0))),(80,.d (.lst 1 (List.map (eL 1 (eI .i64)) r14))),(81,(i_ (r14.length:Int))),(82,(b_ ((r14.length:Int)==1))),(83,(b_ ((r14.length:Int)==1))),(84,(b_ ((r14.length:Int)==1))),(85,.d (.lst 1 (List.map (eL 1 (eI .i64)) r14))),(86,.cref ((eL 1 (eI .i64)) x32)),(87,(l_ x32)),(88,(l_ [0]))],Qj Γ.n0 (bxs [(2,.cells ([(l_ r3.zD),(i_ r3.zH),.nils 1,(Qe r3.zG)])),(7,.cells ((Qw r11)))]) M,Γ.n0+121⟩;exact Qdp 88 [.int .i64 0] rfl rfl ⟨sq,sq,(fPtr rfl),sq,sq,sq,sq,(fPtr rfl),sq,sq,sq,sq,sq,sq,sq,sq,sq,sq,sq,sq,sq,sq,sq,sq,sq,sq,sq,sq,sq,sq,sq,sq,sq,sq,sq,sq,sq,sq,sq,sq,sq,sq,sq,sq,sq,sq,sq,sq,sq,sq,sq,sq,sq,sq,sq,sq,sq,sq,sq,sq,sq,sq,sq,sq,sq,sq,sq,sq,sq,sq,sq,sq,sq,sq,sq,sq,sq,sq,sq,sq,sq,sq,sq,sq,sq,sq,sq,sq,(fSl rfl rfl),tv⟩ ⟨bS rfl rfl rfl,bS rfl rfl rfl,tv⟩ rfl) ?_;refine cl (Hcq _ _) h (cq fun x35 h=>?_);refine Z 2 0 ?_;refine bs h (fun _ h=>?_) (fun _ h=>Y);refine Z 7 1 ?_;intro x37 h;refine bs h (fun _ h=>?_) (fun _ h=>Y);refine Z 4 0 ?_;refine bs h (fun _ h=>?_) (fun _ h=>Y);refine Z 4 0 ?_;refine bs h (fun _ h=>?_) (fun _ h=>Y);refine Z 2 0 ?_;refine Rn.weak (by show WeakSt Γ _ ⟨look [(0,(b_ false)),(1,(Qd r2)),(2,.ptr (Γ.n0+2) 0),(3,(Qb r5)),(4,(i_ r6)),(5,(Qb r8)),(6,(i_ r9)),(7,.ptr (Γ.n0+7) 0),(8,(i_ r12)),(9,.d (.lst 1 (List.map (eL 1 (eI .i64)) r14))),(10,(i_ r15)),(11,(l_ r17)),(12,(l_ r18)),(13,(i_ r19)),(14,(i_ r20)),(15,.tup [(Qd r2),.agg [(l_ r3.zD),(i_ r3.zH),.nils 1,(Qe r3.zG)]]),(16,.tup [(Qd r2),.agg [(l_ r3.zD),(i_ r3.zH),.nils 1,(Qe r3.zG)]]),(17,(Qd r2)),(18,.agg [(l_ r3.zD),(i_ r3.zH),.nils 1,(Qe r3.zG)]),(19,.tup [(Qb r5),(i_ r6)]),(20,(Qd r2)),(21,.agg [(l_ r3.zD),(i_ r3.zH),.nils 1,(Qe r3.zG)]),(22,.tup [(Qo r5),(i_ r6)]),(23,(Qb r5)),(24,(i_ r6)),(25,.tup [(Qb r8),(i_ r9)]),(26,(Qd r2)),(27,.agg [(l_ r3.zD),(i_ r3.zH),.nils 1,(Qe r3.zG)]),(28,(l_ [1])),(29,.tup [(Qo r8),(i_ r9)]),(30,(Qb r8)),(31,(i_ r9)),(32,.tup [(Qm r11),(i_ r12)]),(33,(Qd r2)),(34,.agg [(l_ r3.zD),(i_ r3.zH),.nils 1,(Qe r3.zG)]),(35,.tup [(Qm r11),(i_ r12)]),(36,(Qm r11)),(37,(i_ r12)),(38,.tup [.d (.lst 1 (List.map (eL 1 (eI .i64)) r14)),(i_ r15)]),(39,(Qm r11)),(40,.tup [.own 1 (List.map (eL 1 (eI .i64)) r14),(i_ r15)]),(41,.d (.lst 1 (List.map (eL 1 (eI .i64)) r14))),(42,(i_ r15)),(43,.tup [(l_ r17),(l_ r18),(i_ r19),(i_ r20)]),(44,(Qd r2)),(45,.agg [(l_ r3.zD),(i_ r3.zH),.nils 1,(Qe r3.zG)]),(46,(l_ [0])),(47,.tup [(l_ r17),(l_ r18),(i_ r19),(i_ r20)]),(48,(l_ r17)),(49,(l_ r18)),(50,(i_ r19)),(51,(i_ r20)),(52,(i_ r6)),(53,(b_ (r6==0))),(54,(b_ (r6==0))),(55,(Qb r5)),(56,.agg [(i_ 0),(i_ 0)]),(57,.agg [(i_ 1),(i_ 1)]),(58,.d (.lst 2 (List.map Qx [(Qa.mk 0 0),(Qa.mk 1 1)]))),(59,(b_ x23)),(60,(b_ x23)),(61,(b_ x23)),(62,(i_ r9)),(63,(b_ (r9==0))),(64,(b_ (r9==0))),(65,(b_ (r9==0))),(66,(Qb r8)),(67,.agg [(i_ 2),(i_ 1)]),(68,.d (.lst 2 (List.map Qx [(Qa.mk 2 1)]))),(69,(b_ x27)),(70,(b_ x27)),(71,(b_ x27)),(72,(i_ r12)),(73,(b_ (r12==0))),(74,(b_ (r12==0))),(75,(b_ (r12==0))),(76,(i_ r15)),(77,(b_ (r15==0))),(78,(b_ (r15==0))),(79,(b_ (r15==0))),(80,.d (.lst 1 (List.map (eL 1 (eI .i64)) r14))),(81,(i_ (r14.length:Int))),(82,(b_ ((r14.length:Int)==1))),(83,(b_ ((r14.length:Int)==1))),(84,(b_ ((r14.length:Int)==1))),(85,.d (.lst 1 (List.map (eL 1 (eI .i64)) r14))),(86,.cref ((eL 1 (eI .i64)) x32)),(87,(l_ x32)),(88,(l_ [0])),(89,(b_ x35)),(90,(b_ x35)),(91,(b_ x35)),(92,.d (.lst 1 (List.map (eL 1 (eI .i64)) r14))),(93,.cref ((eL 1 (eI .i64)) x37)),(94,(l_ x37)),(95,(i_ (x37.length:Int))),(96,(b_ ((x37.length:Int)==1))),(97,(b_ ((x37.length:Int)==1))),(98,(b_ ((x37.length:Int)==1))),(99,(i_ r20)),(100,(b_ (r20==0))),(101,(b_ (r20==0))),(102,(b_ (r20==0))),(103,(i_ r19)),(104,(b_ (r19==3))),(105,(b_ (r19==3))),(106,(b_ (r19==3))),(107,(l_ r17)),(108,(l_ [0,2]))],Qj Γ.n0 (bxs [(2,.cells ([(l_ r3.zD),(i_ r3.zH),.nils 1,(Qe r3.zG)])),(7,.cells ((Qw r11)))]) M,Γ.n0+121⟩;exact Qdp 108 [.int .i64 0,.int .i64 2] rfl rfl ⟨sq,sq,(fPtr rfl),sq,sq,sq,sq,(fPtr rfl),sq,sq,sq,sq,sq,sq,sq,sq,sq,sq,sq,sq,sq,sq,sq,sq,sq,sq,sq,sq,sq,sq,sq,sq,sq,sq,sq,sq,sq,sq,sq,sq,sq,sq,sq,sq,sq,sq,sq,sq,sq,sq,sq,sq,sq,sq,sq,sq,sq,sq,sq,sq,sq,sq,sq,sq,sq,sq,sq,sq,sq,sq,sq,sq,sq,sq,sq,sq,sq,sq,sq,sq,sq,sq,sq,sq,sq,sq,sq,sq,sq,sq,sq,sq,sq,sq,sq,sq,sq,sq,sq,sq,sq,sq,sq,sq,sq,sq,sq,sq,(fSl rfl rfl),tv⟩ ⟨bS rfl rfl rfl,bS rfl rfl rfl,tv⟩ rfl) ?_;refine cl (Hcq _ _) h (cq fun x43 h=>?_);refine Z 2 0 ?_;refine bs h (fun _ h=>?_) (fun _ h=>Y);refine Z 5 0 ?_;refine bs h (fun _ h=>?_) (fun _ h=>Y);refine Z 2 0 ?_;refine Rn.weak (by show WeakSt Γ _ ⟨look [(0,(b_ false)),(1,(Qd r2)),(2,.ptr (Γ.n0+2) 0),(3,(Qb r5)),(4,(i_ r6)),(5,(Qb r8)),(6,(i_ r9)),(7,.ptr (Γ.n0+7) 0),(8,(i_ r12)),(9,.d (.lst 1 (List.map (eL 1 (eI .i64)) r14))),(10,(i_ r15)),(11,(l_ r17)),(12,(l_ r18)),(13,(i_ r19)),(14,(i_ r20)),(15,.tup [(Qd r2),.agg [(l_ r3.zD),(i_ r3.zH),.nils 1,(Qe r3.zG)]]),(16,.tup [(Qd r2),.agg [(l_ r3.zD),(i_ r3.zH),.nils 1,(Qe r3.zG)]]),(17,(Qd r2)),(18,.agg [(l_ r3.zD),(i_ r3.zH),.nils 1,(Qe r3.zG)]),(19,.tup [(Qb r5),(i_ r6)]),(20,(Qd r2)),(21,.agg [(l_ r3.zD),(i_ r3.zH),.nils 1,(Qe r3.zG)]),(22,.tup [(Qo r5),(i_ r6)]),(23,(Qb r5)),(24,(i_ r6)),(25,.tup [(Qb r8),(i_ r9)]),(26,(Qd r2)),(27,.agg [(l_ r3.zD),(i_ r3.zH),.nils 1,(Qe r3.zG)]),(28,(l_ [1])),(29,.tup [(Qo r8),(i_ r9)]),(30,(Qb r8)),(31,(i_ r9)),(32,.tup [(Qm r11),(i_ r12)]),(33,(Qd r2)),(34,.agg [(l_ r3.zD),(i_ r3.zH),.nils 1,(Qe r3.zG)]),(35,.tup [(Qm r11),(i_ r12)]),(36,(Qm r11)),(37,(i_ r12)),(38,.tup [.d (.lst 1 (List.map (eL 1 (eI .i64)) r14)),(i_ r15)]),(39,(Qm r11)),(40,.tup [.own 1 (List.map (eL 1 (eI .i64)) r14),(i_ r15)]),(41,.d (.lst 1 (List.map (eL 1 (eI .i64)) r14))),(42,(i_ r15)),(43,.tup [(l_ r17),(l_ r18),(i_ r19),(i_ r20)]),(44,(Qd r2)),(45,.agg [(l_ r3.zD),(i_ r3.zH),.nils 1,(Qe r3.zG)]),(46,(l_ [0])),(47,.tup [(l_ r17),(l_ r18),(i_ r19),(i_ r20)]),(48,(l_ r17)),(49,(l_ r18)),(50,(i_ r19)),(51,(i_ r20)),(52,(i_ r6)),(53,(b_ (r6==0))),(54,(b_ (r6==0))),(55,(Qb r5)),(56,.agg [(i_ 0),(i_ 0)]),(57,.agg [(i_ 1),(i_ 1)]),(58,.d (.lst 2 (List.map Qx [(Qa.mk 0 0),(Qa.mk 1 1)]))),(59,(b_ x23)),(60,(b_ x23)),(61,(b_ x23)),(62,(i_ r9)),(63,(b_ (r9==0))),(64,(b_ (r9==0))),(65,(b_ (r9==0))),(66,(Qb r8)),(67,.agg [(i_ 2),(i_ 1)]),(68,.d (.lst 2 (List.map Qx [(Qa.mk 2 1)]))),(69,(b_ x27)),(70,(b_ x27)),(71,(b_ x27)),(72,(i_ r12)),(73,(b_ (r12==0))),(74,(b_ (r12==0))),(75,(b_ (r12==0))),(76,(i_ r15)),(77,(b_ (r15==0))),(78,(b_ (r15==0))),(79,(b_ (r15==0))),(80,.d (.lst 1 (List.map (eL 1 (eI .i64)) r14))),(81,(i_ (r14.length:Int))),(82,(b_ ((r14.length:Int)==1))),(83,(b_ ((r14.length:Int)==1))),(84,(b_ ((r14.length:Int)==1))),(85,.d (.lst 1 (List.map (eL 1 (eI .i64)) r14))),(86,.cref ((eL 1 (eI .i64)) x32)),(87,(l_ x32)),(88,(l_ [0])),(89,(b_ x35)),(90,(b_ x35)),(91,(b_ x35)),(92,.d (.lst 1 (List.map (eL 1 (eI .i64)) r14))),(93,.cref ((eL 1 (eI .i64)) x37)),(94,(l_ x37)),(95,(i_ (x37.length:Int))),(96,(b_ ((x37.length:Int)==1))),(97,(b_ ((x37.length:Int)==1))),(98,(b_ ((x37.length:Int)==1))),(99,(i_ r20)),(100,(b_ (r20==0))),(101,(b_ (r20==0))),(102,(b_ (r20==0))),(103,(i_ r19)),(104,(b_ (r19==3))),(105,(b_ (r19==3))),(106,(b_ (r19==3))),(107,(l_ r17)),(108,(l_ [0,2])),(109,(b_ x43)),(110,(b_ x43)),(111,(b_ x43)),(112,(l_ r17)),(113,(i_ (r17.length:Int))),(114,(b_ ((r17.length:Int)==2))),(115,(b_ ((r17.length:Int)==2))),(116,(b_ ((r17.length:Int)==2))),(117,(l_ r18)),(118,(l_ [0]))],Qj Γ.n0 (bxs [(2,.cells ([(l_ r3.zD),(i_ r3.zH),.nils 1,(Qe r3.zG)])),(7,.cells ((Qw r11)))]) M,Γ.n0+121⟩;exact Qdp 118 [.int .i64 0] rfl rfl ⟨sq,sq,(fPtr rfl),sq,sq,sq,sq,(fPtr rfl),sq,sq,sq,sq,sq,sq,sq,sq,sq,sq,sq,sq,sq,sq,sq,sq,sq,sq,sq,sq,sq,sq,sq,sq,sq,sq,sq,sq,sq,sq,sq,sq,sq,sq,sq,sq,sq,sq,sq,sq,sq,sq,sq,sq,sq,sq,sq,sq,sq,sq,sq,sq,sq,sq,sq,sq,sq,sq,sq,sq,sq,sq,sq,sq,sq,sq,sq,sq,sq,sq,sq,sq,sq,sq,sq,sq,sq,sq,sq,sq,sq,sq,sq,sq,sq,sq,sq,sq,sq,sq,sq,sq,sq,sq,sq,sq,sq,sq,sq,sq,sq,sq,sq,sq,sq,sq,sq,sq,sq,sq,(fSl rfl rfl),tv⟩ ⟨bS rfl rfl rfl,bS rfl rfl rfl,tv⟩ rfl) ?_;refine cl (Hcq _ _) h (cq fun _ h=>?_);exact Y
theorem Ql2 {P:Program} {c:Nat} {Qbj:_}
    (Hbn:Qe8 P 29 Qbj) (hcf:Ql P c=some Qh9):Qh8 P c (Qia Qbj):=by
 intro m1 k2 r h;intro M nb hk3;refine Q3g hcf rfl M _ nb (fun hM=>Qtm hM ⟨(ltB hM hk3),tv⟩) fun Γ hP hnt hn0 hM=>?_;subst hP hn0;refine ini ?_;refine Tr.puts [(k2,.cells (Q6 m1))] ⟨hk3,tv⟩ ?_;refine Z 3 0 ?_;refine Rn.k (v:=(b_ true)) tv rfl rfl rfl ?_;refine Z 1 0 ?_;refine Tr.condT rfl rfl ?_;refine Z 6 0 ?_;refine Rn.load (v:=(Qu m1.automaton_)) tv rfl (Qgn (ltB hM hk3) pg0) rfl rfl ?_;refine Z 3 0 ?_;refine Rn.load (v:=(l_ m1.observable_)) tv rfl (Qgn (ltB hM hk3) pg0) rfl rfl ?_;obtain ⟨⟨r5,r6⟩,h4,h⟩:=bnd h;refine Rn.call (args:=[(Qu m1.automaton_),(l_ m1.observable_),.nils 1]) tv rfl (fun M2 nb2=>ACalls.weak (args':=[(Qu m1.automaton_),(l_ m1.observable_),(l_ [])]) (Hbn _ _ _ _ h4 M2 nb2) (cS rfl (cS rfl (.cons (WkV.nilsD _) .nil))) rfl) pc0 ?_;refine Z 5 0 ?_;refine Rn.storeDB (cs':=[(l_ m1.automaton_.zD),(i_ m1.automaton_.zH),(l_ m1.automaton_.zF),(Qe m1.automaton_.zG),(Qb m1.labels_),(l_ m1.observable_),(l_ r5),(o_ m1.seen_)]) tv rfl rfl (ltB hM hk3) pg0 rfl rfl ps0 ?_;refine Z 5 0 ?_;refine Rn.storeB (v:=.nils 1) (cs':=[(l_ m1.automaton_.zD),(i_ m1.automaton_.zH),(l_ m1.automaton_.zF),(Qe m1.automaton_.zG),(Qb m1.labels_),(l_ m1.observable_),(l_ r5),.nils 1]) tv rfl rfl rfl (ltB hM hk3) rfl pg0 rfl rfl ps0 ?_;refine Rn.weak (Qxw (B:=[(k2,.cells ([(l_ m1.automaton_.zD),(i_ m1.automaton_.zH),(l_ m1.automaton_.zF),(Qe m1.automaton_.zG),(Qb m1.labels_),(l_ m1.observable_),(l_ r5),.nils 1]))]) (B':=[(k2,.cells ([(l_ m1.automaton_.zD),(i_ m1.automaton_.zH),(l_ m1.automaton_.zF),(Qe m1.automaton_.zG),(Qb m1.labels_),(l_ m1.observable_),(l_ r5),.own 1 (List.map (eI .i64) [])]))]) ⟨⟨rfl,(cS rfl (cS rfl (cS rfl (cS rfl (cS rfl (cS rfl (cS rfl (.cons (WkV.nilsO _) .nil))))))))⟩,tv⟩ (by show WeakSt Γ _ ⟨look [(0,.ptr k2 0),(2,.ptr k2 0),(3,(b_ true)),(4,.tup [(l_ r5),(i_ r6)]),(5,.ptr k2 0),(6,.ptr k2 0),(7,.ptr k2 0),(8,.ptr k2 0),(9,(Qu m1.automaton_)),(10,.ptr k2 0),(11,.ptr k2 0),(12,.ptr k2 5),(13,(l_ m1.observable_)),(14,.tup [(l_ r5),(i_ r6)]),(15,(l_ r5)),(16,(i_ r6)),(17,.ptr k2 0),(18,.ptr k2 6),(19,.ptr k2 0),(20,.ptr k2 0),(21,.ptr k2 7)],Qj Γ.n0 (bxs []) (Mem.puts M [(k2,.cells ([(l_ m1.automaton_.zD),(i_ m1.automaton_.zH),(l_ m1.automaton_.zF),(Qe m1.automaton_.zG),(Qb m1.labels_),(l_ m1.observable_),(l_ r5),.own 1 (List.map (eI .i64) [])]))]),Γ.n0+22⟩;exact Qhp [] ⟨(Qlz (ltB hM hk3)),(Qlz (ltB hM hk3)),sq,sq,(Qlz (ltB hM hk3)),(Qlz (ltB hM hk3)),(Qlz (ltB hM hk3)),(Qlz (ltB hM hk3)),sq,(Qlz (ltB hM hk3)),(Qlz (ltB hM hk3)),(Qlz (ltB hM hk3)),sq,sq,sq,sq,(Qlz (ltB hM hk3)),(Qlz (ltB hM hk3)),(Qlz (ltB hM hk3)),(Qlz (ltB hM hk3)),(Qlz (ltB hM hk3)),tv⟩ tv rfl)) ?_;exact Y
theorem Qj9 {P:Program} {c:Nat} {Qbc:_}
    (Hbh:Qe9 P 55 Qbc) (hcf:Ql P c=some Qgu):Qej P c (Qbx Qbc):=by
 intro m1 k2 r h;intro M nb hk3;refine Qs6 hcf rfl M nb fun Γ hP hnt hn0 hM=>?_;subst hP hn0;refine ini ?_;refine Z 8 0 ?_;refine Rn.k (v:=(b_ false)) tv rfl rfl rfl ?_;refine Z 1 0 ?_;refine Tr.condF rfl rfl ?_;refine Z 11 0 ?_;refine cl (Hbh _ _) h (cq fun _ h=>?_);exact Y
theorem Qkx {P:Program} {c:Nat} {Qba:_} {Qbx:_}
    (Hbe:Qet P 31 Qba)
    (Hay:Qej P 40 Qbx) (hcf:Ql P c=some Qhg):Qhf P c (Qhh Qba Qbx):=by
 intro m1 cv4 k2 r h;intro M nb hk3;refine Qs6 hcf rfl M nb fun Γ hP hnt hn0 hM=>?_;subst hP hn0;refine ini ?_;refine Z 9 0 ?_;refine Rn.k (v:=(b_ false)) tv rfl rfl rfl ?_;refine Z 1 0 ?_;refine Tr.condF rfl rfl ?_;refine Z 4 0 ?_;refine cm h (fun _ h5 M2 nb2 hn hx=>Hay _ k2 _ h5 M2 nb2 (hx _ _ (Qz0 hM hk3))) rfl (cq fun _ h=>?_);refine Z 1 0 ?_;refine cl (Hbe _ _) h (cq fun ⟨_,_⟩ h=>?_);exact Y
end Go.Abs
end
section
namespace Go.Abs
open Go
set_option maxRecDepth 10000
set_option maxHeartbeats 4000000
theorem Qsq {P:Program} {c:Nat} {Qz:_} {Qt:_} {Qp:_} {Qn:_} {Qbh:_}
    (Hbr:Qd9 P 67 Qz)
    (Hbu:Qdi P 68 Qt)
    (Hbz:Qcv P 72 Qp)
    (Hbx:Qcn P 77 Qn)
    (Hbs:Qe7 P 101 Qbh) (hcf:Ql P c=some Qo4):Qj8 P c (Qdx Qz Qt Qp Qn Qbh):=by
 intro a1 ov2 ev3 ev4 r h;refine Qb4 hcf rfl fun Γ M hP hnt hM=>?_;subst hP;refine ini ?_;refine Z 11 0 ?_;refine cl (Hbr _ _) h (cq fun x6 h=>?_);refine Z 7 0 ?_;refine cd h rfl (fun h=>Y) (fun h=>?_);refine Z 7 0 ?_;refine cl (Hbs _ _) h (cq fun x9 h=>?_);refine Z 7 0 ?_;refine cd h rfl (fun h=>Y) (fun h=>?_);refine Z 5 0 ?_;refine cl (Hbu _ _) h (cq fun x12 h=>?_);refine Z 9 0 ?_;refine Rn.weak (by show WeakSt Γ _ ⟨look [(0,(Qu a1)),(1,(l_ ov2)),(2,(l_ ev3)),(3,(i_ ev4)),(4,.ptr (Γ.n0+4) 0),(8,.nils 1),(9,(i_ 0)),(10,(i_ x6)),(11,(i_ x9)),(12,.ptr (Γ.n0+12) 0),(13,(Qu a1)),(14,(l_ ov2)),(15,(i_ x6)),(16,(i_ x6)),(17,(b_ (x6 != 0))),(19,(l_ ev3)),(20,.ptr (Γ.n0+4) 1),(21,(i_ a1.zH)),(22,(i_ x9)),(23,(i_ x9)),(24,(b_ (x9 != 0))),(26,(Qu a1)),(27,(l_ ov2)),(28,(Qbb x12)),(29,(Qbb x12)),(30,(i_ ev4)),(31,(l_ [ev4]))],Qj Γ.n0 (bxs [(4,.cells ((Qq a1))),(12,.cells ((Qv x12)))]) M,Γ.n0+38⟩;exact Qdp 31 [.int .i64 ev4] rfl rfl ⟨sq,sq,sq,sq,(fPtr rfl),sq,sq,sq,sq,(fPtr rfl),sq,sq,sq,sq,sq,sq,(fPtr rfl),sq,sq,sq,sq,sq,sq,sq,sq,sq,(fSl rfl rfl),tv⟩ ⟨bS rfl rfl rfl,bS rfl rfl rfl,tv⟩ rfl) ?_;refine cl (Hbx _ _) h (cq fun _ h=>?_);refine Z 2 0 ?_;refine Tr.cond rfl (fun hb15=>?_) (fun hb15=>?_)
 ·have hb15:=nT' hb15;replace h:=bF hb15 h;exact Y
 ·have hb15:=nF' hb15;replace h:=bT hb15 h;refine Z 6 0 ?_;refine cl (Hbz _ _ _) h (cq fun _ h=>?_);exact Y
theorem Qky {P:Program} {c:Nat} {Q9:_} {Qdx:_}
    (Hab:Qer P 64 Q9)
    (Hbp:Qj8 P 83 Qdx) (hcf:Ql P c=some Qhj):Qhi P c (Qhk Q9 Qdx):=by
 intro m1 ev4 k2 r h;intro M nb hk3;refine Q3g hcf rfl M _ nb (fun hM=>Qtm hM ⟨(ltB hM hk3),tv⟩) fun Γ hP hnt hn0 hM=>?_;subst hP hn0;refine ini ?_;refine Tr.puts [(k2,.cells (Q6 m1))] ⟨hk3,tv⟩ ?_;refine Z 9 0 ?_;refine Rn.k (v:=(b_ false)) tv rfl rfl rfl ?_;refine Z 2 0 ?_;refine Tr.condF rfl rfl ?_;refine Z 5 0 ?_;refine Rn.load (v:=(l_ m1.observable_)) tv rfl (Qgn (ltB hM hk3) pg0) rfl rfl ?_;refine Z 1 0 ?_;refine cl (Hab _ _) h (cq fun _ h=>?_);refine Z 3 0 ?_;refine Tr.cond rfl (fun hb7=>?_) (fun hb7=>?_)
 ·have hb7:=nT' hb7;replace h:=bF hb7 h;exact Y
 ·have hb7:=nF' hb7;replace h:=bT hb7 h;refine Z 5 0 ?_;refine Rn.load (v:=(l_ m1.seen_)) tv rfl (Qgn (ltB hM hk3) pg0) rfl rfl ?_;refine Z 4 0 ?_;refine cd h rfl (fun h=>Y) (fun h=>?_);refine Z 6 0 ?_;refine Rn.load (v:=(Qu m1.automaton_)) tv rfl (Qgn (ltB hM hk3) pg0) rfl rfl ?_;refine Z 3 0 ?_;refine Rn.load (v:=(l_ m1.observable_)) tv rfl (Qgn (ltB hM hk3) pg0) rfl rfl ?_;refine Z 3 0 ?_;refine Rn.load (v:=(l_ m1.estimate_)) tv rfl (Qgn (ltB hM hk3) pg0) rfl rfl ?_;refine Z 1 0 ?_;refine cl (Hbp _ _ _ _) h (cq fun ⟨r10,_⟩ h=>?_);refine Z 13 0 ?_;refine cd h rfl (fun h=>Y) (fun h=>?_);refine Z 7 0 ?_;refine Rn.storeDB (cs':=[(l_ m1.automaton_.zD),(i_ m1.automaton_.zH),(l_ m1.automaton_.zF),(Qe m1.automaton_.zG),(Qb m1.labels_),(l_ m1.observable_),(l_ r10),(o_ m1.seen_)]) tv rfl rfl (ltB hM hk3) pg0 rfl rfl ps0 ?_;refine Z 7 0 ?_;refine Rn.loadTB (cs':=[(l_ m1.automaton_.zD),(i_ m1.automaton_.zH),(l_ m1.automaton_.zF),(Qe m1.automaton_.zG),(Qb m1.labels_),(l_ m1.observable_),(l_ r10),(l_ m1.seen_)]) tv rfl (ltB hM hk3) pg0 rfl rfl ps0 ?_;refine Z 5 1 ?_;intro x13 h;refine Rn.storeOB (cs':=[(l_ m1.automaton_.zD),(i_ m1.automaton_.zH),(l_ m1.automaton_.zF),(Qe m1.automaton_.zG),(Qb m1.labels_),(l_ m1.observable_),(l_ r10),(o_ x13)]) tv rfl rfl (ltB hM hk3) pg0 rfl rfl ps0 ?_;exact Y
theorem Qnc {P:Program} {c:Nat} {Qy:_}
    (Hcf:Qd8 P 63 Qy) (hcf:Ql P c=some Qiw):Qiv P c (Qix Qy):=by
 intro m1 k2 r h;intro M nb hk3;refine Qs6 hcf rfl M nb fun Γ hP hnt hn0 hM=>?_;subst hP hn0;refine ini ?_;refine Z 8 0 ?_;refine Rn.k (v:=(b_ false)) tv rfl rfl rfl ?_;refine Z 1 0 ?_;refine Tr.condF rfl rfl ?_;refine Z 7 0 ?_;refine cl (Hcf _) h (cq fun _ h=>?_);exact Y
theorem Ql3 {P:Program} {c:Nat} {Qy:_}
    (Hcf:Qd8 P 63 Qy) (hcf:Ql P c=some Qic):Qib P c (Qid Qy):=by
 intro m1 k2 r h M nb hk3;refine fn_trN hcf rfl M nb fun Γ hP hnt hn0 hM=>?_;subst hP hn0;refine Tr.init [(0,.ptr k2 0)] rfl ?_;refine Z 8 0 ?_;refine Rn.k (v:=(b_ false)) tv rfl rfl rfl ?_;refine Z 1 0 ?_;refine Tr.condF rfl rfl ?_;refine Z 15 0 ?_;refine cl (Hcf _) h (cq fun x5 h=>?_);refine Z 8 0 ?_;cases sj h;exact ⟨.inr rfl,_,rfl,fun _ _ _ _ h=>h,(show There _ _ from thN rfl),⟨⟨tv,tv,tv,tv,tv,tv,tv,tv,tv⟩,tv⟩,fun k hk=>Qdo hk,lrAt ⟨(by show Qj Γ.n0 _ M (Γ.n0+3)=some (.cells [(l_ m1.automaton_.zD),(i_ m1.automaton_.zH),(l_ m1.automaton_.zF),(Qe m1.automaton_.zG),(Qb m1.labels_),(l_ m1.observable_),(l_ m1.estimate_),(o_ x5)]);exact Qcr rfl),tv⟩,rfl⟩
theorem Qjh {P:Program} {c:Nat} (hcf:Ql P c=some Qge):Qef P c (Qbv):=by
 intro  r h;refine Qb4 hcf rfl fun Γ M hP hnt hM=>?_;subst hP;refine ini ?_;refine Z 3 0 ?_;refine Rn.k (v:=(b_ false)) tv rfl rfl rfl ?_;refine Z 1 0 ?_;refine Tr.condF rfl rfl ?_;exact Y
theorem Qiz {P:Program} {c:Nat} (hcf:Ql P c=some Qfw):Qdy P c (Qbp):=by
 intro cv1 r h;refine Qb4 hcf rfl fun Γ M hP hnt hM=>?_;subst hP;refine ini ?_;refine Z 9 0 ?_;refine Rn.k (v:=(b_ true)) tv rfl rfl rfl ?_;refine Z 1 0 ?_;refine Tr.condT rfl rfl ?_;exact Y
theorem Qi0 {P:Program} {c:Nat} (hcf:Ql P c=some Qfx):Qdz P c (Qbq):=by
 intro ev1 r h;refine Qb4 hcf rfl fun Γ M hP hnt hM=>?_;subst hP;refine ini ?_;refine Z 9 0 ?_;refine Rn.k (v:=(b_ true)) tv rfl rfl rfl ?_;refine Z 2 0 ?_;refine Tr.condT rfl rfl ?_;exact Y
theorem Qip {P:Program} {c:Nat} (hcf:Ql P c=some Qfj):Qdk P c (Qbl):=by
 intro  r h;refine Qb4 hcf rfl fun Γ M hP hnt hM=>?_;subst hP;refine ini ?_;refine Z 8 0 ?_;refine Rn.k (v:=(b_ true)) tv rfl rfl rfl ?_;refine Z 1 0 ?_;refine Tr.condT rfl rfl ?_;exact Y
theorem Qka {P:Program} {c:Nat} (hcf:Ql P c=some Qgv):Qek P c (Qby):=by
 intro  r h;refine Qb4 hcf rfl fun Γ M hP hnt hM=>?_;subst hP;refine ini ?_;refine Z 8 0 ?_;refine Rn.k (v:=(b_ true)) tv rfl rfl rfl ?_;refine Z 1 0 ?_;refine Tr.condT rfl rfl ?_;exact Y
theorem Qji {P:Program} {c:Nat} (hcf:Ql P c=some Qgf):Qeg P c (Qbw):=by
 intro  r h;refine Qb4 hcf rfl fun Γ M hP hnt hM=>?_;subst hP;refine ini ?_;refine Z 8 0 ?_;refine Rn.k (v:=(b_ true)) tv rfl rfl rfl ?_;refine Z 1 0 ?_;refine Tr.condT rfl rfl ?_;exact Y
theorem Qkb {P:Program} {c:Nat} {Qco:_} {Qbv:_} {Qbp:_} {Qbq:_} {Qbl:_} {Qby:_} {Qbw:_}
    (Hbk:Qhe P 11 Qco)
    (Hbb:Qef P 37 Qbv)
    (Hbd:Qdy P 38 Qbp)
    (Hba:Qdz P 39 Qbq)
    (Haz:Qdk P 40 Qbl)
    (Hbc:Qek P 41 Qby)
    (Hax:Qeg P 42 Qbw) (hcf:Ql P c=some Qgx):Qgw P c (Qel Qco Qbv Qbp Qbq Qbl Qby Qbw):=by
 intro ev1 cv2 r h;refine Qb4 hcf rfl fun Γ M hP hnt hM=>?_;subst hP;refine ini ?_;refine Z 7 0 ?_;refine cl Hbk h (cq fun _ h=>?_);refine Z 2 0 ?_;refine Tr.cond rfl (fun hb5=>?_) (fun hb5=>?_)
 ·have hb5:=nT' hb5;replace h:=bF hb5 h;exact Y
 ·have hb5:=nF' hb5;replace h:=bT hb5 h;refine Z 8 0 ?_;refine cl Hbb h (cq fun _ h=>?_);refine Z 5 0 ?_;refine cl (Hbd _) h (cq fun ⟨_,_⟩ h=>?_);refine Z 10 0 ?_;refine cl (Hba _) h (cq fun _ h=>?_);refine Z 2 0 ?_;refine bs h (fun hb13 h=>?_) (fun hb13 h=>Y);refine Z 1 0 ?_;refine cl Haz h (cq fun _ h=>?_);refine Rn.k (v:=.d (.int .i64 0)) (gw rfl hb13) rfl rfl rfl (Rn.k (v:=.d (.bool true)) (gw rfl hb13) rfl rfl rfl ?_);refine Z 6 0 ?_;refine bs h (fun _ h=>?_) (fun _ h=>Y);refine Z 4 0 ?_;refine bs h (fun hb17 h=>?_) (fun hb17 h=>Y);refine Z 1 0 ?_;refine cl Hbc h (cq fun _ h=>?_);refine Rn.k (v:=.d (.int .i64 0)) (gw rfl hb17) rfl rfl rfl (Rn.k (v:=.d (.bool true)) (gw rfl hb17) rfl rfl rfl ?_);refine Z 3 0 ?_;refine cl Hax h (cq fun _ h=>?_);refine Rn.k (v:=(b_ true)) (gw (b:=true) rfl rfl) rfl rfl rfl ?_;exact Y
end Go.Abs
end
section
namespace Go.Proofs
open Go.Abs
set_option maxRecDepth 100000
theorem Ql4:Ql Tryz.prog 7=some Qgx:=by kernel_rfl
theorem Qrp:Ql Tryz.prog 11=some Qkt:=by kernel_rfl
theorem Qvm:Ql Tryz.prog 13=some Qoz:=by kernel_rfl
theorem Qvn:Ql Tryz.prog 15=some Qo2:=by kernel_rfl
theorem Q1j:Ql Tryz.prog 17=some Qwa:=by kernel_rfl
theorem Qvo:Ql Tryz.prog 18=some Qoy:=by kernel_rfl
theorem Qsr:Ql Tryz.prog 20=some Qln:=by kernel_rfl
theorem Qss:Ql Tryz.prog 23=some Qlo:=by kernel_rfl
theorem Qst:Ql Tryz.prog 27=some Qlm:=by kernel_rfl
theorem Qrq:Ql Tryz.prog 29=some Qkr:=by kernel_rfl
theorem Qtp:Ql Tryz.prog 31=some Qm9:=by kernel_rfl
theorem Qtq:Ql Tryz.prog 34=some Qnb:=by kernel_rfl
theorem Qvp:Ql Tryz.prog 36=some Qow:=by kernel_rfl
theorem Qof:Ql Tryz.prog 37=some Qh9:=by kernel_rfl
theorem Qnd:Ql Tryz.prog 38=some Qhg:=by kernel_rfl
theorem Qne:Ql Tryz.prog 39=some Qhj:=by kernel_rfl
theorem Ql5:Ql Tryz.prog 40=some Qgu:=by kernel_rfl
theorem Qpc:Ql Tryz.prog 41=some Qiw:=by kernel_rfl
theorem Qog:Ql Tryz.prog 42=some Qic:=by kernel_rfl
theorem Qrr:Ql Tryz.prog 50=some Qkn:=by kernel_rfl
theorem Qqv:Ql Tryz.prog 54=some Qjo:=by kernel_rfl
theorem Quq:Ql Tryz.prog 55=some Qnz:=by kernel_rfl
theorem Qvq:Ql Tryz.prog 56=some Qo0:=by kernel_rfl
theorem Qtr:Ql Tryz.prog 61=some Qna:=by kernel_rfl
theorem Qur:Ql Tryz.prog 62=some Qn0:=by kernel_rfl
theorem Qus:Ql Tryz.prog 63=some Qnx:=by kernel_rfl
theorem Qts:Ql Tryz.prog 64=some Qm7:=by kernel_rfl
theorem Qxz:Ql Tryz.prog 65=some Qrh:=by kernel_rfl
theorem Qut:Ql Tryz.prog 67=some Qny:=by kernel_rfl
theorem Qsu:Ql Tryz.prog 68=some Qll:=by kernel_rfl
theorem Qnf:Ql Tryz.prog 69=some Qhc:=by kernel_rfl
theorem Qkz:Ql Tryz.prog 71=some Qf1:=by kernel_rfl
theorem Qno:Ql Tryz.prog 72=some Qhu:=by kernel_rfl
theorem Qsv:Ql Tryz.prog 74=some Qlk:=by kernel_rfl
theorem Qoh:Ql Tryz.prog 75=some Qh7:=by kernel_rfl
theorem Qqw:Ql Tryz.prog 76=some Qjq:=by kernel_rfl
theorem Qng:Ql Tryz.prog 77=some Qha:=by kernel_rfl
theorem Qvr:Ql Tryz.prog 78=some Qo1:=by kernel_rfl
theorem Qvs:Ql Tryz.prog 79=some Qov:=by kernel_rfl
theorem Qwe:Ql Tryz.prog 80=some Qqi:=by kernel_rfl
theorem Qrs:Ql Tryz.prog 81=some Qks:=by kernel_rfl
theorem Qvt:Ql Tryz.prog 82=some Qo3:=by kernel_rfl
theorem Qvu:Ql Tryz.prog 83=some Qo4:=by kernel_rfl
theorem Qrt:Ql Tryz.prog 87=some Qko:=by kernel_rfl
theorem Qoi:Ql Tryz.prog 100=some Qh6:=by kernel_rfl
theorem Qru:Ql Tryz.prog 101=some Qkq:=by kernel_rfl
theorem Qnh:Ql Tryz.prog 102=some Qhb:=by kernel_rfl
theorem Qjj:Ql Tryz.prog 105=some Qfi:=by kernel_rfl
theorem Qwf:Ql Tryz.prog 106=some Qqj:=by kernel_rfl
theorem Qqx:Ql Tryz.prog 107=some Qjp:=by kernel_rfl
theorem Qqy:Ql Tryz.prog 108=some Qjr:=by kernel_rfl
theorem Qlb:Ql Tryz.prog 109=some Qgc:=by kernel_rfl
theorem Qsw:Ql Tryz.prog 110=some Qlj:=by kernel_rfl
theorem Qqz:Ql Tryz.prog 111=some Qjn:=by kernel_rfl
theorem Qvv:Ql Tryz.prog 112=some Qou:=by kernel_rfl
theorem Quu:Ql Tryz.prog 118=some Qnv:=by kernel_rfl
theorem Qtt:Ql Tryz.prog 123=some Qmr:=by kernel_rfl
theorem Qtu:Ql Tryz.prog 124=some Qmu:=by kernel_rfl
theorem Qtv:Ql Tryz.prog 125=some Qmw:=by kernel_rfl
theorem Qtw:Ql Tryz.prog 126=some Qmy:=by kernel_rfl
theorem Qtx:Ql Tryz.prog 127=some Qm1:=by kernel_rfl
theorem Qty:Ql Tryz.prog 128=some Qm4:=by kernel_rfl
theorem Qvw:Ql Tryz.prog 129=some Qox:=by kernel_rfl
theorem Qye:Ql Tryz.prog 143=some Qs7:=by kernel_rfl
theorem Quv:Ql Tryz.prog 144=some Qnw:=by kernel_rfl
theorem Qlc:Ql Tryz.prog 145=some Qgd:=by kernel_rfl
theorem Qx0:Ql Tryz.prog 162=some Qrg:=by kernel_rfl
theorem Qld:Ql Tryz.prog 37=some Qge:=by kernel_rfl
theorem Qkc:Ql Tryz.prog 38=some Qfw:=by kernel_rfl
theorem Qkd:Ql Tryz.prog 39=some Qfx:=by kernel_rfl
theorem Qjk:Ql Tryz.prog 40=some Qfj:=by kernel_rfl
theorem Ql6:Ql Tryz.prog 41=some Qgv:=by kernel_rfl
theorem Qle:Ql Tryz.prog 42=some Qgf:=by kernel_rfl
theorem Qrv:Ql Tryz.prog 90=some Qkp:=by kernel_rfl
end Go.Proofs
end
section
namespace Go.Abs
open Go Go.Sort
section plain
variable {β:Type}
def insB (lt:β→β→Bool) (x:β):List β→List β
 | []=>[x]
 | y::ys=>if lt y x then y::insB lt x ys else x::y::ys
def Qs8 (lt:β→β→Bool):List β→List β
 | []=>[]
 | x::xs=>insB lt x (Qs8 lt xs)
theorem Qx1 (lt:β→β→Bool) (x:β):∀ l,(insB lt x l).Perm (x::l)
 | []=>.refl _
 | y::ys=>by
  unfold insB;split
  ·exact ((Qx1 lt x ys).cons y).trans (.swap x y ys)
  ·exact .refl _
theorem Qtz (lt:β→β→Bool):∀ l,(Qs8 lt l).Perm l
 | []=>.refl _
 | x::xs=>(Qx1 lt x _).trans ((Qtz lt xs).cons x)
theorem Quw (lt:β→β→Bool) (l:List β):(Qs8 lt l).length=l.length:=(Qtz lt l).length_eq
theorem Qx2 {lt:β→β→Bool} (h:SWO lt) (x:β):∀ l,l.Pairwise (fun a b=>lt b a=false)→(insB lt x l).Pairwise fun a b=>lt b a=false
 | [],_=>by simp [insB]
 | y::ys,hl=>by
  obtain ⟨h1,h2⟩:=List.pairwise_cons.1 hl;unfold insB;split
  ·rename_i hc;refine List.pairwise_cons.2 ⟨fun z hz=>?_,Qx2 h x ys h2⟩;rcases List.mem_cons.1 ((Qx1 lt x ys).mem_iff.1 hz) with rfl|hz
   ·cases hb:lt z y with
    | false=>rfl
    | true=>have:=h.trans _ _ _ hc hb;rw [h.irrefl] at this;cases this
   ·exact h1 z hz
  ·rename_i hc;have hc:lt y x=false:=by cases h:lt y x<;>simp_all
   refine List.pairwise_cons.2 ⟨fun z hz=>?_,hl⟩;rcases List.mem_cons.1 hz with rfl|hz
   ·exact hc
   ·exact h.ntrans _ _ _ (h1 z hz) hc
theorem Qux {lt:β→β→Bool} (h:SWO lt):∀ l,(Qs8 lt l).Pairwise fun a b=>lt b a=false
 | []=>.nil
 | x::xs=>Qx2 h x _ (Qux h xs)
end plain
def Qpd (a b:Int):Bool:=decide (a<b)
def Q62 (l:List Int):Option (List Int):=if l.length≤lim then some (Qs8 Qpd l) else none
end Go.Abs
end
section
namespace Go.Abs
open Go Go.Sort Go.RowKit
theorem Q2g {P:Program} {f:FuncId} {ex:Array Value} {exV:List V} {sz nb:Nat} {M:Mem} (hb:Qf3 P f=true) (hex:∀ g w us,RFs g w exV us→us=ex.toList)
  (h:∀ (p:Option Addr) (cap:Nat) (w:World),Calls P f (#[.slice p 0 cap]++ex) w fun e' w'=>e' = .returned (.tuple #[])∧w'=w) (hexf:V.dems exV=exV:=by rfl) :
  ACalls P f (.d (.lst sz [])::exV) M nb (.tup []) M nb:=by
 refine ACalls.mk' hb (Nat.le_refl _) (by simp only [V.dems,V.dem,hexf]) fun w g us hm hMon hus hfl hons=>?_;obtain ⟨u0,us',rfl,hu0,hus'⟩:=hus;have h1:=hex _ _ _ hus';subst h1;have h2:∃ p cap,u0 = .slice p 0 cap:=by
  have:=RF_d.1 hu0;obtain ⟨a,cap,rfl,_,_⟩:=this;exact ⟨a,cap,rfl⟩
 obtain ⟨p,cap,rfl⟩:=h2;have e1:(Value.slice p 0 cap::ex.toList).toArray = #[.slice p 0 cap]++ex:=by apply Array.ext';simp
 rw [e1];refine (h p cap w).mono ?_;rintro e' w' ⟨rfl,rfl⟩;exact ⟨_,g,rfl,hm,⟨[],rfl,rfl⟩,trivial,hMon,Fr.refl _ _ _⟩
theorem Qx3 (l:List Int):(l.mergeSort fun x y=>decide (x≤y))=Qs8 Qpd l:=by
 have hO:Go.Sort.SWO Qpd:=⟨fun x=>by simp [Qpd],fun x y z h1 h2=>by simp [Qpd] at *;omega,fun x y z h1 h2=>by simp [Qpd] at *;omega⟩;refine List.Perm.eq_of_pairwise (le:=fun a b=>Qpd b a=false) (fun a b _ _ h1 h2=>by simp [Qpd] at *;omega) ?_ (Qux hO l) ((List.mergeSort_perm _ _).trans (Qtz _ l).symm);have:=List.pairwise_mergeSort (le:=fun x y:Int=>decide (x≤y)) (fun a b c h1 h2=>by simp at *;omega) (fun a b=>by simp;omega) l;exact this.imp fun h=>by simp [Qpd] at *;omega
end Go.Abs
end
section
namespace Go.Abs
open Go Go.Sort Go.Shelf Go.RowKit Go.Lib Go.Proofs
section
variable {α:Type} [Inhabited α]
end
end Go.Abs
end
section
namespace Go.Abs
open Go Go.RowKit
def Q3k (g:Nat):CFn:=⟨1,4,[.t 2],.seq (.region [⟨some 1,.box 1,[.t 0],false,none⟩,⟨some 2,.mov,[.c .und],false,none⟩] 9 []) (.seq (.region [⟨some 3,.func g,[.t 1],false,none⟩,⟨some 2,.mov,[.t 3],false,none⟩] 9 []) .ret)⟩
theorem Q63 {P:Program} {c g:Nat} (hcf:Ql P c=some (Q3k g)):Q6z P c g 1 4:=by
 intro x M nb;by_cases hM:∀ k,nb≤k→M k=none
 case neg=>exact Qsb (Qik hcf) (by omega) hM
 by_cases hon:MOn (There M) M
 case neg=>exact ⟨Qik hcf,by omega,fun w g us _ hm h=>absurd h hon⟩
 refine Q8d hcf hM rfl (by omega) fun Γ hP hn ht=>?_;have hlt:∀ k,There M k→k<nb:=fun k hk=>by
  rcases Nat.lt_or_ge k nb with h|h
  ·exact h
  ·simp [There,hM k h] at hk
 subst hn;rw [← Qml hM];refine Tr.init [(0,.d x)] rfl ?_;unfold Q3k;refine Tr.seq ?_;refine Tr.rgn ?_;refine Rn.box (v:=.d x) (cs:=[.d x]) trivial rfl rfl rfl rfl rfl ?_;refine Rn.mov (v:=.und) trivial rfl ?_;refine Rn.nil ?_;refine toN ?_;refine Tr.seq ?_;refine Tr.rgn ?_;refine Rn.k (v:=.clo g [.ptr (Γ.n0+1) 0]) trivial rfl rfl rfl ?_;refine Rn.mov (v:=.clo g [.ptr (Γ.n0+1) 0]) trivial rfl ?_;refine Rn.nil ?_;refine toN ?_;refine Tr.ret ?_;rw [Qml hM];have hth:There (M.put (Γ.n0+1) (.cells [.d x])) (Γ.n0+1):=by simp [There,Mem.put]
 refine ⟨.inr rfl,.clo g [.ptr (Γ.n0+1) 0],rfl,fun _ _ _ _ h=>h,fun k b hk=>?_,⟨hth,trivial⟩,fun k cs hk=>?_,fun k hk=>?_⟩
 ·show Qj Γ.n0 [(1,.cells [.d x])] M k=some b;have:=Qcu (n0:=Γ.n0) (L:=[]) (M0:=M) (t:=1) (b:=.cells [.d x]);rw [← this,Qml hM];exact hk
 ·by_cases h:k=Γ.n0+1
  ·subst h;rw [Qe5] at hk;cases hk;exact ⟨trivial,trivial⟩
  ·rw [Qb0 _ _ h] at hk;exact ons_mono (fun j hj=>There.put hj) _ (hon k cs hk)
 ·by_cases h:k=Γ.n0+1
  ·omega
  ·have:There M k:=by simpa [There,Mem.put,h] using hk
   have:=hlt k this;omega
theorem Q3l {imm:Nat→Nat→Prop} {w:World} {b:Nat}:∀ (xs:List Int) (o:Nat),(∀ j x,xs[j]? = some x→imm b (o+j)∧w.cell? ⟨b,o+j,none⟩=some (.int .i64 x))→RDL imm w 1 b (List.map (eI .i64) xs) o
 | [],_,_=>by simp [RDL]
 | x::xs,o,h=>by
  simp only [List.map_cons,RDL];obtain ⟨h1,h2⟩:=h 0 x rfl;refine ⟨rfl,⟨h1,⟨_,h2,rfl⟩,trivial⟩,Q3l xs (o+1) fun j y hj=>?_⟩;have:=h (j+1) y (by simpa using hj)
  rwa [show o+(j+1)=o+1+j from by omega] at this
theorem Q3m {imm:Nat→Nat→Prop} {w:World} {b:Nat}:∀ (xs:List Int) (o:Nat),RDL imm w 1 b (List.map (eI .i64) xs) o→∀ j x,xs[j]? = some x→w.cell? ⟨b,o+j,none⟩=some (.int .i64 x)
 | [],_,_,j,x,hj=>by simp at hj
 | y::ys,o,h,j,x,hj=>by
  simp only [List.map_cons,RDL] at h;obtain ⟨_,⟨_,⟨u,h2,h3⟩,_⟩,h4⟩:=h;cases j with
  | zero =>
   simp at hj;subst hj;have:u = .int .i64 y:=h3;rw [← this];exact h2
  | succ j =>
   have:=Q3m ys (o+1) h4 j x (by simpa using hj)
   rwa [show o+1+j=o+(j+1) from by omega] at this
def Ints (n₀:Nat) (W:World) (sv:Value) (zs:List Int):Prop :=
 (∃ a cap,sv = .slice a 0 cap∧zs=[])∨∃ b off cap,sv = .slice (some ⟨b,off,none⟩) zs.length cap∧b<n₀∧∀ j,j<zs.length→W.cell? ⟨b,off+j,none⟩=some (.int .i64 (zs[j]?.getD 0))
theorem Ints.below {n₀:Nat} {A B:World} (h:Below n₀ A B) {sv:Value} {zs:List Int}:Ints n₀ A sv zs→Ints n₀ B sv zs
 | .inl e=>.inl e
 | .inr ⟨b,off,cap,e,hb,hc⟩=>.inr ⟨b,off,cap,e,hb,fun j hj=>(h.cell (p:=⟨b,off+j,none⟩) hb).trans (hc j hj)⟩
theorem Q64 {P:Program} {c g:Nat} {t:TypeId} (hb:Qf3 P c=true)
  (hcall:∀ (Bs:Nat) (sv:Value) (zs:List Int) (w:World),zs.length*8≤140737488351232→Bs<w.heap.size→w.cell? ⟨Bs,0,none⟩=some sv→Ints w.heap.size w sv zs →
   Calls P c #[.func (.func g) #[] #[.pointer (some ⟨Bs,0,none⟩)]] w fun e W'=>∃ v,e = .returned v∧W'.ownsRow w.heap.size t 1 v zs.length ((zs.mergeSort fun x y=>decide (x≤y)).map (Value.int .i64))∧Below w.heap.size w W') :
  Q8n P c g (eI .i64) 1 Q62:=by
 intro xs ys hf M nb k hM;unfold Q62 at hf;split at hf<;>cases hf;rename_i hlen;refine ACalls.mk' hb (Nat.le_refl _) rfl fun w g0 us hm hMon hus hfl hons=>?_;obtain ⟨u0,us',rfl,hu0,rfl⟩:=hus;obtain ⟨hk0,hown,vals,et,hh,hrv,hone⟩:=hm.box k _ hM;obtain ⟨vs,rfl,hvs⟩ : ∃ vs:List Value,u0 = .func (.func g) #[] vs.toArray∧RVs g0 w [.ptr k 0] .ext 0 vs:=by
  have:=hu0 .ext;simpa only [RV] using this
 obtain ⟨p,_,rfl,hp,rfl⟩:=hvs;simp only [RV] at hp;subst hp;obtain ⟨sv,_,rfl,hsv,rfl⟩:=hrv;simp only [RV] at hsv;obtain ⟨a,cap,rfl,hcap,hcells⟩:=hsv;have hBs:g0.box k<w.heap.size:=(Array.getElem?_eq_some_iff.1 hh).1;have hI:Ints w.heap.size w (.slice a (List.map (eI .i64) xs).length cap) xs:=by
  rcases hcells with h|⟨b,o,rfl,h⟩
  ·have:xs=[]:=by simpa using h
   subst this;exact .inl ⟨a,cap,rfl,rfl⟩
  ·by_cases h0:xs=[]
   ·subst h0;exact .inl ⟨_,cap,rfl,rfl⟩
   ·have hc:=Q3m xs o h;refine .inr ⟨b,o,cap,by rw [List.length_map],?_,fun j hj=>?_⟩
    ·have h1:0<xs.length:=List.length_pos_iff.2 h0;have:=hc 0 xs[0] (List.getElem?_eq_getElem h1);simp only [World.cell?] at this;cases hbk:w.heap[b]? with
     | none=>simp [hbk] at this
     | some ob=>exact (Array.getElem?_eq_some_iff.1 hbk).1
    ·have:=hc j xs[j] (List.getElem?_eq_getElem hj);rw [this,List.getElem?_eq_getElem hj];rfl
 have hlen8:xs.length*8≤140737488351232:=by unfold lim at hlen;omega
 refine (hcall (g0.box k) _ xs w hlen8 hBs (by simp [World.cell?,hh]) hI).mono ?_;rintro e W' ⟨v,rfl,hrow,hbel⟩;rw [Qx3] at hrow;generalize Qs8 Qpd xs=ys at hrow ⊢;obtain ⟨gb,hgb,hv⟩ : ∃ gb,w.heap.size≤gb∧(ys=[]∧v = .slice none 0 0∨∃ cap,v = .slice (some ⟨gb,0,none⟩) ys.length cap∧ys.length≤cap∧∀ j x,ys[j]? = some x→gb<W'.heap.size∧W'.cell? ⟨gb,j,none⟩=some (.int .i64 x)):=by
  obtain ⟨h1,h2⟩:=hrow;have h1:ys.length=xs.length:=by simpa using h1
  rcases h2 with ⟨rfl,h0⟩|⟨gb,cap,cur,rfl,hbase,hgb,r1,r2,r3,r4⟩
  ·exact ⟨w.heap.size,Nat.le_refl _,.inl ⟨List.eq_nil_of_length_eq_zero (by omega),rfl⟩⟩
  ·refine ⟨gb,hbase,.inr ⟨cap,by rw [h1],by omega,fun j x hj=>⟨(Array.getElem?_eq_some_iff.1 hgb).1,?_⟩⟩⟩;have hj2:=(List.getElem?_eq_some_iff.1 hj).1;have:(cur.toList.take (xs.length*1))[j]? = some (.int .i64 x):=by rw [r4,List.getElem?_map,hj];rfl
   rw [List.getElem?_take_of_lt (by omega)] at this;simp only [World.cell?,hgb];simpa using this
 let g' : G:=⟨g0.box,fun b o=>g0.imm b o∨(b=gb∧o<ys.length),fun b=>if b=gb then .ext else g0.own b⟩;have hne:∀ b,b<w.heap.size→b≠gb:=fun b h=>by omega
 have himm:Imm g0.imm g'.imm w W':=by
  refine ⟨fun _ _ h=>.inl h,fun b o h=>?_⟩;have:=(hm.imm b o h).1;exact Qc4 (hbel.block b this)
 have hkept:Kept g0 w g' W' (There M) (fun _=>True):=⟨himm,fun _ _=>rfl,fun b _ hl=>⟨by simp [g',hne b hl],hbel.block b hl,fun o=>by simp [g',hne b hl]⟩⟩;refine ⟨v,g',rfl,hm.kept hkept hMon (fun _ _ _=>trivial) trivial (fun _ _=>trivial) fun b o h=>?_,?_,trivial,hMon,?_⟩
 ·rcases h with h|⟨rfl,h⟩
  ·obtain ⟨h1,h2⟩:=hm.imm b o h;refine ⟨Nat.lt_of_lt_of_le h1 hbel.size,fun k=>?_⟩;simp only [g',hne b h1,if_false];exact h2 k
  ·refine ⟨?_,fun k=>by simp [g']⟩;rcases hv with ⟨rfl,_⟩|⟨cap,_,_,hc⟩
   ·simp at h
   ·exact (hc o _ (List.getElem?_eq_getElem h)).1
 ·simp only [RV];rcases hv with ⟨rfl,rfl⟩|⟨cap,rfl,hcp,hc⟩
  ·simp only [RD];exact ⟨none,0,rfl,Nat.le_refl _,.inl rfl⟩
  ·simp only [RD,List.length_map];refine ⟨_,cap,rfl,hcp,.inr ⟨gb,0,rfl,Q3l ys 0 fun j x hj=>?_⟩⟩;rw [Nat.zero_add];have h2:=(hc j x hj).2;exact ⟨⟨.inr ⟨rfl,(List.getElem?_eq_some_iff.1 hj).1⟩,by simp [g'],.inl (by rw [h2];rfl)⟩,h2⟩
 ·exact ⟨hbel.os,hbel.tape,hbel.output,hbel.size,himm,fun _ _=>rfl,fun b hb _=>⟨by simp [g',hne b hb],hbel.block b hb,fun o=>by simp [g',hne b hb]⟩⟩
end Go.Abs
end
section
namespace Go.Abs
def Q9p (l:List Int):Option (List Int):=if l.length≤lim then some (Qs8 Qpd l) else none
def keyB (l:List Int):ByteArray:=⟨(l.flatMap fun x=>Lib.encodeRune (x+1)).toArray⟩
def keyS (l:List Int):Option ByteArray:=if l.length≤lim∧∀ x∈l,0≤x∧x<50000 then some (keyB l) else none
def Q8o (a:Qc):Option (List (List Int)×Int):=if a=⟨[0,1],2,[],[⟨0,0,0⟩]⟩ then some ([[0],[1]],0) else none
def Q8p (l:List (List Int)):Option Unit:=if l.length≤1 then some () else none
end Go.Abs
end
section
namespace Go.Abs
open Go Go.Abs
set_option maxRecDepth 10000
set_option maxHeartbeats 4000000
def Qeq:Nat:=1099511627776
def Qk0:=Qcl
def Qpe:=Qdq Qeq
def Qlf:=Qb7 Qpe Qeq
def Qlp:=Qcb Qeq
def Qn1:=Qdb Qeq
def Qcp:=Qh Qn1
def Qjs:=Qcd Qcp Qeq
def Qke:=Qb2 Qlp Qjs
def Qhr:=Qbd Qke Qlf
def Qt0:=Qms
def Qt1:=Qmv
def Qni:=Qc6
def Qt2:=Qmz
def Qt3:=Qm2
def Qt4:=Qm5
def Qpf:=Qdr Qeq
def Qk1:=Qcm Qlf Qni Qpf
def Qey:=Q0 Qk1
def Qqk:=Qec Qeq
def Qjt:=Qce
def Qlq:=Qcx Qqk Qjt
def Qrw:=Qd6
def Qs9:=Qff Qrw
def Qn2:=Qc0
def Qie:=Qb5 Qs9 Qn2 Qeq
def Qf5:=Q9 Qie
def Qju:=Qcf Qf5
def Qjv:=Qcg Qeq
def Qd0:=Qr Qjv
def Qfb:=Qy
def Qrx:=Qes
def Qhs:=Qbe Qhr Qfb Qf5 Qrx Qeq
def Qhl:=Qbh Qeq
def Qfc:=Qz Qke Qhl
def Qeh:=Qt Qcp Qeq
def Qgg:=Qbu Qcp
def Qdf:=Qn Qd0 Qgg
def Qgh:=Qbi
def Qeu:=Q4 Qcp Q9p Qgh Qeq
def Qev:=Q5 Qeu
def Qdl:=Qp Qeu Qeq
def Qhm:=Qbj Qfc Qeh Qev Qdl Qdf Qeq
def Qgy:=Qbc Qeq
def Qh1:=Qbg Qhs Qhm Qhr Qey Qgy Qlq Qd0 Qju
def Qfk:=Qbk Qcp
def Qf2:=Qbs Qd0 Qfk
def Qlr:=Qcy Qfc Qeh Qev keyS Qf2 Qdl Qeq
def Qpg:=Qds Qhs Qlr Qey Qgy Qeq
def Qht:=Qbf
def Qph:=Qdt Qeq
def Qf6:=Qba Qht Qph
def Qnj:=Qdu
def Qpi:=Qdv Qf6 Qht Q8o Q62 Q8p Qnj Qeq
def Qpj:=Qdw Qfb Qfc Qeh Qdf Qcp Qeq
def Qk2:=Qca Qey Qpj Qeq
def Qnk:=Qc7 Qhs Qh1 Qf6 Qhr Qht Qk2
def Qls:=Qcc Qeq
def Qn3:=Qde Qeq
def Qwb:=Qfa Qn3
def Qhn:=Qco Qpg Qpi Qwb Qls Qh1 Qnk Qk0
def Qoj:=Qia Qhm
def Qgz:=Qbx Qgy
def Qnl:=Qhh Qf6 Qgz
def Qpk:=Qdx Qfc Qeh Qdl Qdf Qhl
def Qnm:=Qhk Qf5 Qpk
def Qpl:=Qix Qfb
def Qok:=Qid Qfb
def Qgi:=Qbv
def Qfy:=Qbp
def Qfz:=Qbq
def Qfl:=Qbl
def Qg0:=Qby
def Qgj:=Qbw
def Qem:=Qel Qhn Qgi Qfy Qfz Qfl Qg0 Qgj
end Go.Abs
end
section
namespace Go.Proofs
open Go.Shelf
def Tryz.lays169_ren:Go.Shelf.Ren:=⟨fun|169=>104|n=>n,fun|70=>163|9=>9|0=>0|72=>165|37=>146|127=>211|3=>3|5=>5|n=>n,fun|n=>n⟩
theorem Tryz.lays169:Go.Proofs.Lays.n169 Tryz.prog Tryz.lays169_ren:={
 mixed:=by kernel_rfl
 f169:=Tryz.func104.trans (congrArg some (by kernel_rfl))
 t0:=Tryz.underlying0
 a0:=Tryz.isAgg0
 z0:=Tryz.sizeOf0
 v0:=Tryz.zeroValue0
 t3:=Tryz.underlying3
 a3:=Tryz.isAgg3
 z3:=Tryz.sizeOf3
 v3:=Tryz.zeroValue3
 t9:=Tryz.underlying9
 a9:=Tryz.isAgg9
 z9:=Tryz.sizeOf9
 v9:=Tryz.zeroValue9
 t37:=Tryz.underlying146
 a37:=Tryz.isAgg146
 z37:=Tryz.sizeOf146
 v37:=Tryz.zeroValue146
 t70:=Tryz.underlying163
 a70:=Tryz.isAgg163
 z70:=Tryz.sizeOf163
 v70:=Tryz.zeroValue163
 t72:=Tryz.underlying165
 a72:=Tryz.isAgg165
 z72:=Tryz.sizeOf165
 v72:=Tryz.zeroValue165
 t127:=Tryz.underlying211
 a127:=Tryz.isAgg211
 z127:=Tryz.sizeOf211
 v127:=Tryz.zeroValue211 }
theorem Tryz.Builder_Extra_169:Builder.Extra Tryz.prog Tryz.lays169_ren:={
 sizeBuilder:=by kernel_rfl
 liesBuilder:=by kernel_rfl
 t5:=Tryz.underlying5
 a5:=Tryz.isAgg5
 z5:=Tryz.sizeOf5
 v5:=Tryz.zeroValue5
 infoByte:=by kernel_rfl
 cellsByte:=by kernel_rfl
 sizeByte:=by kernel_rfl
 neB5:=by decide }
def Tryz.lays125_ren:Go.Shelf.Ren:=⟨fun|125=>99|128=>141|129=>142|n=>n,fun|46=>160|3=>3|51=>206|53=>208|4=>4|5=>5|9=>9|n=>n,fun|n=>n⟩
theorem Tryz.lays125:Go.Proofs.Lays.n125 Tryz.prog Tryz.lays125_ren:={
 mixed:=by kernel_rfl
 f125:=Tryz.func99.trans (congrArg some (by kernel_rfl))
 f128:=Tryz.func141.trans (congrArg some (by kernel_rfl))
 f129:=Tryz.func142.trans (congrArg some (by kernel_rfl))
 t3:=Tryz.underlying3
 a3:=Tryz.isAgg3
 z3:=Tryz.sizeOf3
 v3:=Tryz.zeroValue3
 t4:=Tryz.underlying4
 a4:=Tryz.isAgg4
 z4:=Tryz.sizeOf4
 v4:=Tryz.zeroValue4
 t5:=Tryz.underlying5
 a5:=Tryz.isAgg5
 z5:=Tryz.sizeOf5
 v5:=Tryz.zeroValue5
 t9:=Tryz.underlying9
 a9:=Tryz.isAgg9
 z9:=Tryz.sizeOf9
 v9:=Tryz.zeroValue9
 t46:=Tryz.underlying160
 a46:=Tryz.isAgg160
 z46:=Tryz.sizeOf160
 v46:=Tryz.zeroValue160
 t51:=Tryz.underlying206
 a51:=Tryz.isAgg206
 z51:=Tryz.sizeOf206
 v51:=Tryz.zeroValue206
 t53:=Tryz.underlying208
 a53:=Tryz.isAgg208
 z53:=Tryz.sizeOf208
 v53:=Tryz.zeroValue208 }
theorem Tryz.bits_Len (x:Int) (w:World) (h0:0≤x) (h1:x≤18446744073709551615) :
  Calls Tryz.prog 99 #[.int .u64 x] w fun e w'=>e = .returned (.int .i64 (Lib.bitLen x.toNat))∧w'=w:=Any.bits_Len Tryz.lays125 x w h0 h1
open Go.RowKit in
theorem Tryz.Builder_String_any_k (B b:Nat) (l:List UInt8) (w:World) (h:Lib.IsBuilderF 165 5 B b (Lib.byteCells l) w) (hBw:B≤w.heap.size) :
  Calls Tryz.prog 104 #[.pointer (some ⟨b,0,none⟩)] w fun e w'=>e = .returned (.string ⟨l.toArray⟩)∧(Lib.IsBuilderF 165 5 B b (Lib.byteCells l) w'∧Below B w w'∧Lib.OthersKept 5 (some b) w w'):=Any.Builder_String_any_k Tryz.lays169 Tryz.Builder_Extra_169 B b l w h hBw
def Tryz.lays189_ren:Go.Shelf.Ren:=⟨fun|189=>94|125=>99|257=>131|128=>141|129=>142|294=>149|295=>150|296=>151|297=>152|298=>153|299=>154|216=>143|300=>155|301=>156|328=>167|329=>158|330=>159|331=>168|332=>169|215=>162|343=>171|n=>n,fun|28=>32|3=>3|46=>160|0=>0|51=>206|53=>208|4=>4|183=>200|182=>199|131=>122|5=>5|9=>9|218=>217|222=>221|228=>229|229=>181|n=>n,fun|n=>n⟩
theorem Tryz.lays189:Go.Proofs.Lays.n189 Tryz.prog Tryz.lays189_ren:={
 mixed:=by kernel_rfl
 f125:=Tryz.func99.trans (congrArg some (by kernel_rfl))
 f128:=Tryz.func141.trans (congrArg some (by kernel_rfl))
 f129:=Tryz.func142.trans (congrArg some (by kernel_rfl))
 f189:=Tryz.func94.trans (congrArg some (by kernel_rfl))
 f215:=Tryz.func162.trans (congrArg some (by kernel_rfl))
 f216:=Tryz.func143.trans (congrArg some (by kernel_rfl))
 f257:=Tryz.func131.trans (congrArg some (by kernel_rfl))
 f294:=Tryz.func149.trans (congrArg some (by kernel_rfl))
 f295:=Tryz.func150.trans (congrArg some (by kernel_rfl))
 f296:=Tryz.func151.trans (congrArg some (by kernel_rfl))
 f297:=Tryz.func152.trans (congrArg some (by kernel_rfl))
 f298:=Tryz.func153.trans (congrArg some (by kernel_rfl))
 f299:=Tryz.func154.trans (congrArg some (by kernel_rfl))
 f300:=Tryz.func155.trans (congrArg some (by kernel_rfl))
 f301:=Tryz.func156.trans (congrArg some (by kernel_rfl))
 f328:=Tryz.func167.trans (congrArg some (by kernel_rfl))
 f329:=Tryz.func158.trans (congrArg some (by kernel_rfl))
 f330:=Tryz.func159.trans (congrArg some (by kernel_rfl))
 f331:=Tryz.func168.trans (congrArg some (by kernel_rfl))
 f332:=Tryz.func169.trans (congrArg some (by kernel_rfl))
 f343:=Tryz.func171.trans (congrArg some (by kernel_rfl))
 t0:=Tryz.underlying0
 a0:=Tryz.isAgg0
 z0:=Tryz.sizeOf0
 v0:=Tryz.zeroValue0
 t3:=Tryz.underlying3
 a3:=Tryz.isAgg3
 z3:=Tryz.sizeOf3
 v3:=Tryz.zeroValue3
 t4:=Tryz.underlying4
 a4:=Tryz.isAgg4
 z4:=Tryz.sizeOf4
 v4:=Tryz.zeroValue4
 t5:=Tryz.underlying5
 a5:=Tryz.isAgg5
 z5:=Tryz.sizeOf5
 v5:=Tryz.zeroValue5
 t9:=Tryz.underlying9
 a9:=Tryz.isAgg9
 z9:=Tryz.sizeOf9
 v9:=Tryz.zeroValue9
 t28:=Tryz.underlying32
 a28:=Tryz.isAgg32
 z28:=Tryz.sizeOf32
 v28:=Tryz.zeroValue32
 t46:=Tryz.underlying160
 a46:=Tryz.isAgg160
 z46:=Tryz.sizeOf160
 v46:=Tryz.zeroValue160
 t51:=Tryz.underlying206
 a51:=Tryz.isAgg206
 z51:=Tryz.sizeOf206
 v51:=Tryz.zeroValue206
 t53:=Tryz.underlying208
 a53:=Tryz.isAgg208
 z53:=Tryz.sizeOf208
 v53:=Tryz.zeroValue208
 t131:=Tryz.underlying122
 a131:=Tryz.isAgg122
 z131:=Tryz.sizeOf122
 v131:=Tryz.zeroValue122
 t182:=Tryz.underlying199
 a182:=Tryz.isAgg199
 z182:=Tryz.sizeOf199
 v182:=Tryz.zeroValue199
 t183:=Tryz.underlying200
 a183:=Tryz.isAgg200
 z183:=Tryz.sizeOf200
 v183:=Tryz.zeroValue200
 t218:=Tryz.underlying217
 a218:=Tryz.isAgg217
 z218:=Tryz.sizeOf217
 v218:=Tryz.zeroValue217
 t222:=Tryz.underlying221
 a222:=Tryz.isAgg221
 z222:=Tryz.sizeOf221
 v222:=Tryz.zeroValue221
 t228:=Tryz.underlying229
 a228:=Tryz.isAgg229
 z228:=Tryz.sizeOf229
 v228:=Tryz.zeroValue229
 t229:=Tryz.underlying181
 a229:=Tryz.isAgg181
 z229:=Tryz.sizeOf181
 v229:=Tryz.zeroValue181 }
open Go.Sort Go.RowKit in
theorem Tryz.slices_Sort_int (blk off cap:Nat) (zs:List Int) (w:World) (hH:Holds (Value.int .i64) w blk off zs.toArray) (hblk:blk<w.heap.size) (hsz:zs.length<4611686018427387904) :
  Calls Tryz.prog 94 #[.slice (some ⟨blk,off,none⟩) zs.length cap] w fun e w' =>
   e = .returned (.tuple #[])∧∃ n os,w'=grow (putRow (Value.int .i64) (Sort.ahead w n) blk off (zs.mergeSort fun x y=>decide (x≤y)).toArray) os:=Any.slices_Sort_int Tryz.lays189 blk off cap zs w hH hblk hsz
open Go.RowKit Go.Sort in
theorem Tryz.slices_Sort_int_none (p:Option Addr) (cap:Nat) (w:World) :
  Calls Tryz.prog 94 #[.slice p 0 cap] w fun e w'=>e = .returned (.tuple #[])∧w'=w:=Any.slices_Sort_int_none Tryz.lays189 p cap w
def Tryz.laysSlF6_f60_ren:Go.Shelf.Ren:=⟨fun|6=>60|15=>99|14=>98|28=>141|29=>142|20=>133|21=>134|22=>135|23=>136|24=>137|25=>138|26=>139|27=>140|46=>157|47=>158|48=>159|49=>160|50=>161|57=>170|n=>n,fun|22=>45|24=>32|25=>116|3=>3|39=>160|0=>0|53=>206|55=>208|4=>4|46=>200|45=>199|50=>122|5=>5|9=>9|66=>217|70=>221|76=>229|77=>181|n=>n,fun|n=>n⟩
theorem Tryz.laysSlF6_f60:Go.Proofs.SlLaysF.n6 Tryz.prog Tryz.laysSlF6_f60_ren:={
 mixed:=by kernel_rfl
 f6:=⟨Tryz.f60.name,by decide,Tryz.func60.trans (congrArg some (by kernel_rfl))⟩
 f14:=⟨Tryz.f98.name,by decide,Tryz.func98.trans (congrArg some (by kernel_rfl))⟩
 f15:=Tryz.func99.trans (congrArg some (by kernel_rfl))
 f20:=⟨Tryz.f133.name,by decide,Tryz.func133.trans (congrArg some (by kernel_rfl))⟩
 f21:=⟨Tryz.f134.name,by decide,Tryz.func134.trans (congrArg some (by kernel_rfl))⟩
 f22:=⟨Tryz.f135.name,by decide,Tryz.func135.trans (congrArg some (by kernel_rfl))⟩
 f23:=⟨Tryz.f136.name,by decide,Tryz.func136.trans (congrArg some (by kernel_rfl))⟩
 f24:=⟨Tryz.f137.name,by decide,Tryz.func137.trans (congrArg some (by kernel_rfl))⟩
 f25:=⟨Tryz.f138.name,by decide,Tryz.func138.trans (congrArg some (by kernel_rfl))⟩
 f26:=⟨Tryz.f139.name,by decide,Tryz.func139.trans (congrArg some (by kernel_rfl))⟩
 f27:=⟨Tryz.f140.name,by decide,Tryz.func140.trans (congrArg some (by kernel_rfl))⟩
 f28:=Tryz.func141.trans (congrArg some (by kernel_rfl))
 f29:=Tryz.func142.trans (congrArg some (by kernel_rfl))
 f46:=⟨Tryz.f157.name,by decide,Tryz.func157.trans (congrArg some (by kernel_rfl))⟩
 f47:=Tryz.func158.trans (congrArg some (by kernel_rfl))
 f48:=Tryz.func159.trans (congrArg some (by kernel_rfl))
 f49:=⟨Tryz.f160.name,by decide,Tryz.func160.trans (congrArg some (by kernel_rfl))⟩
 f50:=⟨Tryz.f161.name,by decide,Tryz.func161.trans (congrArg some (by kernel_rfl))⟩
 f57:=⟨Tryz.f170.name,by decide,Tryz.func170.trans (congrArg some (by kernel_rfl))⟩
 t0:=Tryz.underlying0
 a0:=Tryz.isAgg0
 z0:=Tryz.sizeOf0
 v0:=Tryz.zeroValue0
 t3:=Tryz.underlying3
 a3:=Tryz.isAgg3
 z3:=Tryz.sizeOf3
 v3:=Tryz.zeroValue3
 t4:=Tryz.underlying4
 a4:=Tryz.isAgg4
 z4:=Tryz.sizeOf4
 v4:=Tryz.zeroValue4
 t5:=Tryz.underlying5
 a5:=Tryz.isAgg5
 z5:=Tryz.sizeOf5
 v5:=Tryz.zeroValue5
 t9:=Tryz.underlying9
 a9:=Tryz.isAgg9
 z9:=Tryz.sizeOf9
 v9:=Tryz.zeroValue9
 t22:=Tryz.underlying45
 a22:=Tryz.isAgg45
 z22:=Tryz.sizeOf45
 v22:=Tryz.zeroValue45
 a24:=Tryz.isAgg32
 z24:=Tryz.sizeOf32
 t25:=Tryz.underlying116
 a25:=Tryz.isAgg116
 z25:=Tryz.sizeOf116
 v25:=Tryz.zeroValue116
 t39:=Tryz.underlying160
 a39:=Tryz.isAgg160
 z39:=Tryz.sizeOf160
 v39:=Tryz.zeroValue160
 t45:=Tryz.underlying199
 a45:=Tryz.isAgg199
 z45:=Tryz.sizeOf199
 v45:=Tryz.zeroValue199
 t46:=Tryz.underlying200
 a46:=Tryz.isAgg200
 z46:=Tryz.sizeOf200
 v46:=Tryz.zeroValue200
 t50:=Tryz.underlying122
 a50:=Tryz.isAgg122
 z50:=Tryz.sizeOf122
 v50:=Tryz.zeroValue122
 t53:=Tryz.underlying206
 a53:=Tryz.isAgg206
 z53:=Tryz.sizeOf206
 v53:=Tryz.zeroValue206
 t55:=Tryz.underlying208
 a55:=Tryz.isAgg208
 z55:=Tryz.sizeOf208
 v55:=Tryz.zeroValue208
 t66:=Tryz.underlying217
 a66:=Tryz.isAgg217
 z66:=Tryz.sizeOf217
 v66:=Tryz.zeroValue217
 t70:=Tryz.underlying221
 a70:=Tryz.isAgg221
 z70:=Tryz.sizeOf221
 v70:=Tryz.zeroValue221
 t76:=Tryz.underlying229
 a76:=Tryz.isAgg229
 z76:=Tryz.sizeOf229
 v76:=Tryz.zeroValue229
 t77:=Tryz.underlying181
 a77:=Tryz.isAgg181
 z77:=Tryz.sizeOf181
 v77:=Tryz.zeroValue181 }
open Go.RowKit Go.Lib Go.Sort in
theorem Tryz.slices_SortFunc_eq {α:Type} [Inhabited α] (enc:α→Value) (h1:OneCell enc) (cf:α→α→Int) (hO:SWO (ltOf cf)) (g:Nat) (cb:Array Value) (blk off cap:Nat) (d:Array α) (w:World) (eg:∀ args w,(callFunc g args).run Tryz.prog w = .ok (.enter g args) w) (hcmp:CmpLays1 Tryz.prog g cb enc cf blk off d.size w) (hH:Holds enc w blk off d) (hblk:blk<w.heap.size) (hsz:d.size<4611686018427387904) :
  Calls Tryz.prog 60 #[.slice (some ⟨blk,off,none⟩) d.size cap,.func (.func g) #[] cb] w fun e w' =>
   e = .returned (.tuple #[])∧∃ n os,w'=sortWorld enc w blk off n (pdq (ltOf cf) d 0 d.size (Lib.bitLen d.size) true true) os:=Any.slices_SortFunc_eq Tryz.laysSlF6_f60 enc h1 cf hO g cb blk off cap d w eg hcmp hH hblk hsz
def Tryz.lays168_ren:Go.Shelf.Ren:=⟨fun|168=>103|240=>146|242=>147|276=>163|278=>164|n=>n,fun|0=>0|3=>3|4=>4|5=>5|9=>9|20=>20|21=>21|37=>146|46=>160|51=>206|70=>163|72=>165|75=>167|80=>170|164=>223|n=>n,fun|n=>n⟩
theorem Tryz.lays168:Go.Proofs.Lays.n168 Tryz.prog Tryz.lays168_ren:={
 mixed:=by kernel_rfl
 f168:=Tryz.func103.trans (congrArg some (by kernel_rfl))
 f240:=Tryz.func146.trans (congrArg some (by kernel_rfl))
 f242:=Tryz.func147.trans (congrArg some (by kernel_rfl))
 f276:=Tryz.func163.trans (congrArg some (by kernel_rfl))
 f278:=Tryz.func164.trans (congrArg some (by kernel_rfl))
 t0:=Tryz.underlying0
 a0:=Tryz.isAgg0
 z0:=Tryz.sizeOf0
 v0:=Tryz.zeroValue0
 t3:=Tryz.underlying3
 a3:=Tryz.isAgg3
 z3:=Tryz.sizeOf3
 v3:=Tryz.zeroValue3
 t4:=Tryz.underlying4
 a4:=Tryz.isAgg4
 z4:=Tryz.sizeOf4
 v4:=Tryz.zeroValue4
 t5:=Tryz.underlying5
 a5:=Tryz.isAgg5
 z5:=Tryz.sizeOf5
 v5:=Tryz.zeroValue5
 t9:=Tryz.underlying9
 a9:=Tryz.isAgg9
 z9:=Tryz.sizeOf9
 v9:=Tryz.zeroValue9
 t20:=Tryz.underlying20
 a20:=Tryz.isAgg20
 z20:=Tryz.sizeOf20
 v20:=Tryz.zeroValue20
 t21:=Tryz.underlying21
 a21:=Tryz.isAgg21
 z21:=Tryz.sizeOf21
 v21:=Tryz.zeroValue21
 t37:=Tryz.underlying146
 a37:=Tryz.isAgg146
 z37:=Tryz.sizeOf146
 v37:=Tryz.zeroValue146
 t46:=Tryz.underlying160
 a46:=Tryz.isAgg160
 z46:=Tryz.sizeOf160
 v46:=Tryz.zeroValue160
 t51:=Tryz.underlying206
 a51:=Tryz.isAgg206
 z51:=Tryz.sizeOf206
 v51:=Tryz.zeroValue206
 t70:=Tryz.underlying163
 a70:=Tryz.isAgg163
 z70:=Tryz.sizeOf163
 v70:=Tryz.zeroValue163
 t72:=Tryz.underlying165
 a72:=Tryz.isAgg165
 z72:=Tryz.sizeOf165
 v72:=Tryz.zeroValue165
 t75:=Tryz.underlying167
 a75:=Tryz.isAgg167
 z75:=Tryz.sizeOf167
 v75:=Tryz.zeroValue167
 t164:=Tryz.underlying223
 a164:=Tryz.isAgg223
 z164:=Tryz.sizeOf223
 v164:=Tryz.zeroValue223 }
theorem Tryz.Builder_Extra_168:Builder.Extra Tryz.prog Tryz.lays168_ren:={
 sizeBuilder:=by kernel_rfl
 liesBuilder:=by kernel_rfl
 t5:=Tryz.underlying5
 a5:=Tryz.isAgg5
 z5:=Tryz.sizeOf5
 v5:=Tryz.zeroValue5
 infoByte:=by kernel_rfl
 cellsByte:=by kernel_rfl
 sizeByte:=by kernel_rfl
 neB5:=by decide }
open Go.RowKit in
theorem Tryz.Builder_WriteRune_k (B b:Nat) (bs:List Value) (r:Int) (hr0 : -2147483648≤r) (hr1:r≤2147483647) (w:World) (h:Lib.IsBuilderF 165 5 B b bs w) (hlen:bs.length+4≤140737488355328) (hBw:B≤w.heap.size) :
  Calls Tryz.prog 103 #[.pointer (some ⟨b,0,none⟩),.int .i32 r] w fun e w'=>e = .returned (.tuple #[.int .i64 (Lib.runeCells r).length,.nilIface])∧(Lib.BuilderAtF 165 5 B b (.pointer (some ⟨b,0,none⟩)) (bs++Lib.runeCells r) w'∧Below B w w'∧Lib.OthersKept 5 (some b) w w'):=Any.Builder_WriteRune_k Tryz.lays168 Tryz.Builder_Extra_168 B b bs r hr0 hr1 w h hlen hBw
end Go.Proofs
end
section
namespace Go.Abs
open Go Go.Sort Go.RowKit
theorem Qx4 (xs:List Int):rowV (eI .i64) xs=xs.map (Value.int .i64):=by
 unfold rowV
 induction xs with
 | nil=>rfl
 | cons x xs ih=>simp only [List.map_cons,List.flatten_cons,List.map_append,ih];rfl
theorem Q55 {P:Program} {c:Nat} (hb:Qf3 P c=true)
  (hs:∀ (blk off cap:Nat) (zs:List Int) (w:World),Holds (Value.int .i64) w blk off zs.toArray→blk<w.heap.size→zs.length<4611686018427387904 →
   Calls P c #[.slice (some ⟨blk,off,none⟩) zs.length cap] w fun e w'=>e = .returned (.tuple #[])∧∃ n os,w'=grow (putRow (Value.int .i64) (Sort.ahead w n) blk off (zs.mergeSort fun x y=>decide (x≤y)).toArray) os)
  (hnone:∀ (p:Option Addr) (cap:Nat) (w:World),Calls P c (#[.slice p 0 cap] ++ #[]) w fun e' w'=>e' = .returned (.tuple #[])∧w'=w) :
  RowK P c (eI .i64) 1 [] (fun l=>if l.length≤lim then some (Qs8 Qpd l) else none):=by
 have hrow:Q9i P c (eI .i64) #[] (fun xs=>Qs8 Qpd xs):=by
  intro blk cap xs w hcell hblk hsz;refine Calls.mono (hs blk 0 cap xs w ?_ hblk hsz) ?_
  ·intro j hj;have hj' : j<xs.length:=by simpa using hj
   have:=hcell j (by rw [Qx4];simpa using hj');rw [Qx4] at this;rw [Nat.zero_add];refine ⟨?_,this.2⟩;rw [this.1,getElem!_pos xs.toArray j hj];simp [hj']
  ·rintro e w' ⟨rfl,n,os,rfl⟩;refine ⟨rfl,n,os,?_⟩;rw [Qx3,Qx4];congr 1;unfold putRow;congr 1;funext c;unfold putCells;congr 1;funext k x;simp only [List.size_toArray,List.length_map];split
   ·rename_i h;simp only [id];rw [getElem!_pos _ _ (by simp;omega),getElem!_pos _ _ (by simp;omega)];simp
   ·rfl
 intro xs ys h;dsimp only at h;split at h<;>cases h;rename_i hl;refine ⟨Quw _ _,fun h0=>?_,fun hl2 cap k0 M nb hM=>?_⟩
 ·subst h0;exact ⟨rfl,fun M nb=>Q2g (ex:=#[]) (exV:=[]) hb (fun _ _ _ h=>h) hnone⟩
 ·exact Q35 (e:=eI .i64) (fun _=>rfl) (fun _=>rfl) (fun xs=>Quw _ _) (ex:=#[]) (exV:=[]) (fun _ _ _ h=>h) hb hrow xs cap k0 M nb hM (by unfold lim at hl;omega)
end Go.Abs
end
section
namespace Go.Proofs
open Go.Shelf Go.RowKit Go.Lib Go.Sort Go.Abs
theorem Tryz.rowK94:Go.Abs.RowK Tryz.prog 94 (eI .i64) 1 [] Q9p :=
 Q55 (by kernel_rfl) Tryz.slices_Sort_int Tryz.slices_Sort_int_none
end Go.Proofs
end
section
namespace Go.Proofs
open Go.RowKit Go.Maps Go.Sort Go.Shelf
attribute [local go_sem] Oper.semAt_some
def Tryz.upto {α:Type} (f:Nat→α) (k:Nat):List α:=(List.range k).map f
theorem Tryz.upto_succ {α:Type} (f:Nat→α) (k:Nat):Tryz.upto f (k+1)=Tryz.upto f k++[f k]:=by simp [Tryz.upto,List.range_succ]
theorem Tryz.upto_length {α:Type} (f:Nat→α) (k:Nat):(Tryz.upto f k).length=k:=by simp [Tryz.upto]
theorem Tryz.upto_all (zs:List Int):Tryz.upto (fun j=>zs[j]?.getD 0) zs.length=zs:=by
 apply List.ext_getElem
 ·simp [Tryz.upto]
 ·intro i h1 h2;simp [Tryz.upto,h2]
theorem Tryz.upto_take (zs:List Int) {k:Nat} (hk:k≤zs.length):Tryz.upto (fun j=>zs[j]?.getD 0) k=zs.take k:=by
 apply List.ext_getElem
 ·simp [Tryz.upto,hk]
 ·intro i h1 h2;have:i<zs.length:=by simp [Tryz.upto] at h1;omega
  simp [Tryz.upto,this]
set_option maxRecDepth 100000 in
set_option maxHeartbeats 2000000 in
theorem Tryz.values1_in (F:Fence) (n:Nat) (h7:F.fn 97) (hro:F.round=none) (hn:1≤n) (l Bs n₀ b off len cap:Nat) (zs:List Int) (hreach:len*8≤140737488351232) (hb:b<n₀) (J Jx:List Int→World→Prop)
  (hY:∀ pre x W,J pre W→pre.length<len→YieldAt F (n-1) Tryz.prog l #[.int .i64 x] W fun e W' =>
   (e = .returned (.bool true)∧J (pre++[x]) W'∧Below n₀ W W')∨(e = .returned (.bool false)∧Jx (pre++[x]) W'))
  (W:World) (hBs:W.cell? ⟨Bs,0,none⟩=some (.slice (some ⟨b,off,none⟩) len cap)) (hc:∀ j,j<len→W.cell? ⟨b,off+j,none⟩=some (.int .i64 (zs[j]?.getD 0))) (h0:J [] W) :
  CallsIn F n Tryz.prog 97 #[.func (.yield l) #[] #[],.pointer (some ⟨Bs,0,none⟩)] W fun e W'=>(∃ v,e = .returned v) ∧
   ((∃ ys,ys=Tryz.upto (fun j=>zs[j]?.getD 0) len∧J ys W')∨(∃ pre,(∃ k,k≤len∧pre=Tryz.upto (fun j=>zs[j]?.getD 0) k)∧Jx pre W')):=by
 refine callsIn_of_wp Tryz.func97 rfl h7 ?_ hro;simp only [Tryz.ntmps97,List.size_toArray,List.length_cons,List.length_nil,Nat.reduceAdd,Nat.reduceSub,Array.replicate_succ,Array.replicate_zero,List.push_toArray,List.append_toArray,List.nil_append,List.cons_append]
 gi_wp2
 gi_loopw [7] (fun i wr=>∃ k:Nat,k≤len∧i = .int .i64 k∧J (Tryz.upto (fun j=>zs[j]?.getD 0) k) wr∧Below n₀ W wr)
  (fun i _=>len-(intOf i).toNat)
 case atStart=>exact ⟨0,Nat.zero_le _,rfl,h0,Below.refl _ _⟩
 case round =>
  obtain ⟨k,hk,rfl,hJs,hnx⟩:=hrel;have hcx:k<len→wr.cell? ⟨b,off+k,none⟩=some (.int .i64 (zs[k]?.getD 0)):=fun h=>(hnx.cell (p:=⟨b,off+k,none⟩) hb).trans (hc k h);by_cases hlt:k<len
  ·obtain ⟨fn,tmps,assign,body,hy,hR⟩:=hY _ (zs[k]?.getD 0) wr hJs (by rw [Tryz.upto_length];exact hlt);have hcx':=hcx hlt
   gi_wp2
   refine hR.mono ?_;rintro e W3 (⟨rfl,hJ3,hk3⟩|⟨rfl,hJx3⟩)
   ·gi_wp2
    go_roundw
    case rel=>exact ⟨k+1,by omega,by simp,by rw [Tryz.upto_succ];exact hJ3,hnx.trans hk3⟩
    case measure=>simp [intOf];omega
   ·gi_wp2
    refine bodyPost_ret (results_none rfl _ _ _) rfl ?_;exact ⟨⟨_,rfl⟩,.inr ⟨_,⟨k+1,by omega,(Tryz.upto_succ _ _).symm⟩,hJx3⟩⟩
  ·obtain rfl:k=len:=by omega
   gi_wp2
   go_end0
   exact ⟨⟨_,rfl⟩,.inl ⟨_,rfl,hJs⟩⟩
set_option maxRecDepth 100000 in
set_option maxHeartbeats 1000000 in
theorem Tryz.values1_nil_in (F:Fence) (n:Nat) (h7:F.fn 97) (hro:F.round=none) (l Bs:Nat) (a:Option Addr) (cap:Nat) (J:List Int→World→Prop) (W:World) (hBs:W.cell? ⟨Bs,0,none⟩=some (.slice a 0 cap)) (h0:J [] W) :
  CallsIn F n Tryz.prog 97 #[.func (.yield l) #[] #[],.pointer (some ⟨Bs,0,none⟩)] W fun e W'=>(∃ v,e = .returned v)∧J [] W':=by
 refine callsIn_of_wp Tryz.func97 rfl h7 ?_ hro;simp only [Tryz.ntmps97,List.size_toArray,List.length_cons,List.length_nil,Nat.reduceAdd,Nat.reduceSub,Array.replicate_succ,Array.replicate_zero,List.push_toArray,List.append_toArray,List.nil_append,List.cons_append]
 gi_wp2
 gi_loopw [7] (fun i wr=>i = .int .i64 0∧J [] wr) (fun _ _=>0)
 case atStart=>exact ⟨rfl,h0⟩
 case round =>
  obtain ⟨rfl,hJs⟩:=hrel
  gi_wp2
  go_end0
  exact ⟨⟨_,rfl⟩,hJs⟩
theorem Tryz.values_stops (F:Fence) (n:Nat) (h7:F.fn 97) (hro:F.round=none) (hn:1≤n) (Bs n₀:Nat) (sv:Value) (zs:List Int) (hreach:zs.length*8≤140737488351232) (w:World) (hBs:Bs<w.heap.size) (hn₀:n₀≤w.heap.size)
  (hc:w.cell? ⟨Bs,0,none⟩=some sv) (hI:Go.Abs.Ints n₀ w sv zs) :
  SeqStopsK F n Tryz.prog 97 #[.pointer (some ⟨Bs,0,none⟩)] (fun x:Int=>#[Value.int .i64 x]) (Below n₀) (fun ys=>ys=zs) (fun pre=>pre <+: zs) zs.length w:=fun l J Jx W hW _ _ hY h0=>by
 have hc':=(hW.cell (p:=⟨Bs,0,none⟩) hBs).trans hc;rcases hI.below (hW.mono hn₀) with ⟨a,cap,rfl,rfl⟩|⟨b,off,cap,rfl,hb,hcs⟩
 ·exact (Tryz.values1_nil_in F n h7 hro l Bs a cap J W hc' h0).mono fun e W' ⟨he,hj⟩=>⟨he,.inl ⟨_,rfl,hj⟩⟩
 ·refine (Tryz.values1_in F n h7 hro hn l Bs n₀ b off zs.length cap zs hreach hb J Jx hY W hc' hcs h0).mono ?_;rintro e W' ⟨he,⟨ys,rfl,hj⟩|⟨pre,⟨k,hk,rfl⟩,hj⟩⟩
  ·exact ⟨he,.inl ⟨_,Tryz.upto_all zs,hj⟩⟩
  ·exact ⟨he,.inr ⟨_,by rw [Tryz.upto_take zs hk];exact List.take_prefix _ _,hj⟩⟩
theorem Tryz.info3:(Tryz.prog.info? 3).map (fun i=>(i.zero,i.size,i.bytes))=some (some (.int .i64 0),1,8):=by kernel_rfl
set_option maxRecDepth 100000 in
set_option maxHeartbeats 2000000 in
theorem Tryz.appendSeq_in (F:Fence) (n:Nat) (h132:F.fn 132) (h97:F.fn 97) (hro:F.round=none) (hn:3≤n) (Bs:Nat) (sv:Value) (zs:List Int) (hlen:zs.length*8≤140737488351232) (w:World) (hBs:Bs<w.heap.size) (hc0:w.cell? ⟨Bs,0,none⟩=some sv) (hI:Go.Abs.Ints w.heap.size w sv zs) :
  CallsIn F n Tryz.prog 132 #[.slice none 0 0,.func (.func 97) #[] #[.pointer (some ⟨Bs,0,none⟩)]] w fun e W'=>∃ v,e = .returned v∧W'.ownsRow w.heap.size 3 1 v zs.length (zs.map (Value.int .i64))∧(v = .slice none 0 0↔zs=[])∧Below w.heap.size w W':=by
 have h1:1≤n:=by omega
 obtain ⟨i0,hi,hz0,hz1,hz2⟩:=info_parts Tryz.info3;refine callsIn_of_wp_marks Tryz.func132 rfl h132 ?_ hro;simp only [Tryz.ntmps132,List.size_toArray,List.length_cons,List.length_nil,Nat.reduceAdd,Nat.reduceSub,Array.replicate_succ,Array.replicate_zero,List.push_toArray,List.append_toArray,List.nil_append,List.cons_append]
 gi_wp2
 have bO:=Boxed.new w 32 (.slice none 0 0);have hB0:Below w.heap.size w (w.alloc (.cells #[.slice none 0 0] 32)):=(Below.refl _ w).alloc (Nat.le_refl _) _;refine wpIn_rangeFunc_ownG hro h1 (gf:=97) (lb:=#[.pointer (some ⟨Bs,0,none⟩)]) rfl h97 (enters_of Tryz.func97 (by kernel_rfl) rfl)
  (Tryz.values_stops F (n-1) h97 hro (by omega) Bs w.heap.size sv zs hlen _ (by simp;omega) (by simp) ((hB0.cell (p:=⟨Bs,0,none⟩) hBs).trans hc0) (hI.below hB0)) belowK_t (belowK_b (by simp)) (Below.refl _ _) (fun _=>rfl)
  (fun pre W=>(∃ v,Boxed W w.heap.size 32 v∧W.ownsRow w.heap.size 3 1 v pre.length (pre.map (Value.int .i64))∧(v = .slice none 0 0↔pre=[]))∧Below w.heap.size w W)
  (fun _ _ _=>False)
  (OwnFrom.and (Own.from (holdsRow_own w.heap.size w.heap.size 32 3 1 (fun pre=>pre.length) (fun pre=>pre.map (Value.int .i64)) (fun pre v=>v = .slice none 0 0↔pre=[])) _) (ownFrom_below (Nat.le_refl _) (by simp)))
  (fun _ _ _ _ _ hs _ _=>hs)
  ⟨⟨_,bO,World.ownsRow_nil _ _ _ _,by simp⟩,hB0⟩
  (fun x=>{ tmps:=#[.slice none 0 0,.func (.func 97) #[] #[.pointer (some ⟨Bs,0,none⟩)],.pointer (some ⟨w.heap.size,0,none⟩),undef,.slice none 0 0,.int .i64 x,.func (.func 97) #[] #[.pointer (some ⟨Bs,0,none⟩)],.int .i64 x,undef,undef,undef,undef,undef],defers:=[] }) ?assign ?body ?done ?stop
 case assign =>
  intro l x W K hK
  gi_wp2
  exact hK
 case body =>
  rintro l pre x W ⟨⟨v,hv,hrow,hnil⟩,hB⟩ hlt;have hc:=hv.cell
  gi_wp2_with (gi_at_builtin;refine wpListIn_append_own _ rfl _ _ 32 rfl w.heap.size 3 i0 (.int .i64 0) 1 8 Tryz.underlying32 hi hz0 hz1 hz2 rfl (by decide) _ _ _ rfl (hrow.alloc _) ⟨W.heap.size,0,none⟩ 1 1 [.int .i64 x] rfl rfl (cell_one_new _ _ _) (by simp [Value.oneCell']) (by have:maxLen=9223372036854775807:=rfl;omega) (by omega) (by have:=hB.size;simp;omega) ?_;intro v' w1 hown' hgrow _;obtain ⟨g',cap',rfl⟩:=ownsRow_succ hown';obtain ⟨hv1,hv2,hr2,hk2,hb2⟩:=hv.appended (by decide) hrow hB.size (Nat.le_refl _) hown' hgrow;have hc1:=hv1.cell;have hf1:=hv1.frozen)
  exact ⟨hk2.from _,hb2,⟨_,hv2,by simpa using hr2,by simp⟩,hB.trans hb2⟩
 case done =>
  rintro D ys W hD rfl ⟨⟨v,hv,hrow,hnil⟩,hB⟩ hK;have hc:=hv.cell
  gi_wp2
  refine ⟨by simp,.inl ⟨_,_,rfl,run_takeDeferred hK,?_⟩⟩;exact ⟨_,results_tmp rfl _ _ _,v,rfl,ownsRow_putObj hrow _ hK rfl,hnil,hB.trans (belowK_b (w:=w) (Nat.le_refl _) W D _ _ (by simp at hD;omega) hK rfl rfl)⟩
 case stop =>
  rintro D c pre W _ _ h _;exact h.elim
set_option maxHeartbeats 1000000 in
theorem Tryz.collect_in (F:Fence) (n:Nat) (h96:F.fn 96) (h132:F.fn 132) (h97:F.fn 97) (hro:F.round=none) (hn:4≤n) (Bs:Nat) (sv:Value) (zs:List Int) (hlen:zs.length*8≤140737488351232) (w:World) (hBs:Bs<w.heap.size) (hc0:w.cell? ⟨Bs,0,none⟩=some sv) (hI:Go.Abs.Ints w.heap.size w sv zs) :
  CallsIn F n Tryz.prog 96 #[.func (.func 97) #[] #[.pointer (some ⟨Bs,0,none⟩)]] w fun e W'=>∃ v,e = .returned v∧W'.ownsRow w.heap.size 3 1 v zs.length (zs.map (Value.int .i64))∧(v = .slice none 0 0↔zs=[])∧Below w.heap.size w W':=by
 have h1:1≤n:=by omega
 refine callsIn_of_wp Tryz.func96 rfl h96 ?_ hro;simp only [Tryz.ntmps96,List.size_toArray,List.length_cons,List.length_nil,Nat.reduceAdd,Nat.reduceSub,Array.replicate_succ,Array.replicate_zero,List.push_toArray,List.append_toArray,List.nil_append,List.cons_append]
 gi_wp2_with (gi_at_call 132;refine (Tryz.appendSeq_in F (n-1) h132 h97 hro (by omega) Bs sv zs hlen _ hBs hc0 hI).mono ?_;rintro e w' ⟨v,rfl,hrow,hnil,hb⟩)
 go_ret
 exact ⟨v,rfl,hrow,hnil,hb⟩
set_option maxRecDepth 100000 in
set_option maxHeartbeats 2000000 in
theorem Tryz.sorted_in (F:Fence) (n:Nat) (h58:F.fn 58) (h96:F.fn 96) (h132:F.fn 132) (h97:F.fn 97) (h94:F.fn 94) (hro:F.round=none) (hn:5≤n)
  (hs1:∀ (blk off cap:Nat) (ss:List Int) (W:World),Holds encZ W blk off ss.toArray→blk<W.heap.size→ss.length<4611686018427387904 →
   CallsIn F (n-1) Tryz.prog 94 #[.slice (some ⟨blk,off,none⟩) ss.length cap] W fun e w'=>e = .returned (.tuple #[])∧∃ k os,w'=grow (putRow encZ (Sort.ahead W k) blk off (ss.mergeSort fun x y=>decide (x≤y)).toArray) os)
  (hs2:∀ (p:Option Addr) (cap:Nat) (W:World),CallsIn F (n-1) Tryz.prog 94 #[.slice p 0 cap] W fun e w'=>e = .returned (.tuple #[])∧w'=W)
  (Bs:Nat) (sv:Value) (zs:List Int) (hlen:zs.length*8≤140737488351232) (w:World) (hBs:Bs<w.heap.size) (hc0:w.cell? ⟨Bs,0,none⟩=some sv) (hI:Go.Abs.Ints w.heap.size w sv zs) :
  CallsIn F n Tryz.prog 58 #[.func (.func 97) #[] #[.pointer (some ⟨Bs,0,none⟩)]] w fun e W'=>∃ v,e = .returned v∧W'.ownsRow w.heap.size 3 1 v zs.length ((zs.mergeSort fun x y=>decide (x≤y)).map encZ)∧Below w.heap.size w W':=by
 have h1:1≤n:=by omega
 refine callsIn_of_wp Tryz.func58 rfl h58 ?_ hro;simp only [Tryz.ntmps58,List.size_toArray,List.length_cons,List.length_nil,Nat.reduceAdd,Nat.reduceSub,Array.replicate_succ,Array.replicate_zero,List.push_toArray,List.append_toArray,List.nil_append,List.cons_append]
 gi_wp2_with (gi_at_call 96;refine (Tryz.collect_in F (n-1) h96 h132 h97 hro (by omega) Bs sv zs hlen _ hBs hc0 hI).mono ?_;rintro e W ⟨v,rfl,hrow,hnil,hb⟩)
 rcases hrow.2 with ⟨rfl,hz⟩|⟨gb,cap,cur,rfl,hbase,hgb,r1,r2,r3,r4⟩
 ·have hss:zs=[]:=List.eq_nil_of_length_eq_zero hz;subst hss
  gi_wp2_with (gi_at_call 94;refine (hs2 none 0 W).mono ?_;rintro e w' ⟨rfl,rfl⟩)
  go_ret
  exact ⟨_,rfl,by simpa using hrow,hb⟩
 ·have hH:Holds encZ W gb 0 zs.toArray:=holds_of_block_i hgb (by simpa using r4);have hgl:gb<W.heap.size:=(Array.getElem?_eq_some_iff.1 hgb).1;have cS:=hs1 gb 0 cap zs W hH hgl (by omega)
  gi_wp2_with (gi_at_call 94;refine cS.mono ?_;rintro e w' ⟨rfl,nn,os,rfl⟩)
  go_ret
  exact ⟨_,rfl,ownsRow_sorted_i (by simp) hbase hgb r1 r2 r3,hb.grown (grownBy_sorted_i _) hb.size (fun j hj=>by cases hj;exact hbase)⟩
theorem Tryz.sorted58 (Bs:Nat) (sv:Value) (zs:List Int) (hlen:zs.length*8≤140737488351232) (w:World) (hBs:Bs<w.heap.size) (hc0:w.cell? ⟨Bs,0,none⟩=some sv) (hI:Go.Abs.Ints w.heap.size w sv zs) :
  Calls Tryz.prog 58 #[.func (.func 97) #[] #[.pointer (some ⟨Bs,0,none⟩)]] w fun e W'=>∃ v,e = .returned v∧W'.ownsRow w.heap.size 3 1 v zs.length ((zs.mergeSort fun x y=>decide (x≤y)).map encZ)∧Below w.heap.size w W' :=
 (callsIn_wide (n:=5)).1 (Tryz.sorted_in Fence.wide 5 trivial trivial trivial trivial trivial rfl (by omega) (fun blk off cap ss W hH hblk hsz=>callsIn_wide.2 (Tryz.slices_Sort_int blk off cap ss W hH hblk hsz)) (fun p cap W=>callsIn_wide.2 (Tryz.slices_Sort_int_none p cap W)) Bs sv zs hlen w hBs hc0 hI)
end Go.Proofs
end
section
namespace Go.Proofs
open Go.Abs
theorem Tryz.valuesK:Q6z Tryz.prog 59 97 1 4:=Q63 (by kernel_rfl)
theorem Tryz.overK:Q8n Tryz.prog 58 97 (eI .i64) 1 Q62 :=
 Q64 (by kernel_rfl) fun Bs sv zs w h1 h2 h3 h4=>Tryz.sorted58 Bs sv zs h1 w h2 h3 h4
end Go.Proofs
end
section
namespace Go.Abs
open Go Go.RowKit
theorem Qz6 {P:Program} {f:FuncId} {args:List V} {x:D} (hx:x.scalar=true) (hb:Qf3 P f=true)
  (h:∀ (w:World) (g:G) (us:List Value),(∀ b o,g.imm b o→b<w.heap.size)→RFs g w args us→Calls P f us.toArray w fun e w'=>e = .returned x.val∧Below w.heap.size w w') (M:Mem) (nb:Nat) (hfl0:V.dems args=args:=by rfl):ACalls P f args M nb (.d x) M nb:=by
 refine ACalls.mk' hb (Nat.le_refl _) hfl0 fun w g us hm hMon hus hfl hons=>?_;refine Calls.mono (h w g us (fun b o hi=>(hm.imm b o hi).1) hus) ?_;rintro e w' ⟨rfl,hbw⟩;have hI:Imm g.imm g.imm w w':=⟨fun _ _ h=>h,fun b o hi=>Qc4 (hbw.block b (hm.imm b o hi).1)⟩;have hk:Kept g w g w' (There M) (fun _=>True):=⟨hI,fun _ _=>rfl,fun b _ hlt=>⟨rfl,hbw.block b hlt,fun _=>Iff.rfl⟩⟩;refine ⟨_,g,rfl,hm.kept hk hMon (fun _ _ _=>trivial) trivial (fun _ _=>trivial) (fun b o hi=>?_),?_,trivial,hMon,?_⟩
 ·obtain ⟨h1,h2⟩:=hm.imm b o hi;exact ⟨Nat.lt_of_lt_of_le h1 hbw.size,h2⟩
 ·simp only [RV];exact (Q5z hx).2 rfl
 ·exact ⟨hbw.os,hbw.tape,hbw.output,hbw.size,hI,fun _ _=>rfl,fun b hb _=>⟨rfl,hbw.block b hb,fun _=>Iff.rfl⟩⟩
theorem Q8q {g:G} {w:World} {l:List Int} {k:IntKind} {u:Value} (h:RF g w (.d (.lst 1 (l.map (fun n=>[.int k n])))) u) :
  ∃ a cap,u = .slice a l.length cap∧l.length≤cap∧(l=[]∨∃ b o,a=some ⟨b,o,none⟩∧∀ (i:Nat) n,l[i]? = some n→g.imm b (o+i)∧w.cell? ⟨b,o+i,none⟩=some (.int k n)):=by
 have h:=RF_d.1 h;simp only [RD,List.length_map] at h;obtain ⟨a,cap,rfl,hc,hl⟩:=h;refine ⟨a,cap,rfl,hc,?_⟩;rcases hl with hl|⟨b,o,rfl,hl⟩
 ·exact .inl (by simpa using hl)
 ·refine .inr ⟨b,o,rfl,fun i n hi=>?_⟩;have:=(Qtd hl i [.int k n] (by simp [hi])).2;simp only [RDc,Nat.mul_one,RD] at this;obtain ⟨h1,⟨u,h2,rfl⟩,_⟩:=this;exact ⟨h1,h2⟩
end Go.Abs
end
section
namespace Go.Proofs
open Go.RowKit Go.Abs
def keyL (l:List Int):List UInt8:=l.flatMap fun x=>Lib.encodeRune (x+1)
theorem Q56:∀ l:List Int,(keyL l).length≤4*l.length
 | []=>by simp [keyL]
 | x::l=>by
  have h:=Lib.runeCells_le (x+1);rw [Lib.runeCells_length] at h;have ih:=Q56 l;simp only [keyL,List.flatMap_cons,List.length_append,List.length_cons] at *
  omega
set_option maxHeartbeats 4000000 in
set_option maxRecDepth 1000000 in
theorem Tryz.key_walk (l:List Int) (hl:l.length≤lim) (hx:∀ x∈l,0≤x∧x<50000) (a:Option Addr) (cap:Nat) (w:World)
  (hc:∀ (i:Nat) n,l[i]? = some n→∃ b o,a=some ⟨b,o,none⟩∧b<w.heap.size∧w.cell? ⟨b,o+i,none⟩=some (.int .i64 n)) :
  Calls Tryz.prog 70 #[.slice a l.length cap] w fun e w'=>e = .returned (.string (keyB l))∧Below w.heap.size w w':=by
 have hlim:l.length≤1099511627776:=hl
 go_enter Tryz.func70,Tryz.ntmps70
 go_wp2
 go_loopw [8] (fun vi wr=>∃ (k:Nat),vi = .int .i64 k∧k≤l.length∧Lib.IsBuilderF 165 5 w.heap.size w.heap.size (Lib.byteCells (keyL (l.take k))) wr∧Below w.heap.size w wr) (fun vi _=>l.length-(intOf vi).toNat)
 case atStart =>
  refine ⟨0,rfl,by omega,?_,((Below.refl _ w).alloc (Nat.le_refl _) _)⟩;exact Lib.IsBuilderF.of (Lib.fresh_isBuilder 165 5 w)
 case round =>
  obtain ⟨k,rfl,hk,hI,hbw⟩:=hrel;by_cases hlt:k<l.length
  ·obtain ⟨b,o,rfl,hb,hcell⟩:=hc k l[k] (List.getElem?_eq_getElem hlt);have hcr:wr.cell? ⟨b,o+k,none⟩=some (.int .i64 l[k]):=by
    rw [← hcell];simp only [World.cell?];rw [hbw.block b hb]
   have hxk:=hx l[k] (List.getElem_mem hlt);have w1:IntKind.i64.wrap (l[k]+1)=l[k]+1:=by simp [IntKind.wrap,IntKind.bits,IntKind.signed];omega
   have w2:IntKind.i32.wrap (l[k]+1)=l[k]+1:=by simp [IntKind.wrap,IntKind.bits,IntKind.signed];omega
   have hsz:w.heap.size≤wr.heap.size:=hbw.size;have hkl:=Q56 (l.take k);rw [List.length_take] at hkl
   go_wp2_with (go_at_call 103;refine (Tryz.Builder_WriteRune_k w.heap.size w.heap.size _ (l[k]+1) (by omega) (by omega) _ hI (by rw [Lib.byteCells_length];omega) hsz).mono ?_)
   rintro e W1 ⟨rfl,h1,b1,k1⟩
   go_wp2
   go_roundw
   case rel =>
    refine ⟨k+1,by simp,by omega,?_,hbw.trans b1⟩;have e1:keyL (l.take (k+1))=keyL (l.take k)++Lib.encodeRune (l[k]+1):=by
     rw [List.take_succ_eq_append_getElem hlt];simp only [keyL,List.flatMap_append,List.flatMap_cons,List.flatMap_nil,List.append_nil]
    rw [e1,Lib.byteCells_append,Lib.byteCells_encodeRune];exact Or.inr h1
   case measure =>
    simp [intOf];omega
  ·have hk2:k=l.length:=by omega
   subst hk2
   go_wp2_with (go_at_call 104;refine (Tryz.Builder_String_any_k w.heap.size w.heap.size _ _ hI hbw.size).mono ?_)
   rintro e W1 ⟨rfl,_,b1,_⟩
   go_wp2
   go_ret
   exact ⟨rfl,hbw.trans b1⟩
theorem Tryz.keyK:Go.Abs.K_projection_key Tryz.prog 70 keyS:=by
 intro l r h;unfold keyS at h;split at h<;>cases h;rename_i hc;intro M nb;refine Qz6 rfl (by kernel_rfl) (fun w g us himm hus=>?_) M nb;obtain ⟨u,us',rfl,hu,hus'⟩:=hus;simp only [RFs] at hus';subst hus';obtain ⟨a,cap,rfl,hcap,hl⟩:=Q8q hu;refine Tryz.key_walk l hc.1 hc.2 a cap w fun i n hi=>?_;rcases hl with rfl|⟨b,o,rfl,hl⟩
 ·simp at hi
 ·exact ⟨b,o,rfl,himm _ _ (hl i n hi).1,(hl i n hi).2⟩
end Go.Proofs
end
section
namespace Go.Proofs
open Go.Shelf Go.RowKit Go.Lib Go.Sort Go.Abs
set_option maxRecDepth 100000
set_option maxHeartbeats 4000000
theorem Q92 (W:World):W.drew.heap=W.heap:=rfl
theorem Qfd (W:World) (o:Obj) (n:Nat) (h:n=W.heap.size):(W.alloc o).heap[n]? = some o:=by subst h;exact heap_alloc_new _ _
theorem Qbn (W:World) (o:Obj) (n:Nat) (h:n<W.heap.size):(W.alloc o).heap[n]? = W.heap[n]?:=Lib.alloc_old _ _ _ h
theorem Tryz.graph_walk (al mk:Option Addr) (ca cm be oe ce:Nat) (w:World) (h0:w.cell? ⟨be,oe,none⟩=some (.int .i64 0)) (h1:w.cell? ⟨be,oe+1,none⟩=some (.int .i64 0)) (h2:w.cell? ⟨be,oe+2,none⟩=some (.int .i64 0)) (hb:be<w.heap.size) :
  Calls Tryz.prog 91 #[.agg #[.slice al 2 ca,.int .i64 2,.slice mk 0 cm,.slice (some ⟨be,oe,none⟩) 1 ce]] w fun e w'=>∃ B,e = .returned (.agg #[.slice al 2 ca,.int .i64 2,.slice mk 0 cm,.slice (some ⟨be,oe,none⟩) 1 ce,.slice (some ⟨B,0,none⟩) 3 3]) ∧
   w.heap.size≤B∧w'.heap[B]? = some (.cells #[.int .i64 0,.int .i64 1,.int .i64 1] 3 (0,0))∧Below w.heap.size w w':=by
 have hmk:∀ w,(Instr.makeSlice 32 (.int .i64 3) (.int .i64 3)).run Tryz.prog w = .ok (.slice (some ⟨w.heap.size,0,none⟩) 3 3) (w.alloc (.cells #[.int .i64 0,.int .i64 0,.int .i64 0] 3)):=fun _=>by kernel_rfl
 have hb1:be<w.heap.size+1:=by omega
 have hb2:be<w.heap.size+1+1:=by omega
 have hb3:be<w.heap.size+1+1+1:=by omega
 have hb4:be<w.heap.size+1+1+1+1:=by omega
 have hn0:be≠w.heap.size:=by omega
 have hn1:be≠w.heap.size+1:=by omega
 have hn2:be≠w.heap.size+1+1:=by omega
 have hn3:be≠w.heap.size+1+1+1:=by omega
 have hn4:be≠w.heap.size+1+1+1+1:=by omega
 go_enter Tryz.func91,Tryz.ntmps91
 go_wp2
 go_region
 all_goals
  go_wp2
  refine wp_loop_rounds 2 ?_;rw [rounds_succ]
  go_wp2
  rw [rounds_succ]
  go_wp2
  refine wp_loop_rounds 3 ?_;rw [rounds_succ]
  go_wp2
  go_region
  go_wp2
  rw [rounds_succ]
  go_wp2
  go_region
  go_wp2
  rw [rounds_succ]
  go_wp2
  (try simp only [Exit.inBlock,Exit.then])
  refine bodyPost_ret (by simp [results,show Tryz.f91.results = #[.cell 2 151] from rfl,loadVar,asAddr,Tryz.isAgg151,Tryz.sizeOf151,go_sem];rfl) rfl ?_;refine ⟨_,rfl,by omega,?_,?_⟩
  ·simp only [Q92]
   repeat (first|exact Qfd _ _ _ (by simp)|rw [Qbn _ _ _ (by simp;try omega)])
  ·first|exact ((((((((Below.refl _ w).alloc (Nat.le_refl _) _).alloc (by simp) _).alloc (by simp;omega) _).alloc (by simp;omega) _).alloc (by simp;omega) _).drew.drew.drew))|trace_state
end Go.Proofs
end
