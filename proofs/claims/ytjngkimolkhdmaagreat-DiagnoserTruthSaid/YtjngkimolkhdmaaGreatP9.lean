/-
  Part 9 of the proof: see the last text.
-/
import Derived.Test.YtjngkimolkhdmaaGreatP8
import Derived.Test.YtjngkimolkhdmaaGreatProg
import Derived.KernelRfl
import Derived.Sort.Statements
import Derived.Shelf.SlSortCmp.NoneTotal
import Derived.Lib.RuneBytes
set_option linter.unusedVariables false
set_option linter.unusedSimpArgs false
set_option linter.unusedSectionVars false
section
namespace Go.Abs
open Go
set_option maxRecDepth 10000
set_option maxHeartbeats 4000000
theorem Qsi {P:Program} {c:Nat} {Q7:_} {Qz:_} {Qx:_} {f_projection_key:_} {Qbv:_} {Q0:_}
    (Hcj:Qgn P 67 Q7)
    (Hcm:Qfu P 68 Qz)
    (Hcu:Qeg P 69 Qx)
    (Hcl:K_projection_key P 70 f_projection_key)
    (Hcn:Qfg P 71 Qbv)
    (Hcr:Qeu P 72 Q0) (hcf:Ql P c=some Qnn) (fuel:Nat):Qjt P c (Qdo Q7 Qz Qx f_projection_key Qbv Q0 fuel):=by
 intro a1 ov2 r h;refine Qbu hcf rfl fun Γ M hP hnt hM=>?_;subst hP;refine ini ?_;refine Z 12 0 ?_;refine cl (Hcj _ _) h (cq fun x4 h=>?_);refine Z 7 0 ?_;refine cd h rfl (fun h=>Y) (fun h=>?_);refine Z 5 0 ?_;refine cl (Hcm _ _) h (cq fun x7 h=>?_);refine Z 7 0 ?_;refine Rn.buildT (v:=.agg [(l_ x7.kept_),(i_ 0),.nils 1,.nils 3]) tv rfl ?_;refine Z 10 0 ?_;refine cd h rfl (fun h=>Y) (fun h=>?_);refine Z 4 0 ?_;refine cl (Hcu _) h (cq fun x10 h=>?_);refine Z 5 0 ?_;refine Rn.mkmap tv rfl (fun (x:ByteArray)=>(.d (.str x):V)) (fun (x:Int)=>((i_ x):V)) ?_;refine Z 1 0 ?_;refine Rn.k (v:=.ptr (Γ.n0+37) 0) tv rfl rfl rfl ?_;refine Z 1 0 ?_;refine cl (Hcl _) h (cq fun x12 h=>?_);refine Rn.mapset (ek:=(fun (x:ByteArray)=>(.d (.str x):V))) (ev:=(fun (x:Int)=>((i_ x):V))) (m:=([]:List (ByteArray×Int))) (k:=x12) (v:=0) (fun _ _=>rfl) (fun _=>rfl) (fun _=>rfl) tv rfl rfl rfl rfl rfl ?_;refine Z 9 0 ?_;refine Tr.weak (by show WeakSt Γ _ ⟨look ((10,.own 1 (List.map (eL 1 (eI .i64)) [x10]))::[(0,(Qp a1)),(1,(l_ ov2)),(2,.ptr (Γ.n0+2) 0),(4,.ptr (Γ.n0+4) 0),(5,.nils 1),(6,(i_ 0)),(7,(i_ x4)),(8,.ptr (Γ.n0+8) 0),(9,.ptr (Γ.n0+9) 0),(11,.mp (Γ.n0+38)),(12,(i_ 0)),(18,(Qp a1)),(19,(l_ ov2)),(20,(i_ x4)),(21,(i_ x4)),(22,(b_ (x4 != 0))),(25,(Qp a1)),(26,(l_ ov2)),(27,(Qbn x7)),(28,.ptr (Γ.n0+8) 1),(29,(l_ x7.kept_)),(30,.agg [(l_ x7.kept_),(i_ 0),.nils 1,.nils 3]),(31,.ptr (Γ.n0+2) 1),(32,(i_ a1.zH)),(33,(b_ (a1.zH==0))),(35,(Qbn x7)),(36,(l_ x10)),(38,.mp (Γ.n0+38)),(41,(l_ x10)),(42,.d (.str x12)),(43,.mp (Γ.n0+38))] ),Qi Γ.n0 (bxs [(2,.cells ((Qn a1))),(4,.cells ([.nils 1,(i_ 0),.nils 1,.nils 3])),(8,.cells ((Qu x7))),(9,.cells ([(l_ x7.kept_),(i_ 0),.nils 1,.nils 3])),(38,.mp (mapE (fun (x:ByteArray)=>(.d (.str x):V)) (fun (x:Int)=>((i_ x):V)) 0 (setM ([]:List (ByteArray×Int)) x12 0)) ((setM ([]:List (ByteArray×Int)) x12 0)).length)]) M,Γ.n0+117⟩;exact Q2g 37 10 [.lst 1 (List.map (eI .i64) x10)] rfl rfl rfl rfl rfl ⟨(sm rfl),(sm rfl),(kPtr rfl),(kPtr rfl),(sm rfl),(sm rfl),(sm rfl),(kPtr rfl),(kPtr rfl),(kMp rfl),(sm rfl),(sm rfl),(sm rfl),(sm rfl),(sm rfl),(sm rfl),(sm rfl),(sm rfl),(sm rfl),(kPtr rfl),(sm rfl),(sm rfl),(kPtr rfl),(sm rfl),(sm rfl),(sm rfl),(sm rfl),(kMp rfl),(sm rfl),(sm rfl),(kMp rfl),tv⟩ ⟨⟨_,rfl,rfl,(.same rfl)⟩,⟨_,rfl,rfl,(.same rfl)⟩,⟨_,rfl,rfl,(.same rfl)⟩,⟨_,rfl,rfl,(.same rfl)⟩,⟨rfl,rfl⟩,tv⟩ rfl) ?_;refine lo h (fun (sv13,i14,c15,c16,c17,r18,r19,c20)=>⟨look [(4,.ptr (Γ.n0+4) 0),(8,.ptr (Γ.n0+8) 0),(9,.ptr (Γ.n0+9) 0),(10,.own 1 (List.map (eL 1 (eI .i64)) sv13)),(11,.mp (Γ.n0+38)),(12,(i_ i14))],Qi Γ.n0 (bxs [(2,.cells ((Qn a1))),(4,.cells ([(o_ c15),(i_ 0),(o_ c16),.own 3 (List.map Qd c17)])),(8,.cells ((Qu x7))),(9,.cells ([(l_ x7.kept_),(i_ 0),(o_ r18),.own 3 (List.map Qd r19)])),(38,.mp (mapE (fun (x:ByteArray)=>(.d (.str x):V)) (fun (x:Int)=>((i_ x):V)) 0 c20) (c20).length)]) M,Γ.n0+117⟩) wk (fun _ ⟨sv13,i14,c15,c16,c17,r18,r19,c20⟩ h=>?_);refine Z 8 0 ?_;refine ci h rfl (fun h=>?_) (fun h=>Y);refine Z 3 0 ?_;refine cu h (fun r30=>⟨look [(4,.ptr (Γ.n0+4) 0),(8,.ptr (Γ.n0+8) 0),(9,.ptr (Γ.n0+9) 0),(10,.own 1 (List.map (eL 1 (eI .i64)) sv13)),(11,.mp (Γ.n0+38)),(12,(i_ i14))],Qi Γ.n0 (bxs [(2,.cells ((Qn a1))),(4,.cells ([(o_ c15),(i_ 0),(o_ c16),.own 3 (List.map Qd c17)])),(8,.cells ((Qu x7))),(9,.cells ([(l_ x7.kept_),(i_ 0),(o_ r30),.own 3 (List.map Qd r19)])),(38,.mp (mapE (fun (x:ByteArray)=>(.d (.str x):V)) (fun (x:Int)=>((i_ x):V)) 0 c20) (c20).length)]) M,Γ.n0+117⟩) (fun _ h=>?_) (fun r30 h=>?_)
 ·refine Z 7 1 ?_;intro _ h;refine cl (Hcn _ _) h (cq fun _ h=>?_);refine Z 1 0 ?_;exact cd h rfl (fun h=>Y) (fun h=>Y)
 ·refine cu h (fun (sv59,r60,c61)=>⟨look [(4,.ptr (Γ.n0+4) 0),(8,.ptr (Γ.n0+8) 0),(9,.ptr (Γ.n0+9) 0),(10,.own 1 (List.map (eL 1 (eI .i64)) sv59)),(11,.mp (Γ.n0+38)),(12,(i_ i14))],Qi Γ.n0 (bxs [(2,.cells ((Qn a1))),(4,.cells ([(o_ c15),(i_ 0),(o_ c16),.own 3 (List.map Qd c17)])),(8,.cells ((Qu x7))),(9,.cells ([(l_ x7.kept_),(i_ 0),(o_ r30),.own 3 (List.map Qd r60)])),(38,.mp (mapE (fun (x:ByteArray)=>(.d (.str x):V)) (fun (x:Int)=>((i_ x):V)) 0 c61) (c61).length)]) M,Γ.n0+117⟩) (fun _ h=>?_) (fun ⟨sv59,r60,c61⟩ h=>?_)
  ·refine Z 8 0 ?_;refine lo h (fun (sv31,x32,r33,c34)=>⟨look [(4,.ptr (Γ.n0+4) 0),(8,.ptr (Γ.n0+8) 0),(9,.ptr (Γ.n0+9) 0),(10,.own 1 (List.map (eL 1 (eI .i64)) sv31)),(11,.mp (Γ.n0+38)),(12,(i_ i14)),(63,(l_ x7.kept_)),(64,(i_ (x7.kept_.length:Int))),(65,(i_ x32))],Qi Γ.n0 (bxs [(2,.cells ((Qn a1))),(4,.cells ([(o_ c15),(i_ 0),(o_ c16),.own 3 (List.map Qd c17)])),(8,.cells ((Qu x7))),(9,.cells ([(l_ x7.kept_),(i_ 0),(o_ r30),.own 3 (List.map Qd r33)])),(38,.mp (mapE (fun (x:ByteArray)=>(.d (.str x):V)) (fun (x:Int)=>((i_ x):V)) 0 c34) (c34).length)]) M,Γ.n0+117⟩) wk (fun _ ⟨sv31,x32,r33,c34⟩ h=>?_);refine Z 5 0 ?_;refine ci h rfl (fun h=>?_) (fun h=>Y);refine Tr.skip ?_;refine cu h (fun (sv56,r57,c58)=>⟨look [(4,.ptr (Γ.n0+4) 0),(8,.ptr (Γ.n0+8) 0),(9,.ptr (Γ.n0+9) 0),(10,.own 1 (List.map (eL 1 (eI .i64)) sv56)),(11,.mp (Γ.n0+38)),(12,(i_ i14)),(63,(l_ x7.kept_)),(64,(i_ (x7.kept_.length:Int))),(65,(i_ x32))],Qi Γ.n0 (bxs [(2,.cells ((Qn a1))),(4,.cells ([(o_ c15),(i_ 0),(o_ c16),.own 3 (List.map Qd c17)])),(8,.cells ((Qu x7))),(9,.cells ([(l_ x7.kept_),(i_ 0),(o_ r30),.own 3 (List.map Qd r57)])),(38,.mp (mapE (fun (x:ByteArray)=>(.d (.str x):V)) (fun (x:Int)=>((i_ x):V)) 0 c58) (c58).length)]) M,Γ.n0+117⟩) (fun _ h=>?_) (fun ⟨sv56,r57,c58⟩ h=>Y);refine Z 15 1 ?_;intro x37 _ h;refine cl (Hcr _ _ _) h (cq fun _ h=>?_);refine Z 9 0 ?_;refine cd h rfl (fun h=>Y) (fun h=>?_);refine Z 5 0 ?_;refine cl (Hcl _) h (cq fun x45 h=>?_);refine Rn.lookupC (ek:=(fun (x:ByteArray)=>(.d (.str x):V))) (ev:=(fun (x:Int)=>((i_ x):V))) (m:=c34) (k:=x45) (fun _ _=>rfl) (fun _=>rfl) (fun _=>rfl) 0 rfl tv rfl rfl rfl ?_;refine Z 6 0 ?_;refine cu h (fun (sv51,to52,c53)=>⟨look [(4,.ptr (Γ.n0+4) 0),(8,.ptr (Γ.n0+8) 0),(9,.ptr (Γ.n0+9) 0),(10,.own 1 (List.map (eL 1 (eI .i64)) sv51)),(11,.mp (Γ.n0+38)),(12,(i_ i14)),(14,(i_ x37)),(16,(i_ to52)),(63,(l_ x7.kept_)),(64,(i_ (x7.kept_.length:Int))),(65,(i_ x32))],Qi Γ.n0 (bxs [(2,.cells ((Qn a1))),(4,.cells ([(o_ c15),(i_ 0),(o_ c16),.own 3 (List.map Qd c17)])),(8,.cells ((Qu x7))),(9,.cells ([(l_ x7.kept_),(i_ 0),(o_ r30),.own 3 (List.map Qd r33)])),(38,.mp (mapE (fun (x:ByteArray)=>(.d (.str x):V)) (fun (x:Int)=>((i_ x):V)) 0 c53) (c53).length)]) M,Γ.n0+117⟩) (fun _ h=>?_) (fun ⟨sv51,to52,c53⟩ h=>Y);refine Z 5 0 ?_;refine Tr.cond rfl (fun hb46=>?_) (fun hb46=>?_)
   ·have hb46:=nT' hb46;replace h:=bF hb46 h;refine Z 10 0 ?_;refine cl (Hcl _) h (cq fun x48 h=>?_);refine Z 1 0 ?_;refine Rn.mapset (ek:=(fun (x:ByteArray)=>(.d (.str x):V))) (ev:=(fun (x:Int)=>((i_ x):V))) (m:=c34) (k:=x48) (v:=(sv31.length:Int)) (fun _ _=>rfl) (fun _=>rfl) (fun _=>rfl) tv rfl rfl rfl rfl rfl ?_;exact Y
   ·have hb46:=nF' hb46;replace h:=bT hb46 h;exact Y
  ·refine Z 6 0 ?_;exact ci h rfl (fun h=>Y) (fun h=>Y)
theorem Qvy {P:Program} {c:Nat} {Q8:_} {Qdo:_} {Qr:_} {Qbx:_}
    (Hbg:Qhf P 18 Q8)
    (Hci:Qjt P 20 Qdo)
    (Hbn:Qex P 54 Qr)
    (Hbm:Qih P 55 Qbx) (hcf:Ql P c=some Qq3) (fuel:Nat):Qly P c (Qe1 Q8 Qdo Qr Qbx fuel):=by
 intro ev1 a2 r h;refine Qbu hcf rfl fun Γ M hP hnt hM=>?_;subst hP;refine ini ?_;refine Z 10 0 ?_;refine cl (Hbg _ _) h (cq fun ⟨_,_,_⟩ h=>?_);refine Z 15 0 ?_;refine cd h rfl (fun h=>Y) (fun h=>?_);refine Z 5 0 ?_;refine cl (Hbn _) h (cq fun _ h=>?_);refine cl (Hci _ _) h (cq fun ⟨r11,_,_⟩ h=>?_);refine Z 15 0 ?_;refine cd h rfl (fun h=>Y) (fun h=>?_);refine Z 8 0 ?_;refine cw h [4,11] [3,6,9] (fun _ e=>e) (fun (c29,c30,c31,c32,d33) l=>(4,.cells ([(o_ c29),(i_ 0),(o_ c30),.own 3 (List.map Qd c31),.own 1 (List.map (eL 2 Qc) c32)]))::(11,.cells ([(l_ r11.zD),(i_ r11.zH),(l_ r11.zF),.d (.lst 3 (List.map Qd r11.zG)),.own 1 (List.map (eL 2 Qc) d33)]))::l) ke (fun _ h=>?_) (fun ⟨c29,c30,c31,c32,d33⟩ h=>Y);refine Z 7 0 ?_;refine lw h [4,7,11,39,40] [3,6,9] (fun (x15,c16,c17,c18,c19,d20) e=>(41,(i_ x15))::e) (fun (x15,c16,c17,c18,c19,d20) l=>(4,.cells ([(o_ c16),(i_ 0),(o_ c17),.own 3 (List.map Qd c18),.own 1 (List.map (eL 2 Qc) c19)]))::(11,.cells ([(l_ r11.zD),(i_ r11.zH),(l_ r11.zF),.d (.lst 3 (List.map Qd r11.zG)),.own 1 (List.map (eL 2 Qc) d20)]))::l) ke wk (fun _ ⟨x15,c16,c17,c18,c19,d20⟩ h=>?_);refine Z 5 0 ?_;refine ci h rfl (fun h=>?_) (fun h=>Y);refine Z 14 1 ?_;intro _ h;refine cl (Hbm _ _) h (cq fun _ h=>?_);exact Y
theorem Qvz {P:Program} {c:Nat} (hcf:Ql P c=some Qq4):Qhg P c (Qbh):=by
 intro cv1 r h;refine Qbu hcf rfl fun Γ M hP hnt hM=>?_;subst hP;refine ini ?_;refine Z 9 0 ?_;exact bi h (fun _ h=>Y) (fun _ h=>Y)
theorem Qv0 {P:Program} {c:Nat} (hcf:Ql P c=some Qq5) (fuel:Nat):Qjh P c (Qb5 fuel):=by
 intro ev1 cv2 r h;refine Qbu hcf rfl fun Γ M hP hnt hM=>?_;subst hP;refine ini ?_;refine Z 8 0 ?_;refine cw h [] [] (fun n11 e=>(5,(i_ n11))::e) (fun _ l=>l) ke (fun _ h=>?_) (fun n11 h=>Y);refine Z 7 0 ?_;refine lw h [1,8,9] [] (fun (n3,x4) e=>(5,(i_ n3))::(10,(i_ x4))::e) (fun _ l=>l) ke wk (fun _ ⟨n3,x4⟩ h=>?_);refine Z 5 0 ?_;refine ci h rfl (fun h=>?_) (fun h=>Y);refine Z 16 1 ?_;intro _ h;obtain ⟨s9,h10,h⟩:=bnd h;refine Rn.bin tv rfl rfl (Q2d h10) ?_;exact Y
theorem Qs8 {P:Program} {c:Nat} {Qbh:_} {Qb5:_}
    (Hbo:Qhg P 56 Qbh)
    (Hbl:Qjh P 78 Qb5) (hcf:Ql P c=some Qoz):Qhp P c (Qbz Qbh Qb5):=by
 intro ev1 cv2 r h;refine Qbu hcf rfl fun Γ M hP hnt hM=>?_;subst hP;refine ini ?_;refine Z 10 0 ?_;refine cl (Hbo _) h (cq fun _ h=>?_);refine Z 2 0 ?_;refine cd h rfl (fun h=>Y) (fun h=>?_);refine Z 7 0 ?_;refine cd h rfl (fun h=>Y) (fun h=>?_);refine Z 6 0 ?_;refine cl (Hbl _ _) h (cq fun _ h=>?_);refine Z 7 0 ?_;refine cd h rfl (fun h=>Y) (fun h=>?_);refine Z 7 0 ?_;exact cd h rfl (fun h=>Y) (fun h=>Y)
theorem Qs9 {P:Program} {c:Nat} (hcf:Ql P c=some Qo0):Qkf P c (Qe2):=by
 intro a1 b2 r h;refine Qbu hcf rfl fun Γ M hP hnt hM=>?_;subst hP;refine ini ?_;exact Y
theorem Qv1 {P:Program} {c:Nat} {gv:Nat} {Qbz:_} {Qbh:_} {f_reach_Components:_} {f_slices_Sorted_int:_} {f_slices_SortFunc___int:_} {Qe2:_}
    (Hbj:Qhp P 31 Qbz)
    (Hbo:Qhg P 56 Qbh)
    (Hcv:K_reach_Components P 57 f_reach_Components)
    (Hdh:Qbim P 58 gv (eI .i64) 1 f_slices_Sorted_int)
    (Hdi:Qbfz P 59 gv 1 4)
    (Hdf:K_slices_SortFunc___int P 60 f_slices_SortFunc___int)
    (Hbi:Qkf P 61 Qe2) (hcf:Ql P c=some Qq6) (fuel:Nat):Qlz P c (Qe3 Qbz Qbh f_reach_Components f_slices_Sorted_int f_slices_SortFunc___int Qe2 fuel):=by
 intro d1 cv2 r h;refine Qbu hcf rfl fun Γ M hP hnt hM=>?_;subst hP;refine ini ?_;refine Z 10 0 ?_;refine cl (Hbo _) h (cq fun _ h=>?_);refine Z 1 0 ?_;refine cd h rfl (fun h=>Y) (fun h=>?_);refine Z 6 0 ?_;obtain ⟨x6,h7,h⟩:=bnd h;refine Rn.makes (g:=(fun (x:Bool)=>[V.d (.bool x)])) tv rfl rfl rfl rfl rfl h7 ?_;refine Z 2 0 ?_;refine cu h (fun c21=>⟨look [(2,.ptr (Γ.n0+2) 0),(6,.sl 1 (Γ.n0+25) 0 (Int.toNat (d1.Estimates.length:Int)) (Int.toNat (d1.Estimates.length:Int)))],Qi Γ.n0 (bxs [(2,.cells ((Qs d1))),(25,.cells (Qb7 (fun (x:Bool)=>[V.d (.bool x)]) c21))]) M,Γ.n0+132⟩) (fun _ h=>?_) (fun c21 h=>?_)
 ·refine Z 8 0 ?_;refine lo h (fun (x8,c9)=>⟨look [(1,(i_ cv2)),(2,.ptr (Γ.n0+2) 0),(6,.sl 1 (Γ.n0+25) 0 (Int.toNat (d1.Estimates.length:Int)) (Int.toNat (d1.Estimates.length:Int))),(27,.d (.lst 1 (List.map (eL 2 Qc) d1.Estimates))),(28,(i_ (d1.Estimates.length:Int))),(29,(i_ x8))],Qi Γ.n0 (bxs [(2,.cells ((Qs d1))),(25,.cells (Qb7 (fun (x:Bool)=>[V.d (.bool x)]) c9))]) M,Γ.n0+132⟩) wk (fun _ ⟨x8,c9⟩ h=>?_);refine Z 5 0 ?_;refine ci h rfl (fun h=>?_) (fun h=>Y);refine Z 15 1 ?_;intro _ h;refine cl (Hbj _ _) h (cq fun ⟨r15,_⟩ h=>?_);refine Z 12 1 ?_;intro h;obtain ⟨x19,h20,h⟩:=bnd h;refine Rn.storeA (g:=(fun (x:Bool)=>[V.d (.bool x)])) (v:=(b_ (r15==3))) (fun _=>rfl) tv rfl rfl rfl rfl rfl h20 ?_;exact Y
 ·refine Z 8 0 ?_;refine Rn.buildT (v:=.agg [(l_ d1.zB.zD),(i_ d1.zB.zH),.nils 1,.nils 3]) tv rfl ?_;refine Z 8 0 ?_;obtain ⟨x22,h23,h⟩:=bnd h;refine Rn.makes (g:=(fun (x:Bool)=>[V.d (.bool x)])) tv rfl rfl rfl rfl rfl h23 ?_;refine Z 2 0 ?_;refine cu h (fun (pv63,pv64,c65)=>⟨look [(11,.ptr (Γ.n0+11) 0),(12,.sl 1 (Γ.n0+56) 0 (Int.toNat (d1.Estimates.length:Int)) (Int.toNat (d1.Estimates.length:Int)))],Qi Γ.n0 (bxs [(2,.cells ((Qs d1))),(11,.cells ([(l_ d1.zB.zD),(i_ d1.zB.zH),(o_ pv63),.own 3 (List.map Qd pv64)])),(25,.cells (Qb7 (fun (x:Bool)=>[V.d (.bool x)]) c21)),(56,.cells (Qb7 (fun (x:Bool)=>[V.d (.bool x)]) c65))]) M,Γ.n0+132⟩) (fun _ h=>?_) (fun ⟨pv63,pv64,c65⟩ h=>?_)
  ·refine Z 9 0 ?_;refine lo h (fun (x24,pv25,pv26,c27)=>⟨look [(6,.sl 1 (Γ.n0+25) 0 (Int.toNat (d1.Estimates.length:Int)) (Int.toNat (d1.Estimates.length:Int))),(11,.ptr (Γ.n0+11) 0),(12,.sl 1 (Γ.n0+56) 0 (Int.toNat (d1.Estimates.length:Int)) (Int.toNat (d1.Estimates.length:Int))),(59,.d (.lst 3 (List.map Qd d1.zB.zG))),(60,(i_ (d1.zB.zG.length:Int))),(61,(i_ x24))],Qi Γ.n0 (bxs [(2,.cells ((Qs d1))),(11,.cells ([(l_ d1.zB.zD),(i_ d1.zB.zH),(o_ pv25),.own 3 (List.map Qd pv26)])),(25,.cells (Qb7 (fun (x:Bool)=>[V.d (.bool x)]) c21)),(56,.cells (Qb7 (fun (x:Bool)=>[V.d (.bool x)]) c27))]) M,Γ.n0+132⟩) wk (fun _ ⟨x24,pv25,pv26,c27⟩ h=>?_);refine Z 5 0 ?_;refine ci h rfl (fun h=>?_) (fun h=>Y);refine Tr.skip ?_;refine cu h (fun (pv58,c59,c60,c61,c62)=>⟨look [(6,.sl 1 (Γ.n0+25) 0 (Int.toNat (d1.Estimates.length:Int)) (Int.toNat (d1.Estimates.length:Int))),(11,.ptr (Γ.n0+11) 0),(12,.sl 1 (Γ.n0+56) 0 (Int.toNat (d1.Estimates.length:Int)) (Int.toNat (d1.Estimates.length:Int))),(59,.d (.lst 3 (List.map Qd d1.zB.zG))),(60,(i_ (d1.zB.zG.length:Int))),(61,(i_ x24))],Qi Γ.n0 (bxs [(2,.cells ((Qs d1))),(11,.cells ([(l_ d1.zB.zD),(i_ d1.zB.zH),(o_ pv25),.own 3 (List.map Qd pv58)])),(14,.cells ([(i_ c60),(i_ c61),(i_ c62)])),(25,.cells (Qb7 (fun (x:Bool)=>[V.d (.bool x)]) c21)),(56,.cells (Qb7 (fun (x:Bool)=>[V.d (.bool x)]) c59))]) M,Γ.n0+132⟩) (fun _ h=>?_) (fun ⟨pv58,c59,c60,c61,c62⟩ h=>Y);refine Z 8 1 ?_;intro x30 h;refine cu h (fun x41=>⟨look [(6,.sl 1 (Γ.n0+25) 0 (Int.toNat (d1.Estimates.length:Int)) (Int.toNat (d1.Estimates.length:Int))),(11,.ptr (Γ.n0+11) 0),(12,.sl 1 (Γ.n0+56) 0 (Int.toNat (d1.Estimates.length:Int)) (Int.toNat (d1.Estimates.length:Int))),(14,.ptr (Γ.n0+14) 0),(59,.d (.lst 3 (List.map Qd d1.zB.zG))),(60,(i_ (d1.zB.zG.length:Int))),(61,(i_ x24)),(76,(b_ x41))],Qi Γ.n0 (bxs [(2,.cells ((Qs d1))),(11,.cells ([(l_ d1.zB.zD),(i_ d1.zB.zH),(o_ pv25),.own 3 (List.map Qd pv26)])),(14,.cells ((Qh4 x30))),(25,.cells (Qb7 (fun (x:Bool)=>[V.d (.bool x)]) c21)),(56,.cells (Qb7 (fun (x:Bool)=>[V.d (.bool x)]) c27))]) M,Γ.n0+132⟩) (fun _ h=>?_) (fun x41 h=>?_)
   ·refine Z 7 1 ?_;intro _ h;exact bs h (fun _ h=>Y) (fun _ h=>Y)
   ·refine cd h rfl (fun h=>?_) (fun h=>Y);refine Z 20 1 ?_;intro _ _ h;refine bs h (fun _ h=>?_) (fun _ h=>?_)
    ·refine Z 7 1 ?_;intro h;obtain ⟨x52,h53,h⟩:=bnd h;refine Rn.storeA (g:=(fun (x:Bool)=>[V.d (.bool x)])) (v:=(b_ true)) (fun _=>rfl) tv rfl rfl rfl rfl rfl h53 ?_;exact Y
    ·refine Z 7 1 ?_;intro h;obtain ⟨x56,h57,h⟩:=bnd h;refine Rn.storeA (g:=(fun (x:Bool)=>[V.d (.bool x)])) (v:=(b_ (x30.From==x30.To))) (fun _=>rfl) tv rfl rfl rfl rfl rfl h57 ?_;exact Y
  ·refine Z 3 0 ?_;refine cl (Hcv _) h (cq fun ⟨r67,_⟩ h=>?_);refine Z 10 0 ?_;refine cu h (fun ov89=>⟨look [(17,.own 1 (List.map (eL 1 (eI .i64)) ov89))],Qi Γ.n0 (bxs [(2,.cells ((Qs d1))),(11,.cells ([(l_ d1.zB.zD),(i_ d1.zB.zH),(o_ pv63),.own 3 (List.map Qd pv64)])),(25,.cells (Qb7 (fun (x:Bool)=>[V.d (.bool x)]) c21)),(56,.cells (Qb7 (fun (x:Bool)=>[V.d (.bool x)]) c65))]) M,Γ.n0+132⟩) (fun _ h=>?_) (fun ov89 h=>?_)
   ·refine Z 7 0 ?_;refine lo h (fun (ov69,x70)=>⟨look [(12,.sl 1 (Γ.n0+56) 0 (Int.toNat (d1.Estimates.length:Int)) (Int.toNat (d1.Estimates.length:Int))),(17,.own 1 (List.map (eL 1 (eI .i64)) ov69)),(105,.d (.lst 1 (List.map (eL 1 (eI .i64)) r67))),(106,(i_ (r67.length:Int))),(107,(i_ x70))],Qi Γ.n0 (bxs [(2,.cells ((Qs d1))),(11,.cells ([(l_ d1.zB.zD),(i_ d1.zB.zH),(o_ pv63),.own 3 (List.map Qd pv64)])),(25,.cells (Qb7 (fun (x:Bool)=>[V.d (.bool x)]) c21)),(56,.cells (Qb7 (fun (x:Bool)=>[V.d (.bool x)]) c65))]) M,Γ.n0+132⟩) wk (fun _ ⟨ov69,x70⟩ h=>?_);refine Z 5 0 ?_;refine ci h rfl (fun h=>?_) (fun h=>Y);refine Tr.skip ?_;refine cu h (fun ov88=>⟨look [(12,.sl 1 (Γ.n0+56) 0 (Int.toNat (d1.Estimates.length:Int)) (Int.toNat (d1.Estimates.length:Int))),(17,.own 1 (List.map (eL 1 (eI .i64)) ov88)),(105,.d (.lst 1 (List.map (eL 1 (eI .i64)) r67))),(106,(i_ (r67.length:Int))),(107,(i_ x70))],Qi Γ.n0 (bxs [(2,.cells ((Qs d1))),(11,.cells ([(l_ d1.zB.zD),(i_ d1.zB.zH),(o_ pv63),.own 3 (List.map Qd pv64)])),(25,.cells (Qb7 (fun (x:Bool)=>[V.d (.bool x)]) c21)),(56,.cells (Qb7 (fun (x:Bool)=>[V.d (.bool x)]) c65))]) M,Γ.n0+132⟩) (fun _ h=>?_) (fun ov88 h=>Y);refine Z 7 1 ?_;intro x73 h;refine cu h (fun x82=>⟨look [(12,.sl 1 (Γ.n0+56) 0 (Int.toNat (d1.Estimates.length:Int)) (Int.toNat (d1.Estimates.length:Int))),(17,.own 1 (List.map (eL 1 (eI .i64)) ov69)),(19,(l_ x73)),(105,.d (.lst 1 (List.map (eL 1 (eI .i64)) r67))),(106,(i_ (r67.length:Int))),(107,(i_ x70)),(121,(b_ x82))],Qi Γ.n0 (bxs [(2,.cells ((Qs d1))),(11,.cells ([(l_ d1.zB.zD),(i_ d1.zB.zH),(o_ pv63),.own 3 (List.map Qd pv64)])),(25,.cells (Qb7 (fun (x:Bool)=>[V.d (.bool x)]) c21)),(56,.cells (Qb7 (fun (x:Bool)=>[V.d (.bool x)]) c65))]) M,Γ.n0+132⟩) (fun _ h=>?_) (fun x82 h=>?_)
    ·refine Z 5 0 ?_;exact bi h (fun _ h=>Y) (fun _ h=>Y)
    ·refine cd h rfl (fun h=>?_) (fun h=>Y);refine Z 3 0 ?_;refine Rn.callVals (x:=.lst 1 (List.map (eI .i64) x73)) (m:=132) tv rfl Hdi rfl rfl hM rfl ?_;refine cm h (fun _ h85 M2 nb2 hn hx=>Hdh _ _ h85 M2 nb2 (Γ.n0+133) (hx _ _ (Qcm rfl))) rfl (cq fun x84 h=>?_);refine Rn.weak (wS [12,17,19,105,106,107,121,122,123,124] [2,11,25,56,133] (fun e=>(125,(l_ x84))::e) (fun l=>l) ke wk) ?_;refine Z 3 1 ?_;intro x86 h;refine Rn.weak (σ':=⟨look [(12,.sl 1 (Γ.n0+56) 0 (Int.toNat (d1.Estimates.length:Int)) (Int.toNat (d1.Estimates.length:Int))),(17,.own 1 (List.map (eL 1 (eI .i64)) x86)),(19,(l_ x73)),(105,.d (.lst 1 (List.map (eL 1 (eI .i64)) r67))),(106,(i_ (r67.length:Int))),(107,(i_ x70)),(121,(b_ x82)),(122,.d (.lst 1 (List.map (eL 1 (eI .i64)) ov69))),(123,(l_ x73)),(125,(l_ x84)),(126,.sl 1 (Γ.n0+126) 0 1 1),(127,.d (.lst 1 (List.map (eL 1 (eI .i64)) x86)))],Qi Γ.n0 (bxs [(2,.cells ((Qs d1))),(11,.cells ([(l_ d1.zB.zD),(i_ d1.zB.zH),(o_ pv63),.own 3 (List.map Qd pv64)])),(25,.cells (Qb7 (fun (x:Bool)=>[V.d (.bool x)]) c21)),(56,.cells (Qb7 (fun (x:Bool)=>[V.d (.bool x)]) c65)),(126,.cells ([(l_ x84)]))]) M,Γ.n0+132⟩) (WeakSt.trans (σ':=⟨look [(12,.sl 1 (Γ.n0+56) 0 (Int.toNat (d1.Estimates.length:Int)) (Int.toNat (d1.Estimates.length:Int))),(17,.own 1 (List.map (eL 1 (eI .i64)) x86)),(19,(l_ x73)),(105,.d (.lst 1 (List.map (eL 1 (eI .i64)) r67))),(106,(i_ (r67.length:Int))),(107,(i_ x70)),(121,(b_ x82)),(122,.d (.lst 1 (List.map (eL 1 (eI .i64)) ov69))),(123,(l_ x73)),(125,(l_ x84)),(126,.sl 1 (Γ.n0+126) 0 1 1),(127,.d (.lst 1 (List.map (eL 1 (eI .i64)) x86)))],Qi Γ.n0 (bxs [(2,.cells ((Qs d1))),(11,.cells ([(l_ d1.zB.zD),(i_ d1.zB.zH),(o_ pv63),.own 3 (List.map Qd pv64)])),(25,.cells (Qb7 (fun (x:Bool)=>[V.d (.bool x)]) c21)),(56,.cells (Qb7 (fun (x:Bool)=>[V.d (.bool x)]) c65)),(126,.cells ([(l_ x84)]))]) M,Γ.n0+(132+4)⟩) (by exact Qif [133] ⟨(kSl rfl),(sm rfl),(sm rfl),(sm rfl),(sm rfl),(sm rfl),(sm rfl),(sm rfl),(sm rfl),(sm rfl),(kSl rfl),(sm rfl),tv⟩ ⟨⟨_,rfl,rfl,(.same rfl)⟩,⟨_,rfl,rfl,(.same rfl)⟩,⟨_,rfl,rfl,(Q7d fun _=>rfl)⟩,⟨_,rfl,rfl,(Q7d fun _=>rfl)⟩,⟨_,rfl,rfl,(.same rfl)⟩,tv⟩ rfl) (Qbf0 rfl (Nat.le_of_eq hnt) hM)) ?_;exact Y
   ·refine Z 3 0 ?_;refine cl (Hdf _) h (cq fun _ h=>?_);exact Y
theorem Qv2 {P:Program} {c:Nat} {Qbw:_} {Q7:_} {Qz:_} {Qv:_} {Qj:_}
    (Hcy:Qig P 63 Qbw)
    (Hcj:Qgn P 67 Q7)
    (Hcm:Qfu P 68 Qz)
    (Hcp:Qee P 77 Qv)
    (Hda:Qcp P 87 Qj) (hcf:Ql P c=some Qq7) (fuel:Nat):Ql0 P c (Qe4 Qbw Q7 Qz Qv Qj fuel):=by
 intro a1 ov2 ov3 mv4 r h;refine Qbu hcf rfl fun Γ M hP hnt hM=>?_;subst hP;refine ini ?_;refine Z 12 0 ?_;refine cl (Hcj _ _) h (cq fun x6 h=>?_);refine Z 7 0 ?_;refine cd h rfl (fun h=>Y) (fun h=>?_);refine Z 5 0 ?_;refine cl (Hcm _ _) h (cq fun x9 h=>?_);refine Z 8 0 ?_;refine cl (Hcp _ _) h (cq fun x11 h=>?_);refine Z 2 0 ?_;refine Tr.cond rfl (fun hb12=>?_) (fun hb12=>?_)
 ·have hb12:=nT' hb12;replace h:=bF hb12 h;exact Y
 ·have hb12:=nF' hb12;replace h:=bT hb12 h;refine Z 8 0 ?_;refine cd h rfl (fun h=>Y) (fun h=>?_);refine Z 3 0 ?_;refine Rn.mkmap tv rfl (fun (x:Qm)=>(.agg (Q1 x):V)) (fun (x:List Int)=>((l_ x):V)) ?_;refine Z 1 0 ?_;refine Rn.mapset (ek:=(fun (x:Qm)=>(.agg (Q1 x):V))) (ev:=(fun (x:List Int)=>((l_ x):V))) (m:=([]:List (Qm×(List Int)))) (k:=(Qm.mk 0 0)) (v:=[]) Qff (fun _=>rfl) (fun _=>rfl) tv rfl rfl rfl rfl rfl ?_;refine Z 11 0 ?_;refine Tr.weak (by show WeakSt Γ _ ⟨look ((13,.own 2 (List.map Qc3 [(Qm.mk 0 0)]))::[(0,(Qp a1)),(1,(l_ ov2)),(2,(l_ ov3)),(3,(b_ mv4)),(4,.ptr (Γ.n0+4) 0),(8,.nils 1),(9,(b_ false)),(10,(i_ x6)),(11,.ptr (Γ.n0+11) 0),(12,.mp (Γ.n0+36)),(20,(Qp a1)),(21,(l_ ov2)),(22,(i_ x6)),(23,(i_ x6)),(24,(b_ (x6 != 0))),(26,(Qp a1)),(27,(l_ ov2)),(28,(Qbn x9)),(29,(Qbn x9)),(30,(l_ ov3)),(31,(b_ x11)),(32,(b_ (!x11))),(33,.ptr (Γ.n0+4) 1),(34,(i_ a1.zH)),(35,(b_ (a1.zH==0))),(36,.mp (Γ.n0+36)),(37,.agg [(i_ 0),(i_ 0)]),(38,.mp (Γ.n0+36)),(39,.agg [(i_ 0),(i_ 0)])] ),Qi Γ.n0 (bxs [(4,.cells ((Qn a1))),(11,.cells ((Qu x9))),(36,.mp (mapE (fun (x:Qm)=>(.agg (Q1 x):V)) (fun (x:List Int)=>((l_ x):V)) 0 (setM ([]:List (Qm×(List Int))) (Qm.mk 0 0) [])) ((setM ([]:List (Qm×(List Int))) (Qm.mk 0 0) [])).length)]) M,Γ.n0+131⟩;exact Q2g 40 13 [.int .i64 0,.int .i64 0] rfl rfl rfl rfl rfl ⟨(sm rfl),(sm rfl),(sm rfl),(sm rfl),(kPtr rfl),(sm rfl),(sm rfl),(sm rfl),(kPtr rfl),(kMp rfl),(sm rfl),(sm rfl),(sm rfl),(sm rfl),(sm rfl),(sm rfl),(sm rfl),(sm rfl),(sm rfl),(sm rfl),(sm rfl),(sm rfl),(kPtr rfl),(sm rfl),(sm rfl),(kMp rfl),(sm rfl),(kMp rfl),(sm rfl),tv⟩ ⟨⟨_,rfl,rfl,(.same rfl)⟩,⟨_,rfl,rfl,(.same rfl)⟩,⟨rfl,rfl⟩,tv⟩ rfl) ?_;refine lo h (fun (l14,c15)=>⟨look [(2,(l_ ov3)),(3,(b_ mv4)),(4,.ptr (Γ.n0+4) 0),(11,.ptr (Γ.n0+11) 0),(12,.mp (Γ.n0+36)),(13,.ownT 2 (List.map Qc3 l14))],Qi Γ.n0 (bxs [(4,.cells ((Qn a1))),(11,.cells ((Qu x9))),(36,.mp (mapE (fun (x:Qm)=>(.agg (Q1 x):V)) (fun (x:List Int)=>((l_ x):V)) 0 c15) (c15).length)]) M,Γ.n0+131⟩) wk (fun _ ⟨l14,c15⟩ h=>?_);refine Z 7 0 ?_;refine ci h rfl (fun h=>?_) (fun h=>Y);refine Z 12 1 ?_;intro x18 h;refine cu h (fun x24=>⟨look [(2,(l_ ov3)),(3,(b_ mv4)),(4,.ptr (Γ.n0+4) 0),(11,.ptr (Γ.n0+11) 0),(12,.mp (Γ.n0+36)),(13,.ownT 2 (List.map Qc3 l14)),(14,.ptr (Γ.n0+14) 0),(64,(b_ x24))],Qi Γ.n0 (bxs [(4,.cells ((Qn a1))),(11,.cells ((Qu x9))),(14,.cells ((Q1 x18))),(36,.mp (mapE (fun (x:Qm)=>(.agg (Q1 x):V)) (fun (x:List Int)=>((l_ x):V)) 0 c15) (c15).length)]) M,Γ.n0+131⟩) (fun _ h=>?_) (fun x24 h=>?_)
  ·refine Z 7 0 ?_;refine bs h (fun _ h=>?_) (fun _ h=>Y);refine Z 3 0 ?_;refine bs h (fun _ h=>?_) (fun _ h=>Y);refine Z 4 0 ?_;refine cl (Hda _ _) h (cq fun _ h=>?_);exact Y
  ·refine cd h rfl (fun h=>?_) (fun h=>?_)
   ·refine Z 4 0 ?_;refine Rn.lookup (ek:=(fun (x:Qm)=>(.agg (Q1 x):V))) (ev:=(fun (x:List Int)=>((l_ x):V))) (m:=c15) (k:=x18) Qff (fun _=>rfl) (fun _=>rfl) [] rfl tv rfl rfl rfl ?_;exact Y
   ·refine Z 13 1 ?_;intro x26 h;refine lo h (fun (l28,x29,c30)=>⟨look [(2,(l_ ov3)),(3,(b_ mv4)),(4,.ptr (Γ.n0+4) 0),(11,.ptr (Γ.n0+11) 0),(12,.mp (Γ.n0+36)),(13,.ownT 2 (List.map Qc3 l28)),(14,.ptr (Γ.n0+14) 0),(73,.d (.lst 3 (List.map Qd x26))),(74,(i_ (x26.length:Int))),(75,(i_ x29))],Qi Γ.n0 (bxs [(4,.cells ((Qn a1))),(11,.cells ((Qu x9))),(14,.cells ((Q1 x18))),(36,.mp (mapE (fun (x:Qm)=>(.agg (Q1 x):V)) (fun (x:List Int)=>((l_ x):V)) 0 c30) (c30).length)]) M,Γ.n0+131⟩) wk (fun _ ⟨l28,x29,c30⟩ h=>?_);refine Z 5 0 ?_;refine ci h rfl (fun h=>?_) (fun h=>?_)
    ·refine Tr.skip ?_;refine cu h (fun (l52,c53,c54,c55,c56,q57,q58)=>⟨look [(2,(l_ ov3)),(3,(b_ mv4)),(4,.ptr (Γ.n0+4) 0),(11,.ptr (Γ.n0+11) 0),(12,.mp (Γ.n0+36)),(13,.ownT 2 (List.map Qc3 l52)),(14,.ptr (Γ.n0+14) 0),(73,.d (.lst 3 (List.map Qd x26))),(74,(i_ (x26.length:Int))),(75,(i_ x29))],Qi Γ.n0 (bxs [(4,.cells ((Qn a1))),(11,.cells ((Qu x9))),(14,.cells ((Q1 x18))),(16,.cells ([(i_ c54),(i_ c55),(i_ c56)])),(17,.cells ([(i_ q57),(i_ q58)])),(36,.mp (mapE (fun (x:Qm)=>(.agg (Q1 x):V)) (fun (x:List Int)=>((l_ x):V)) 0 c53) (c53).length)]) M,Γ.n0+131⟩) (fun _ h=>?_) (fun ⟨l52,c53,c54,c55,c56,q57,q58⟩ h=>Y);refine Z 18 1 ?_;intro x33 h;refine Tr.cutJ (fun (q43:Int)=>⟨look [(2,(l_ ov3)),(3,(b_ mv4)),(4,.ptr (Γ.n0+4) 0),(11,.ptr (Γ.n0+11) 0),(12,.mp (Γ.n0+36)),(13,.ownT 2 (List.map Qc3 l28)),(14,.ptr (Γ.n0+14) 0),(16,.ptr (Γ.n0+16) 0),(17,.ptr (Γ.n0+17) 0),(73,.d (.lst 3 (List.map Qd x26))),(74,(i_ (x26.length:Int))),(75,(i_ x29))],Qi Γ.n0 (bxs [(4,.cells ((Qn a1))),(11,.cells ((Qu x9))),(14,.cells ((Q1 x18))),(16,.cells ((Qh4 x33))),(17,.cells ([(i_ x33.To),(i_ q43)])),(36,.mp (mapE (fun (x:Qm)=>(.agg (Q1 x):V)) (fun (x:List Int)=>((l_ x):V)) 0 c30) (c30).length)]) M,Γ.n0+131⟩) h (fun J51 h=>?_) (fun z h=>?_)
     ·refine Z 6 0 ?_;refine cl (Hda _ _) h (cq fun _ h=>?_);refine Z 1 0 ?_;refine cd h rfl (fun h=>?_) (fun h=>?_)
      ·refine Tr.seq ?_;refine cu h (fun x41=>⟨look [(2,(l_ ov3)),(3,(b_ mv4)),(4,.ptr (Γ.n0+4) 0),(11,.ptr (Γ.n0+11) 0),(12,.mp (Γ.n0+36)),(13,.ownT 2 (List.map Qc3 l28)),(14,.ptr (Γ.n0+14) 0),(16,.ptr (Γ.n0+16) 0),(17,.ptr (Γ.n0+17) 0),(73,.d (.lst 3 (List.map Qd x26))),(74,(i_ (x26.length:Int))),(75,(i_ x29)),(103,(b_ x41))],Qi Γ.n0 (bxs [(4,.cells ((Qn a1))),(11,.cells ((Qu x9))),(14,.cells ((Q1 x18))),(16,.cells ((Qh4 x33))),(17,.cells ([(i_ x33.To),(i_ x18.done_)])),(36,.mp (mapE (fun (x:Qm)=>(.agg (Q1 x):V)) (fun (x:List Int)=>((l_ x):V)) 0 c30) (c30).length)]) M,Γ.n0+131⟩) (fun _ h=>?_) (fun x41 h=>?_)
       ·refine Z 7 0 ?_;exact bs h (fun _ h=>Y) (fun _ h=>Y)
       ·refine cd h rfl (fun h=>Y) (fun h=>?_);refine Z 8 0 ?_;exact ⟨_,h,(by exact Qif [] ⟨(sm rfl),(sm rfl),(kPtr rfl),(kPtr rfl),(kMp rfl),(sm rfl),(kPtr rfl),(kPtr rfl),(kPtr rfl),(sm rfl),(sm rfl),(sm rfl),tv⟩ ⟨⟨_,rfl,rfl,(.same rfl)⟩,⟨_,rfl,rfl,(.same rfl)⟩,⟨_,rfl,rfl,(.same rfl)⟩,⟨_,rfl,rfl,(.same rfl)⟩,⟨_,rfl,rfl,(.same rfl)⟩,⟨rfl,rfl⟩,tv⟩ rfl)⟩
      ·refine Tr.skip ?_;exact ⟨_,h,(by exact Qif [] ⟨(sm rfl),(sm rfl),(kPtr rfl),(kPtr rfl),(kMp rfl),(sm rfl),(kPtr rfl),(kPtr rfl),(kPtr rfl),(sm rfl),(sm rfl),(sm rfl),tv⟩ ⟨⟨_,rfl,rfl,(.same rfl)⟩,⟨_,rfl,rfl,(.same rfl)⟩,⟨_,rfl,rfl,(.same rfl)⟩,⟨_,rfl,rfl,(.same rfl)⟩,⟨_,rfl,rfl,(.same rfl)⟩,⟨rfl,rfl⟩,tv⟩ rfl)⟩
     ·obtain ⟨q43,rfl⟩ : ∃ x,x=z:=⟨_,rfl⟩;refine Z 4 0 ?_;refine Rn.lookupC (ek:=(fun (x:Qm)=>(.agg (Q1 x):V))) (ev:=(fun (x:List Int)=>((l_ x):V))) (m:=c30) (k:=(Qm.mk x33.To q43)) Qff (fun _=>rfl) (fun _=>rfl) [] rfl tv rfl rfl rfl ?_;refine Z 11 0 ?_;refine Tr.cond rfl (fun hb44=>?_) (fun hb44=>?_)
      ·have hb44:=nT' hb44;replace h:=bF hb44 h;refine Z 6 0 ?_;refine Rn.lookup (ek:=(fun (x:Qm)=>(.agg (Q1 x):V))) (ev:=(fun (x:List Int)=>((l_ x):V))) (m:=c30) (k:=x18) Qff (fun _=>rfl) (fun _=>rfl) [] rfl tv rfl rfl rfl ?_;refine cl (Hcy _) h (cq fun _ h=>?_);refine Z 4 1 ?_;intro x47 h;refine Rn.mapset (ek:=(fun (x:Qm)=>(.agg (Q1 x):V))) (ev:=(fun (x:List Int)=>((l_ x):V))) (m:=c30) (k:=(Qm.mk x33.To q43)) (v:=x47) Qff (fun _=>rfl) (fun _=>rfl) tv rfl rfl rfl rfl rfl ?_;refine Z 5 0 ?_;obtain ⟨x49,h50,h⟩:=bnd h;refine Rn.appT (e:=Qc3) tv rfl rfl rfl (Q2b rfl rfl rfl) h50 rfl ?_;exact Y
      ·have hb44:=nF' hb44;replace h:=bT hb44 h;exact Y
    ·refine Z 3 0 ?_;obtain ⟨x59,h60,h⟩:=bnd h;refine Rn.slcT (e:=Qc3) tv (.inr rfl) rfl h60 ?_;exact Y
theorem Qrg {P:Program} {c:Nat} {Qr:_} {Qe4:_}
    (Hbn:Qex P 54 Qr)
    (Hch:Ql0 P 82 Qe4) (hcf:Ql P c=some Qmm) (fuel:Nat):Qi1 P c (Qcs Qr Qe4 fuel):=by
 intro ov1 x2 x5 x8 x11 x14 k3 k6 k9 k12 k15 r h;intro M nb hk4 hk7 hk10 hk13 hk16 hv17 hv18 hv19 hv20;refine Qbg9 hcf rfl M _ nb (fun hM=>Q2n hM ⟨(ltB hM hk4),tv⟩) fun Γ hP hnt hn0 hM=>?_;subst hP hn0;refine ini ?_;refine Tr.puts [(k3,.cells ((Qn x2)))] ⟨hk4,tv⟩ ?_;refine Z 7 0 ?_;refine Rn.storeB (v:=.nils 1) (cs':=[(l_ x2.zD),(i_ x2.zH),.nils 1,.d (.lst 3 (List.map Qd x2.zG))]) tv rfl rfl rfl (ltB hM hk4) rfl pg0 rfl rfl ps0 ?_;refine Rn.weak (Q7j (B:=[(k3,.cells ([(l_ x2.zD),(i_ x2.zH),.nils 1,.d (.lst 3 (List.map Qd x2.zG))]))]) (B':=[(k3,.cells ([(l_ x2.zD),(i_ x2.zH),.own 1 (List.map (eI .i64) []),.d (.lst 3 (List.map Qd x2.zG))]))]) ⟨⟨rfl,(.cons (.same rfl) (.cons (.same rfl) (.cons (WkV.nilsO _) (.cons (.same rfl) .nil))))⟩,tv⟩ (by show WeakSt Γ _ ⟨look [(0,(i_ ov1)),(1,.ptr k3 0),(2,.ptr k6 0),(3,.ptr k9 0),(4,.ptr k12 0),(5,.ptr k15 0),(7,.nils 1),(13,.ptr k3 2)],Qi Γ.n0 (bxs []) (Mem.puts M [(k3,.cells ([(l_ x2.zD),(i_ x2.zH),.own 1 (List.map (eI .i64) []),.d (.lst 3 (List.map Qd x2.zG))]))]),Γ.n0+46⟩;exact Qif [] ⟨(sm rfl),(Q3p (ltB hM hk4)),(Q3p (ltB hM hk7)),(Q3p (ltB hM hk10)),(Q3p (ltB hM hk13)),(Q3p (ltB hM hk16)),(sm rfl),(Q3p (ltB hM hk4)),tv⟩ tv rfl)) ?_;refine Z 1 0 ?_;refine cu h (fun c35=>⟨look [(1,.ptr k3 0),(4,.ptr k12 0),(5,.ptr k15 0)],Qi Γ.n0 (bxs []) (Mem.puts M [(k3,.cells ([(l_ x2.zD),(i_ x2.zH),(o_ c35),.d (.lst 3 (List.map Qd x2.zG))]))]),Γ.n0+46⟩) (fun _ h=>?_) (fun c35 h=>?_)
 ·refine Z 2 0 ?_;refine Rn.load (v:=.d (.lst 2 (List.map Qc x5))) tv rfl (Qos (ltB hM hk7) (pgS hv17.symm hk7)) rfl rfl ?_;refine Z 4 0 ?_;refine lo h (fun (x21,c22)=>⟨look [(0,(i_ ov1)),(1,.ptr k3 0),(3,.ptr k9 0),(4,.ptr k12 0),(5,.ptr k15 0),(14,.d (.lst 2 (List.map Qc x5))),(15,(i_ (x5.length:Int))),(16,(i_ x21))],Qi Γ.n0 (bxs []) (Mem.puts M [(k3,.cells ([(l_ x2.zD),(i_ x2.zH),(o_ c22),.d (.lst 3 (List.map Qd x2.zG))]))]),Γ.n0+46⟩) wk (fun _ ⟨x21,c22⟩ h=>?_);refine Z 5 0 ?_;refine ci h rfl (fun h=>?_) (fun h=>Y);refine Tr.skip ?_;refine cu h (fun (c32,c33,c34)=>⟨look [(0,(i_ ov1)),(1,.ptr k3 0),(3,.ptr k9 0),(4,.ptr k12 0),(5,.ptr k15 0),(14,.d (.lst 2 (List.map Qc x5))),(15,(i_ (x5.length:Int))),(16,(i_ x21))],Qi Γ.n0 (bxs [(9,.cells ([(i_ c32),(i_ c33)]))]) (Mem.puts M [(k3,.cells ([(l_ x2.zD),(i_ x2.zH),(o_ c34),.d (.lst 3 (List.map Qd x2.zG))]))]),Γ.n0+46⟩) (fun _ h=>?_) (fun ⟨c32,c33,c34⟩ h=>Y);refine Z 14 1 ?_;intro _ h;refine Rn.load (v:=(i_ x8)) tv rfl (Qos (ltB hM hk10) (pgS hv18.symm hk10)) rfl rfl ?_;refine Z 1 0 ?_;obtain ⟨s27,h28,h⟩:=bnd h;refine Rn.bin tv rfl rfl (Q2d h28) ?_;refine Z 4 0 ?_;refine cd h rfl (fun h=>?_) (fun h=>Y);refine Z 2 0 ?_;refine Rn.loadTB (cs':=[(l_ x2.zD),(i_ x2.zH),(l_ c22),.d (.lst 3 (List.map Qd x2.zG))]) tv rfl (ltB hM hk4) pg0 rfl rfl ps0 ?_;refine Z 4 1 ?_;intro x30 h;refine Rn.storeOB (cs':=[(l_ x2.zD),(i_ x2.zH),(o_ x30),.d (.lst 3 (List.map Qd x2.zG))]) tv rfl rfl (ltB hM hk4) pg0 rfl rfl ps0 ?_;exact Y
 ·refine Z 2 0 ?_;refine Rn.load (v:=.agg [(l_ x2.zD),(i_ x2.zH),(l_ c35),.d (.lst 3 (List.map Qd x2.zG))]) tv rfl (Qos (ltB hM hk4) pg0) rfl rfl (Rn.load (v:=.d (.lst 5 (List.map Qf x11))) tv rfl (Qos (ltB hM hk13) (pgS hv19.symm hk13)) rfl rfl ?_);obtain ⟨x37,h36,h⟩:=bnd h;refine Rn.call (args:=[.d (.lst 5 (List.map Qf x11))]) tv rfl (Hbn _ _ h36) (fun _=>Q2c (Q2n hM ⟨(ltB hM hk4),tv⟩) rfl) (Rn.load (v:=(l_ x14)) tv rfl (Qos (ltB hM hk16) (pgS hv20.symm hk16)) rfl rfl ?_);obtain ⟨⟨r39,r40,r41⟩,h38,h⟩:=bnd h;refine Rn.call (args:=[.agg [(l_ x2.zD),(i_ x2.zH),(l_ c35),.d (.lst 3 (List.map Qd x2.zG))],(l_ x37),(l_ x14),(b_ true)]) tv rfl (Hch _ _ _ _ _ h38) (fun _=>Q2c (Q2n hM ⟨(ltB hM hk4),tv⟩) rfl) ?_;refine Z 13 0 ?_;refine Tr.weak (Q7j (B:=[(k3,.cells ([(l_ x2.zD),(i_ x2.zH),(o_ c35),.d (.lst 3 (List.map Qd x2.zG))]))]) (B':=[(k3,.cells ([(l_ x2.zD),(i_ x2.zH),(l_ c35),.d (.lst 3 (List.map Qd x2.zG))]))]) ⟨⟨rfl,(.cons (.same rfl) (.cons (.same rfl) (.cons (WkV.dem' rfl) (.cons (.same rfl) .nil))))⟩,tv⟩ (by show WeakSt Γ _ ⟨look [(1,.ptr k3 0),(4,.ptr k12 0),(5,.ptr k15 0),(7,(l_ r39)),(10,(l_ r39)),(11,(b_ r40)),(12,(i_ r41)),(36,.tup [(l_ r39),(b_ r40),(i_ r41)]),(37,.agg [(l_ x2.zD),(i_ x2.zH),(l_ c35),.d (.lst 3 (List.map Qd x2.zG))]),(38,.d (.lst 5 (List.map Qf x11))),(39,(l_ x37)),(40,(l_ x14)),(41,.tup [(l_ r39),(b_ r40),(i_ r41)]),(42,(l_ r39)),(43,(b_ r40)),(44,(i_ r41)),(45,(l_ r39))],Qi Γ.n0 (bxs []) (Mem.puts M [(k3,.cells ([(l_ x2.zD),(i_ x2.zH),(l_ c35),.d (.lst 3 (List.map Qd x2.zG))]))]),Γ.n0+46⟩;exact Qif [] ⟨(Q3p (ltB hM hk4)),(Q3p (ltB hM hk13)),(Q3p (ltB hM hk16)),(sm rfl),(sm rfl),(sm rfl),(sm rfl),(sm rfl),(sm rfl),(sm rfl),(sm rfl),(sm rfl),(sm rfl),(sm rfl),(sm rfl),(sm rfl),(sm rfl),tv⟩ tv rfl)) ?_;exact Y
theorem Qta {P:Program} {c:Nat} {Q8:_} {Qt:_} {Qbz:_} {Qbd:_} {Qbh:_} {Qcs:_}
    (Hbg:Qhf P 18 Q8)
    (Hbc:Qfv P 27 Qt)
    (Hbj:Qhp P 31 Qbz)
    (Hba:Qhe P 36 Qbd)
    (Hbo:Qhg P 56 Qbh)
    (Hbf:Qi1 P 81 Qcs) (hcf:Ql P c=some Qo1):Qkg P c (Qd1 Q8 Qt Qbz Qbd Qbh Qcs):=by
 intro ev1 a2 ov3 cv4 r h;refine Qbu hcf rfl fun Γ M hP hnt hM=>?_;subst hP;refine ini ?_;refine Z 16 0 ?_;refine cl (Hba _ _) h (cq fun _ h=>?_);refine Z 7 0 ?_;refine cd h rfl (fun h=>Y) (fun h=>?_);refine Z 5 0 ?_;refine cl (Hbo _) h (cq fun _ h=>?_);refine Z 1 0 ?_;refine cd h rfl (fun h=>Y) (fun h=>?_);refine Z 6 0 ?_;refine cl (Hbc _ _ _) h (cq fun ⟨_,_⟩ h=>?_);refine Z 12 0 ?_;refine cd h rfl (fun h=>Y) (fun h=>?_);refine Z 6 0 ?_;refine cl (Hbj _ _) h (cq fun ⟨_,_⟩ h=>?_);refine Z 11 0 ?_;refine cd h rfl (fun h=>Y) (fun h=>?_);refine Z 5 0 ?_;refine cl (Hbg _ _) h (cq fun ⟨_,_,_⟩ h=>?_);refine Z 12 0 ?_;refine Rn.k (v:=.clo 81 [.ptr (Γ.n0+14) 0,.ptr (Γ.n0+15) 0,.ptr (Γ.n0+7) 0,.ptr (Γ.n0+4) 0,.ptr (Γ.n0+6) 0]) tv rfl rfl rfl ?_;refine Z 5 0 ?_;obtain ⟨⟨r23,c24⟩,h25,h⟩:=bnd h;refine Rn.callvW (args:=([(i_ 1)]++[.ptr (Γ.n0+14) 0,.ptr (Γ.n0+15) 0,.ptr (Γ.n0+7) 0,.ptr (Γ.n0+4) 0,.ptr (Γ.n0+6) 0])) (B:=[((Γ.n0+14),.cells ((Qn c24)))]) tv rfl rfl (Hbf _ _ _ _ _ _ (Γ.n0+14) (Γ.n0+15) (Γ.n0+7) (Γ.n0+4) (Γ.n0+6) _ h25 _ _ (Qcm rfl) (Qcm rfl) (Qcm rfl) (Qcm rfl) (Qcm rfl) (Qyg rfl) (Qyg rfl) (Qyg rfl) (Qyg rfl)) ⟨(.inl (Nat.le_add_right _ _)),tv⟩ (Qbbw cw0) rfl ?_;refine Z 1 0 ?_;obtain ⟨⟨r26,c27⟩,h28,h⟩:=bnd h;refine Rn.callvW (args:=([(i_ 0)]++[.ptr (Γ.n0+14) 0,.ptr (Γ.n0+15) 0,.ptr (Γ.n0+7) 0,.ptr (Γ.n0+4) 0,.ptr (Γ.n0+6) 0])) (B:=[((Γ.n0+14),.cells ((Qn c27)))]) tv rfl rfl (Hbf _ _ _ _ _ _ (Γ.n0+14) (Γ.n0+15) (Γ.n0+7) (Γ.n0+4) (Γ.n0+6) _ h28 _ _ (Qcm rfl) (Qcm rfl) (Qcm rfl) (Qcm rfl) (Qcm rfl) (Qyg rfl) (Qyg rfl) (Qyg rfl) (Qyg rfl)) ⟨(.inl (Nat.le_add_right _ _)),tv⟩ (Qbbw cw0) rfl ?_;exact Y
theorem Qsj {P:Program} {c:Nat} (hcf:Ql P c=some Qno) (fuel:Nat):Qju P c (Qcz fuel):=by
 intro a1 b2 r h;refine Qbu hcf rfl fun Γ M hP hnt hM=>?_;subst hP;refine ini ?_;refine Z 13 0 ?_;refine cd h rfl (fun h=>Y) (fun h=>?_);refine Z 7 0 ?_;refine lw h [0,1] [] (fun i4 e=>(5,(i_ i4))::e) (fun _ l=>l) ke wk (fun _ i4 h=>?_);refine Z 8 0 ?_;refine ci h rfl (fun h=>?_) (fun h=>Y);refine Z 13 1 ?_;intro x7 x9 h;refine Rn.eqa (r:=((x7.State==x9.State)&&((x7.Classes==x9.Classes)&&true))) tv rfl rfl rfl ?_;refine Z 1 0 ?_;refine Tr.cond rfl (fun hb11=>?_) (fun hb11=>?_)
 ·have hb11:=nT' hb11;replace h:=bF hb11 h;exact Y
 ·have hb11:=nF' hb11;replace h:=bT hb11 h;exact Y
theorem Qui {P:Program} {c:Nat} (hcf:Ql P c=some Qp1) (fuel:Nat):Qk3 P c (Qeh fuel):=by
 intro s1 s2 r h;refine Qbu hcf rfl fun Γ M hP hnt hM=>?_;subst hP;refine ini ?_;refine Z 13 0 ?_;refine cd h rfl (fun h=>Y) (fun h=>?_);refine Z 9 0 ?_;refine lw h [0,1,12] [] (fun x4 e=>(13,(i_ x4))::e) (fun _ l=>l) ke wk (fun _ x4 h=>?_);refine Z 5 0 ?_;refine ci h rfl (fun h=>?_) (fun h=>Y);refine Z 20 1 ?_;intro _ _ h;exact cd h rfl (fun h=>Y) (fun h=>Y)
theorem Q2p {P:Program} {c:Nat} {Qeh:_}
    (Hdb:Qk3 P 62 Qeh) (hcf:Ql P c=some Q0l):Qub P c (Qgo Qeh):=by
 intro a1 b2 r h;refine Qbu hcf rfl fun Γ M hP hnt hM=>?_;subst hP;refine ini ?_;refine Z 8 0 ?_;refine cl (Hdb _ _) h (cq fun _ h=>?_);exact Y
end Go.Abs
end
section
namespace Go.Abs
open Go
set_option maxRecDepth 10000
set_option maxHeartbeats 4000000
theorem Qrh {P:Program} {c:Nat} {Qe1:_} {Qe3:_} {Qgo:_} {Qcz:_} {Qt:_} {Qd1:_} {Qdb:_}
    (Haz:Qly P 13 Qe1)
    (Hbh:Qlz P 15 Qe3)
    (Hdk:Qub P 17 Qgo)
    (Hby:Qju P 23 Qcz)
    (Hbc:Qfv P 27 Qt)
    (Hbe:Qkg P 34 Qd1)
    (Hbx:Qiu P 50 Qdb) (hcf:Ql P c=some Qmn):Qi2 P c (Qct Qe1 Qe3 Qgo Qcz Qt Qd1 Qdb):=by
 intro  r h;refine Qbu hcf rfl fun Γ M hP hnt hM=>?_;subst hP;refine ini ?_;refine Z 6 0 ?_;refine cl Hbx h (cq fun ⟨r2,r3⟩ h=>?_);refine Z 11 0 ?_;obtain ⟨⟨r5,r6⟩,h4,h⟩:=bnd h;refine Rn.call (args:=[.d (.lst 5 (List.map Qf r2)),.agg [(l_ r3.zD),(i_ r3.zH),.nils 1,.d (.lst 3 (List.map Qd r3.zG))],.nils 1]) tv rfl (fun M2 nb2=>ACalls.weak (args':=[.d (.lst 5 (List.map Qf r2)),.agg [(l_ r3.zD),(i_ r3.zH),(l_ []),.d (.lst 3 (List.map Qd r3.zG))],(l_ [])]) (Hbc _ _ _ _ h4 M2 nb2) (.cons (sm rfl) (.cons (WkV.agg (.cons (sm rfl) (.cons (sm rfl) (.cons (WkV.nilsD _) (.cons (sm rfl) .nil))))) (.cons (WkV.nilsD _) .nil))) rfl) pc9 ?_;refine Z 11 0 ?_;refine Rn.weak (by show WeakSt Γ _ ⟨look [(0,(b_ false)),(1,.d (.lst 5 (List.map Qf r2))),(2,.ptr (Γ.n0+2) 0),(3,.d (.lst 2 (List.map Qc r5))),(4,(i_ r6)),(15,.tup [.d (.lst 5 (List.map Qf r2)),.agg [(l_ r3.zD),(i_ r3.zH),.nils 1,.d (.lst 3 (List.map Qd r3.zG))]]),(16,.tup [.d (.lst 5 (List.map Qf r2)),.agg [(l_ r3.zD),(i_ r3.zH),.nils 1,.d (.lst 3 (List.map Qd r3.zG))]]),(17,.d (.lst 5 (List.map Qf r2))),(18,.agg [(l_ r3.zD),(i_ r3.zH),.nils 1,.d (.lst 3 (List.map Qd r3.zG))]),(19,.tup [.d (.lst 2 (List.map Qc r5)),(i_ r6)]),(20,.d (.lst 5 (List.map Qf r2))),(21,.agg [(l_ r3.zD),(i_ r3.zH),.nils 1,.d (.lst 3 (List.map Qd r3.zG))]),(22,.tup [.own 2 (List.map Qc r5),(i_ r6)]),(23,.d (.lst 2 (List.map Qc r5))),(24,(i_ r6)),(26,.d (.lst 5 (List.map Qf r2))),(27,.agg [(l_ r3.zD),(i_ r3.zH),.nils 1,.d (.lst 3 (List.map Qd r3.zG))]),(28,(l_ [1]))],Qi Γ.n0 (bxs [(2,.cells ([(l_ r3.zD),(i_ r3.zH),.nils 1,.d (.lst 3 (List.map Qd r3.zG))]))]) M,Γ.n0+121⟩;exact Qe0 28 [.int .i64 1] rfl rfl ⟨(.same rfl),(.same rfl),(fPtr rfl),(.same rfl),(.same rfl),(.same rfl),(.same rfl),(.same rfl),(.same rfl),(.same rfl),(.same rfl),(.same rfl),(.same rfl),(.same rfl),(.same rfl),(.same rfl),(.same rfl),(fSl rfl rfl),tv⟩ ⟨⟨_,rfl,rfl,(.same rfl)⟩,tv⟩ rfl) ?_;obtain ⟨⟨r8,r9⟩,h7,h⟩:=bnd h;refine Rn.call (args:=[.d (.lst 5 (List.map Qf r2)),.agg [(l_ r3.zD),(i_ r3.zH),.nils 1,.d (.lst 3 (List.map Qd r3.zG))],(l_ [1])]) tv rfl (fun M2 nb2=>ACalls.weak (args':=[.d (.lst 5 (List.map Qf r2)),.agg [(l_ r3.zD),(i_ r3.zH),(l_ []),.d (.lst 3 (List.map Qd r3.zG))],(l_ [1])]) (Hbc _ _ _ _ h7 M2 nb2) (.cons (sm rfl) (.cons (WkV.agg (.cons (sm rfl) (.cons (sm rfl) (.cons (WkV.nilsD _) (.cons (sm rfl) .nil))))) (.cons (sm rfl) .nil))) rfl) pc9 ?_;refine Z 10 0 ?_;obtain ⟨⟨r11,r12⟩,h10,h⟩:=bnd h;refine Rn.call (args:=[.d (.lst 5 (List.map Qf r2)),.agg [(l_ r3.zD),(i_ r3.zH),.nils 1,.d (.lst 3 (List.map Qd r3.zG))]]) tv rfl (fun M2 nb2=>ACalls.weak (args':=[.d (.lst 5 (List.map Qf r2)),.agg [(l_ r3.zD),(i_ r3.zH),(l_ []),.d (.lst 3 (List.map Qd r3.zG))]]) (Haz _ _ _ h10 M2 nb2) (.cons (sm rfl) (.cons (WkV.agg (.cons (sm rfl) (.cons (sm rfl) (.cons (WkV.nilsD _) (.cons (sm rfl) .nil))))) .nil)) rfl) pc9 ?_;refine Z 10 0 ?_;refine cl (Hbh _ _) h (cq fun ⟨r14,r15⟩ h=>?_);refine Z 11 0 ?_;refine Rn.weak (by show WeakSt Γ _ ⟨look [(0,(b_ false)),(1,.d (.lst 5 (List.map Qf r2))),(2,.ptr (Γ.n0+2) 0),(3,.d (.lst 2 (List.map Qc r5))),(4,(i_ r6)),(5,.d (.lst 2 (List.map Qc r8))),(6,(i_ r9)),(7,.ptr (Γ.n0+7) 0),(8,(i_ r12)),(9,.d (.lst 1 (List.map (eL 1 (eI .i64)) r14))),(10,(i_ r15)),(15,.tup [.d (.lst 5 (List.map Qf r2)),.agg [(l_ r3.zD),(i_ r3.zH),.nils 1,.d (.lst 3 (List.map Qd r3.zG))]]),(16,.tup [.d (.lst 5 (List.map Qf r2)),.agg [(l_ r3.zD),(i_ r3.zH),.nils 1,.d (.lst 3 (List.map Qd r3.zG))]]),(17,.d (.lst 5 (List.map Qf r2))),(18,.agg [(l_ r3.zD),(i_ r3.zH),.nils 1,.d (.lst 3 (List.map Qd r3.zG))]),(19,.tup [.d (.lst 2 (List.map Qc r5)),(i_ r6)]),(20,.d (.lst 5 (List.map Qf r2))),(21,.agg [(l_ r3.zD),(i_ r3.zH),.nils 1,.d (.lst 3 (List.map Qd r3.zG))]),(22,.tup [.own 2 (List.map Qc r5),(i_ r6)]),(23,.d (.lst 2 (List.map Qc r5))),(24,(i_ r6)),(25,.tup [.d (.lst 2 (List.map Qc r8)),(i_ r9)]),(26,.d (.lst 5 (List.map Qf r2))),(27,.agg [(l_ r3.zD),(i_ r3.zH),.nils 1,.d (.lst 3 (List.map Qd r3.zG))]),(28,(l_ [1])),(29,.tup [.own 2 (List.map Qc r8),(i_ r9)]),(30,.d (.lst 2 (List.map Qc r8))),(31,(i_ r9)),(32,.tup [(Qo r11),(i_ r12)]),(33,.d (.lst 5 (List.map Qf r2))),(34,.agg [(l_ r3.zD),(i_ r3.zH),.nils 1,.d (.lst 3 (List.map Qd r3.zG))]),(35,.tup [(Qo r11),(i_ r12)]),(36,(Qo r11)),(37,(i_ r12)),(38,.tup [.d (.lst 1 (List.map (eL 1 (eI .i64)) r14)),(i_ r15)]),(39,(Qo r11)),(40,.tup [.own 1 (List.map (eL 1 (eI .i64)) r14),(i_ r15)]),(41,.d (.lst 1 (List.map (eL 1 (eI .i64)) r14))),(42,(i_ r15)),(44,.d (.lst 5 (List.map Qf r2))),(45,.agg [(l_ r3.zD),(i_ r3.zH),.nils 1,.d (.lst 3 (List.map Qd r3.zG))]),(46,(l_ [0]))],Qi Γ.n0 (bxs [(2,.cells ([(l_ r3.zD),(i_ r3.zH),.nils 1,.d (.lst 3 (List.map Qd r3.zG))])),(7,.cells ((Qs r11)))]) M,Γ.n0+121⟩;exact Qe0 46 [.int .i64 0] rfl rfl ⟨(.same rfl),(.same rfl),(fPtr rfl),(.same rfl),(.same rfl),(.same rfl),(.same rfl),(fPtr rfl),(.same rfl),(.same rfl),(.same rfl),(.same rfl),(.same rfl),(.same rfl),(.same rfl),(.same rfl),(.same rfl),(.same rfl),(.same rfl),(.same rfl),(.same rfl),(.same rfl),(.same rfl),(.same rfl),(.same rfl),(.same rfl),(.same rfl),(.same rfl),(.same rfl),(.same rfl),(.same rfl),(.same rfl),(.same rfl),(.same rfl),(.same rfl),(.same rfl),(.same rfl),(.same rfl),(.same rfl),(.same rfl),(.same rfl),(fSl rfl rfl),tv⟩ ⟨⟨_,rfl,rfl,(.same rfl)⟩,⟨_,rfl,rfl,(.same rfl)⟩,tv⟩ rfl) ?_;obtain ⟨⟨r17,r18,r19,r20⟩,h16,h⟩:=bnd h;refine Rn.call (args:=[.d (.lst 5 (List.map Qf r2)),.agg [(l_ r3.zD),(i_ r3.zH),.nils 1,.d (.lst 3 (List.map Qd r3.zG))],(l_ [0]),(i_ 1)]) tv rfl (fun M2 nb2=>ACalls.weak (args':=[.d (.lst 5 (List.map Qf r2)),.agg [(l_ r3.zD),(i_ r3.zH),(l_ []),.d (.lst 3 (List.map Qd r3.zG))],(l_ [0]),(i_ 1)]) (Hbe _ _ _ _ _ h16 M2 nb2) (.cons (sm rfl) (.cons (WkV.agg (.cons (sm rfl) (.cons (sm rfl) (.cons (WkV.nilsD _) (.cons (sm rfl) .nil))))) (.cons (sm rfl) (.cons (sm rfl) .nil)))) rfl) pc9 ?_;refine Z 10 0 ?_;refine cw h [] [2,7] (fun x48 e=>(0,(b_ x48))::e) (fun _ l=>l) ke (fun _ h=>?_) (fun x48 h=>Y);refine Z 4 0 ?_;refine bs h (fun _ h=>?_) (fun _ h=>Y);refine Z 4 0 ?_;refine Rn.weak (by show WeakSt Γ _ ⟨look [(0,(b_ false)),(1,.d (.lst 5 (List.map Qf r2))),(2,.ptr (Γ.n0+2) 0),(3,.d (.lst 2 (List.map Qc r5))),(4,(i_ r6)),(5,.d (.lst 2 (List.map Qc r8))),(6,(i_ r9)),(7,.ptr (Γ.n0+7) 0),(8,(i_ r12)),(9,.d (.lst 1 (List.map (eL 1 (eI .i64)) r14))),(10,(i_ r15)),(11,(l_ r17)),(12,(l_ r18)),(13,(i_ r19)),(14,(i_ r20)),(15,.tup [.d (.lst 5 (List.map Qf r2)),.agg [(l_ r3.zD),(i_ r3.zH),.nils 1,.d (.lst 3 (List.map Qd r3.zG))]]),(16,.tup [.d (.lst 5 (List.map Qf r2)),.agg [(l_ r3.zD),(i_ r3.zH),.nils 1,.d (.lst 3 (List.map Qd r3.zG))]]),(17,.d (.lst 5 (List.map Qf r2))),(18,.agg [(l_ r3.zD),(i_ r3.zH),.nils 1,.d (.lst 3 (List.map Qd r3.zG))]),(19,.tup [.d (.lst 2 (List.map Qc r5)),(i_ r6)]),(20,.d (.lst 5 (List.map Qf r2))),(21,.agg [(l_ r3.zD),(i_ r3.zH),.nils 1,.d (.lst 3 (List.map Qd r3.zG))]),(22,.tup [.own 2 (List.map Qc r5),(i_ r6)]),(23,.d (.lst 2 (List.map Qc r5))),(24,(i_ r6)),(25,.tup [.d (.lst 2 (List.map Qc r8)),(i_ r9)]),(26,.d (.lst 5 (List.map Qf r2))),(27,.agg [(l_ r3.zD),(i_ r3.zH),.nils 1,.d (.lst 3 (List.map Qd r3.zG))]),(28,(l_ [1])),(29,.tup [.own 2 (List.map Qc r8),(i_ r9)]),(30,.d (.lst 2 (List.map Qc r8))),(31,(i_ r9)),(32,.tup [(Qo r11),(i_ r12)]),(33,.d (.lst 5 (List.map Qf r2))),(34,.agg [(l_ r3.zD),(i_ r3.zH),.nils 1,.d (.lst 3 (List.map Qd r3.zG))]),(35,.tup [(Qo r11),(i_ r12)]),(36,(Qo r11)),(37,(i_ r12)),(38,.tup [.d (.lst 1 (List.map (eL 1 (eI .i64)) r14)),(i_ r15)]),(39,(Qo r11)),(40,.tup [.own 1 (List.map (eL 1 (eI .i64)) r14),(i_ r15)]),(41,.d (.lst 1 (List.map (eL 1 (eI .i64)) r14))),(42,(i_ r15)),(43,.tup [(l_ r17),(l_ r18),(i_ r19),(i_ r20)]),(44,.d (.lst 5 (List.map Qf r2))),(45,.agg [(l_ r3.zD),(i_ r3.zH),.nils 1,.d (.lst 3 (List.map Qd r3.zG))]),(46,(l_ [0])),(47,.tup [(l_ r17),(l_ r18),(i_ r19),(i_ r20)]),(48,(l_ r17)),(49,(l_ r18)),(50,(i_ r19)),(51,(i_ r20)),(52,(i_ r6)),(53,(b_ (r6==0))),(54,(b_ (r6==0))),(55,.d (.lst 2 (List.map Qc r5))),(56,.agg [(i_ 0),(i_ 0)]),(57,.agg [(i_ 1),(i_ 1)]),(58,.d (.lst 2 (List.map Qc [(Qb.mk 0 0),(Qb.mk 1 1)])))],Qi Γ.n0 (bxs [(2,.cells ([(l_ r3.zD),(i_ r3.zH),.nils 1,.d (.lst 3 (List.map Qd r3.zG))])),(7,.cells ((Qs r11)))]) M,Γ.n0+121⟩;exact Qe0 58 [.int .i64 0,.int .i64 0,.int .i64 1,.int .i64 1] rfl rfl ⟨(.same rfl),(.same rfl),(fPtr rfl),(.same rfl),(.same rfl),(.same rfl),(.same rfl),(fPtr rfl),(.same rfl),(.same rfl),(.same rfl),(.same rfl),(.same rfl),(.same rfl),(.same rfl),(.same rfl),(.same rfl),(.same rfl),(.same rfl),(.same rfl),(.same rfl),(.same rfl),(.same rfl),(.same rfl),(.same rfl),(.same rfl),(.same rfl),(.same rfl),(.same rfl),(.same rfl),(.same rfl),(.same rfl),(.same rfl),(.same rfl),(.same rfl),(.same rfl),(.same rfl),(.same rfl),(.same rfl),(.same rfl),(.same rfl),(.same rfl),(.same rfl),(.same rfl),(.same rfl),(.same rfl),(.same rfl),(.same rfl),(.same rfl),(.same rfl),(.same rfl),(.same rfl),(.same rfl),(.same rfl),(.same rfl),(.same rfl),(.same rfl),(.same rfl),(fSl rfl rfl),tv⟩ ⟨⟨_,rfl,rfl,(.same rfl)⟩,⟨_,rfl,rfl,(.same rfl)⟩,tv⟩ rfl) ?_;refine cl (Hby _ _) h (cq fun x23 h=>?_);refine Z 2 0 ?_;refine bs h (fun _ h=>?_) (fun _ h=>Y);refine Z 4 0 ?_;refine bs h (fun _ h=>?_) (fun _ h=>Y);refine Z 3 0 ?_;refine Rn.weak (by show WeakSt Γ _ ⟨look [(0,(b_ false)),(1,.d (.lst 5 (List.map Qf r2))),(2,.ptr (Γ.n0+2) 0),(3,.d (.lst 2 (List.map Qc r5))),(4,(i_ r6)),(5,.d (.lst 2 (List.map Qc r8))),(6,(i_ r9)),(7,.ptr (Γ.n0+7) 0),(8,(i_ r12)),(9,.d (.lst 1 (List.map (eL 1 (eI .i64)) r14))),(10,(i_ r15)),(11,(l_ r17)),(12,(l_ r18)),(13,(i_ r19)),(14,(i_ r20)),(15,.tup [.d (.lst 5 (List.map Qf r2)),.agg [(l_ r3.zD),(i_ r3.zH),.nils 1,.d (.lst 3 (List.map Qd r3.zG))]]),(16,.tup [.d (.lst 5 (List.map Qf r2)),.agg [(l_ r3.zD),(i_ r3.zH),.nils 1,.d (.lst 3 (List.map Qd r3.zG))]]),(17,.d (.lst 5 (List.map Qf r2))),(18,.agg [(l_ r3.zD),(i_ r3.zH),.nils 1,.d (.lst 3 (List.map Qd r3.zG))]),(19,.tup [.d (.lst 2 (List.map Qc r5)),(i_ r6)]),(20,.d (.lst 5 (List.map Qf r2))),(21,.agg [(l_ r3.zD),(i_ r3.zH),.nils 1,.d (.lst 3 (List.map Qd r3.zG))]),(22,.tup [.own 2 (List.map Qc r5),(i_ r6)]),(23,.d (.lst 2 (List.map Qc r5))),(24,(i_ r6)),(25,.tup [.d (.lst 2 (List.map Qc r8)),(i_ r9)]),(26,.d (.lst 5 (List.map Qf r2))),(27,.agg [(l_ r3.zD),(i_ r3.zH),.nils 1,.d (.lst 3 (List.map Qd r3.zG))]),(28,(l_ [1])),(29,.tup [.own 2 (List.map Qc r8),(i_ r9)]),(30,.d (.lst 2 (List.map Qc r8))),(31,(i_ r9)),(32,.tup [(Qo r11),(i_ r12)]),(33,.d (.lst 5 (List.map Qf r2))),(34,.agg [(l_ r3.zD),(i_ r3.zH),.nils 1,.d (.lst 3 (List.map Qd r3.zG))]),(35,.tup [(Qo r11),(i_ r12)]),(36,(Qo r11)),(37,(i_ r12)),(38,.tup [.d (.lst 1 (List.map (eL 1 (eI .i64)) r14)),(i_ r15)]),(39,(Qo r11)),(40,.tup [.own 1 (List.map (eL 1 (eI .i64)) r14),(i_ r15)]),(41,.d (.lst 1 (List.map (eL 1 (eI .i64)) r14))),(42,(i_ r15)),(43,.tup [(l_ r17),(l_ r18),(i_ r19),(i_ r20)]),(44,.d (.lst 5 (List.map Qf r2))),(45,.agg [(l_ r3.zD),(i_ r3.zH),.nils 1,.d (.lst 3 (List.map Qd r3.zG))]),(46,(l_ [0])),(47,.tup [(l_ r17),(l_ r18),(i_ r19),(i_ r20)]),(48,(l_ r17)),(49,(l_ r18)),(50,(i_ r19)),(51,(i_ r20)),(52,(i_ r6)),(53,(b_ (r6==0))),(54,(b_ (r6==0))),(55,.d (.lst 2 (List.map Qc r5))),(56,.agg [(i_ 0),(i_ 0)]),(57,.agg [(i_ 1),(i_ 1)]),(58,.d (.lst 2 (List.map Qc [(Qb.mk 0 0),(Qb.mk 1 1)]))),(59,(b_ x23)),(60,(b_ x23)),(61,(b_ x23)),(62,(i_ r9)),(63,(b_ (r9==0))),(64,(b_ (r9==0))),(65,(b_ (r9==0))),(66,.d (.lst 2 (List.map Qc r8))),(67,.agg [(i_ 2),(i_ 1)]),(68,.d (.lst 2 (List.map Qc [(Qb.mk 2 1)])))],Qi Γ.n0 (bxs [(2,.cells ([(l_ r3.zD),(i_ r3.zH),.nils 1,.d (.lst 3 (List.map Qd r3.zG))])),(7,.cells ((Qs r11)))]) M,Γ.n0+121⟩;exact Qe0 68 [.int .i64 2,.int .i64 1] rfl rfl ⟨(.same rfl),(.same rfl),(fPtr rfl),(.same rfl),(.same rfl),(.same rfl),(.same rfl),(fPtr rfl),(.same rfl),(.same rfl),(.same rfl),(.same rfl),(.same rfl),(.same rfl),(.same rfl),(.same rfl),(.same rfl),(.same rfl),(.same rfl),(.same rfl),(.same rfl),(.same rfl),(.same rfl),(.same rfl),(.same rfl),(.same rfl),(.same rfl),(.same rfl),(.same rfl),(.same rfl),(.same rfl),(.same rfl),(.same rfl),(.same rfl),(.same rfl),(.same rfl),(.same rfl),(.same rfl),(.same rfl),(.same rfl),(.same rfl),(.same rfl),(.same rfl),(.same rfl),(.same rfl),(.same rfl),(.same rfl),(.same rfl),(.same rfl),(.same rfl),(.same rfl),(.same rfl),(.same rfl),(.same rfl),(.same rfl),(.same rfl),(.same rfl),(.same rfl),(.same rfl),(.same rfl),(.same rfl),(.same rfl),(.same rfl),(.same rfl),(.same rfl),(.same rfl),(.same rfl),(.same rfl),(fSl rfl rfl),tv⟩ ⟨⟨_,rfl,rfl,(.same rfl)⟩,⟨_,rfl,rfl,(.same rfl)⟩,tv⟩ rfl) ?_;refine cl (Hby _ _) h (cq fun x27 h=>?_);refine Z 2 0 ?_;refine bs h (fun _ h=>?_) (fun _ h=>Y);refine Z 4 0 ?_;refine bs h (fun _ h=>?_) (fun _ h=>Y);refine Z 4 0 ?_;refine bs h (fun _ h=>?_) (fun _ h=>Y);refine Z 5 0 ?_;refine bs h (fun _ h=>?_) (fun _ h=>Y);refine Z 4 1 ?_;intro x32 h;refine Rn.weak (by show WeakSt Γ _ ⟨look [(0,(b_ false)),(1,.d (.lst 5 (List.map Qf r2))),(2,.ptr (Γ.n0+2) 0),(3,.d (.lst 2 (List.map Qc r5))),(4,(i_ r6)),(5,.d (.lst 2 (List.map Qc r8))),(6,(i_ r9)),(7,.ptr (Γ.n0+7) 0),(8,(i_ r12)),(9,.d (.lst 1 (List.map (eL 1 (eI .i64)) r14))),(10,(i_ r15)),(11,(l_ r17)),(12,(l_ r18)),(13,(i_ r19)),(14,(i_ r20)),(15,.tup [.d (.lst 5 (List.map Qf r2)),.agg [(l_ r3.zD),(i_ r3.zH),.nils 1,.d (.lst 3 (List.map Qd r3.zG))]]),(16,.tup [.d (.lst 5 (List.map Qf r2)),.agg [(l_ r3.zD),(i_ r3.zH),.nils 1,.d (.lst 3 (List.map Qd r3.zG))]]),(17,.d (.lst 5 (List.map Qf r2))),(18,.agg [(l_ r3.zD),(i_ r3.zH),.nils 1,.d (.lst 3 (List.map Qd r3.zG))]),(19,.tup [.d (.lst 2 (List.map Qc r5)),(i_ r6)]),(20,.d (.lst 5 (List.map Qf r2))),(21,.agg [(l_ r3.zD),(i_ r3.zH),.nils 1,.d (.lst 3 (List.map Qd r3.zG))]),(22,.tup [.own 2 (List.map Qc r5),(i_ r6)]),(23,.d (.lst 2 (List.map Qc r5))),(24,(i_ r6)),(25,.tup [.d (.lst 2 (List.map Qc r8)),(i_ r9)]),(26,.d (.lst 5 (List.map Qf r2))),(27,.agg [(l_ r3.zD),(i_ r3.zH),.nils 1,.d (.lst 3 (List.map Qd r3.zG))]),(28,(l_ [1])),(29,.tup [.own 2 (List.map Qc r8),(i_ r9)]),(30,.d (.lst 2 (List.map Qc r8))),(31,(i_ r9)),(32,.tup [(Qo r11),(i_ r12)]),(33,.d (.lst 5 (List.map Qf r2))),(34,.agg [(l_ r3.zD),(i_ r3.zH),.nils 1,.d (.lst 3 (List.map Qd r3.zG))]),(35,.tup [(Qo r11),(i_ r12)]),(36,(Qo r11)),(37,(i_ r12)),(38,.tup [.d (.lst 1 (List.map (eL 1 (eI .i64)) r14)),(i_ r15)]),(39,(Qo r11)),(40,.tup [.own 1 (List.map (eL 1 (eI .i64)) r14),(i_ r15)]),(41,.d (.lst 1 (List.map (eL 1 (eI .i64)) r14))),(42,(i_ r15)),(43,.tup [(l_ r17),(l_ r18),(i_ r19),(i_ r20)]),(44,.d (.lst 5 (List.map Qf r2))),(45,.agg [(l_ r3.zD),(i_ r3.zH),.nils 1,.d (.lst 3 (List.map Qd r3.zG))]),(46,(l_ [0])),(47,.tup [(l_ r17),(l_ r18),(i_ r19),(i_ r20)]),(48,(l_ r17)),(49,(l_ r18)),(50,(i_ r19)),(51,(i_ r20)),(52,(i_ r6)),(53,(b_ (r6==0))),(54,(b_ (r6==0))),(55,.d (.lst 2 (List.map Qc r5))),(56,.agg [(i_ 0),(i_ 0)]),(57,.agg [(i_ 1),(i_ 1)]),(58,.d (.lst 2 (List.map Qc [(Qb.mk 0 0),(Qb.mk 1 1)]))),(59,(b_ x23)),(60,(b_ x23)),(61,(b_ x23)),(62,(i_ r9)),(63,(b_ (r9==0))),(64,(b_ (r9==0))),(65,(b_ (r9==0))),(66,.d (.lst 2 (List.map Qc r8))),(67,.agg [(i_ 2),(i_ 1)]),(68,.d (.lst 2 (List.map Qc [(Qb.mk 2 1)]))),(69,(b_ x27)),(70,(b_ x27)),(71,(b_ x27)),(72,(i_ r12)),(73,(b_ (r12==0))),(74,(b_ (r12==0))),(75,(b_ (r12==0))),(76,(i_ r15)),(77,(b_ (r15==0))),(78,(b_ (r15==0))),(79,(b_ (r15==0))),(80,.d (.lst 1 (List.map (eL 1 (eI .i64)) r14))),(81,(i_ (r14.length:Int))),(82,(b_ ((r14.length:Int)==1))),(83,(b_ ((r14.length:Int)==1))),(84,(b_ ((r14.length:Int)==1))),(85,.d (.lst 1 (List.map (eL 1 (eI .i64)) r14))),(86,.cref ((eL 1 (eI .i64)) x32)),(87,(l_ x32)),(88,(l_ [0]))],Qi Γ.n0 (bxs [(2,.cells ([(l_ r3.zD),(i_ r3.zH),.nils 1,.d (.lst 3 (List.map Qd r3.zG))])),(7,.cells ((Qs r11)))]) M,Γ.n0+121⟩;exact Qe0 88 [.int .i64 0] rfl rfl ⟨(.same rfl),(.same rfl),(fPtr rfl),(.same rfl),(.same rfl),(.same rfl),(.same rfl),(fPtr rfl),(.same rfl),(.same rfl),(.same rfl),(.same rfl),(.same rfl),(.same rfl),(.same rfl),(.same rfl),(.same rfl),(.same rfl),(.same rfl),(.same rfl),(.same rfl),(.same rfl),(.same rfl),(.same rfl),(.same rfl),(.same rfl),(.same rfl),(.same rfl),(.same rfl),(.same rfl),(.same rfl),(.same rfl),(.same rfl),(.same rfl),(.same rfl),(.same rfl),(.same rfl),(.same rfl),(.same rfl),(.same rfl),(.same rfl),(.same rfl),(.same rfl),(.same rfl),(.same rfl),(.same rfl),(.same rfl),(.same rfl),(.same rfl),(.same rfl),(.same rfl),(.same rfl),(.same rfl),(.same rfl),(.same rfl),(.same rfl),(.same rfl),(.same rfl),(.same rfl),(.same rfl),(.same rfl),(.same rfl),(.same rfl),(.same rfl),(.same rfl),(.same rfl),(.same rfl),(.same rfl),(.same rfl),(.same rfl),(.same rfl),(.same rfl),(.same rfl),(.same rfl),(.same rfl),(.same rfl),(.same rfl),(.same rfl),(.same rfl),(.same rfl),(.same rfl),(.same rfl),(.same rfl),(.same rfl),(.same rfl),(.same rfl),(.same rfl),(.same rfl),(fSl rfl rfl),tv⟩ ⟨⟨_,rfl,rfl,(.same rfl)⟩,⟨_,rfl,rfl,(.same rfl)⟩,tv⟩ rfl) ?_;refine cl (Hdk _ _) h (cq fun x35 h=>?_);refine Z 2 0 ?_;refine bs h (fun _ h=>?_) (fun _ h=>Y);refine Z 7 1 ?_;intro x37 h;refine bs h (fun _ h=>?_) (fun _ h=>Y);refine Z 4 0 ?_;refine bs h (fun _ h=>?_) (fun _ h=>Y);refine Z 4 0 ?_;refine bs h (fun _ h=>?_) (fun _ h=>Y);refine Z 2 0 ?_;refine Rn.weak (by show WeakSt Γ _ ⟨look [(0,(b_ false)),(1,.d (.lst 5 (List.map Qf r2))),(2,.ptr (Γ.n0+2) 0),(3,.d (.lst 2 (List.map Qc r5))),(4,(i_ r6)),(5,.d (.lst 2 (List.map Qc r8))),(6,(i_ r9)),(7,.ptr (Γ.n0+7) 0),(8,(i_ r12)),(9,.d (.lst 1 (List.map (eL 1 (eI .i64)) r14))),(10,(i_ r15)),(11,(l_ r17)),(12,(l_ r18)),(13,(i_ r19)),(14,(i_ r20)),(15,.tup [.d (.lst 5 (List.map Qf r2)),.agg [(l_ r3.zD),(i_ r3.zH),.nils 1,.d (.lst 3 (List.map Qd r3.zG))]]),(16,.tup [.d (.lst 5 (List.map Qf r2)),.agg [(l_ r3.zD),(i_ r3.zH),.nils 1,.d (.lst 3 (List.map Qd r3.zG))]]),(17,.d (.lst 5 (List.map Qf r2))),(18,.agg [(l_ r3.zD),(i_ r3.zH),.nils 1,.d (.lst 3 (List.map Qd r3.zG))]),(19,.tup [.d (.lst 2 (List.map Qc r5)),(i_ r6)]),(20,.d (.lst 5 (List.map Qf r2))),(21,.agg [(l_ r3.zD),(i_ r3.zH),.nils 1,.d (.lst 3 (List.map Qd r3.zG))]),(22,.tup [.own 2 (List.map Qc r5),(i_ r6)]),(23,.d (.lst 2 (List.map Qc r5))),(24,(i_ r6)),(25,.tup [.d (.lst 2 (List.map Qc r8)),(i_ r9)]),(26,.d (.lst 5 (List.map Qf r2))),(27,.agg [(l_ r3.zD),(i_ r3.zH),.nils 1,.d (.lst 3 (List.map Qd r3.zG))]),(28,(l_ [1])),(29,.tup [.own 2 (List.map Qc r8),(i_ r9)]),(30,.d (.lst 2 (List.map Qc r8))),(31,(i_ r9)),(32,.tup [(Qo r11),(i_ r12)]),(33,.d (.lst 5 (List.map Qf r2))),(34,.agg [(l_ r3.zD),(i_ r3.zH),.nils 1,.d (.lst 3 (List.map Qd r3.zG))]),(35,.tup [(Qo r11),(i_ r12)]),(36,(Qo r11)),(37,(i_ r12)),(38,.tup [.d (.lst 1 (List.map (eL 1 (eI .i64)) r14)),(i_ r15)]),(39,(Qo r11)),(40,.tup [.own 1 (List.map (eL 1 (eI .i64)) r14),(i_ r15)]),(41,.d (.lst 1 (List.map (eL 1 (eI .i64)) r14))),(42,(i_ r15)),(43,.tup [(l_ r17),(l_ r18),(i_ r19),(i_ r20)]),(44,.d (.lst 5 (List.map Qf r2))),(45,.agg [(l_ r3.zD),(i_ r3.zH),.nils 1,.d (.lst 3 (List.map Qd r3.zG))]),(46,(l_ [0])),(47,.tup [(l_ r17),(l_ r18),(i_ r19),(i_ r20)]),(48,(l_ r17)),(49,(l_ r18)),(50,(i_ r19)),(51,(i_ r20)),(52,(i_ r6)),(53,(b_ (r6==0))),(54,(b_ (r6==0))),(55,.d (.lst 2 (List.map Qc r5))),(56,.agg [(i_ 0),(i_ 0)]),(57,.agg [(i_ 1),(i_ 1)]),(58,.d (.lst 2 (List.map Qc [(Qb.mk 0 0),(Qb.mk 1 1)]))),(59,(b_ x23)),(60,(b_ x23)),(61,(b_ x23)),(62,(i_ r9)),(63,(b_ (r9==0))),(64,(b_ (r9==0))),(65,(b_ (r9==0))),(66,.d (.lst 2 (List.map Qc r8))),(67,.agg [(i_ 2),(i_ 1)]),(68,.d (.lst 2 (List.map Qc [(Qb.mk 2 1)]))),(69,(b_ x27)),(70,(b_ x27)),(71,(b_ x27)),(72,(i_ r12)),(73,(b_ (r12==0))),(74,(b_ (r12==0))),(75,(b_ (r12==0))),(76,(i_ r15)),(77,(b_ (r15==0))),(78,(b_ (r15==0))),(79,(b_ (r15==0))),(80,.d (.lst 1 (List.map (eL 1 (eI .i64)) r14))),(81,(i_ (r14.length:Int))),(82,(b_ ((r14.length:Int)==1))),(83,(b_ ((r14.length:Int)==1))),(84,(b_ ((r14.length:Int)==1))),(85,.d (.lst 1 (List.map (eL 1 (eI .i64)) r14))),(86,.cref ((eL 1 (eI .i64)) x32)),(87,(l_ x32)),(88,(l_ [0])),(89,(b_ x35)),(90,(b_ x35)),(91,(b_ x35)),(92,.d (.lst 1 (List.map (eL 1 (eI .i64)) r14))),(93,.cref ((eL 1 (eI .i64)) x37)),(94,(l_ x37)),(95,(i_ (x37.length:Int))),(96,(b_ ((x37.length:Int)==1))),(97,(b_ ((x37.length:Int)==1))),(98,(b_ ((x37.length:Int)==1))),(99,(i_ r20)),(100,(b_ (r20==0))),(101,(b_ (r20==0))),(102,(b_ (r20==0))),(103,(i_ r19)),(104,(b_ (r19==3))),(105,(b_ (r19==3))),(106,(b_ (r19==3))),(107,(l_ r17)),(108,(l_ [0,2]))],Qi Γ.n0 (bxs [(2,.cells ([(l_ r3.zD),(i_ r3.zH),.nils 1,.d (.lst 3 (List.map Qd r3.zG))])),(7,.cells ((Qs r11)))]) M,Γ.n0+121⟩;exact Qe0 108 [.int .i64 0,.int .i64 2] rfl rfl ⟨(.same rfl),(.same rfl),(fPtr rfl),(.same rfl),(.same rfl),(.same rfl),(.same rfl),(fPtr rfl),(.same rfl),(.same rfl),(.same rfl),(.same rfl),(.same rfl),(.same rfl),(.same rfl),(.same rfl),(.same rfl),(.same rfl),(.same rfl),(.same rfl),(.same rfl),(.same rfl),(.same rfl),(.same rfl),(.same rfl),(.same rfl),(.same rfl),(.same rfl),(.same rfl),(.same rfl),(.same rfl),(.same rfl),(.same rfl),(.same rfl),(.same rfl),(.same rfl),(.same rfl),(.same rfl),(.same rfl),(.same rfl),(.same rfl),(.same rfl),(.same rfl),(.same rfl),(.same rfl),(.same rfl),(.same rfl),(.same rfl),(.same rfl),(.same rfl),(.same rfl),(.same rfl),(.same rfl),(.same rfl),(.same rfl),(.same rfl),(.same rfl),(.same rfl),(.same rfl),(.same rfl),(.same rfl),(.same rfl),(.same rfl),(.same rfl),(.same rfl),(.same rfl),(.same rfl),(.same rfl),(.same rfl),(.same rfl),(.same rfl),(.same rfl),(.same rfl),(.same rfl),(.same rfl),(.same rfl),(.same rfl),(.same rfl),(.same rfl),(.same rfl),(.same rfl),(.same rfl),(.same rfl),(.same rfl),(.same rfl),(.same rfl),(.same rfl),(.same rfl),(.same rfl),(.same rfl),(.same rfl),(.same rfl),(.same rfl),(.same rfl),(.same rfl),(.same rfl),(.same rfl),(.same rfl),(.same rfl),(.same rfl),(.same rfl),(.same rfl),(.same rfl),(.same rfl),(.same rfl),(.same rfl),(.same rfl),(.same rfl),(fSl rfl rfl),tv⟩ ⟨⟨_,rfl,rfl,(.same rfl)⟩,⟨_,rfl,rfl,(.same rfl)⟩,tv⟩ rfl) ?_;refine cl (Hdk _ _) h (cq fun x43 h=>?_);refine Z 2 0 ?_;refine bs h (fun _ h=>?_) (fun _ h=>Y);refine Z 5 0 ?_;refine bs h (fun _ h=>?_) (fun _ h=>Y);refine Z 2 0 ?_;refine Rn.weak (by show WeakSt Γ _ ⟨look [(0,(b_ false)),(1,.d (.lst 5 (List.map Qf r2))),(2,.ptr (Γ.n0+2) 0),(3,.d (.lst 2 (List.map Qc r5))),(4,(i_ r6)),(5,.d (.lst 2 (List.map Qc r8))),(6,(i_ r9)),(7,.ptr (Γ.n0+7) 0),(8,(i_ r12)),(9,.d (.lst 1 (List.map (eL 1 (eI .i64)) r14))),(10,(i_ r15)),(11,(l_ r17)),(12,(l_ r18)),(13,(i_ r19)),(14,(i_ r20)),(15,.tup [.d (.lst 5 (List.map Qf r2)),.agg [(l_ r3.zD),(i_ r3.zH),.nils 1,.d (.lst 3 (List.map Qd r3.zG))]]),(16,.tup [.d (.lst 5 (List.map Qf r2)),.agg [(l_ r3.zD),(i_ r3.zH),.nils 1,.d (.lst 3 (List.map Qd r3.zG))]]),(17,.d (.lst 5 (List.map Qf r2))),(18,.agg [(l_ r3.zD),(i_ r3.zH),.nils 1,.d (.lst 3 (List.map Qd r3.zG))]),(19,.tup [.d (.lst 2 (List.map Qc r5)),(i_ r6)]),(20,.d (.lst 5 (List.map Qf r2))),(21,.agg [(l_ r3.zD),(i_ r3.zH),.nils 1,.d (.lst 3 (List.map Qd r3.zG))]),(22,.tup [.own 2 (List.map Qc r5),(i_ r6)]),(23,.d (.lst 2 (List.map Qc r5))),(24,(i_ r6)),(25,.tup [.d (.lst 2 (List.map Qc r8)),(i_ r9)]),(26,.d (.lst 5 (List.map Qf r2))),(27,.agg [(l_ r3.zD),(i_ r3.zH),.nils 1,.d (.lst 3 (List.map Qd r3.zG))]),(28,(l_ [1])),(29,.tup [.own 2 (List.map Qc r8),(i_ r9)]),(30,.d (.lst 2 (List.map Qc r8))),(31,(i_ r9)),(32,.tup [(Qo r11),(i_ r12)]),(33,.d (.lst 5 (List.map Qf r2))),(34,.agg [(l_ r3.zD),(i_ r3.zH),.nils 1,.d (.lst 3 (List.map Qd r3.zG))]),(35,.tup [(Qo r11),(i_ r12)]),(36,(Qo r11)),(37,(i_ r12)),(38,.tup [.d (.lst 1 (List.map (eL 1 (eI .i64)) r14)),(i_ r15)]),(39,(Qo r11)),(40,.tup [.own 1 (List.map (eL 1 (eI .i64)) r14),(i_ r15)]),(41,.d (.lst 1 (List.map (eL 1 (eI .i64)) r14))),(42,(i_ r15)),(43,.tup [(l_ r17),(l_ r18),(i_ r19),(i_ r20)]),(44,.d (.lst 5 (List.map Qf r2))),(45,.agg [(l_ r3.zD),(i_ r3.zH),.nils 1,.d (.lst 3 (List.map Qd r3.zG))]),(46,(l_ [0])),(47,.tup [(l_ r17),(l_ r18),(i_ r19),(i_ r20)]),(48,(l_ r17)),(49,(l_ r18)),(50,(i_ r19)),(51,(i_ r20)),(52,(i_ r6)),(53,(b_ (r6==0))),(54,(b_ (r6==0))),(55,.d (.lst 2 (List.map Qc r5))),(56,.agg [(i_ 0),(i_ 0)]),(57,.agg [(i_ 1),(i_ 1)]),(58,.d (.lst 2 (List.map Qc [(Qb.mk 0 0),(Qb.mk 1 1)]))),(59,(b_ x23)),(60,(b_ x23)),(61,(b_ x23)),(62,(i_ r9)),(63,(b_ (r9==0))),(64,(b_ (r9==0))),(65,(b_ (r9==0))),(66,.d (.lst 2 (List.map Qc r8))),(67,.agg [(i_ 2),(i_ 1)]),(68,.d (.lst 2 (List.map Qc [(Qb.mk 2 1)]))),(69,(b_ x27)),(70,(b_ x27)),(71,(b_ x27)),(72,(i_ r12)),(73,(b_ (r12==0))),(74,(b_ (r12==0))),(75,(b_ (r12==0))),(76,(i_ r15)),(77,(b_ (r15==0))),(78,(b_ (r15==0))),(79,(b_ (r15==0))),(80,.d (.lst 1 (List.map (eL 1 (eI .i64)) r14))),(81,(i_ (r14.length:Int))),(82,(b_ ((r14.length:Int)==1))),(83,(b_ ((r14.length:Int)==1))),(84,(b_ ((r14.length:Int)==1))),(85,.d (.lst 1 (List.map (eL 1 (eI .i64)) r14))),(86,.cref ((eL 1 (eI .i64)) x32)),(87,(l_ x32)),(88,(l_ [0])),(89,(b_ x35)),(90,(b_ x35)),(91,(b_ x35)),(92,.d (.lst 1 (List.map (eL 1 (eI .i64)) r14))),(93,.cref ((eL 1 (eI .i64)) x37)),(94,(l_ x37)),(95,(i_ (x37.length:Int))),(96,(b_ ((x37.length:Int)==1))),(97,(b_ ((x37.length:Int)==1))),(98,(b_ ((x37.length:Int)==1))),(99,(i_ r20)),(100,(b_ (r20==0))),(101,(b_ (r20==0))),(102,(b_ (r20==0))),(103,(i_ r19)),(104,(b_ (r19==3))),(105,(b_ (r19==3))),(106,(b_ (r19==3))),(107,(l_ r17)),(108,(l_ [0,2])),(109,(b_ x43)),(110,(b_ x43)),(111,(b_ x43)),(112,(l_ r17)),(113,(i_ (r17.length:Int))),(114,(b_ ((r17.length:Int)==2))),(115,(b_ ((r17.length:Int)==2))),(116,(b_ ((r17.length:Int)==2))),(117,(l_ r18)),(118,(l_ [0]))],Qi Γ.n0 (bxs [(2,.cells ([(l_ r3.zD),(i_ r3.zH),.nils 1,.d (.lst 3 (List.map Qd r3.zG))])),(7,.cells ((Qs r11)))]) M,Γ.n0+121⟩;exact Qe0 118 [.int .i64 0] rfl rfl ⟨(.same rfl),(.same rfl),(fPtr rfl),(.same rfl),(.same rfl),(.same rfl),(.same rfl),(fPtr rfl),(.same rfl),(.same rfl),(.same rfl),(.same rfl),(.same rfl),(.same rfl),(.same rfl),(.same rfl),(.same rfl),(.same rfl),(.same rfl),(.same rfl),(.same rfl),(.same rfl),(.same rfl),(.same rfl),(.same rfl),(.same rfl),(.same rfl),(.same rfl),(.same rfl),(.same rfl),(.same rfl),(.same rfl),(.same rfl),(.same rfl),(.same rfl),(.same rfl),(.same rfl),(.same rfl),(.same rfl),(.same rfl),(.same rfl),(.same rfl),(.same rfl),(.same rfl),(.same rfl),(.same rfl),(.same rfl),(.same rfl),(.same rfl),(.same rfl),(.same rfl),(.same rfl),(.same rfl),(.same rfl),(.same rfl),(.same rfl),(.same rfl),(.same rfl),(.same rfl),(.same rfl),(.same rfl),(.same rfl),(.same rfl),(.same rfl),(.same rfl),(.same rfl),(.same rfl),(.same rfl),(.same rfl),(.same rfl),(.same rfl),(.same rfl),(.same rfl),(.same rfl),(.same rfl),(.same rfl),(.same rfl),(.same rfl),(.same rfl),(.same rfl),(.same rfl),(.same rfl),(.same rfl),(.same rfl),(.same rfl),(.same rfl),(.same rfl),(.same rfl),(.same rfl),(.same rfl),(.same rfl),(.same rfl),(.same rfl),(.same rfl),(.same rfl),(.same rfl),(.same rfl),(.same rfl),(.same rfl),(.same rfl),(.same rfl),(.same rfl),(.same rfl),(.same rfl),(.same rfl),(.same rfl),(.same rfl),(.same rfl),(.same rfl),(.same rfl),(.same rfl),(.same rfl),(.same rfl),(.same rfl),(.same rfl),(.same rfl),(.same rfl),(.same rfl),(fSl rfl rfl),tv⟩ ⟨⟨_,rfl,rfl,(.same rfl)⟩,⟨_,rfl,rfl,(.same rfl)⟩,tv⟩ rfl) ?_;refine cl (Hdk _ _) h (cq fun _ h=>?_);exact Y
theorem Qqj {P:Program} {c:Nat} (hcf:Ql P c=some Qlq) (fuel:Nat):Qh9 P c (Qcj fuel):=by
 intro f1 r h;refine Qbu hcf rfl fun Γ M hP hnt hM=>?_;subst hP;refine ini ?_;refine Z 9 0 ?_;refine cw h [] [1] (fun ov35 e=>(3,.own 5 (List.map Qf ov35))::e) (fun _ l=>l) ke (fun _ h=>?_) (fun ov35 h=>Y);refine Z 5 0 ?_;refine lw h [1] [1] (fun (ov2,i3) e=>(3,.own 5 (List.map Qf ov2))::(4,(i_ i3))::e) (fun _ l=>l) ke wk (fun _ ⟨ov2,i3⟩ h=>?_);refine Z 6 0 ?_;refine ci h rfl (fun h=>?_) (fun h=>Y);refine Z 9 0 ?_;refine Rn.weak (by show WeakSt Γ _ ⟨look [(1,.ptr (Γ.n0+1) 0),(3,.own 5 (List.map Qf ov2)),(4,(i_ i3)),(6,(i_ i3)),(7,(b_ (decide (i3<5)))),(10,(i_ i3)),(11,.d (.int .u8 (IntKind.wrap .u8 i3))),(12,.d (.int .u8 (IntKind.wrap .u8 (97+(IntKind.wrap .u8 i3))))),(13,.d (.lst 1 (List.map (eI .u8) [(IntKind.wrap .u8 (97+(IntKind.wrap .u8 i3)))])))],Qi Γ.n0 (bxs [(1,.cells ([.d (.int .u8 f1.1),.d (.int .u8 f1.2.1),.d (.int .u8 f1.2.2.1),.d (.int .u8 f1.2.2.2.1),.d (.int .u8 f1.2.2.2.2)]))]) M,Γ.n0+55⟩;exact Qe0 13 [.int .u8 (IntKind.wrap .u8 (97+(IntKind.wrap .u8 i3)))] rfl rfl ⟨(fPtr rfl),(.same rfl),(.same rfl),(.same rfl),(.same rfl),(.same rfl),(.same rfl),(.same rfl),(fSl rfl rfl),tv⟩ ⟨⟨_,rfl,rfl,(.same rfl)⟩,tv⟩ rfl) ?_;refine Rn.bstr (xs:=[(IntKind.wrap .u8 (97+(IntKind.wrap .u8 i3)))]) tv rfl ?_;refine Z 4 0 ?_;refine cw h [1,3,4,5] [1] (fun _ e=>e) (fun (c28,c29,c30,c31,c32) l=>(5,.cells ([.d (.str c28),(b_ c29),(b_ c30),(b_ c31),(i_ c32)]))::l) ke (fun _ h=>?_) (fun ⟨c28,c29,c30,c31,c32⟩ h=>Y);refine cw h [1,3,4,5] [1] (fun (x13,c14) e=>(25,(b_ x13))::e) (fun (x13,c14) l=>(5,.cells ([.d (.str c14),(b_ false),(b_ false),(b_ false),(i_ 0)]))::l) ke (fun _ h=>?_) (fun ⟨x13,c14⟩ h=>?_)
 ·refine Z 2 0 ?_;obtain ⟨⟨⟩,h6,h⟩:=bnd h;refine Rn.idxArr (o':=0+(Int.toNat i3*1)) tv rfl rfl rfl h6 ?_;obtain ⟨x7,h8,h⟩:=bnd h;refine Rn.loadArr (e:=(fun (z:Int)=>.int .u8 z)) (pre:=[]) (post:=[]) tv rfl rfl (Qcm rfl) rfl rfl h8 ?_;refine Z 2 0 ?_;refine bi h (fun hb9 h=>?_) (fun hb9 h=>Y);refine Z 1 0 ?_;obtain ⟨⟨⟩,h10,h⟩:=bnd h;refine Rn.idxArr (o':=0+(Int.toNat i3*1)) (gw rfl hb9) rfl rfl rfl h10 ?_;obtain ⟨x11,h12,h⟩:=bnd h;refine Rn.loadArr (e:=(fun (z:Int)=>.int .u8 z)) (pre:=[]) (post:=[]) (gw rfl hb9) rfl rfl (Qcm rfl) rfl rfl h12 ?_;exact Y
 ·refine cd h rfl (fun h=>?_) (fun h=>?_)
  ·refine Z 2 0 ?_;obtain ⟨⟨⟩,h16,h⟩:=bnd h;refine Rn.idxArr (o':=0+(Int.toNat i3*1)) tv rfl rfl rfl h16 ?_;obtain ⟨x17,h18,h⟩:=bnd h;refine Rn.loadArr (e:=(fun (z:Int)=>.int .u8 z)) (pre:=[]) (post:=[]) tv rfl rfl (Qcm rfl) rfl rfl h18 ?_;exact Y
  ·refine Z 2 0 ?_;obtain ⟨⟨⟩,h19,h⟩:=bnd h;refine Rn.idxArr (o':=0+(Int.toNat i3*1)) tv rfl rfl rfl h19 ?_;obtain ⟨x20,h21,h⟩:=bnd h;refine Rn.loadArr (e:=(fun (z:Int)=>.int .u8 z)) (pre:=[]) (post:=[]) tv rfl rfl (Qcm rfl) rfl rfl h21 ?_;refine Z 3 0 ?_;obtain ⟨⟨⟩,h22,h⟩:=bnd h;refine Rn.idxArr (o':=0+(Int.toNat i3*1)) tv rfl rfl rfl h22 ?_;obtain ⟨x23,h24,h⟩:=bnd h;refine Rn.loadArr (e:=(fun (z:Int)=>.int .u8 z)) (pre:=[]) (post:=[]) tv rfl rfl (Qcm rfl) rfl rfl h24 ?_;refine Z 3 0 ?_;obtain ⟨⟨⟩,h25,h⟩:=bnd h;refine Rn.idxArr (o':=0+(Int.toNat i3*1)) tv rfl rfl rfl h25 ?_;obtain ⟨x26,h27,h⟩:=bnd h;refine Rn.loadArr (e:=(fun (z:Int)=>.int .u8 z)) (pre:=[]) (post:=[]) tv rfl rfl (Qcm rfl) rfl rfl h27 ?_;exact Y
theorem Qnc {P:Program} {c:Nat} (hcf:Ql P c=some Qjo) (fuel:Nat):Qge P c (Qca fuel):=by
 intro s1 r h;refine Qbu hcf rfl fun Γ M hP hnt hM=>?_;subst hP;refine ini ?_;refine Z 8 0 ?_;refine cw h [] [] (fun ov12 e=>(3,(o_ ov12))::e) (fun _ l=>l) ke (fun _ h=>?_) (fun ov12 h=>Y);refine Z 5 0 ?_;refine lw h [0] [] (fun (ov2,i3) e=>(3,(o_ ov2))::(4,(i_ i3))::e) (fun _ l=>l) ke wk (fun _ ⟨ov2,i3⟩ h=>?_);refine Z 6 0 ?_;refine ci h rfl (fun h=>?_) (fun h=>Y);refine Tr.skip ?_;refine cw h [0,4] [] (fun ov11 e=>(3,(o_ ov11))::e) (fun _ l=>l) ke (fun _ h=>?_) (fun ov11 h=>Y);refine Z 5 0 ?_;obtain ⟨s6,h7,h⟩:=bnd h;refine Rn.bin tv rfl rfl (Q2d h7) ?_;refine Z 3 0 ?_;exact cd h rfl (fun h=>Y) (fun h=>Y)
theorem Qri {P:Program} {c:Nat} (hcf:Ql P c=some Qmo):Qgp P c (Qbb):=by
 intro av1 r h;refine Qbu hcf rfl fun Γ M hP hnt hM=>?_;subst hP;refine ini ?_;refine Z 9 1 ?_;intro x2 h;refine Rn.buildT (v:=.agg [(o_ x2),(i_ 0),.nils 1,.nils 3]) tv rfl ?_;exact Y
theorem Qsk {P:Program} {c:Nat} (hcf:Ql P c=some Qnp) (fuel:Nat):Qg2 P c (Qbl fuel):=by
 intro a1 sv2 ev3 r h;refine Qbu hcf rfl fun Γ M hP hnt hM=>?_;subst hP;refine ini ?_;refine Z 11 0 ?_;refine lw h [1,2,3] [3] (fun i4 e=>(7,(i_ i4))::e) (fun _ l=>l) ke wk (fun _ i4 h=>?_);refine Z 9 0 ?_;refine ci h rfl (fun h=>?_) (fun h=>Y);refine Z 3 0 ?_;refine cw h [1,2,3,7] [3] (fun x12 e=>(32,(b_ x12))::e) (fun _ l=>l) ke (fun _ h=>?_) (fun x12 h=>?_)
 ·refine Z 10 1 ?_;intro _ h;exact bs h (fun _ h=>Y) (fun _ h=>Y)
 ·exact cd h rfl (fun h=>Y) (fun h=>Y)
theorem Qtb {P:Program} {c:Nat} (hcf:Ql P c=some Qo2) (fuel:Nat):Qhq P c (Qbt fuel):=by
 intro l1 n2 r h;refine Qbu hcf rfl fun Γ M hP hnt hM=>?_;subst hP;refine ini ?_;refine Z 10 0 ?_;refine lw h [0,1] [] (fun i3 e=>(5,(i_ i3))::e) (fun _ l=>l) ke wk (fun _ i3 h=>?_);refine Z 8 0 ?_;refine ci h rfl (fun h=>?_) (fun h=>Y);refine Z 12 1 ?_;intro _ h;exact cd h rfl (fun h=>Y) (fun h=>Y)
theorem Qrj {P:Program} {c:Nat} {Qbt:_} {Qbl:_}
    (Hce:Qhq P 120 Qbt)
    (Hcd:Qg2 P 121 Qbl) (hcf:Ql P c=some Qmp) (fuel:Nat):Qi3 P c (Qcu Qbt Qbl fuel):=by
 intro a1 r h;refine Qbu hcf rfl fun Γ M hP hnt hM=>?_;subst hP;refine ini ?_;refine Z 9 0 ?_;refine cw h [1] [1] (fun ov5 e=>(3,(o_ ov5))::e) (fun _ l=>l) ke (fun _ h=>?_) (fun ov5 h=>?_)
 ·refine Z 6 0 ?_;refine ci h rfl (fun h=>?_) (fun h=>Y);refine Z 3 0 ?_;refine Rn.weak (wS [0,1,2,3,7,8,9,11] [1,11] (fun e=>(10,.own 1 (List.map (eI .i64) []))::e) (fun l=>l) ke wk) ?_;exact Y
 ·refine cw h [] [1] (fun ov29 e=>(3,(o_ ov29))::e) (fun _ l=>l) ke (fun _ h=>?_) (fun ov29 h=>Y);refine Z 5 0 ?_;refine lw h [1] [1] (fun (ov6,i7) e=>(3,(o_ ov6))::(4,(i_ i7))::e) (fun _ l=>l) ke wk (fun _ ⟨ov6,i7⟩ h=>?_);refine Z 8 0 ?_;refine ci h rfl (fun h=>?_) (fun h=>Y);refine Tr.skip ?_;refine cw h [1,4] [1] (fun ov28 e=>(3,(o_ ov28))::e) (fun _ l=>l) ke (fun _ h=>?_) (fun ov28 h=>Y);refine Z 6 0 ?_;refine lw h [1,4] [1] (fun (ov10,k11) e=>(3,(o_ ov10))::(5,(i_ k11))::e) (fun _ l=>l) ke wk (fun _ ⟨ov10,k11⟩ h=>?_);refine Z 9 0 ?_;refine ci h rfl (fun h=>?_) (fun h=>Y);refine Tr.skip ?_;refine cw h [1,4,5] [1] (fun ov27 e=>(3,(o_ ov27))::e) (fun _ l=>l) ke (fun _ h=>?_) (fun ov27 h=>Y);refine Z 13 1 ?_;intro _ _ h;refine cl (Hcd _ _ _) h (cq fun _ h=>?_);refine Z 2 0 ?_;refine cw h [1,3,4,5,6] [1] (fun x23 e=>(44,(b_ x23))::e) (fun _ l=>l) ke (fun _ h=>?_) (fun x23 h=>?_)
  ·refine Z 4 0 ?_;refine bi h (fun _ h=>?_) (fun _ h=>Y);refine Z 2 0 ?_;refine cl (Hce _ _) h (cq fun _ h=>?_);exact Y
  ·exact cd h rfl (fun h=>Y) (fun h=>Y)
theorem Qrk {P:Program} {c:Nat} (hcf:Ql P c=some Qmq) (fuel:Nat):Qi4 P c (Qcv fuel):=by
 intro l1 n2 r h;refine Qbu hcf rfl fun Γ M hP hnt hM=>?_;subst hP;refine ini ?_;refine Z 10 0 ?_;refine lw h [0,1] [] (fun i3 e=>(5,(i_ i3))::e) (fun _ l=>l) ke wk (fun _ i3 h=>?_);refine Z 8 0 ?_;refine ci h rfl (fun h=>?_) (fun h=>Y);refine Z 12 1 ?_;intro _ h;exact cd h rfl (fun h=>Y) (fun h=>Y)
theorem Qn8 {P:Program} {c:Nat} {Qbb:_} {Qcu:_} {Qbt:_} {Qbl:_} {Qcv:_}
    (Hcb:Qgp P 88 Qbb)
    (Hcc:Qi3 P 119 Qcu)
    (Hce:Qhq P 120 Qbt)
    (Hcd:Qg2 P 121 Qbl)
    (Hcf:Qi4 P 122 Qcv) (hcf:Ql P c=some Qj2) (fuel:Nat):Qgy P c (Qb2 Qbb Qcu Qbt Qbl Qcv fuel):=by
 intro a1 r h;refine Qbu hcf rfl fun Γ M hP hnt hM=>?_;subst hP;refine ini ?_;refine Z 8 0 ?_;refine cl (Hcc _) h (cq fun x3 h=>?_);refine Z 6 0 ?_;refine cl (Hcb _) h (cq fun x5 h=>?_);refine Z 10 0 ?_;refine cw h [2,4] [1] (fun _ e=>e) (fun (c42,c43,c44,ov45,ov46) l=>(2,.cells ([(o_ c42),(i_ 0),(o_ c43),.own 3 (List.map Qd c44)]))::(4,.cells ([(l_ x5.zD),(i_ (x3.length:Int)),(o_ ov45),.own 3 (List.map Qd ov46)]))::l) ke (fun _ h=>?_) (fun ⟨c42,c43,c44,ov45,ov46⟩ h=>Y);refine Z 5 0 ?_;refine lw h [1,2,3,4] [1] (fun (i6,c7,c8,c9,ov10,ov11) e=>(5,(i_ i6))::e) (fun (i6,c7,c8,c9,ov10,ov11) l=>(2,.cells ([(o_ c7),(i_ 0),(o_ c8),.own 3 (List.map Qd c9)]))::(4,.cells ([(l_ x5.zD),(i_ (x3.length:Int)),(o_ ov10),.own 3 (List.map Qd ov11)]))::l) ke wk (fun _ ⟨i6,c7,c8,c9,ov10,ov11⟩ h=>?_);refine Z 8 0 ?_;refine ci h rfl (fun h=>?_) (fun h=>Y);refine Tr.skip ?_;refine cw h [1,2,3,4,5] [1,2] (fun _ e=>e) (fun (ov40,ov41) l=>(4,.cells ([(l_ x5.zD),(i_ (x3.length:Int)),(o_ ov40),.own 3 (List.map Qd ov41)]))::l) ke (fun _ h=>?_) (fun ⟨ov40,ov41⟩ h=>Y);refine Tr.block ?_;refine cw h [1,2,3,4,5] [1,2] (fun _ e=>e) (fun ov21 l=>(4,.cells ([(l_ x5.zD),(i_ (x3.length:Int)),(o_ ov21),.own 3 (List.map Qd ov11)]))::l) ke (fun _ h=>?_) (fun ov21 h=>?_)
 ·refine Z 8 1 ?_;intro _ h;refine cl (Hce _ _) h (cq fun _ h=>?_);refine Z 1 0 ?_;exact cd h rfl (fun h=>Y) (fun h=>Y)
 ·refine Z 5 0 ?_;refine lw h [1,2,3,4,5] [1,2] (fun (k22,ov23) e=>(6,(i_ k22))::e) (fun (k22,ov23) l=>(4,.cells ([(l_ x5.zD),(i_ (x3.length:Int)),(o_ ov21),.own 3 (List.map Qd ov23)]))::l) ke wk (fun _ ⟨k22,ov23⟩ h=>?_);refine Z 9 0 ?_;refine ci h rfl (fun h=>?_) (fun h=>Y);refine Tr.skip ?_;refine cw h [1,2,3,4,5,6] [1,2] (fun _ e=>e) (fun ov39 l=>(4,.cells ([(l_ x5.zD),(i_ (x3.length:Int)),(o_ ov21),.own 3 (List.map Qd ov39)]))::l) ke (fun _ h=>?_) (fun ov39 h=>Y);refine Z 13 1 ?_;intro _ _ h;refine cl (Hcd _ _ _) h (cq fun _ h=>?_);refine Z 7 0 ?_;refine ci h rfl (fun h=>?_) (fun h=>Y);refine Z 11 1 ?_;intro _ h;refine cl (Hcf _ _) h (cq fun _ h=>?_);exact Y
theorem Qsl {P:Program} {c:Nat} {Qbb:_} {Qb2:_}
    (Hcb:Qgp P 88 Qbb)
    (Hca:Qgy P 89 Qb2) (hcf:Ql P c=some Qnq) (fuel:Nat):Qjv P c (Qc0 Qbb Qb2 fuel):=by
 intro av1 g2 r h;refine Qbu hcf rfl fun Γ M hP hnt hM=>?_;subst hP;refine ini ?_;refine Z 12 0 ?_;refine ci h rfl (fun h=>?_) (fun h=>?_)
 ·refine Z 3 0 ?_;refine cl (Hcb _) h (cq fun _ h=>?_);exact Y
 ·refine Z 4 0 ?_;refine cl (Hcb _) h (cq fun x7 h=>?_);refine Z 13 0 ?_;refine cw h [4,5] [3] (fun _ e=>e) (fun (c43,c44,c45,a46,a47,a48) l=>(4,.cells ([(o_ c43),(i_ 0),(o_ c44),.own 3 (List.map Qd c45)]))::(5,.cells ([(l_ x7.zD),(i_ a46),(o_ a47),.own 3 (List.map Qd a48)]))::l) ke (fun _ h=>?_) (fun ⟨c43,c44,c45,a46,a47,a48⟩ h=>?_)
  ·refine Z 5 0 ?_;refine lw h [0,3,4,5] [3] (fun (i8,c9,c10,c11,a12,a13,a14) e=>(6,(i_ i8))::e) (fun (i8,c9,c10,c11,a12,a13,a14) l=>(4,.cells ([(o_ c9),(i_ 0),(o_ c10),.own 3 (List.map Qd c11)]))::(5,.cells ([(l_ x7.zD),(i_ a12),(o_ a13),.own 3 (List.map Qd a14)]))::l) ke wk (fun _ ⟨i8,c9,c10,c11,a12,a13,a14⟩ h=>?_);refine Z 8 0 ?_;refine ci h rfl (fun h=>?_) (fun h=>Y);refine Tr.skip ?_;refine cw h [0,3,4,5,6] [3,4] (fun _ e=>e) (fun (a41,a42) l=>(5,.cells ([(l_ x7.zD),(i_ a12),(o_ a41),.own 3 (List.map Qd a42)]))::l) ke (fun _ h=>?_) (fun ⟨a41,a42⟩ h=>Y);refine Tr.block ?_;refine cw h [0,3,4,5,6] [3,4] (fun _ e=>e) (fun a22 l=>(5,.cells ([(l_ x7.zD),(i_ a12),(o_ a22),.own 3 (List.map Qd a14)]))::l) ke (fun _ h=>?_) (fun a22 h=>?_)
   ·refine Z 5 0 ?_;obtain ⟨s17,h18,h⟩:=bnd h;refine Rn.bin tv rfl rfl (Q2d h18) ?_;refine Z 3 0 ?_;exact cd h rfl (fun h=>Y) (fun h=>Y)
   ·refine Z 5 0 ?_;refine lw h [0,3,4,5,6] [3,4] (fun (k23,a24) e=>(7,(i_ k23))::e) (fun (k23,a24) l=>(5,.cells ([(l_ x7.zD),(i_ a12),(o_ a22),.own 3 (List.map Qd a24)]))::l) ke wk (fun _ ⟨k23,a24⟩ h=>?_);refine Tr.seq ?_;refine cw h [0,3,4,5,6,7] [3,4,5] (fun x27 e=>(47,(b_ x27))::e) (fun _ l=>l) ke (fun _ h=>?_) (fun x27 h=>?_)
    ·refine Z 6 0 ?_;exact bi h (fun _ h=>Y) (fun _ h=>Y)
    ·refine cd h rfl (fun h=>?_) (fun h=>Y);refine Tr.skip ?_;refine cw h [0,3,4,5,6,7] [3,4] (fun _ e=>e) (fun a40 l=>(5,.cells ([(l_ x7.zD),(i_ a12),(o_ a22),.own 3 (List.map Qd a40)]))::l) ke (fun _ h=>?_) (fun a40 h=>Y);refine Z 6 0 ?_;obtain ⟨⟨⟩,h29,h⟩:=bnd h;refine Rn.idxArr (o':=2+(Int.toNat i8*5)) tv rfl rfl rfl h29 ?_;obtain ⟨⟨⟩,h30,h⟩:=bnd h;refine Rn.idxArr (o':=2+(Int.toNat i8*5+Int.toNat k23*1)) tv rfl rfl (Nat.add_assoc ..).symm h30 ?_;obtain ⟨x31,h32,h⟩:=bnd h;refine Rn.loadArr (e:=(fun (z:Int)=>.int .u8 z)) (pre:=[.d (.int .u8 g2.zH),.d (.int .u8 g2.Marks)]) (post:=[]) tv rfl rfl (Qcm rfl) rfl rfl h32 ?_;refine Z 4 0 ?_;obtain ⟨s33,h34,h⟩:=bnd h;refine Rn.bin tv rfl rfl (Qbig h34) ?_;refine Z 9 0 ?_;exact ci h rfl (fun h=>Y) (fun h=>Y)
  ·refine Z 3 0 ?_;refine cl (Hca _) h (cq fun _ h=>?_);exact Y
theorem Qsm {P:Program} {c:Nat} {Qcj:_} {Qc0:_} {Qca:_}
    (Hbp:Qh9 P 51 Qcj)
    (Hbq:Qjv P 52 Qc0)
    (Hbr:Qge P 53 Qca) (hcf:Ql P c=some Qnr):Qjw P c (Qc1 Qcj Qc0 Qca):=by
 intro p1 r h;refine Qbu hcf rfl fun Γ M hP hnt hM=>?_;subst hP;refine ini ?_;refine Z 10 0 ?_;refine cl (Hbp _) h (cq fun _ h=>?_);refine Z 2 0 ?_;refine cl (Hbr _) h (cq fun _ h=>?_);refine Z 2 0 ?_;refine cl (Hbq _ _) h (cq fun _ h=>?_);exact Y
theorem Qlj {P:Program} {c:Nat} (hcf:Ql P c=some Qh0) (fuel:Nat):Qfr P c (Qbf fuel):=by
 intro x1 tv2 cv3 g4 cp5 r h;intro M nb hc6 ho8 hf7;refine Qwt hcf rfl M nb fun Γ hP hnt hn0 hM=>?_;subst hP hn0;refine ini ?_;refine Z 17 0 ?_;refine cw h [0,1,2,8] [] (fun i20 e=>(9,(i_ i20))::e) (fun _ l=>l) ke (fun _ h=>?_) (fun i20 h=>?_)
 ·refine Tr.block ?_;refine lw h [0,1,2,8] [] (fun (i11,j12) e=>(9,(i_ i11))::(10,(i_ j12))::e) (fun _ l=>l) ke wk (fun _ ⟨i11,j12⟩ h=>?_);refine Z 7 0 ?_;refine ci h rfl (fun h=>?_) (fun h=>Y);refine Z 20 1 ?_;intro x15 h;obtain ⟨x18,h17,h⟩:=bnd h;refine Rn.callvM (args:=[(Qjg x15),(i_ tv2)]++cp5) tv rfl (by rw [hc6];rfl) (fun M2 nb2 hn hx=>hf7 _ _ _ h17 M2 nb2 (by omega) ((Qye hM).trans hx)) rfl pc9 ?_;refine Z 2 0 ?_;exact ci h rfl (fun h=>Y) (fun h=>Y)
 ·refine Z 7 0 ?_;refine bi h (fun hb21 h=>?_) (fun hb21 h=>Y);refine Z 6 1 ?_;intro x22 h;obtain ⟨x25,h24,h⟩:=bnd h;refine Rn.callvM (args:=[(Qjg x22),(i_ tv2)]++cp5) (gw rfl hb21) rfl (by rw [hc6];rfl) (fun M2 nb2 hn hx=>hf7 _ _ _ h24 M2 nb2 (by omega) ((Qye hM).trans hx)) rfl pc9 ?_;exact Y
theorem Qv3 {P:Program} {c:Nat} (hcf:Ql P c=some Qq8):Ql1 P c (Qd5):=by
 intro x1 s2 r h;refine Qbu hcf rfl fun Γ M hP hnt hM=>?_;subst hP;refine ini ?_;exact Y
theorem Qv4 {P:Program} {c:Nat} (hcf:Ql P c=some Qq9):Ql2 P c (Qd6):=by
 intro x1 s2 r h;refine Qbu hcf rfl fun Γ M hP hnt hM=>?_;subst hP;refine ini ?_;exact Y
theorem Qyj {P:Program} {c:Nat} {Qbf:_} {Qd5:_} {Qd6:_}
    (Hcw:Qfr P 115 Qbf)
    (Hau:Ql1 P 116 Qd5)
    (Hav:Ql2 P 117 Qd6) (hcf:Ql P c=some Quc):Qo3 P c (Qfh Qbf Qd5 Qd6):=by
 intro a1 sv2 r h;refine Qbu hcf rfl fun Γ M hP hnt hM=>?_;subst hP;refine ini ?_;refine Z 10 0 ?_;refine cm h (fun _ h7 M2 nb2 hn hx=>Hcw _ _ _ 116 [] _ h7 M2 nb2 rfl tv (fun a3 a4 r5 h6 M3 nb3 hn3 hx3=>Hau a3 a4 r5 h6 M3 nb3 )) rfl (cq fun ⟨_,_⟩ h=>?_);refine Z 12 0 ?_;refine cm h (fun _ h14 M2 nb2 hn hx=>Hcw _ _ _ 117 [] _ h14 M2 nb2 rfl tv (fun a10 a11 r12 h13 M3 nb3 hn3 hx3=>Hav a10 a11 r12 h13 M3 nb3 )) rfl (cq fun ⟨_,_⟩ h=>?_);exact Y
theorem Quj {P:Program} {c:Nat} (hcf:Ql P c=some Qp2):Qk4 P c (Qdr):=by
 intro x1 x2 k3 r h;intro M nb hk4;refine Qwt hcf rfl M nb fun Γ hP hnt hn0 hM=>?_;subst hP hn0;refine ini ?_;exact Y
theorem Qpm {P:Program} {c:Nat} (hcf:Ql P c=some Qk5) (fuel:Nat):Qhr P c (Qce fuel):=by
 intro s1 f2 g3 cp4 r h;intro M nb hc5 ho7 hf6;refine Qwt hcf rfl M nb fun Γ hP hnt hn0 hM=>?_;subst hP hn0;refine ini ?_;refine Z 12 0 ?_;refine lw h [0,1,7] [] (fun x9 e=>(8,(i_ x9))::e) (fun _ l=>l) ke wk (fun _ x9 h=>?_);refine Z 5 0 ?_;refine ci h rfl (fun h=>?_) (fun h=>Y);refine Z 15 1 ?_;intro x12 h;obtain ⟨x15,h14,h⟩:=bnd h;refine Rn.callvM (args:=[(Qjg x12)]++cp4) tv rfl (by rw [hc5];rfl) (fun M2 nb2 hn hx=>hf6 _ _ h14 M2 nb2 (by omega) ((Qye hM).trans hx)) rfl pc9 ?_;refine Z 1 0 ?_;exact cd h rfl (fun h=>Y) (fun h=>Y)
theorem Qxg {P:Program} {c:Nat} {Qfh:_} {Qce:_} {Qdr:_}
    (Hat:Qo3 P 86 Qfh)
    (Hdc:Qhr P 165 Qce)
    (Has:Qk4 P 166 Qdr) (hcf:Ql P c=some Qs4):Qm9 P c (Qer Qfh Qce Qdr):=by
 intro a1 sv2 ev3 r h;refine Qbu hcf rfl fun Γ M hP hnt hM=>?_;subst hP;refine ini ?_;refine Z 10 0 ?_;refine cl (Hat _ _) h (cq fun _ h=>?_);refine Z 5 0 ?_;refine Rn.k (v:=.clo 166 [.ptr (Γ.n0+5) 0]) tv rfl rfl rfl ?_;refine cm h (fun _ h9 M2 nb2 hn hx=>Hdc _ _ 166 [.ptr (Γ.n0+5) 0] _ h9 M2 nb2 rfl ⟨Q2e (hx _ _ (Qcm rfl)),tv⟩ (fun a6 r7 h8 M3 nb3 hn3 hx3=>Has a6 ev3 (Γ.n0+5) r7 h8 M3 nb3 ((hx.trans hx3) _ _ (Qcm rfl)))) rfl (cq fun _ h=>?_);refine Z 8 0 ?_;exact ci h rfl (fun h=>Y) (fun h=>Y)
theorem Quk {P:Program} {c:Nat} {Qer:_}
    (Har:Qm9 P 148 Qer) (hcf:Ql P c=some Qp3) (fuel:Nat):Qk6 P c (Qds Qer fuel):=by
 intro a1 sv2 wv3 r h;refine Qbu hcf rfl fun Γ M hP hnt hM=>?_;subst hP;refine ini ?_;refine Z 14 0 ?_;refine lw h [2,3,11,12] [3] (fun (sv4,x5) e=>(1,(i_ sv4))::(13,(i_ x5))::e) (fun _ l=>l) ke wk (fun _ ⟨sv4,x5⟩ h=>?_);refine Z 5 0 ?_;refine ci h rfl (fun h=>?_) (fun h=>Y);refine Z 16 1 ?_;intro _ h;refine cl (Har _ _ _) h (cq fun _ h=>?_);refine Z 8 0 ?_;exact ci h rfl (fun h=>Y) (fun h=>Y)
theorem Qtc {P:Program} {c:Nat} {Qds:_}
    (Haq:Qk6 P 113 Qds) (hcf:Ql P c=some Qo4):Qkh P c (Qdd Qds):=by
 intro a1 wv2 r h;refine Qbu hcf rfl fun Γ M hP hnt hM=>?_;subst hP;refine ini ?_;refine Z 13 0 ?_;refine cd h rfl (fun h=>Y) (fun h=>?_);refine Z 5 0 ?_;refine cl (Haq _ _ _) h (cq fun ⟨_,_⟩ h=>?_);exact Y
theorem Qrl {P:Program} {c:Nat} {Qbc:_} {Qdd:_}
    (Ham:Qhd P 79 Qbc)
    (Haw:Qkh P 84 Qdd) (hcf:Ql P c=some Qmr):Qi5 P c (Qcw Qbc Qdd):=by
 intro a1 wv2 r h;refine Qbu hcf rfl fun Γ M hP hnt hM=>?_;subst hP;refine ini ?_;refine Z 10 0 ?_;refine cl (Ham _) h (cq fun _ h=>?_);refine Z 7 0 ?_;refine cd h rfl (fun h=>Y) (fun h=>?_);refine Z 5 0 ?_;refine cl (Haw _ _) h (cq fun ⟨_,_⟩ h=>?_);exact Y
theorem Qnd {P:Program} {c:Nat} (hcf:Ql P c=some Qjp) (fuel:Nat):Qgf P c (Qbr fuel):=by
 intro ev1 r h;refine Qbu hcf rfl fun Γ M hP hnt hM=>?_;subst hP;refine ini ?_;refine Z 8 0 ?_;refine cw h [] [] (fun ov12 e=>(3,(o_ ov12))::e) (fun _ l=>l) ke (fun _ h=>?_) (fun ov12 h=>Y);refine Z 5 0 ?_;refine lw h [0] [] (fun (ov2,i3) e=>(3,(o_ ov2))::(4,(i_ i3))::e) (fun _ l=>l) ke wk (fun _ ⟨ov2,i3⟩ h=>?_);refine Z 8 0 ?_;refine ci h rfl (fun h=>?_) (fun h=>Y);refine Tr.skip ?_;refine cw h [0,4] [] (fun ov11 e=>(3,(o_ ov11))::e) (fun _ l=>l) ke (fun _ h=>?_) (fun ov11 h=>Y);refine Z 9 1 ?_;intro _ h;exact cd h rfl (fun h=>Y) (fun h=>Y)
theorem Qzq {P:Program} {c:Nat} {Q3:_}
    (Hab:Qf7 P 64 Q3) (hcf:Ql P c=some Qwv) (fuel:Nat):Qqd P c (Qe7 Q3 fuel):=by
 intro w1 xv2 r h;refine Qbu hcf rfl fun Γ M hP hnt hM=>?_;subst hP;refine ini ?_;refine Z 8 0 ?_;refine cw h [] [] (fun ov15 e=>(5,(o_ ov15))::e) (fun _ l=>l) ke (fun _ h=>?_) (fun ov15 h=>Y);refine Z 7 0 ?_;refine lw h [1,8,9] [] (fun (ov3,x4) e=>(5,(o_ ov3))::(10,(i_ x4))::e) (fun _ l=>l) ke wk (fun _ ⟨ov3,x4⟩ h=>?_);refine Z 5 0 ?_;refine ci h rfl (fun h=>?_) (fun h=>Y);refine Tr.skip ?_;refine cw h [1,8,9,10] [] (fun ov14 e=>(5,(o_ ov14))::e) (fun _ l=>l) ke (fun _ h=>?_) (fun ov14 h=>Y);refine Z 11 1 ?_;intro _ h;refine cl (Hab _ _) h (cq fun _ h=>?_);refine Z 1 0 ?_;exact cd h rfl (fun h=>Y) (fun h=>Y)
theorem Qtd {P:Program} {c:Nat} {Qb5:_}
    (Hbl:Qjh P 78 Qb5) (hcf:Ql P c=some Qo5) (fuel:Nat):Qki P c (Qde Qb5 fuel):=by
 intro ev1 r h;refine Qbu hcf rfl fun Γ M hP hnt hM=>?_;subst hP;refine ini ?_;refine Z 5 0 ?_;refine cw h [] [] (fun (cv20,pv21) e=>(2,(o_ cv20))::(3,(o_ pv21))::e) (fun _ l=>l) ke (fun _ h=>?_) (fun ⟨cv20,pv21⟩ h=>Y);refine Z 5 0 ?_;refine lw h [0] [] (fun (cv2,pv3,cv4) e=>(2,(o_ cv2))::(3,(o_ pv3))::(4,(i_ cv4))::e) (fun _ l=>l) ke wk (fun _ ⟨cv2,pv3,cv4⟩ h=>?_);refine Tr.seq ?_;refine cw h [0,2,3,4] [] (fun x7 e=>(12,(b_ x7))::e) (fun _ l=>l) ke (fun _ h=>?_) (fun x7 h=>?_)
 ·refine Z 4 0 ?_;exact bi h (fun _ h=>Y) (fun _ h=>Y)
 ·refine cd h rfl (fun h=>?_) (fun h=>Y);refine Tr.skip ?_;refine cw h [0,4] [] (fun (cv18,pv19) e=>(2,(o_ cv18))::(3,(o_ pv19))::e) (fun _ l=>l) ke (fun _ h=>?_) (fun ⟨cv18,pv19⟩ h=>Y);refine Z 5 0 ?_;refine cl (Hbl _ _) h (cq fun _ h=>?_);refine Z 2 0 ?_;refine cw h [0,3,4,5] [] (fun cv14 e=>(2,(o_ cv14))::e) (fun _ l=>l) ke (fun _ h=>?_) (fun cv14 h=>?_)
  ·refine Z 7 0 ?_;exact cd h rfl (fun h=>Y) (fun h=>Y)
  ·refine Z 5 0 ?_;exact ci h rfl (fun h=>Y) (fun h=>Y)
theorem Qsn {P:Program} {c:Nat} (hcf:Ql P c=some Qns) (fuel:Nat):Qg3 P c (Qba fuel):=by
 intro l1 x2 r h;refine Qbu hcf rfl fun Γ M hP hnt hM=>?_;subst hP;refine ini ?_;refine Z 11 0 ?_;refine lw h [0,3] [3] (fun i3 e=>(5,(i_ i3))::e) (fun _ l=>l) ke wk (fun _ i3 h=>?_);refine Z 8 0 ?_;refine ci h rfl (fun h=>?_) (fun h=>Y);refine Z 10 1 ?_;intro x6 h;refine Rn.eqa (r:=((x6.State==x2.State)&&((x6.Classes==x2.Classes)&&true))) tv rfl rfl rfl ?_;refine Z 1 0 ?_;exact cd h rfl (fun h=>Y) (fun h=>Y)
theorem Qul {P:Program} {c:Nat} (hcf:Ql P c=some Qp4):Qk7 P c (Qei):=by
 intro iv1 iv2 r h;refine Qbu hcf rfl fun Γ M hP hnt hM=>?_;subst hP;refine ini ?_;refine Z 8 0 ?_;exact bs h (fun _ h=>Y) (fun _ h=>Y)
theorem Qxh {P:Program} {c:Nat} {Qcc:_} {Qei:_}
    (Hal:Qj9 P 106 Qcc)
    (Hag:Qk7 P 114 Qei) (hcf:Ql P c=some Qs5):Qna P c (Qes Qcc Qei):=by
 intro a1 b2 r h;refine Qbu hcf rfl fun Γ M hP hnt hM=>?_;subst hP;refine ini ?_;refine Z 8 0 ?_;refine cm h (fun _ h7 M2 nb2 hn hx=>Hal _ _ _ 114 [] _ h7 M2 nb2 rfl tv (fun a3 a4 r5 h6 M3 nb3 hn3 hx3=>Hag a3 a4 r5 h6 M3 nb3 )) rfl (cq fun _ h=>?_);exact Y
theorem Qv5 {P:Program} {c:Nat} {Qes:_}
    (Haf:Qna P 85 Qes) (hcf:Ql P c=some Qra):Ql3 P c (Qd7 Qes):=by
 intro a1 b2 r h;refine Qbu hcf rfl fun Γ M hP hnt hM=>?_;subst hP;refine ini ?_;refine Z 8 0 ?_;refine cl (Haf _ _) h (cq fun _ h=>?_);exact Y
theorem Qso {P:Program} {c:Nat} (hcf:Ql P c=some Qnt):Qg4 P c (Qbm):=by
 intro ev1 x2 y3 r h;refine Qbu hcf rfl fun Γ M hP hnt hM=>?_;subst hP;refine ini ?_;refine Z 32 1 ?_;intro _ h;refine ci h rfl (fun h=>?_) (fun h=>Y);refine Z 5 0 ?_;obtain ⟨s7,h8,h⟩:=bnd h;refine Rn.bin tv rfl rfl (Qbdw h8) ?_;exact Y
end Go.Abs
end
section
namespace Go.Abs
open Go
set_option maxRecDepth 10000
set_option maxHeartbeats 4000000
theorem Qk9 {P:Program} {c:Nat} {Qct:_} {Qc1:_} {Qbr:_} {Qt:_} {Qde:_} {Qcw:_} {Qe7:_} {Qba:_} {Qd7:_} {Qbm:_}
    (Hbv:Qi2 P 11 Qct)
    (Hbs:Qjw P 12 Qc1)
    (Hbw:Qgf P 21 Qbr)
    (Hbc:Qfv P 27 Qt)
    (Hbb:Qki P 30 Qde)
    (Han:Qi5 P 43 Qcw)
    (Hdl:Qqd P 44 Qe7)
    (Hbt:Qg3 P 45 Qba)
    (Haj:Ql3 P 46 Qd7)
    (Hbz:Qg4 P 47 Qbm) (hcf:Ql P c=some Qhl) (fuel:Nat):Qhk P c (Qfi Qct Qc1 Qbr Qt Qde Qcw Qe7 Qba Qd7 Qbm fuel):=by
 intro p1 w2 mv3 r h;refine Qbip hcf (args':=[(Qit p1),(f_ w2),.d (.int .u8 mv3)]) rfl rfl rfl rfl rfl rfl fun Γ M hP hnt hG hM0 hM hX=>?_;subst hP;refine ini ?_;refine Z 6 0 ?_;refine cu h (fun x7=>⟨look [(1,(f_ w2)),(2,.d (.int .u8 mv3)),(3,.ptr (Γ.n0+3) 0),(31,(b_ x7))],Qi Γ.n0 (bxs [(3,.cells ((Q5 p1)))]) M,Γ.n0+184⟩) (fun _ h=>?_) (fun x7 h=>?_)
 ·refine Tr.rgn ?_;refine cl Hbv h (cq fun _ h=>?_);refine Z 2 0 ?_;refine bs h (fun _ h=>?_) (fun _ h=>Y);refine Z 1 0 ?_;refine Rn.weak (wS [0,1,2,3,6,25,26,27] [3] (fun e=>(28,(l_ w2))::e) (fun l=>l) ke wk) ?_;exact Y
 ·refine cd h rfl (fun h=>?_) (fun h=>?_)
  ·refine Z 2 0 ?_;refine cl Hbv h (cq fun _ h=>?_);exact Y
  ·refine Z 4 0 ?_;refine cl (Hbs _) h (cq fun ⟨r12,r13⟩ h=>?_);refine Z 12 0 ?_;obtain ⟨⟨r15,r16⟩,h14,h⟩:=bnd h;refine Rn.call (args:=[(Qp r13),(f_ w2)]) tv rfl (fun M2 nb2=>ACalls.weak (args':=[(Qp r13),(l_ w2)]) (Han _ _ _ h14 M2 nb2) (.cons (sm rfl) (.cons fToD .nil)) rfl) pc9 ?_;refine Z 6 0 ?_;refine cu h (fun x18=>⟨look [(1,(f_ w2)),(2,.d (.int .u8 mv3)),(7,.d (.lst 5 (List.map Qf r12))),(8,.ptr (Γ.n0+8) 0),(10,(i_ r16)),(49,(b_ x18))],Qi Γ.n0 (bxs [(3,.cells ((Q5 p1))),(8,.cells ((Qn r13)))]) M,Γ.n0+184⟩) (fun _ h=>?_) (fun x18 h=>?_)
   ·refine Z 4 0 ?_;exact bs h (fun _ h=>Y) (fun _ h=>Y)
   ·refine cd h rfl (fun h=>Y) (fun h=>?_);refine Tr.skip ?_;refine Tr.weak (wS [1,2,7,8] [3,8] (fun e=>e) (fun l=>l) ke wk) ?_;refine toFL (E':=[(1,(f_ w2)),(2,.d (.int .u8 mv3)),(7,.f (.lst 5 (List.map Qf r12))),(8,.ptr (Γ.n0+8) 0)]) (L':=bxs [(3,.cells ((Q5 p1))),(8,.cells ([(f_ r13.zD),(i_ r13.zH),(f_ r13.zF),.f (.lst 3 (List.map Qd r13.zG))]))]) hX rfl rfl rfl rfl ?_;refine Z 4 0 ?_;refine Rn.weak (wS [1,2,7,8,52] [3,8,52] (fun e=>(53,.d (.lst 5 (List.map Qf r12)))::e) (fun l=>l) ke wk) ?_;refine Z 3 1 ?_;intro x20 h;obtain ⟨⟨⟩,hx22,h⟩:=bnd h;refine Tr.weak (wS [1,2,7,8,11,52] [3,8,52] (fun e=>e) (fun l=>l) ke wk) ?_;refine Qbj4 hG hM0 11 11 (e:=Qf) (fun (x:Qe)=>[V.d (.str x.Name),V.d (.bool x.Controllable),V.d (.bool x.Observable),V.d (.bool x.zC),V.d (.int .i64 x.Fault)]) (fun _=>rfl) (Qbf2 hx22) (fun _=>rfl) rfl rfl rfl ⟨rfl,rfl,rfl,rfl,rfl,(Qbfy (fun _=>rfl)),rfl,tv⟩ ⟨⟨rfl,rfl,rfl,rfl,rfl,rfl,rfl,rfl,rfl,rfl,rfl,rfl,rfl,rfl,rfl,rfl,rfl,rfl,rfl,rfl,rfl,rfl,rfl,rfl,rfl,rfl,rfl,rfl,rfl,rfl,rfl,rfl,rfl,tv⟩,⟨rfl,rfl,rfl,rfl,tv⟩,tv,tv⟩ (fun c23 R24 hc25=>?_);refine Tr.weak (wS [1,2,7,8,11,52] [3,8,11,52] (fun e=>e) (fun l=>l) ke wk) ?_;refine cu h (fun wv45=>⟨look [(1,(l_ w2)),(7,.d (.lst 5 (List.map Qf r12))),(8,.ptr (Γ.n0+8) 0),(11,.sl 5 (Γ.n0+11) 0 x20.length c23)],Qi Γ.n0 (bxs [(3,.cells ((Q5 p1))),(8,.cells ([(f_ r13.zD),(i_ r13.zH),(f_ r13.zF),.f (.lst 3 (List.map Qd r13.zG))])),(11,.cells (rowR (fun (x:Qe)=>[V.d (.str x.Name),V.d (.bool x.Controllable),V.d (.bool x.Observable),V.d (.bool x.zC),V.d (.int .i64 x.Fault)]) wv45 R24)),(52,.cells ([]))]) M,Γ.n0+184⟩) (fun _ h=>?_) (fun wv45 h=>?_)
    ·refine Z 5 0 ?_;refine Tr.weak (wS [2,8,11,12,52] [3,8,11,52] (fun e=>(1,(l_ w2))::(7,.d (.lst 5 (List.map Qf r12)))::e) (fun l=>l) ke wk) ?_;refine lo h (fun (i26,wv27)=>⟨look [(1,(l_ w2)),(2,.d (.int .u8 mv3)),(7,.d (.lst 5 (List.map Qf r12))),(8,.ptr (Γ.n0+8) 0),(11,.sl 5 (Γ.n0+11) 0 x20.length c23),(12,(i_ i26))],Qi Γ.n0 (bxs [(3,.cells ((Q5 p1))),(8,.cells ([(f_ r13.zD),(i_ r13.zH),(f_ r13.zF),.f (.lst 3 (List.map Qd r13.zG))])),(11,.cells (rowR (fun (x:Qe)=>[V.d (.str x.Name),V.d (.bool x.Controllable),V.d (.bool x.Observable),V.d (.bool x.zC),V.d (.int .i64 x.Fault)]) wv27 R24)),(52,.cells ([]))]) M,Γ.n0+184⟩) wk (fun _ ⟨i26,wv27⟩ h=>?_);refine Z 8 0 ?_;refine ci h rfl (fun h=>?_) (fun h=>Y);refine Tr.skip ?_;refine cu h (fun wv44=>⟨look [(1,(l_ w2)),(2,.d (.int .u8 mv3)),(7,.d (.lst 5 (List.map Qf r12))),(8,.ptr (Γ.n0+8) 0),(11,.sl 5 (Γ.n0+11) 0 x20.length c23),(12,(i_ i26))],Qi Γ.n0 (bxs [(3,.cells ((Q5 p1))),(8,.cells ([(f_ r13.zD),(i_ r13.zH),(f_ r13.zF),.f (.lst 3 (List.map Qd r13.zG))])),(11,.cells (rowR (fun (x:Qe)=>[V.d (.str x.Name),V.d (.bool x.Controllable),V.d (.bool x.Observable),V.d (.bool x.zC),V.d (.int .i64 x.Fault)]) wv44 R24)),(52,.cells ([]))]) M,Γ.n0+184⟩) (fun _ h=>?_) (fun wv44 h=>Y);refine Tr.block ?_;refine cu h (fun x37=>⟨look [(1,(l_ w2)),(2,.d (.int .u8 mv3)),(7,.d (.lst 5 (List.map Qf r12))),(8,.ptr (Γ.n0+8) 0),(11,.sl 5 (Γ.n0+11) 0 x20.length c23),(12,(i_ i26)),(73,(b_ x37))],Qi Γ.n0 (bxs [(3,.cells ((Q5 p1))),(8,.cells ([(f_ r13.zD),(i_ r13.zH),(f_ r13.zF),.f (.lst 3 (List.map Qd r13.zG))])),(11,.cells (rowR (fun (x:Qe)=>[V.d (.str x.Name),V.d (.bool x.Controllable),V.d (.bool x.Observable),V.d (.bool x.zC),V.d (.int .i64 x.Fault)]) wv27 R24)),(52,.cells ([]))]) M,Γ.n0+184⟩) (fun _ h=>?_) (fun x37 h=>?_)
     ·refine Z 3 0 ?_;obtain ⟨s30,h31,h⟩:=bnd h;refine Rn.bin tv rfl rfl (Q2d h31) ?_;refine Z 3 0 ?_;refine bs h (fun hb32 h=>?_) (fun hb32 h=>Y);refine Z 4 1 ?_;intro h;obtain ⟨x35,h36,h⟩:=bnd h;refine Rn.loadR (g:=(fun (x:Qe)=>[V.d (.str x.Name),V.d (.bool x.Controllable),V.d (.bool x.Observable),V.d (.bool x.zC),V.d (.int .i64 x.Fault)])) (v:=(i_ x35.Fault)) (f:=4) (fun _=>rfl) (gw rfl hb32) rfl (Qcm rfl) h36 rfl rfl ?_;exact Y
     ·refine cd h rfl (fun h=>?_) (fun h=>Y);refine Z 5 1 ?_;intro h;obtain ⟨wv42,h43,h⟩:=bnd h;refine Rn.storeF (g:=(fun (x:Qe)=>[V.d (.str x.Name),V.d (.bool x.Controllable),V.d (.bool x.Observable),V.d (.bool x.zC),V.d (.int .i64 x.Fault)])) (f:=2) (φ:=(fun (z41:Qe)=>(Qe.mk z41.Name z41.Controllable true z41.zC z41.Fault))) (v:=(b_ true)) (fun _=>rfl) (fun _=>rfl) tv rfl rfl rfl rfl rfl rfl h43 ?_;exact Y
    ·refine Z 16 0 ?_;obtain ⟨⟨⟩,hl46,h⟩:=bnd h;refine Tr.weak (by show WeakSt Γ _ ⟨look [(1,(l_ w2)),(7,.d (.lst 5 (List.map Qf r12))),(8,.ptr (Γ.n0+8) 0),(11,.d (.lst 5 (List.map Qf wv45))),(13,.ptr (Γ.n0+13) 0),(14,.nils 1),(15,(i_ 0)),(78,.agg [(i_ 0),(i_ 0)])],Qi Γ.n0 (bxs [(3,.cells ((Q5 p1))),(8,.cells ([(f_ r13.zD),(i_ r13.zH),(f_ r13.zF),.f (.lst 3 (List.map Qd r13.zG))])),(13,.cells ([(i_ 0),(i_ 0)])),(52,.cells ([]))]) M,Γ.n0+184⟩;exact Qt4 11 _ rfl (preR (fun _=>rfl)) ⟨(.same rfl),(.same rfl),(fPtr rfl),(fSlT (fun _=>rfl) (Qjz hl46) hc25),(fPtr rfl),(.same rfl),(.same rfl),(.same rfl),tv⟩ ⟨⟨_,rfl,rfl,(.same rfl)⟩,⟨_,rfl,rfl,(.same rfl)⟩,⟨_,rfl,rfl,(.same rfl)⟩,⟨_,rfl,rfl,(.same rfl)⟩,tv⟩ rfl) ?_;refine lo h (fun (bv47,k48,c49,c50)=>⟨look [(1,(l_ w2)),(7,.d (.lst 5 (List.map Qf r12))),(8,.ptr (Γ.n0+8) 0),(11,.d (.lst 5 (List.map Qf wv45))),(13,.ptr (Γ.n0+13) 0),(14,(l_ bv47)),(15,(i_ k48))],Qi Γ.n0 (bxs [(3,.cells ((Q5 p1))),(8,.cells ([(f_ r13.zD),(i_ r13.zH),(f_ r13.zF),.f (.lst 3 (List.map Qd r13.zG))])),(13,.cells ([(i_ c49),(i_ c50)])),(52,.cells ([]))]) M,Γ.n0+184⟩) wk (fun _ ⟨bv47,k48,c49,c50⟩ h=>?_);refine Z 8 0 ?_;refine ci h rfl (fun h=>?_) (fun h=>Y);refine Tr.skip ?_;refine Tr.cutJ (fun ((bv107,c108,c109):(List Int)×Int×Int)=>⟨look [(1,(l_ w2)),(7,.d (.lst 5 (List.map Qf r12))),(8,.ptr (Γ.n0+8) 0),(11,.d (.lst 5 (List.map Qf wv45))),(13,.ptr (Γ.n0+13) 0),(14,(l_ bv107)),(15,(i_ k48))],Qi Γ.n0 (bxs [(3,.cells ((Q5 p1))),(8,.cells ([(f_ r13.zD),(i_ r13.zH),(f_ r13.zF),.f (.lst 3 (List.map Qd r13.zG))])),(13,.cells ([(i_ c108),(i_ c109)])),(52,.cells ([]))]) M,Γ.n0+184⟩) h (fun J110 h=>?_) (fun z h=>?_)
     ·refine Z 9 1 ?_;intro _ h;refine cl (Hbw _) h (cq fun _ h=>?_);refine cl (Hdl _ _) h (cq fun x58 h=>?_);obtain ⟨⟨r60,r61⟩,h59,h⟩:=bnd h;refine Rn.call (args:=[.d (.lst 5 (List.map Qf r12)),.agg [(f_ r13.zD),(i_ r13.zH),(f_ r13.zF),.f (.lst 3 (List.map Qd r13.zG))],(l_ x58)]) tv rfl (fun M2 nb2=>ACalls.weak (args':=[.d (.lst 5 (List.map Qf r12)),(Qp r13),(l_ x58)]) (Hbc _ _ _ _ h59 M2 nb2) (.cons (sm rfl) (.cons (WkV.agg (.cons fToD (.cons (sm rfl) (.cons fToD (.cons fToD .nil))))) (.cons (sm rfl) .nil))) rfl) (fun _=>Q2c hM rfl) ?_;refine Z 14 1 ?_;intro _ h;refine cl (Hbw _) h (cq fun _ h=>?_);refine cl (Hdl _ _) h (cq fun x67 h=>?_);obtain ⟨⟨r69,r70⟩,h68,h⟩:=bnd h;refine Rn.call (args:=[.d (.lst 5 (List.map Qf wv45)),.agg [(f_ r13.zD),(i_ r13.zH),(f_ r13.zF),.f (.lst 3 (List.map Qd r13.zG))],(l_ x67)]) tv rfl (fun M2 nb2=>ACalls.weak (args':=[.d (.lst 5 (List.map Qf wv45)),(Qp r13),(l_ x67)]) (Hbc _ _ _ _ h68 M2 nb2) (.cons (sm rfl) (.cons (WkV.agg (.cons fToD (.cons (sm rfl) (.cons fToD (.cons fToD .nil))))) (.cons (sm rfl) .nil))) rfl) (fun _=>Q2c hM rfl) ?_;refine Z 9 0 ?_;refine cl (Hbb _) h (cq fun ⟨r72,_⟩ h=>?_);refine Z 7 0 ?_;refine cu h (fun x84=>⟨look [(1,(l_ w2)),(7,.d (.lst 5 (List.map Qf r12))),(8,.ptr (Γ.n0+8) 0),(11,.d (.lst 5 (List.map Qf wv45))),(13,.ptr (Γ.n0+13) 0),(15,(i_ k48)),(16,.d (.lst 2 (List.map Qc r60))),(18,.d (.lst 2 (List.map Qc r69))),(20,(l_ r72)),(137,(b_ x84))],Qi Γ.n0 (bxs [(3,.cells ((Q5 p1))),(8,.cells ([(f_ r13.zD),(i_ r13.zH),(f_ r13.zF),.f (.lst 3 (List.map Qd r13.zG))])),(13,.cells ([(i_ c49),(i_ c50)])),(52,.cells ([]))]) M,Γ.n0+184⟩) (fun _ h=>?_) (fun x84 h=>?_)
      ·refine Z 4 0 ?_;refine bs h (fun _ h=>Y) (fun _ h=>?_);refine Z 4 0 ?_;refine bs h (fun _ h=>Y) (fun _ h=>?_);refine Z 2 0 ?_;refine cl (Hbt _ _) h (cq fun _ h=>?_);refine Z 3 0 ?_;refine bi h (fun _ h=>Y) (fun _ h=>?_);refine Z 2 0 ?_;refine cl (Hbt _ _) h (cq fun _ h=>?_);refine Z 3 0 ?_;refine bi h (fun _ h=>Y) (fun _ h=>?_);refine Z 2 0 ?_;refine cl (Haj _ _) h (cq fun _ h=>?_);exact Y
      ·refine cd h rfl (fun h=>Y) (fun h=>?_);refine Z 7 0 ?_;refine lo h (fun i86=>⟨look [(1,(l_ w2)),(7,.d (.lst 5 (List.map Qf r12))),(8,.ptr (Γ.n0+8) 0),(11,.d (.lst 5 (List.map Qf wv45))),(13,.ptr (Γ.n0+13) 0),(15,(i_ k48)),(16,.d (.lst 2 (List.map Qc r60))),(18,.d (.lst 2 (List.map Qc r69))),(20,(l_ r72)),(22,(i_ i86))],Qi Γ.n0 (bxs [(3,.cells ((Q5 p1))),(8,.cells ([(f_ r13.zD),(i_ r13.zH),(f_ r13.zF),.f (.lst 3 (List.map Qd r13.zG))])),(13,.cells ([(i_ c49),(i_ c50)])),(52,.cells ([]))]) M,Γ.n0+184⟩) wk (fun _ i86 h=>?_);refine Z 8 0 ?_;refine ci h rfl (fun h=>?_) (fun h=>?_)
       ·refine Z 10 1 ?_;intro _ h;refine cl (Hbt _ _) h (cq fun _ h=>?_);refine Z 2 0 ?_;exact ci h rfl (fun h=>Y) (fun h=>Y)
       ·refine Z 10 0 ?_;refine Rn.weak (wS [1,7,8,11,13,14,15,16,18,20,22,138,139,140,141,151,152] [3,8,13,52] (fun e=>(153,.d (.lst 3 (List.map Qd r13.zG)))::e) (fun l=>l) ke wk) ?_;refine Z 4 0 ?_;refine lo h (fun x94=>⟨look [(1,(l_ w2)),(7,.d (.lst 5 (List.map Qf r12))),(8,.ptr (Γ.n0+8) 0),(11,.d (.lst 5 (List.map Qf wv45))),(13,.ptr (Γ.n0+13) 0),(14,(l_ r72)),(15,(i_ k48)),(153,.d (.lst 3 (List.map Qd r13.zG))),(154,(i_ (r13.zG.length:Int))),(155,(i_ x94))],Qi Γ.n0 (bxs [(3,.cells ((Q5 p1))),(8,.cells ([(f_ r13.zD),(i_ r13.zH),(f_ r13.zF),.f (.lst 3 (List.map Qd r13.zG))])),(13,.cells ([(i_ c49),(i_ c50)])),(52,.cells ([]))]) M,Γ.n0+184⟩) wk (fun _ x94 h=>?_);refine Z 5 0 ?_;refine ci h rfl (fun h=>?_) (fun h=>?_)
        ·refine Z 10 1 ?_;intro x97 h;refine cu h (fun x103=>⟨look [(1,(l_ w2)),(7,.d (.lst 5 (List.map Qf r12))),(8,.ptr (Γ.n0+8) 0),(11,.d (.lst 5 (List.map Qf wv45))),(13,.ptr (Γ.n0+13) 0),(14,(l_ r72)),(15,(i_ k48)),(24,.ptr (Γ.n0+24) 0),(153,.d (.lst 3 (List.map Qd r13.zG))),(154,(i_ (r13.zG.length:Int))),(155,(i_ x94)),(178,(b_ x103))],Qi Γ.n0 (bxs [(3,.cells ((Q5 p1))),(8,.cells ([(f_ r13.zD),(i_ r13.zH),(f_ r13.zF),.f (.lst 3 (List.map Qd r13.zG))])),(13,.cells ([(i_ c49),(i_ c50)])),(24,.cells ((Qh4 x97))),(52,.cells ([]))]) M,Γ.n0+184⟩) (fun _ h=>?_) (fun x103 h=>?_)
         ·refine Z 6 0 ?_;refine bi h (fun _ h=>?_) (fun _ h=>Y);refine Z 7 0 ?_;exact bs h (fun _ h=>Y) (fun _ h=>Y)
         ·refine cd h rfl (fun h=>?_) (fun h=>Y);refine Z 5 0 ?_;refine cl (Hbz _ _ _) h (cq fun _ h=>?_);refine Z 3 0 ?_;exact ⟨_,h,(by exact Qif [24] ⟨(sm rfl),(sm rfl),(kPtr rfl),(sm rfl),(kPtr rfl),(sm rfl),(sm rfl),tv⟩ ⟨⟨_,rfl,rfl,(.same rfl)⟩,⟨_,rfl,rfl,(.same rfl)⟩,⟨_,rfl,rfl,(.same rfl)⟩,⟨_,rfl,rfl,(.same rfl)⟩,tv⟩ rfl)⟩
        ·refine Tr.exit ?_;exact ⟨_,h,(by exact Qif [] ⟨(sm rfl),(sm rfl),(kPtr rfl),(sm rfl),(kPtr rfl),(sm rfl),(sm rfl),tv⟩ ⟨⟨_,rfl,rfl,(.same rfl)⟩,⟨_,rfl,rfl,(.same rfl)⟩,⟨_,rfl,rfl,(.same rfl)⟩,⟨_,rfl,rfl,(.same rfl)⟩,tv⟩ rfl)⟩
     ·obtain ⟨bv107,c108,c109⟩:=z;exact Y
theorem Qte {P:Program} {c:Nat} (hcf:Ql P c=some Qo6) (fuel:Nat):Qkj P c (Qdf fuel):=by
 intro l1 n2 r h;refine Qbu hcf rfl fun Γ M hP hnt hM=>?_;subst hP;refine ini ?_;refine Z 10 0 ?_;refine lw h [0,1] [] (fun i3 e=>(5,(i_ i3))::e) (fun _ l=>l) ke wk (fun _ i3 h=>?_);refine Z 8 0 ?_;refine ci h rfl (fun h=>?_) (fun h=>Y);refine Z 12 1 ?_;intro _ h;exact cd h rfl (fun h=>Y) (fun h=>Y)
theorem Qrm {P:Program} {c:Nat} {Qba:_} {Qbm:_} {Qdf:_}
    (Hbt:Qg3 P 45 Qba)
    (Hbz:Qg4 P 47 Qbm)
    (Hbu:Qkj P 66 Qdf) (hcf:Ql P c=some Qmt) (fuel:Nat):Qms P c (Qgq Qba Qbm Qdf fuel):=by
 intro ev1 a2 r h;refine Qbu hcf rfl fun Γ M hP hnt hM=>?_;subst hP;refine ini ?_;refine Z 10 0 ?_;refine Rn.buildT (v:=.agg [(l_ a2.zD),(i_ 0),.nils 1,.nils 3]) tv rfl ?_;refine Z 10 0 ?_;refine cd h rfl (fun h=>Y) (fun h=>?_);refine Z 7 0 ?_;refine cu h (fun (l52,c53,c54,c55,ov56,ov57)=>⟨look [(4,.ptr (Γ.n0+4) 0),(6,.ptr (Γ.n0+6) 0),(7,.own 2 (List.map Qc l52))],Qi Γ.n0 (bxs [(3,.cells ((Qn a2))),(4,.cells ([(o_ c53),(i_ 0),(o_ c54),.own 3 (List.map Qd c55)])),(6,.cells ([(l_ a2.zD),(i_ 0),(o_ ov56),.own 3 (List.map Qd ov57)]))]) M,Γ.n0+91⟩) (fun _ h=>?_) (fun ⟨l52,c53,c54,c55,ov56,ov57⟩ h=>Y);refine Z 5 0 ?_;refine Tr.weak (by show WeakSt Γ _ ⟨look ((7,.own 2 (List.map Qc [(Qb.mk 0 0)]))::[(0,.d (.lst 5 (List.map Qf ev1))),(1,(Qp a2)),(3,.ptr (Γ.n0+3) 0),(4,.ptr (Γ.n0+4) 0),(5,.nils 2),(6,.ptr (Γ.n0+6) 0),(8,(i_ 0)),(13,.ptr (Γ.n0+3) 0),(14,(l_ a2.zD)),(15,.agg [(l_ a2.zD),(i_ 0),.nils 1,.nils 3]),(16,.ptr (Γ.n0+3) 1),(17,(i_ a2.zH)),(18,(b_ (a2.zH==0))),(20,.agg [(i_ 0),(i_ 0)])] ),Qi Γ.n0 (bxs [(3,.cells ((Qn a2))),(4,.cells ([.nils 1,(i_ 0),.nils 1,.nils 3])),(6,.cells ([(l_ a2.zD),(i_ 0),.nils 1,.nils 3]))]) M,Γ.n0+91⟩;exact Q2g 21 7 [.int .i64 0,.int .i64 0] rfl rfl rfl rfl rfl ⟨(sm rfl),(sm rfl),(kPtr rfl),(kPtr rfl),(sm rfl),(kPtr rfl),(sm rfl),(kPtr rfl),(sm rfl),(sm rfl),(kPtr rfl),(sm rfl),(sm rfl),(sm rfl),tv⟩ ⟨⟨_,rfl,rfl,(.same rfl)⟩,⟨_,rfl,rfl,(.same rfl)⟩,⟨_,rfl,rfl,(.same rfl)⟩,tv⟩ rfl) ?_;refine lo h (fun (l4,i5,c6,c7,c8,ov9,ov10)=>⟨look [(0,.d (.lst 5 (List.map Qf ev1))),(3,.ptr (Γ.n0+3) 0),(4,.ptr (Γ.n0+4) 0),(6,.ptr (Γ.n0+6) 0),(7,.own 2 (List.map Qc l4)),(8,(i_ i5))],Qi Γ.n0 (bxs [(3,.cells ((Qn a2))),(4,.cells ([(o_ c6),(i_ 0),(o_ c7),.own 3 (List.map Qd c8)])),(6,.cells ([(l_ a2.zD),(i_ 0),(o_ ov9),.own 3 (List.map Qd ov10)]))]) M,Γ.n0+91⟩) wk (fun _ ⟨l4,i5,c6,c7,c8,ov9,ov10⟩ h=>?_);refine Z 8 0 ?_;refine ci h rfl (fun h=>?_) (fun h=>Y);refine Tr.skip ?_;refine cu h (fun (l49,ov50,ov51)=>⟨look [(0,.d (.lst 5 (List.map Qf ev1))),(3,.ptr (Γ.n0+3) 0),(4,.ptr (Γ.n0+4) 0),(6,.ptr (Γ.n0+6) 0),(7,.own 2 (List.map Qc l49)),(8,(i_ i5))],Qi Γ.n0 (bxs [(3,.cells ((Qn a2))),(4,.cells ([(o_ c6),(i_ 0),(o_ c7),.own 3 (List.map Qd c8)])),(6,.cells ([(l_ a2.zD),(i_ 0),(o_ ov50),.own 3 (List.map Qd ov51)]))]) M,Γ.n0+91⟩) (fun _ h=>?_) (fun ⟨l49,ov50,ov51⟩ h=>Y);refine Tr.block ?_;refine cu h (fun ov20=>⟨look [(0,.d (.lst 5 (List.map Qf ev1))),(3,.ptr (Γ.n0+3) 0),(4,.ptr (Γ.n0+4) 0),(6,.ptr (Γ.n0+6) 0),(7,.own 2 (List.map Qc l4)),(8,(i_ i5))],Qi Γ.n0 (bxs [(3,.cells ((Qn a2))),(4,.cells ([(o_ c6),(i_ 0),(o_ c7),.own 3 (List.map Qd c8)])),(6,.cells ([(l_ a2.zD),(i_ 0),(o_ ov20),.own 3 (List.map Qd ov10)]))]) M,Γ.n0+91⟩) (fun _ h=>?_) (fun ov20 h=>?_)
 ·refine Z 9 1 ?_;intro _ h;refine cl (Hbu _ _) h (cq fun _ h=>?_);refine Z 1 0 ?_;exact cd h rfl (fun h=>Y) (fun h=>Y)
 ·refine Z 8 0 ?_;refine lo h (fun (l21,x22,ov23)=>⟨look [(0,.d (.lst 5 (List.map Qf ev1))),(3,.ptr (Γ.n0+3) 0),(4,.ptr (Γ.n0+4) 0),(6,.ptr (Γ.n0+6) 0),(7,.own 2 (List.map Qc l21)),(8,(i_ i5)),(43,.d (.lst 3 (List.map Qd a2.zG))),(44,(i_ (a2.zG.length:Int))),(45,(i_ x22))],Qi Γ.n0 (bxs [(3,.cells ((Qn a2))),(4,.cells ([(o_ c6),(i_ 0),(o_ c7),.own 3 (List.map Qd c8)])),(6,.cells ([(l_ a2.zD),(i_ 0),(o_ ov20),.own 3 (List.map Qd ov23)]))]) M,Γ.n0+91⟩) wk (fun _ ⟨l21,x22,ov23⟩ h=>?_);refine Z 5 0 ?_;refine ci h rfl (fun h=>?_) (fun h=>Y);refine Tr.skip ?_;refine cu h (fun (l44,ov45,y46,y47,y48)=>⟨look [(0,.d (.lst 5 (List.map Qf ev1))),(3,.ptr (Γ.n0+3) 0),(4,.ptr (Γ.n0+4) 0),(6,.ptr (Γ.n0+6) 0),(7,.own 2 (List.map Qc l44)),(8,(i_ i5)),(43,.d (.lst 3 (List.map Qd a2.zG))),(44,(i_ (a2.zG.length:Int))),(45,(i_ x22))],Qi Γ.n0 (bxs [(3,.cells ((Qn a2))),(4,.cells ([(o_ c6),(i_ 0),(o_ c7),.own 3 (List.map Qd c8)])),(6,.cells ([(l_ a2.zD),(i_ 0),(o_ ov20),.own 3 (List.map Qd ov45)])),(10,.cells ([(i_ y46),(i_ y47),(i_ y48)]))]) M,Γ.n0+91⟩) (fun _ h=>?_) (fun ⟨l44,ov45,y46,y47,y48⟩ h=>Y);refine Z 20 1 ?_;intro x26 _ h;refine cd h rfl (fun h=>Y) (fun h=>?_);refine Z 9 1 ?_;intro _ h;refine cl (Hbz _ _ _) h (cq fun x34 h=>?_);refine Z 7 0 ?_;refine cl (Hbt _ _) h (cq fun _ h=>?_);refine Z 2 0 ?_;refine cu h (fun (l40,k41)=>⟨look [(0,.d (.lst 5 (List.map Qf ev1))),(3,.ptr (Γ.n0+3) 0),(4,.ptr (Γ.n0+4) 0),(6,.ptr (Γ.n0+6) 0),(7,.own 2 (List.map Qc l40)),(8,(i_ i5)),(10,.ptr (Γ.n0+10) 0),(12,(i_ k41)),(43,.d (.lst 3 (List.map Qd a2.zG))),(44,(i_ (a2.zG.length:Int))),(45,(i_ x22))],Qi Γ.n0 (bxs [(3,.cells ((Qn a2))),(4,.cells ([(o_ c6),(i_ 0),(o_ c7),.own 3 (List.map Qd c8)])),(6,.cells ([(l_ a2.zD),(i_ 0),(o_ ov20),.own 3 (List.map Qd ov23)])),(10,.cells ((Qh4 x26))),(11,.cells ((Qbk x34)))]) M,Γ.n0+91⟩) (fun _ h=>?_) (fun ⟨l40,k41⟩ h=>Y);refine Z 5 0 ?_;exact ci h rfl (fun h=>Y) (fun h=>Y)
end Go.Abs
end
section
namespace Go.Proofs
open Go.Abs
set_option maxRecDepth 100000
theorem Qmx:Ql Tryz.prog 9=some Qhl:=by kernel_rfl
theorem Qum:Ql Tryz.prog 11=some Qmn:=by kernel_rfl
theorem Qv6:Ql Tryz.prog 12=some Qnr:=by kernel_rfl
theorem Qzr:Ql Tryz.prog 13=some Qq3:=by kernel_rfl
theorem Qzs:Ql Tryz.prog 15=some Qq6:=by kernel_rfl
theorem Q7q:Ql Tryz.prog 17=some Q0l:=by kernel_rfl
theorem Qzt:Ql Tryz.prog 18=some Qq2:=by kernel_rfl
theorem Qun:Ql Tryz.prog 19=some Qmt:=by kernel_rfl
theorem Qv7:Ql Tryz.prog 20=some Qnn:=by kernel_rfl
theorem Qpn:Ql Tryz.prog 21=some Qjp:=by kernel_rfl
theorem Qv8:Ql Tryz.prog 23=some Qno:=by kernel_rfl
theorem Qv9:Ql Tryz.prog 27=some Qnm:=by kernel_rfl
theorem Quo:Ql Tryz.prog 29=some Qml:=by kernel_rfl
theorem Qxi:Ql Tryz.prog 30=some Qo5:=by kernel_rfl
theorem Qxj:Ql Tryz.prog 31=some Qoz:=by kernel_rfl
theorem Qxk:Ql Tryz.prog 34=some Qo1:=by kernel_rfl
theorem Qzu:Ql Tryz.prog 36=some Qq0:=by kernel_rfl
theorem Qup:Ql Tryz.prog 43=some Qmr:=by kernel_rfl
theorem Q3q:Ql Tryz.prog 44=some Qwv:=by kernel_rfl
theorem Qwa:Ql Tryz.prog 45=some Qns:=by kernel_rfl
theorem Qzv:Ql Tryz.prog 46=some Qra:=by kernel_rfl
theorem Qwb:Ql Tryz.prog 47=some Qnt:=by kernel_rfl
theorem Quq:Ql Tryz.prog 50=some Qmh:=by kernel_rfl
theorem Qtf:Ql Tryz.prog 51=some Qlq:=by kernel_rfl
theorem Qwc:Ql Tryz.prog 52=some Qnq:=by kernel_rfl
theorem Qpo:Ql Tryz.prog 53=some Qjo:=by kernel_rfl
theorem Qtg:Ql Tryz.prog 54=some Qlm:=by kernel_rfl
theorem Qyk:Ql Tryz.prog 55=some Qp0:=by kernel_rfl
theorem Qzw:Ql Tryz.prog 56=some Qq4:=by kernel_rfl
theorem Qxl:Ql Tryz.prog 61=some Qo0:=by kernel_rfl
theorem Qyl:Ql Tryz.prog 62=some Qp1:=by kernel_rfl
theorem Qym:Ql Tryz.prog 63=some Qpy:=by kernel_rfl
theorem Qxm:Ql Tryz.prog 64=some Qox:=by kernel_rfl
theorem Q2q:Ql Tryz.prog 65=some Qua:=by kernel_rfl
theorem Qxn:Ql Tryz.prog 66=some Qo6:=by kernel_rfl
theorem Qyn:Ql Tryz.prog 67=some Qpz:=by kernel_rfl
theorem Qwd:Ql Tryz.prog 68=some Qnl:=by kernel_rfl
theorem Qo7:Ql Tryz.prog 69=some Qiz:=by kernel_rfl
theorem Qmy:Ql Tryz.prog 71=some Qhj:=by kernel_rfl
theorem Qpp:Ql Tryz.prog 72=some Qjn:=by kernel_rfl
theorem Qwe:Ql Tryz.prog 74=some Qnk:=by kernel_rfl
theorem Qqk:Ql Tryz.prog 75=some Qj1:=by kernel_rfl
theorem Qth:Ql Tryz.prog 76=some Qlo:=by kernel_rfl
theorem Qo8:Ql Tryz.prog 77=some Qix:=by kernel_rfl
theorem Qzx:Ql Tryz.prog 78=some Qq5:=by kernel_rfl
theorem Qzy:Ql Tryz.prog 79=some Qqz:=by kernel_rfl
theorem Q0s:Ql Tryz.prog 80=some Qs2:=by kernel_rfl
theorem Qur:Ql Tryz.prog 81=some Qmm:=by kernel_rfl
theorem Qzz:Ql Tryz.prog 82=some Qq7:=by kernel_rfl
theorem Qxo:Ql Tryz.prog 84=some Qo4:=by kernel_rfl
theorem Q0t:Ql Tryz.prog 85=some Qs5:=by kernel_rfl
theorem Q2r:Ql Tryz.prog 86=some Quc:=by kernel_rfl
theorem Qus:Ql Tryz.prog 87=some Qmi:=by kernel_rfl
theorem Qut:Ql Tryz.prog 88=some Qmo:=by kernel_rfl
theorem Qql:Ql Tryz.prog 89=some Qj2:=by kernel_rfl
theorem Qqm:Ql Tryz.prog 100=some Qj0:=by kernel_rfl
theorem Quu:Ql Tryz.prog 101=some Qmk:=by kernel_rfl
theorem Qo9:Ql Tryz.prog 102=some Qiy:=by kernel_rfl
theorem Qlk:Ql Tryz.prog 105=some Qg0:=by kernel_rfl
theorem Q0u:Ql Tryz.prog 106=some Qs3:=by kernel_rfl
theorem Qti:Ql Tryz.prog 107=some Qln:=by kernel_rfl
theorem Qtj:Ql Tryz.prog 108=some Qlp:=by kernel_rfl
theorem Qne:Ql Tryz.prog 109=some Qhy:=by kernel_rfl
theorem Qwf:Ql Tryz.prog 110=some Qnj:=by kernel_rfl
theorem Qtk:Ql Tryz.prog 111=some Qll:=by kernel_rfl
theorem Qz0:Ql Tryz.prog 112=some Qqy:=by kernel_rfl
theorem Qyo:Ql Tryz.prog 113=some Qp3:=by kernel_rfl
theorem Qyp:Ql Tryz.prog 114=some Qp4:=by kernel_rfl
theorem Qnf:Ql Tryz.prog 115=some Qh0:=by kernel_rfl
theorem Qz1:Ql Tryz.prog 116=some Qq8:=by kernel_rfl
theorem Qz2:Ql Tryz.prog 117=some Qq9:=by kernel_rfl
theorem Qyq:Ql Tryz.prog 118=some Qpw:=by kernel_rfl
theorem Quv:Ql Tryz.prog 119=some Qmp:=by kernel_rfl
theorem Qxp:Ql Tryz.prog 120=some Qo2:=by kernel_rfl
theorem Qwg:Ql Tryz.prog 121=some Qnp:=by kernel_rfl
theorem Quw:Ql Tryz.prog 122=some Qmq:=by kernel_rfl
theorem Qxq:Ql Tryz.prog 125=some Qov:=by kernel_rfl
theorem Qz3:Ql Tryz.prog 129=some Qq1:=by kernel_rfl
theorem Q3r:Ql Tryz.prog 143=some Qwu:=by kernel_rfl
theorem Qyr:Ql Tryz.prog 144=some Qpx:=by kernel_rfl
theorem Qng:Ql Tryz.prog 145=some Qhz:=by kernel_rfl
theorem Q0v:Ql Tryz.prog 148=some Qs4:=by kernel_rfl
theorem Q2s:Ql Tryz.prog 162=some Qt9:=by kernel_rfl
theorem Qsp:Ql Tryz.prog 165=some Qk5:=by kernel_rfl
theorem Qys:Ql Tryz.prog 166=some Qp2:=by kernel_rfl
theorem Qux:Ql Tryz.prog 90=some Qmj:=by kernel_rfl
end Go.Proofs
end
section
namespace Go.Abs
open Go Go.Sort
section plain
variable {β:Type}
def insB (lt:β→β→Bool) (x:β):List β→List β
 | []=>[x]
 | y::ys=>if lt y x then y::insB lt x ys else x::y::ys
def Qnu (lt:β→β→Bool):List β→List β
 | []=>[]
 | x::xs=>insB lt x (Qnu lt xs)
theorem Q2t (lt:β→β→Bool) (x:β):∀ l,(insB lt x l).Perm (x::l)
 | []=>.refl _
 | y::ys=>by
  unfold insB;split
  ·exact ((Q2t lt x ys).cons y).trans (.swap x y ys)
  ·exact .refl _
theorem Qpa (lt:β→β→Bool):∀ l,(Qnu lt l).Perm l
 | []=>.refl _
 | x::xs=>(Q2t lt x _).trans ((Qpa lt xs).cons x)
theorem Qn9 (lt:β→β→Bool) (l:List β):(Qnu lt l).length=l.length:=(Qpa lt l).length_eq
theorem Q2u {lt:β→β→Bool} (h:SWO lt) (x:β):∀ l,l.Pairwise (fun a b=>lt b a=false)→(insB lt x l).Pairwise fun a b=>lt b a=false
 | [],_=>by simp [insB]
 | y::ys,hl=>by
  obtain ⟨h1,h2⟩:=List.pairwise_cons.1 hl;unfold insB;split
  ·rename_i hc;refine List.pairwise_cons.2 ⟨fun z hz=>?_,Q2u h x ys h2⟩;rcases List.mem_cons.1 ((Q2t lt x ys).mem_iff.1 hz) with rfl|hz
   ·cases hb:lt z y with
    | false=>rfl
    | true=>have:=h.trans _ _ _ hc hb;rw [h.irrefl] at this;cases this
   ·exact h1 z hz
  ·rename_i hc;have hc:lt y x=false:=by cases h:lt y x<;>simp_all
   refine List.pairwise_cons.2 ⟨fun z hz=>?_,hl⟩;rcases List.mem_cons.1 hz with rfl|hz
   ·exact hc
   ·exact h.ntrans _ _ _ (h1 z hz) hc
theorem Qoa {lt:β→β→Bool} (h:SWO lt):∀ l,(Qnu lt l).Pairwise fun a b=>lt b a=false
 | []=>.nil
 | x::xs=>Q2u h x _ (Qoa h xs)
end plain
def Qf1 (a b:Int):Bool:=decide (a<b)
def Qbf3 (l:List Int):Option (List Int):=if l.length≤lim then some (Qnu Qf1 l) else none
end Go.Abs
end
section
namespace Go.Abs
open Go Go.Sort Go.RowKit
theorem Q88 {P:Program} {f:FuncId} {ex:Array Value} {exV:List V} {sz nb:Nat} {M:Mem} (hb:Qhn P f=true) (hex:∀ g w us,RFs g w exV us→us=ex.toList)
  (h:∀ (p:Option Addr) (cap:Nat) (w:World),Calls P f (#[.slice p 0 cap]++ex) w fun e' w'=>e' = .returned (.tuple #[])∧w'=w) (hexf:V.dems exV=exV:=by rfl) :
  ACalls P f (.d (.lst sz [])::exV) M nb (.tup []) M nb:=by
 refine ACalls.mk' hb (Nat.le_refl _) (by simp only [V.dems,V.dem,hexf]) fun w g us hm hMon hus hfl hons=>?_;obtain ⟨u0,us',rfl,hu0,hus'⟩:=hus;have h1:=hex _ _ _ hus';subst h1;have h2:∃ p cap,u0 = .slice p 0 cap:=by
  have:=RF_d.1 hu0;obtain ⟨a,cap,rfl,_,_⟩:=this;exact ⟨a,cap,rfl⟩
 obtain ⟨p,cap,rfl⟩:=h2;have e1:(Value.slice p 0 cap::ex.toList).toArray = #[.slice p 0 cap]++ex:=by apply Array.ext';simp
 rw [e1];refine (h p cap w).mono ?_;rintro e' w' ⟨rfl,rfl⟩;exact ⟨_,g,rfl,hm,⟨[],rfl,rfl⟩,trivial,hMon,Fr.refl _ _ _⟩
theorem Q2v (l:List Int):(l.mergeSort fun x y=>decide (x≤y))=Qnu Qf1 l:=by
 have hO:Go.Sort.SWO Qf1:=⟨fun x=>by simp [Qf1],fun x y z h1 h2=>by simp [Qf1] at *;omega,fun x y z h1 h2=>by simp [Qf1] at *;omega⟩;refine List.Perm.eq_of_pairwise (le:=fun a b=>Qf1 b a=false) (fun a b _ _ h1 h2=>by simp [Qf1] at *;omega) ?_ (Qoa hO l) ((List.mergeSort_perm _ _).trans (Qpa _ l).symm);have:=List.pairwise_mergeSort (le:=fun x y:Int=>decide (x≤y)) (fun a b c h1 h2=>by simp at *;omega) (fun a b=>by simp;omega) l;exact this.imp fun h=>by simp [Qf1] at *;omega
end Go.Abs
end
section
namespace Go.Abs
open Go Go.Sort Go.Shelf Go.RowKit Go.Lib Go.Proofs
section
variable {α:Type} [Inhabited α]
end
end Go.Abs
end
section
namespace Go.Abs
open Go Go.RowKit
def Qban (g:Nat):CFn:=⟨1,4,[.t 2],.seq (.region [⟨some 1,.box 1,[.t 0],false,none⟩,⟨some 2,.mov,[.c .und],false,none⟩] 9 []) (.seq (.region [⟨some 3,.func g,[.t 1],false,none⟩,⟨some 2,.mov,[.t 3],false,none⟩] 9 []) .ret)⟩
theorem Qbf4 {P:Program} {c g:Nat} (hcf:Ql P c=some (Qban g)):Qbfz P c g 1 4:=by
 intro x M nb;by_cases hM:∀ k,nb≤k→M k=none
 case neg=>exact Qvl (Qkd hcf) (by omega) hM
 by_cases hon:MOn (There M) M
 case neg=>exact ⟨Qkd hcf,by omega,fun w g us _ hm h=>absurd h hon⟩
 refine Qbic hcf hM rfl (by omega) fun Γ hP hn ht=>?_;have hlt:∀ k,There M k→k<nb:=fun k hk=>by
  rcases Nat.lt_or_ge k nb with h|h
  ·exact h
  ·simp [There,hM k h] at hk
 subst hn;rw [← Qme hM];refine Tr.init [(0,.d x)] rfl ?_;unfold Qban;refine Tr.seq ?_;refine Tr.rgn ?_;refine Rn.box (v:=.d x) (cs:=[.d x]) trivial rfl rfl rfl rfl rfl ?_;refine Rn.mov (v:=.und) trivial rfl ?_;refine Rn.nil ?_;refine toN ?_;refine Tr.seq ?_;refine Tr.rgn ?_;refine Rn.k (v:=.clo g [.ptr (Γ.n0+1) 0]) trivial rfl rfl rfl ?_;refine Rn.mov (v:=.clo g [.ptr (Γ.n0+1) 0]) trivial rfl ?_;refine Rn.nil ?_;refine toN ?_;refine Tr.ret ?_;rw [Qme hM];have hth:There (M.put (Γ.n0+1) (.cells [.d x])) (Γ.n0+1):=by simp [There,Mem.put]
 refine ⟨.inr rfl,.clo g [.ptr (Γ.n0+1) 0],rfl,fun _ _ _ _ h=>h,fun k b hk=>?_,⟨hth,trivial⟩,fun k cs hk=>?_,fun k hk=>?_⟩
 ·show Qi Γ.n0 [(1,.cells [.d x])] M k=some b;have:=Qda (n0:=Γ.n0) (L:=[]) (M0:=M) (t:=1) (b:=.cells [.d x]);rw [← this,Qme hM];exact hk
 ·by_cases h:k=Γ.n0+1
  ·subst h;rw [Qgl] at hk;cases hk;exact ⟨trivial,trivial⟩
  ·rw [Qb6 _ _ h] at hk;exact ons_mono (fun j hj=>There.put hj) _ (hon k cs hk)
 ·by_cases h:k=Γ.n0+1
  ·omega
  ·have:There M k:=by simpa [There,Mem.put,h] using hk
   have:=hlt k this;omega
theorem Qbao {imm:Nat→Nat→Prop} {w:World} {b:Nat}:∀ (xs:List Int) (o:Nat),(∀ j x,xs[j]? = some x→imm b (o+j)∧w.cell? ⟨b,o+j,none⟩=some (.int .i64 x))→RDL imm w 1 b (List.map (eI .i64) xs) o
 | [],_,_=>by simp [RDL]
 | x::xs,o,h=>by
  simp only [List.map_cons,RDL];obtain ⟨h1,h2⟩:=h 0 x rfl;refine ⟨rfl,⟨h1,⟨_,h2,rfl⟩,trivial⟩,Qbao xs (o+1) fun j y hj=>?_⟩;have:=h (j+1) y (by simpa using hj)
  rwa [show o+(j+1)=o+1+j from by omega] at this
theorem Qbap {imm:Nat→Nat→Prop} {w:World} {b:Nat}:∀ (xs:List Int) (o:Nat),RDL imm w 1 b (List.map (eI .i64) xs) o→∀ j x,xs[j]? = some x→w.cell? ⟨b,o+j,none⟩=some (.int .i64 x)
 | [],_,_,j,x,hj=>by simp at hj
 | y::ys,o,h,j,x,hj=>by
  simp only [List.map_cons,RDL] at h;obtain ⟨_,⟨_,⟨u,h2,h3⟩,_⟩,h4⟩:=h;cases j with
  | zero =>
   simp at hj;subst hj;have:u = .int .i64 y:=h3;rw [← this];exact h2
  | succ j =>
   have:=Qbap ys (o+1) h4 j x (by simpa using hj)
   rwa [show o+1+j=o+(j+1) from by omega] at this
def Ints (n₀:Nat) (W:World) (sv:Value) (zs:List Int):Prop :=
 (∃ a cap,sv = .slice a 0 cap∧zs=[])∨∃ b off cap,sv = .slice (some ⟨b,off,none⟩) zs.length cap∧b<n₀∧∀ j,j<zs.length→W.cell? ⟨b,off+j,none⟩=some (.int .i64 (zs[j]?.getD 0))
theorem Ints.below {n₀:Nat} {A B:World} (h:Below n₀ A B) {sv:Value} {zs:List Int}:Ints n₀ A sv zs→Ints n₀ B sv zs
 | .inl e=>.inl e
 | .inr ⟨b,off,cap,e,hb,hc⟩=>.inr ⟨b,off,cap,e,hb,fun j hj=>(h.cell (p:=⟨b,off+j,none⟩) hb).trans (hc j hj)⟩
theorem Qbf5 {P:Program} {c g:Nat} {t:TypeId} (hb:Qhn P c=true)
  (hcall:∀ (Bs:Nat) (sv:Value) (zs:List Int) (w:World),zs.length*8≤140737488351232→Bs<w.heap.size→w.cell? ⟨Bs,0,none⟩=some sv→Ints w.heap.size w sv zs →
   Calls P c #[.func (.func g) #[] #[.pointer (some ⟨Bs,0,none⟩)]] w fun e W'=>∃ v,e = .returned v∧W'.ownsRow w.heap.size t 1 v zs.length ((zs.mergeSort fun x y=>decide (x≤y)).map (Value.int .i64))∧Below w.heap.size w W') :
  Qbim P c g (eI .i64) 1 Qbf3:=by
 intro xs ys hf M nb k hM;unfold Qbf3 at hf;split at hf<;>cases hf;rename_i hlen;refine ACalls.mk' hb (Nat.le_refl _) rfl fun w g0 us hm hMon hus hfl hons=>?_;obtain ⟨u0,us',rfl,hu0,rfl⟩:=hus;obtain ⟨hk0,hown,vals,et,hh,hrv,hone⟩:=hm.box k _ hM;obtain ⟨vs,rfl,hvs⟩ : ∃ vs:List Value,u0 = .func (.func g) #[] vs.toArray∧RVs g0 w [.ptr k 0] .ext 0 vs:=by
  have:=hu0 .ext;simpa only [RV] using this
 obtain ⟨p,_,rfl,hp,rfl⟩:=hvs;simp only [RV] at hp;subst hp;obtain ⟨sv,_,rfl,hsv,rfl⟩:=hrv;simp only [RV] at hsv;obtain ⟨a,cap,rfl,hcap,hcells⟩:=hsv;have hBs:g0.box k<w.heap.size:=(Array.getElem?_eq_some_iff.1 hh).1;have hI:Ints w.heap.size w (.slice a (List.map (eI .i64) xs).length cap) xs:=by
  rcases hcells with h|⟨b,o,rfl,h⟩
  ·have:xs=[]:=by simpa using h
   subst this;exact .inl ⟨a,cap,rfl,rfl⟩
  ·by_cases h0:xs=[]
   ·subst h0;exact .inl ⟨_,cap,rfl,rfl⟩
   ·have hc:=Qbap xs o h;refine .inr ⟨b,o,cap,by rw [List.length_map],?_,fun j hj=>?_⟩
    ·have h1:0<xs.length:=List.length_pos_iff.2 h0;have:=hc 0 xs[0] (List.getElem?_eq_getElem h1);simp only [World.cell?] at this;cases hbk:w.heap[b]? with
     | none=>simp [hbk] at this
     | some ob=>exact (Array.getElem?_eq_some_iff.1 hbk).1
    ·have:=hc j xs[j] (List.getElem?_eq_getElem hj);rw [this,List.getElem?_eq_getElem hj];rfl
 have hlen8:xs.length*8≤140737488351232:=by unfold lim at hlen;omega
 refine (hcall (g0.box k) _ xs w hlen8 hBs (by simp [World.cell?,hh]) hI).mono ?_;rintro e W' ⟨v,rfl,hrow,hbel⟩;rw [Q2v] at hrow;generalize Qnu Qf1 xs=ys at hrow ⊢;obtain ⟨gb,hgb,hv⟩ : ∃ gb,w.heap.size≤gb∧(ys=[]∧v = .slice none 0 0∨∃ cap,v = .slice (some ⟨gb,0,none⟩) ys.length cap∧ys.length≤cap∧∀ j x,ys[j]? = some x→gb<W'.heap.size∧W'.cell? ⟨gb,j,none⟩=some (.int .i64 x)):=by
  obtain ⟨h1,h2⟩:=hrow;have h1:ys.length=xs.length:=by simpa using h1
  rcases h2 with ⟨rfl,h0⟩|⟨gb,cap,cur,rfl,hbase,hgb,r1,r2,r3,r4⟩
  ·exact ⟨w.heap.size,Nat.le_refl _,.inl ⟨List.eq_nil_of_length_eq_zero (by omega),rfl⟩⟩
  ·refine ⟨gb,hbase,.inr ⟨cap,by rw [h1],by omega,fun j x hj=>⟨(Array.getElem?_eq_some_iff.1 hgb).1,?_⟩⟩⟩;have hj2:=(List.getElem?_eq_some_iff.1 hj).1;have:(cur.toList.take (xs.length*1))[j]? = some (.int .i64 x):=by rw [r4,List.getElem?_map,hj];rfl
   rw [List.getElem?_take_of_lt (by omega)] at this;simp only [World.cell?,hgb];simpa using this
 let g' : G:=⟨g0.box,fun b o=>g0.imm b o∨(b=gb∧o<ys.length),fun b=>if b=gb then .ext else g0.own b⟩;have hne:∀ b,b<w.heap.size→b≠gb:=fun b h=>by omega
 have himm:Imm g0.imm g'.imm w W':=by
  refine ⟨fun _ _ h=>.inl h,fun b o h=>?_⟩;have:=(hm.imm b o h).1;exact Qdz (hbel.block b this)
 have hkept:Kept g0 w g' W' (There M) (fun _=>True):=⟨himm,fun _ _=>rfl,fun b _ hl=>⟨by simp [g',hne b hl],hbel.block b hl,fun o=>by simp [g',hne b hl]⟩⟩;refine ⟨v,g',rfl,hm.kept hkept hMon (fun _ _ _=>trivial) trivial (fun _ _=>trivial) fun b o h=>?_,?_,trivial,hMon,?_⟩
 ·rcases h with h|⟨rfl,h⟩
  ·obtain ⟨h1,h2⟩:=hm.imm b o h;refine ⟨Nat.lt_of_lt_of_le h1 hbel.size,fun k=>?_⟩;simp only [g',hne b h1,if_false];exact h2 k
  ·refine ⟨?_,fun k=>by simp [g']⟩;rcases hv with ⟨rfl,_⟩|⟨cap,_,_,hc⟩
   ·simp at h
   ·exact (hc o _ (List.getElem?_eq_getElem h)).1
 ·simp only [RV];rcases hv with ⟨rfl,rfl⟩|⟨cap,rfl,hcp,hc⟩
  ·simp only [RD];exact ⟨none,0,rfl,Nat.le_refl _,.inl rfl⟩
  ·simp only [RD,List.length_map];refine ⟨_,cap,rfl,hcp,.inr ⟨gb,0,rfl,Qbao ys 0 fun j x hj=>?_⟩⟩;rw [Nat.zero_add];have h2:=(hc j x hj).2;exact ⟨⟨.inr ⟨rfl,(List.getElem?_eq_some_iff.1 hj).1⟩,by simp [g'],.inl (by rw [h2];rfl)⟩,h2⟩
 ·exact ⟨hbel.os,hbel.tape,hbel.output,hbel.size,himm,fun _ _=>rfl,fun b hb _=>⟨by simp [g',hne b hb],hbel.block b hb,fun o=>by simp [g',hne b hb]⟩⟩
end Go.Abs
end
section
namespace Go.Abs
def Qbiq (l:List Int):Option (List Int):=if l.length≤lim then some (Qnu Qf1 l) else none
def keyB (l:List Int):ByteArray:=⟨(l.flatMap fun x=>Lib.encodeRune (x+1)).toArray⟩
def keyS (l:List Int):Option ByteArray:=if l.length≤lim∧∀ x∈l,0≤x∧x<50000 then some (keyB l) else none
def Qbir (a:Qa):Option (List (List Int)×Int):=if a=⟨[0,1],2,[],[⟨0,0,0⟩]⟩ then some ([[0],[1]],0) else none
def Qbis (l:List (List Int)):Option Unit:=if l.length≤1 then some () else none
end Go.Abs
end
section
namespace Go.Abs
open Go Go.Abs
set_option maxRecDepth 10000
set_option maxHeartbeats 4000000
def Q9:Nat:=1099511627776
def Qmz:=Qdb
def Qf4:=Qd3 Q9
def Qfs:=Qcb Qf4 Q9
def Qg5:=Qck Q9
def Qii:=Qdq Q9
def Qbi:=Qj Qii
def Qf9:=Qch Qbi Q9
def Qe5:=Qbc Qg5 Qf9
def Qf5:=Qbd Qe5 Qfs
def Qkl:=Qd0
def Qji:=Qd4 Q9
def Qi6:=Qcq Qfs Qkl Qji
def Qdv:=Qr Qi6
def Qh1:=Qcc Q9
def Qia:=Qc2
def Qg6:=Qcy Qh1 Qia
def Qpb:=Qec
def Qj3:=Qf0 Qpb
def Qij:=Qc4
def Qe8:=Qb1 Qj3 Qij Q9
def Qe6:=Q3 Qe8
def Qib:=Qci Qe6
def Qga:=Qb8 Q9
def Qb3:=Qq Qga
def Qgr:=Qbw
def Qi7:=Qed
def Qdl:=Q8 Qf5 Qgr Qe6 Qi7 Q9
def Qi8:=Qdc Q9
def Qej:=Q7 Qe5 Qi8
def Qeo:=Qz Qbi Q9
def Qft:=Qbo Qbi
def Qdg:=Qv Qb3 Qft
def Q6:=Qbe
def Qdh:=Qw Qbi Qbiq Q6 Q9
def Qdi:=Qx Qdh
def Qdm:=Q0 Qdh Q9
def Qgs:=Qcr Qej Qeo Qdi Qdm Qdg Q9
def Qgt:=Qbx Q9
def Qep:=Qt Qdl Qgs Qf5 Qdv Qgt Qg6 Qb3 Qib
def Qg1:=Qbp Qbi
def Qhm:=Qbv Qb3 Qg1
def Qnv:=Qdo Qej Qeo Qdi keyS Qhm Qdm Q9
def Qrn:=Qe1 Qdl Qnv Qdv Qgt Q9
def Qjj:=Qbh
def Qhh:=Qb5 Q9
def Qkm:=Qbz Qjj Qhh
def Qpc:=Qe2
def Qro:=Qe3 Qkm Qjj Qbir Qbf3 Qbis Qpc Q9
def Qrp:=Qe4 Qgr Qej Qeo Qdg Qbi Q9
def Qm0:=Qcs Qdv Qrp Q9
def Qpd:=Qd1 Qdl Qep Qkm Qf5 Qjj Qm0
def Qnw:=Qcz Q9
def Qp5:=Qeh Q9
def Q0m:=Qgo Qp5
def Qi9:=Qct Qrn Qro Q0m Qnw Qep Qpd Qmz
def Qgb:=Qcj Q9
def Qev:=Qca Q9
def Qfj:=Qbb
def Qcl:=Qbl Q9
def Qdj:=Qbt Q9
def Qgu:=Qcu Qdj Qcl Q9
def Qfk:=Qcv Q9
def Qe9:=Qb2 Qfj Qgu Qdj Qcl Qfk Q9
def Qg7:=Qc0 Qfj Qe9 Q9
def Qg8:=Qc1 Qgb Qg7 Qev
def Qdy:=Qbf Q9
def Qjk:=Qd5
def Qjl:=Qd6
def Qla:=Qfh Qdy Qjk Qjl
def Qik:=Qdr
def Qfy:=Qce Q9
def Qka:=Qer Qla Qfy Qik
def Qil:=Qds Qka Q9
def Qkn:=Qdd Qil
def Qgv:=Qcw Qe5 Qkn
def Qew:=Qbr Q9
def Qma:=Qe7 Qe6 Q9
def Qhs:=Qde Qhh Q9
def Qeq:=Qba Q9
def Qlb:=Qei
def Qnh:=Qes Qh1 Qlb
def Qjm:=Qd7 Qnh
def Qfw:=Qbm
def Qfl:=Qfi Qi9 Qg8 Qew Qep Qhs Qgv Qma Qeq Qjm Qfw Q9
def Qht:=Qdf Q9
def Qd8:=Qgq Qeq Qfw Qht Q9
end Go.Abs
end
