/-
  Part 6 of the proof: see the last text.
-/
import Derived.Test.YtibbnipiaajdhaaGreatDoorP5
import Derived.Test.YtibbnipiaajdhaaGreatDoorProg
import Derived.KernelRfl
import Derived.Sort.Statements
import Derived.Lib.ItoaNum
import Derived.Shelf.Strings.BuilderK
import Derived.Shelf.Strconv.Itoa2
import Derived.Shelf.Strconv.Itoa3
import Derived.Ground.SlgmProg
import Derived.Shelf.SortM.Plain
import Derived.Shelf.SortM.SortNone
import Derived.WalkKit
import Derived.BigCall
import Derived.Lib.OthersKept
import Derived.OpenShut
import Derived.ProofKit
import Derived.Carry
import GoSem.Claim
import GoSem.ClaimJoined
import Derived.JoinedTies
import Derived.ChangeSame
import Derived.ChangeVars
import Derived.JoinedOf
import Derived.LaidLaws
import Derived.LaidHandle
import Derived.LaidMore
import Derived.SevenTiedAt
set_option linter.unusedVariables false
set_option linter.unusedSimpArgs false
set_option linter.unusedSectionVars false
section
namespace Go.Abs
open Go
set_option maxRecDepth 10000
set_option maxHeartbeats 4000000
theorem Ql7 {P:Program} {c:Nat} (hcf:Qm P c=some Qfa) (fuel:Nat):Qe9 P c (Qbc fuel):=by
 intro m1 r h
 refine Qbw hcf rfl fun Γ M hP hnt hM=>?_
 subst hP
 refine Tr.init [(0,(Q1 m1))] rfl ?_
 unfold Qbc at h
 unfold Qfa
 refine sr ((Rn.box (v:=(Q1 m1)) (cs:=(Qbd m1)) tv rfl rfl rfl rfl rfl (Rn.movTC (v:=.nils 1) tv (md rfl (nt ((Tr.seq (sr ((Rn.fldP (o':=0) tv rfl rfl (lB (v:=(Qe m1.list_)) rfl rfl rfl rfl (Rn.lenD tv rfl (md rfl (nt ((Tr.block ?_))))))))))))))))
 refine Tr.loop (mk:=fun (x2:Int)=>⟨look [(1,.ptr (Γ.n0+1) 0),(7,(Qe m1.list_)),(8,(i_ (m1.list_.length:Int))),(9,(i_ x2))],Qj Γ.n0 (bxs [(1,.cells ((Qbd m1)))]) M,Γ.n0+21⟩) h (by exact Qi ⟨(kPtr rfl),(sm rfl),(sm rfl),(sm rfl),tv⟩ ⟨bS rfl rfl rfl,tv⟩ rfl) (fun k3 z h=>?_)
 ·obtain ⟨x2,rfl⟩ : ∃ x,x=z:=⟨_,rfl⟩
  replace h:_=some _:=h
  refine sr ((Rn.bin tv rfl rfl rfl (nt ((Tr.seq ?_)))))
  refine Tr.cond rfl (fun hb4=>?_) (fun hb4=>?_)
  ·replace h:=ifT hb4 h
   refine Tr.skip (toN (Tr.seq (Tr.block (Tr.seq (Tr.rgn ?_)))))
   obtain ⟨x5,h6,h⟩:=bnd h
   refine Rn.idxD (e:=Qn) tv rfl rfl h6 (Rn.loadCA (vs:=(Qc x5)) tv rfl rfl rfl (Rn.alloc tv rfl (Rn.storeT (v:=(Qb x5)) (ds:=(Qc x5)) (cs':=(Qc x5)) tv rfl rfl rfl rfl rfl rfl rfl (nt ((sr ((Rn.fldP (o':=1) tv rfl rfl (lB (v:=(i_ x5.zD)) rfl rfl rfl rfl (Rn.bin tv rfl rfl rfl (Rn.nil (toN ?_))))))))))))
   refine Tr.cond rfl (fun hb7=>?_) (fun hb7=>?_)
   ·replace h:=bT hb7 h
    refine sr ((Rn.movTC (v:=.nils 1) tv (md rfl (nt ((Tr.ret ?_))))))
    replace h:=si h; subst h
    exact ⟨.inr rfl,.tup [.nils 1,(b_ false)],res2 rfl rfl,(WkV.tup (.cons (WkV.nilsD _) (.cons (.same rfl) .nil))).rd,⟨tv,tv,tv⟩,mB⟩
   ·replace h:=bF hb7 h
    refine Tr.skip (toN (Tr.rgn (Rn.bin tv rfl rfl rfl (md rfl (Rn.nil ?_)))))
    exact ⟨_,h,(by exact Qi ⟨(kPtr rfl),(sm rfl),(sm rfl),(sm rfl),tv⟩ ⟨bS rfl rfl rfl,tv⟩ rfl)⟩
  ·replace h:=ifF hb4 h
   refine Tr.exit (toN (sr ((Rn.fldP (o':=0) tv rfl rfl (lB (v:=(Qe m1.list_)) rfl rfl rfl rfl (Rn.lenD tv rfl ?_))))))
   obtain ⟨x8,h9,h⟩:=bnd h
   refine Rn.makes (g:=(fun (x:Int)=>[V.d (.int .i64 x)])) tv rfl rfl rfl rfl rfl h9 (Rn.movTF (v:=.sl 1 (Γ.n0+20) 0 (Int.toNat (m1.list_.length:Int)) (Int.toNat (m1.list_.length:Int))) tv rfl rfl (md rfl (Rn.nil (toN ?_))))
   obtain ⟨⟨⟩,hl10,h⟩:=bnd h
   refine Tr.weak (by show WeakSt Γ _ ⟨look [(1,.ptr (Γ.n0+1) 0),(2,(l_ x8)),(3,(b_ true)),(7,(Qe m1.list_)),(8,(i_ (m1.list_.length:Int))),(9,(i_ x2)),(10,(b_ (decide (x2 < (m1.list_.length:Int))))),(17,.ptr (Γ.n0+1) 0),(18,(Qe m1.list_)),(19,(i_ (m1.list_.length:Int))),(20,(l_ x8))],Qj Γ.n0 (bxs [(1,.cells ((Qbd m1)))]) M,Γ.n0+21⟩; exact Qgw 20 _ rfl (Qbal (fun _=>rfl) _) ⟨(fPtr rfl),(fSlA (fun _=>rfl) (Qxp hl10)),(.same rfl),(.same rfl),(.same rfl),(.same rfl),(.same rfl),(fPtr rfl),(.same rfl),(.same rfl),(fSlA (fun _=>rfl) (Qxp hl10)),tv⟩ ⟨bS rfl rfl rfl,tv⟩ rfl) ?_
   refine Tr.ret ?_
   replace h:=si h; subst h
   exact ⟨.inr rfl,.tup [(l_ x8),(b_ true)],res2 rfl rfl,(WkV.tup (.cons (.same rfl) (.cons (.same rfl) .nil))).rd,⟨tv,tv,tv⟩,mB⟩
theorem Qnn {P:Program} {c:Nat} {Qp:(List Int)→Int→Option Bool}
    (H_alphabet_Contains:Qef P 29 Qp) (hcf:Qm P c=some Qfp) (fuel:Nat):Qfo P c (Qbe Qp fuel):=by
 intro m1 tuple2 r h
 refine Qbw hcf rfl fun Γ M hP hnt hM=>?_
 subst hP
 refine Tr.init [(0,(Q1 m1)),(1,(l_ tuple2))] rfl ?_
 unfold Qbe at h
 unfold Qfp
 refine sr ((Rn.box (v:=(Q1 m1)) (cs:=(Qbd m1)) tv rfl rfl rfl rfl rfl (md rfl (nt ((Tr.seq (sr ((Rn.fldP (o':=0) tv rfl rfl (lB (v:=(Qe m1.list_)) rfl rfl rfl rfl (Rn.lenD tv rfl (md rfl (nt ((Tr.block ?_)))))))))))))))
 refine Tr.loop (mk:=fun (x3:Int)=>⟨look [(1,(l_ tuple2)),(8,(Qe m1.list_)),(9,(i_ (m1.list_.length:Int))),(10,(i_ x3))],Qj Γ.n0 (bxs [(2,.cells ((Qbd m1)))]) M,Γ.n0+24⟩) h (by exact Qi ⟨(sm rfl),(sm rfl),(sm rfl),(sm rfl),tv⟩ ⟨bS rfl rfl rfl,tv⟩ rfl) (fun k4 z h=>?_)
 ·obtain ⟨x3,rfl⟩ : ∃ x,x=z:=⟨_,rfl⟩
  replace h:_=some _:=h
  refine sr ((Rn.bin tv rfl rfl rfl (nt ((Tr.seq ?_)))))
  refine Tr.cond rfl (fun hb5=>?_) (fun hb5=>?_)
  ·replace h:=ifT hb5 h
   refine Tr.skip (toN (Tr.seq (Tr.block (sr ((md rfl ?_))))))
   obtain ⟨x6,h7,h⟩:=bnd h
   refine Rn.idxD (e:=Qn) tv rfl rfl h7 (Rn.loadCA (vs:=(Qc x6)) tv rfl rfl rfl (Rn.alloc tv rfl (md rfl (Rn.storeT (v:=(Qb x6)) (ds:=(Qc x6)) (cs':=(Qc x6)) tv rfl rfl rfl rfl rfl rfl rfl (nt ((Tr.seq ?_)))))))
   refine Tr.rgnD (by decide) ?_
   refine Rn.fldP (o':=2) tv rfl rfl (lB (v:=(l_ x6.zB)) rfl rfl rfl rfl (md rfl (md rfl ?_)))
   obtain ⟨x8,h9,h⟩:=bnd h
   refine Rn.idxD (e:=(eI .i64)) tv rfl rfl h9 (Rn.loadC (x:=.int .i64 x8) tv rfl ?_)
   obtain ⟨x11,h10,h⟩:=bnd h
   refine Rn.call (args:=[(l_ x6.zB),(i_ x8)]) tv rfl (H_alphabet_Contains _ _ _ h10) pc0 (Rn.un tv rfl rfl ?_)
   refine Rn.nil ⟨rfl,?_⟩
   refine toN ?_
   refine Tr.cond rfl (fun hb12=>?_) (fun hb12=>?_)
   ·have hb12:=nT' hb12
    replace h:=bF hb12 h
    refine sr ((md rfl (nt ((Tr.ret ?_)))))
    replace h:=si h; subst h
    exact ⟨.inr rfl,(b_ false),rfl,fun _ _ _ _ h=>h,tv,mB⟩
   ·have hb12:=nF' hb12
    replace h:=bT hb12 h
    refine Tr.skip (toN (Tr.rgn (Rn.bin tv rfl rfl rfl (md rfl (Rn.nil ?_)))))
    exact ⟨_,h,(by exact Qi ⟨(sm rfl),(sm rfl),(sm rfl),(sm rfl),tv⟩ ⟨bS rfl rfl rfl,tv⟩ rfl)⟩
  ·replace h:=ifF hb5 h
   refine Tr.exit (toN (sr ((md rfl (nt ((Tr.ret ?_)))))))
   replace h:=si h; subst h
   exact ⟨.inr rfl,(b_ true),rfl,fun _ _ _ _ h=>h,tv,mB⟩
theorem Qpd {P:Program} {c:Nat} {Qp:(List Int)→Int→Option Bool} {Q8:(List Int)→Option ((List Int))}
    (H_alphabet_Contains:Qef P 29 Qp)
    (H_slices_Clone_int:Qgs P 49 Q8) (hcf:Qm P c=some Qgk) (fuel:Nat):Qgj P c (Qbo Qp Q8 fuel):=by
 intro m1 tuple2 event3 r h
 refine Qbjr hcf (args':=[.agg [.f (.lst 4 (List.map Qn m1.list_)),(f_ m1.events_),.f (.lst 1 (List.map (fun p:List ((Int×Int)×Int)=>[mq0 p]) m1.edges_))],(f_ tuple2),(i_ event3)]) rfl rfl rfl rfl rfl rfl fun Γ M hP hnt hG hM0 hM=>?_
 subst hP
 refine Tr.init [(0,.agg [.f (.lst 4 (List.map Qn m1.list_)),(f_ m1.events_),.f (.lst 1 (List.map (fun p:List ((Int×Int)×Int)=>[mq0 p]) m1.edges_))]),(1,(f_ tuple2)),(2,(i_ event3))] rfl ?_
 unfold Qbo at h
 unfold Qgk
 refine sr ((Rn.box (v:=.agg [.f (.lst 4 (List.map Qn m1.list_)),(f_ m1.events_),.f (.lst 1 (List.map (fun p:List ((Int×Int)×Int)=>[mq0 p]) m1.edges_))]) (cs:=[.f (.lst 4 (List.map Qn m1.list_)),(f_ m1.events_),.f (.lst 1 (List.map (fun p:List ((Int×Int)×Int)=>[mq0 p]) m1.edges_))]) tv rfl rfl rfl rfl rfl (Rn.movTC (v:=.nils 1) tv (md rfl (nt ((sr ((Rn.mov (v:=(f_ tuple2)) tv rfl ?_)))))))))
 obtain ⟨x5,h4,h⟩:=bnd h
 refine Rn.call (args:=[(f_ tuple2)]) tv rfl (fun M2 nb2=>ACalls.weak (args':=[(l_ tuple2)]) (H_slices_Clone_int _ _ h4 M2 nb2) (.cons fToD .nil) rfl) pc9 ?_
 refine Rn.movTO tv rfl (Rn.nil (toN ?_))
 obtain ⟨⟨⟩,hx6,h⟩:=bnd h
 refine Tr.weak (by show WeakSt Γ _ ⟨look [(0,.agg [.f (.lst 4 (List.map Qn m1.list_)),(f_ m1.events_),.f (.lst 1 (List.map (fun p:List ((Int×Int)×Int)=>[mq0 p]) m1.edges_))]),(1,(f_ tuple2)),(2,(i_ event3)),(3,.ptr (Γ.n0+3) 0),(6,.nils 1),(7,(b_ false)),(8,(o_ x5)),(13,(f_ tuple2))],Qj Γ.n0 (bxs [(3,.cells ([.f (.lst 4 (List.map Qn m1.list_)),(f_ m1.events_),.f (.lst 1 (List.map (fun p:List ((Int×Int)×Int)=>[mq0 p]) m1.edges_))]))]) M,Γ.n0+51⟩; exact Qh [] ⟨(sm rfl),(sm rfl),(sm rfl),(kPtr rfl),(sm rfl),(sm rfl),(sm rfl),(sm rfl),tv⟩ ⟨bS rfl rfl rfl,tv⟩ rfl) ?_
 refine Qblu hG hM0 8 8 (e:=(eI .i64)) (fun (x:Int)=>[V.d (.int .i64 x)]) (fun _=>rfl) (Qbi2 hx6) (fun _=>rfl) rfl rfl rfl ⟨rfl,rfl,rfl,rfl,rfl,rfl,rfl,(Qbex (fun _=>rfl)),rfl,tv⟩ ⟨⟨rfl,rfl,rfl,tv⟩,tv⟩ (fun c7 R8 hc9=>?_)
 refine Tr.weak (by show WeakSt Γ _ ⟨look [(0,.agg [.f (.lst 4 (List.map Qn m1.list_)),(f_ m1.events_),.f (.lst 1 (List.map (fun p:List ((Int×Int)×Int)=>[mq0 p]) m1.edges_))]),(1,(f_ tuple2)),(2,(i_ event3)),(3,.ptr (Γ.n0+3) 0),(6,.nils 1),(7,(b_ false)),(8,.sl 1 (Γ.n0+8) 0 x5.length c7),(13,(f_ tuple2))],Qj Γ.n0 (bxs [(3,.cells ([.f (.lst 4 (List.map Qn m1.list_)),(f_ m1.events_),.f (.lst 1 (List.map (fun p:List ((Int×Int)×Int)=>[mq0 p]) m1.edges_))])),(8,.cells (rowR (fun (x:Int)=>[V.d (.int .i64 x)]) x5 R8))]) M,Γ.n0+51⟩; exact Qh [] ⟨(sm rfl),(sm rfl),(sm rfl),(kPtr rfl),(sm rfl),(sm rfl),(kSl rfl),(sm rfl),tv⟩ ⟨bS rfl rfl rfl,⟨_,rfl,rfl,(Qxt (fun _=>rfl) rfl)⟩,tv⟩ rfl) ?_
 refine Tr.seq (sr ((Rn.fldP (o':=0) tv rfl rfl (lB (v:=.f (.lst 4 (List.map Qn m1.list_))) rfl rfl rfl rfl ?_))))
 refine Rn.weak (by show WeakSt Γ _ ⟨look [(0,.agg [.f (.lst 4 (List.map Qn m1.list_)),(f_ m1.events_),.f (.lst 1 (List.map (fun p:List ((Int×Int)×Int)=>[mq0 p]) m1.edges_))]),(1,(f_ tuple2)),(2,(i_ event3)),(3,.ptr (Γ.n0+3) 0),(6,.nils 1),(7,(b_ false)),(8,.sl 1 (Γ.n0+8) 0 x5.length c7),(13,(f_ tuple2)),(15,.ptr (Γ.n0+3) 0),(16,(Qe m1.list_))],Qj Γ.n0 (bxs [(3,.cells ([.f (.lst 4 (List.map Qn m1.list_)),(f_ m1.events_),.f (.lst 1 (List.map (fun p:List ((Int×Int)×Int)=>[mq0 p]) m1.edges_))])),(8,.cells (rowR (fun (x:Int)=>[V.d (.int .i64 x)]) x5 R8))]) M,Γ.n0+51⟩; exact Qh [] ⟨(sm rfl),(sm rfl),(sm rfl),(kPtr rfl),(sm rfl),(sm rfl),(kSl rfl),(sm rfl),(kPtr rfl),fToD,tv⟩ ⟨bS rfl rfl rfl,⟨_,rfl,rfl,(Qxt (fun _=>rfl) rfl)⟩,tv⟩ rfl) ?_
 refine Rn.lenD tv rfl (md rfl (nt ((Tr.block ?_))))
 refine Tr.weak (by show WeakSt Γ _ ⟨look [(0,.agg [.f (.lst 4 (List.map Qn m1.list_)),(f_ m1.events_),.f (.lst 1 (List.map (fun p:List ((Int×Int)×Int)=>[mq0 p]) m1.edges_))]),(1,(f_ tuple2)),(2,(i_ event3)),(3,.ptr (Γ.n0+3) 0),(6,.nils 1),(7,(b_ false)),(8,.sl 1 (Γ.n0+8) 0 x5.length c7),(13,(f_ tuple2)),(15,.ptr (Γ.n0+3) 0),(16,(Qe m1.list_)),(17,(i_ (m1.list_.length:Int))),(18,(i_ 0))],Qj Γ.n0 (bxs [(3,.cells ([.f (.lst 4 (List.map Qn m1.list_)),(f_ m1.events_),.d (.lst 1 (List.map (fun p:List ((Int×Int)×Int)=>[mq0 p]) m1.edges_))])),(8,.cells (rowR (fun (x:Int)=>[V.d (.int .i64 x)]) x5 R8))]) M,Γ.n0+51⟩; exact Qh [] ⟨(sm rfl),(sm rfl),(sm rfl),(kPtr rfl),(sm rfl),(sm rfl),(kSl rfl),(sm rfl),(kPtr rfl),(sm rfl),(sm rfl),(sm rfl),tv⟩ ⟨⟨_,rfl,rfl,(cS rfl (cS rfl (.cons fToD .nil)))⟩,⟨_,rfl,rfl,(Qxt (fun _=>rfl) rfl)⟩,tv⟩ rfl) ?_
 refine Tr.weak (by show WeakSt Γ _ ⟨look [(0,.agg [.f (.lst 4 (List.map Qn m1.list_)),(f_ m1.events_),.f (.lst 1 (List.map (fun p:List ((Int×Int)×Int)=>[mq0 p]) m1.edges_))]),(1,(l_ tuple2)),(2,(i_ event3)),(3,.ptr (Γ.n0+3) 0),(6,.nils 1),(7,(b_ false)),(8,.sl 1 (Γ.n0+8) 0 x5.length c7),(13,(f_ tuple2)),(15,.ptr (Γ.n0+3) 0),(16,(Qe m1.list_)),(17,(i_ (m1.list_.length:Int))),(18,(i_ 0))],Qj Γ.n0 (bxs [(3,.cells ([.f (.lst 4 (List.map Qn m1.list_)),(f_ m1.events_),.d (.lst 1 (List.map (fun p:List ((Int×Int)×Int)=>[mq0 p]) m1.edges_))])),(8,.cells (rowR (fun (x:Int)=>[V.d (.int .i64 x)]) x5 R8))]) M,Γ.n0+51⟩; exact Qh [] ⟨(sm rfl),fToD,(sm rfl),(kPtr rfl),(sm rfl),(sm rfl),(kSl rfl),(sm rfl),(kPtr rfl),(sm rfl),(sm rfl),(sm rfl),tv⟩ ⟨bS rfl rfl rfl,⟨_,rfl,rfl,(Qxt (fun _=>rfl) rfl)⟩,tv⟩ rfl) ?_
 refine Tr.loop (mk:=fun ((x10,next11):Int×(List Int))=>⟨look [(1,(l_ tuple2)),(2,(i_ event3)),(3,.ptr (Γ.n0+3) 0),(8,.sl 1 (Γ.n0+8) 0 x5.length c7),(16,(Qe m1.list_)),(17,(i_ (m1.list_.length:Int))),(18,(i_ x10))],Qj Γ.n0 (bxs [(3,.cells ([.f (.lst 4 (List.map Qn m1.list_)),(f_ m1.events_),.d (.lst 1 (List.map (fun p:List ((Int×Int)×Int)=>[mq0 p]) m1.edges_))])),(8,.cells (rowR (fun (x:Int)=>[V.d (.int .i64 x)]) next11 R8))]) M,Γ.n0+51⟩) h (by exact Qi ⟨(sm rfl),(sm rfl),(kPtr rfl),(kSl rfl),(sm rfl),(sm rfl),(sm rfl),tv⟩ ⟨bS rfl rfl rfl,⟨_,rfl,rfl,(Qxt (fun _=>rfl) rfl)⟩,tv⟩ rfl) (fun k12 z h=>?_)
 ·obtain ⟨x10,next11⟩:=z
  replace h:_=some _:=h
  refine sr ((Rn.bin tv rfl rfl rfl (nt ((Tr.seq ?_)))))
  refine Tr.cond rfl (fun hb13=>?_) (fun hb13=>?_)
  ·replace h:=ifT hb13 h
   refine Tr.skip (toN ?_)
   refine Tr.cutJ (fun ((next28,a29,a30,a31,a32):(List Int)×(List Int)×Int×(List Int)×(List Qd))=>⟨look [(1,(l_ tuple2)),(2,(i_ event3)),(3,.ptr (Γ.n0+3) 0),(8,.sl 1 (Γ.n0+8) 0 x5.length c7),(16,(Qe m1.list_)),(17,(i_ (m1.list_.length:Int))),(18,(i_ x10))],Qj Γ.n0 (bxs [(3,.cells ([.f (.lst 4 (List.map Qn m1.list_)),(f_ m1.events_),.d (.lst 1 (List.map (fun p:List ((Int×Int)×Int)=>[mq0 p]) m1.edges_))])),(8,.cells (rowR (fun (x:Int)=>[V.d (.int .i64 x)]) next28 R8)),(10,.cells ([(l_ a29),(i_ a30),(l_ a31),(Ql a32)]))]) M,Γ.n0+51⟩) h (fun J33 h=>?_) (fun z h=>?_)
   ·refine Tr.block (sr ((md rfl ?_)))
    obtain ⟨x14,h15,h⟩:=bnd h
    refine Rn.idxD (e:=Qn) tv rfl rfl h15 (Rn.loadCA (vs:=(Qc x14)) tv rfl rfl rfl (Rn.alloc tv rfl (md rfl (Rn.storeT (v:=(Qb x14)) (ds:=(Qc x14)) (cs':=(Qc x14)) tv rfl rfl rfl rfl rfl rfl rfl (nt ((Tr.seq (sr ((Rn.fldP (o':=0) tv rfl rfl (lB (v:=(l_ x14.zA)) rfl rfl rfl rfl (md rfl ?_))))))))))))
    obtain ⟨x17,h16,h⟩:=bnd h
    refine Rn.call (args:=[(l_ x14.zA),(i_ event3)]) tv rfl (H_alphabet_Contains _ _ _ h16) pc9 (Rn.un tv rfl rfl (Rn.nil (toN ?_)))
    refine Tr.cond rfl (fun hb18=>?_) (fun hb18=>?_)
    ·have hb18:=nT' hb18
     replace h:=bF hb18 h
     refine Tr.exit ?_
     exact ⟨_,h,(by exact Qh [] ⟨(sm rfl),(sm rfl),(kPtr rfl),(kSl rfl),(sm rfl),(sm rfl),(sm rfl),tv⟩ ⟨bS rfl rfl rfl,⟨_,rfl,rfl,(Qxt (fun _=>rfl) rfl)⟩,bS rfl rfl rfl,tv⟩ rfl)⟩
    ·have hb18:=nF' hb18
     replace h:=bT hb18 h
     refine Tr.skip (toN (Tr.seq ?_))
     refine Tr.rgnD (by decide) ?_
     refine Rn.fldP (o':=2) tv rfl rfl (lB (v:=.d (.lst 1 (List.map (fun p:List ((Int×Int)×Int)=>[mq0 p]) m1.edges_))) rfl rfl rfl rfl (md rfl ?_))
     obtain ⟨x19,h20,h⟩:=bnd h
     refine Rn.idxD (e:=(fun p:List ((Int×Int)×Int)=>[mq0 p])) tv rfl rfl h20 (Rn.loadC (x:=mq0 x19) tv rfl (md rfl (md rfl ?_)))
     obtain ⟨x21,h22,h⟩:=bnd h
     refine Rn.idxD (e:=(eI .i64)) tv rfl rfl h22 (Rn.loadC (x:=.int .i64 x21) tv rfl (md rfl (Rn.build (v:=.agg [(i_ x21),(i_ event3)]) tv rfl (Rn.lookupDC (ek:=(fun (x:Int×Int)=>(.agg [(i_ x.1),(i_ x.2)]:V))) (ev:=(fun (x:Int)=>((i_ x):V))) (m:=x19) (k:=(x21,event3)) Qbjt (fun _=>rfl) (fun _=>rfl) (fun _=>rfl) (fun _=>rfl) 0 rfl tv rfl rfl (Rn.mov (v:=.tup [(i_ (getM x19 (x21,event3) 0)),(b_ (hasM x19 (x21,event3)))]) tv rfl (Rn.ext (v:=(i_ (getM x19 (x21,event3) 0))) (vs:=[(i_ (getM x19 (x21,event3) 0)),(b_ (hasM x19 (x21,event3)))]) tv rfl rfl rfl (Rn.ext (v:=(b_ (hasM x19 (x21,event3)))) (vs:=[(i_ (getM x19 (x21,event3) 0)),(b_ (hasM x19 (x21,event3)))]) tv rfl rfl rfl (md rfl (md rfl ?_)))))))))
     refine Rn.nil ⟨rfl,?_⟩
     refine toN (Tr.seq (sr ((md rfl (Rn.un tv rfl rfl (Rn.nil (toN ?_)))))))
     refine Tr.cond rfl (fun hb23=>?_) (fun hb23=>?_)
     ·have hb23:=nT' hb23
      replace h:=bF hb23 h
      refine sr ((Rn.movTC (v:=.nils 1) tv (md rfl (nt ((Tr.ret ?_))))))
      replace h:=si h; subst h
      exact ⟨.inr rfl,.tup [.nils 1,(b_ false)],res2 rfl rfl,(WkV.tup (.cons (WkV.nilsD _) (.cons (.same rfl) .nil))).rd,⟨tv,tv,tv⟩,mB⟩
     ·have hb23:=nF' hb23
      replace h:=bT hb23 h
      refine Tr.skip (toN (Tr.rgn (Rn.mov (v:=.sl 1 (Γ.n0+8) 0 x5.length c7) tv rfl (md rfl (md rfl ?_)))))
      obtain ⟨⟨⟩,h25,h⟩:=bnd h
      refine Rn.idxA tv rfl rfl h25 ?_
      obtain ⟨next26,h27,h⟩:=bnd h
      refine Rn.storeR (g:=(fun (x:Int)=>[V.d (.int .i64 x)])) (v:=(i_ (getM x19 (x21,event3) 0))) (fun _=>rfl) tv rfl rfl rfl rfl rfl h27 (Rn.nil ?_)
      exact ⟨_,h,(by exact Qh [] ⟨(sm rfl),(sm rfl),(kPtr rfl),(kSl rfl),(sm rfl),(sm rfl),(sm rfl),tv⟩ ⟨bS rfl rfl rfl,⟨_,rfl,rfl,(Qxt (fun _=>rfl) rfl)⟩,bS rfl rfl rfl,tv⟩ rfl)⟩
   ·obtain ⟨next28,a29,a30,a31,a32⟩:=z
    refine Tr.rgn (Rn.bin tv rfl rfl rfl (md rfl (Rn.nil ?_)))
    exact ⟨_,h,(by exact Qi ⟨(sm rfl),(sm rfl),(kPtr rfl),(kSl rfl),(sm rfl),(sm rfl),(sm rfl),tv⟩ ⟨bS rfl rfl rfl,⟨_,rfl,rfl,(Qxt (fun _=>rfl) rfl)⟩,tv⟩ rfl)⟩
  ·replace h:=ifF hb13 h
   refine Tr.exit (toN (sr ((Rn.movTF (v:=.sl 1 (Γ.n0+8) 0 x5.length c7) tv rfl rfl (Rn.movTF (v:=.sl 1 (Γ.n0+8) 0 x5.length c7) tv rfl rfl (md rfl (Rn.nil (toN ?_))))))))
   obtain ⟨⟨⟩,hl34,h⟩:=bnd h
   refine Tr.weak (by show WeakSt Γ _ ⟨look [(1,(l_ tuple2)),(2,(i_ event3)),(3,.ptr (Γ.n0+3) 0),(6,(l_ next11)),(7,(b_ true)),(8,(l_ next11)),(16,(Qe m1.list_)),(17,(i_ (m1.list_.length:Int))),(18,(i_ x10)),(19,(b_ (decide (x10 < (m1.list_.length:Int))))),(50,(l_ next11))],Qj Γ.n0 (bxs [(3,.cells ([.f (.lst 4 (List.map Qn m1.list_)),(f_ m1.events_),.d (.lst 1 (List.map (fun p:List ((Int×Int)×Int)=>[mq0 p]) m1.edges_))]))]) M,Γ.n0+51⟩; exact Qxn 8 _ rfl (preR (fun _=>rfl)) ⟨(.same rfl),(.same rfl),(fPtr rfl),(fSlT (fun _=>rfl) (Qxp hl34) hc9),(.same rfl),(fSlT (fun _=>rfl) (Qxp hl34) hc9),(.same rfl),(.same rfl),(.same rfl),(.same rfl),(fSlT (fun _=>rfl) (Qxp hl34) hc9),tv⟩ ⟨bS rfl rfl rfl,tv⟩ rfl) ?_
   refine Tr.ret ?_
   replace h:=si h; subst h
   exact ⟨.inr rfl,.tup [(l_ next11),(b_ true)],res2 rfl rfl,(WkV.tup (.cons (.same rfl) (.cons (.same rfl) .nil))).rd,⟨tv,tv,tv⟩,mB⟩
theorem Qsd {P:Program} {c:Nat} {Qdc:(List Qa)→Option Int} {Qdo:(List Qa)→Option Q0} {Qbc:Q0→Option ((List Int)×Bool)} {f_product_key:(List Int)→Option ByteArray} {Qbe:Q0→(List Int)→Option Bool} {Qbo:Q0→(List Int)→Int→Option ((List Int)×Bool)}
    (H_product_Check:Qnb P 42 Qdc)
    (H_product_open:Qo2 P 43 Qdo)
    (H_product_machine_initial:Qe9 P 44 Qbc)
    (H_product_key:K_product_key P 45 f_product_key)
    (H_product_machine_marked:Qfo P 46 Qbe)
    (H_product_machine_step:Qgj P 47 Qbo) (hcf:Qm P c=some Qg9) (fuel:Nat):Qg8 P c (Qbk Qdc Qdo Qbc f_product_key Qbe Qbo fuel):=by
 intro l1 r h
 refine Qbw hcf rfl fun Γ M hP hnt hM=>?_
 subst hP
 refine Tr.init [(0,(Qe l1))] rfl ?_
 unfold Qbk at h
 unfold Qg9
 refine sr ((Rn.alloc tv rfl (Rn.movTC (v:=.nils 1) tv (md rfl (nt ((Tr.seq (sr ((md rfl ?_))))))))))
 obtain ⟨x3,h2,h⟩:=bnd h
 refine Rn.call (args:=[(Qe l1)]) tv rfl (H_product_Check _ _ h2) pc9 (md rfl (nt ((sr ((md rfl (Rn.bin tv rfl rfl rfl (Rn.nil (toN ?_)))))))))
 refine Tr.cond rfl (fun hb4=>?_) (fun hb4=>?_)
 ·replace h:=bT hb4 h
  refine sr ((Rn.build (v:=.agg [.nils 1,(i_ 0),.nils 1,.nils 3]) tv rfl (md rfl (Rn.storeT (v:=.agg [.nils 1,(i_ 0),.nils 1,.nils 3]) (ds:=[.nils 1,(i_ 0),.nils 1,.nils 3]) (cs':=[.nils 1,(i_ 0),.nils 1,.nils 3]) tv rfl rfl rfl rfl rfl rfl rfl (Rn.movTC (v:=.nils 1) tv (md rfl (nt ((Tr.ret ?_)))))))))
  replace h:=si h; subst h
  exact ⟨.inr rfl,.tup [.agg [.nils 1,(i_ 0),.nils 1,.nils 3],.nils 1,(i_ x3)],res3 (Qeo rfl rfl rfl rfl) rfl rfl,(WkV.tup (.cons (WkV.agg (.cons (WkV.nilsD _) (.cons (.same rfl) (.cons (WkV.nilsD _) (.cons (WkV.nilsD _) .nil))))) (.cons (WkV.nilsO _) (.cons (.same rfl) .nil)))).rd,⟨⟨tv,tv,tv,tv,tv⟩,tv,tv,tv⟩,mB⟩
 ·replace h:=bF hb4 h
  refine Tr.skip (toN (sr ((md rfl ?_))))
  obtain ⟨x6,h5,h⟩:=bnd h
  refine Rn.call (args:=[(Qe l1)]) tv rfl (H_product_open _ _ h5) pc9 (Rn.alloc tv rfl (Rn.storeT (v:=(Q1 x6)) (ds:=(Qbd x6)) (cs':=(Qbd x6)) tv rfl rfl rfl rfl rfl rfl rfl (nt ((sr ((Rn.fldP (o':=1) tv rfl rfl (lB (v:=(l_ x6.events_)) rfl rfl rfl rfl (Rn.fldP (o':=0) tv rfl rfl (Rn.storeD (cs':=[(l_ x6.events_),(i_ 0),.nils 1,.nils 3]) tv rfl rfl rfl rfl rfl (nt ((sr ((lB (v:=(Q1 x6)) rfl rfl rfl rfl ?_)))))))))))))))
  obtain ⟨⟨r8,r9⟩,h7,h⟩:=bnd h
  refine Rn.call (args:=[(Q1 x6)]) tv rfl (H_product_machine_initial _ _ h7) pc9 (Rn.mov (v:=.tup [(l_ r8),(b_ r9)]) tv rfl (Rn.extTD (vs:=[(l_ r8),(b_ r9)]) tv rfl rfl rfl (Rn.ext (v:=(b_ r9)) (vs:=[(l_ r8),(b_ r9)]) tv rfl rfl rfl (Rn.movTD tv rfl (md rfl (nt ((Tr.seq (sr ((md rfl (Rn.un tv rfl rfl (Rn.nil (toN ?_))))))))))))))
  refine Tr.cond rfl (fun hb10=>?_) (fun hb10=>?_)
  ·have hb10:=nT' hb10
   replace h:=bF hb10 h
   refine sr ((lB (v:=.agg [(l_ x6.events_),(i_ 0),.nils 1,.nils 3]) rfl rfl rfl rfl (Rn.storeT (v:=.agg [(l_ x6.events_),(i_ 0),.nils 1,.nils 3]) (ds:=[(l_ x6.events_),(i_ 0),.nils 1,.nils 3]) (cs':=[(l_ x6.events_),(i_ 0),.nils 1,.nils 3]) tv rfl rfl rfl rfl rfl rfl rfl (Rn.movTC (v:=.nils 1) tv (md rfl (nt ((Tr.ret ?_))))))))
   replace h:=si h; subst h
   exact ⟨.inr rfl,.tup [.agg [(l_ x6.events_),(i_ 0),.nils 1,.nils 3],.nils 1,(i_ 0)],res3 (Qeo rfl rfl rfl rfl) rfl rfl,(WkV.tup (.cons (WkV.agg (.cons (.same rfl) (.cons (.same rfl) (.cons (WkV.nilsD _) (.cons (WkV.nilsD _) .nil))))) (.cons (WkV.nilsO _) (.cons (.same rfl) .nil)))).rd,⟨⟨tv,tv,tv,tv,tv⟩,tv,tv,tv⟩,mB⟩
  ·have hb10:=nF' hb10
   replace h:=bT hb10 h
   refine Tr.skip (toN (sr ((md rfl (Rn.bslice (xs:=[(l_ r8)]) (cs:=[(l_ r8)]) tv rfl rfl rfl rfl (Rn.movTF (v:=.sl 1 (Γ.n0+37) 0 1 1) tv rfl rfl (nt ((sr ((Rn.mkmap tv rfl (fun (x:ByteArray)=>(.d (.str x):V)) (fun (x:Int)=>((i_ x):V)) (md rfl ?_))))))))))))
   obtain ⟨x12,h11,h⟩:=bnd h
   refine Rn.call (args:=[(l_ r8)]) tv rfl (H_product_key _ _ h11) pc9 (Rn.mapset (ek:=(fun (x:ByteArray)=>(.d (.str x):V))) (ev:=(fun (x:Int)=>((i_ x):V))) (m:=([]:List (ByteArray×Int))) (k:=x12) (v:=0) (fun _ _=>rfl) (fun _=>rfl) (fun _=>rfl) tv rfl rfl rfl rfl rfl (Rn.mov (v:=.mp (Γ.n0+38)) tv rfl (Rn.mov (v:=.mp (Γ.n0+38)) tv rfl (nt ((Tr.seq (sr ((md rfl (nt ((Tr.block ?_))))))))))))
   refine Tr.weak (by show WeakSt Γ _ ⟨look ((3,.own 1 (List.map (eL 1 (eI .i64)) [r8])) :: [(0,(Qe l1)),(2,.ptr (Γ.n0+2) 0),(4,(i_ 0)),(5,(i_ x3)),(6,.ptr (Γ.n0+6) 0),(7,(l_ r8)),(8,(b_ r9)),(9,.mp (Γ.n0+38)),(10,(i_ 0)),(17,(Qe l1)),(18,(i_ x3)),(19,(i_ x3)),(20,(b_ (x3 != 0))),(23,(Qe l1)),(24,(Q1 x6)),(25,.ptr (Γ.n0+6) 1),(26,(l_ x6.events_)),(27,.ptr (Γ.n0+2) 0),(28,.tup [(l_ r8),(b_ r9)]),(29,(Q1 x6)),(30,.tup [(l_ r8),(b_ r9)]),(31,(l_ r8)),(32,(b_ r9)),(33,(b_ r9)),(34,(b_ (!r9))),(36,(l_ r8)),(38,.mp (Γ.n0+38)),(39,(l_ r8)),(40,.d (.str x12)),(41,.mp (Γ.n0+38))] ),Qj Γ.n0 (bxs [(2,.cells ([(l_ x6.events_),(i_ 0),.nils 1,.nils 3])),(6,.cells ((Qbd x6))),(38,.mp (mapE (fun (x:ByteArray)=>(.d (.str x):V)) (fun (x:Int)=>((i_ x):V)) 0 (setM ([]:List (ByteArray×Int)) x12 0)) ((setM ([]:List (ByteArray×Int)) x12 0)).length)]) M,Γ.n0+117⟩; exact Qbcn 37 3 [.lst 1 (List.map (eI .i64) r8)] rfl rfl rfl rfl rfl ⟨(sm rfl),(kPtr rfl),(sm rfl),(sm rfl),(kPtr rfl),(sm rfl),(sm rfl),(kMp rfl),(sm rfl),(sm rfl),(sm rfl),(sm rfl),(sm rfl),(sm rfl),(sm rfl),(kPtr rfl),(sm rfl),(kPtr rfl),(sm rfl),(sm rfl),(sm rfl),(sm rfl),(sm rfl),(sm rfl),(sm rfl),(sm rfl),(kMp rfl),(sm rfl),(sm rfl),(kMp rfl),tv⟩ ⟨bS rfl rfl rfl,bS rfl rfl rfl,⟨rfl,rfl⟩,tv⟩ rfl) ?_
   refine Tr.loop (mk:=fun ((tuples13,i14,a15,a16,c17):(List (List Int))×Int×(List Int)×(List Qd)×(List (ByteArray×Int)))=>⟨look [(2,.ptr (Γ.n0+2) 0),(3,.own 1 (List.map (eL 1 (eI .i64)) tuples13)),(6,.ptr (Γ.n0+6) 0),(9,.mp (Γ.n0+38)),(10,(i_ i14))],Qj Γ.n0 (bxs [(2,.cells ([(l_ x6.events_),(i_ 0),(o_ a15),(Qk a16)])),(6,.cells ((Qbd x6))),(38,.mp (mapE (fun (x:ByteArray)=>(.d (.str x):V)) (fun (x:Int)=>((i_ x):V)) 0 c17) (c17).length)]) M,Γ.n0+117⟩) h (by exact Qi ⟨(kPtr rfl),(sm rfl),(kPtr rfl),(kMp rfl),(sm rfl),tv⟩ ⟨⟨_,rfl,rfl,(cS rfl (cS rfl (.cons (WkV.nilsO _) (.cons (WkV.nilsO _) .nil))))⟩,bS rfl rfl rfl,⟨rfl,rfl⟩,tv⟩ rfl) (fun k18 z h=>?_)
   ·obtain ⟨tuples13,i14,a15,a16,c17⟩:=z
    replace h:_=some _:=h
    refine Tr.seq (sr ((md rfl (Rn.mov (v:=.d (.lst 1 (List.map (eL 1 (eI .i64)) tuples13))) tv rfl (Rn.lenD tv rfl (Rn.bin tv rfl rfl rfl (Rn.nil (toN ?_))))))))
    refine Tr.cond rfl (fun hb19=>?_) (fun hb19=>?_)
    ·replace h:=ifT hb19 h
     refine Tr.skip (toN (Tr.seq (Tr.block ?_)))
     refine Tr.cutB (fun (a27:List Int)=>⟨look [(2,.ptr (Γ.n0+2) 0),(3,.own 1 (List.map (eL 1 (eI .i64)) tuples13)),(6,.ptr (Γ.n0+6) 0),(9,.mp (Γ.n0+38)),(10,(i_ i14))],Qj Γ.n0 (bxs [(2,.cells ([(l_ x6.events_),(i_ 0),(o_ a27),(Qk a16)])),(6,.cells ((Qbd x6))),(38,.mp (mapE (fun (x:ByteArray)=>(.d (.str x):V)) (fun (x:Int)=>((i_ x):V)) 0 c17) (c17).length)]) M,Γ.n0+117⟩) h (fun z h=>?_) (fun z h=>?_)
     ·refine Tr.seq ?_
      refine Tr.rgnD (by decide) ?_
      refine lB (v:=(Q1 x6)) rfl rfl rfl rfl (Rn.mov (v:=.d (.lst 1 (List.map (eL 1 (eI .i64)) tuples13))) tv rfl (md rfl ?_))
      obtain ⟨x20,h21,h⟩:=bnd h
      refine Rn.idxD (e:=(eL 1 (eI .i64))) tv rfl rfl h21 (Rn.loadC (x:=.lst 1 (List.map (eI .i64) x20)) tv rfl ?_)
      obtain ⟨x23,h22,h⟩:=bnd h
      refine Rn.call (args:=[(Q1 x6),(l_ x20)]) tv rfl (H_product_machine_marked _ _ _ h22) pc0 ?_
      refine Rn.nil ⟨rfl,?_⟩
      refine toN ?_
      refine Tr.cond rfl (fun hb24=>?_) (fun hb24=>?_)
      ·replace h:=bT hb24 h
       refine Tr.rgn (Rn.fldP (o':=2) tv rfl rfl (Rn.loadT (cs':=[(l_ x6.events_),(i_ 0),(l_ a15),(Qk a16)]) tv rfl rfl rfl rfl (md rfl (Rn.bslice (xs:=[(i_ i14)]) (cs:=[(i_ i14)]) tv rfl rfl rfl rfl ?_))))
       obtain ⟨x25,h26,h⟩:=bnd h
       refine Rn.app (e:=(eI .i64)) tv rfl rfl rfl (Qdk rfl rfl rfl) h26 rfl (Rn.fldP (o':=2) tv rfl rfl (Rn.storeO (cs':=[(l_ x6.events_),(i_ 0),(o_ x25),(Qk a16)]) tv rfl rfl rfl rfl rfl (Rn.nil ?_)))
       replace h:=si h; subst h
       exact Qh [57] ⟨(kPtr rfl),(sm rfl),(kPtr rfl),(kMp rfl),(sm rfl),tv⟩ ⟨bS rfl rfl rfl,bS rfl rfl rfl,⟨rfl,rfl⟩,tv⟩ rfl
      ·replace h:=bF hb24 h
       refine Tr.skip ?_
       replace h:=si h; subst h
       exact Qh [] ⟨(kPtr rfl),(sm rfl),(kPtr rfl),(kMp rfl),(sm rfl),tv⟩ ⟨bS rfl rfl rfl,bS rfl rfl rfl,⟨rfl,rfl⟩,tv⟩ rfl
     ·obtain ⟨a27,rfl⟩ : ∃ x,x=z:=⟨_,rfl⟩
      refine sr ((Rn.fldP (o':=1) tv rfl rfl (lB (v:=(l_ x6.events_)) rfl rfl rfl rfl (Rn.lenD tv rfl (md rfl (nt ((Tr.block ?_))))))))
      refine Tr.loop (mk:=fun ((tuples28,x29,a30,c31):(List (List Int))×Int×(List Qd)×(List (ByteArray×Int)))=>⟨look [(2,.ptr (Γ.n0+2) 0),(3,.own 1 (List.map (eL 1 (eI .i64)) tuples28)),(6,.ptr (Γ.n0+6) 0),(9,.mp (Γ.n0+38)),(10,(i_ i14)),(61,(l_ x6.events_)),(62,(i_ (x6.events_.length:Int))),(63,(i_ x29))],Qj Γ.n0 (bxs [(2,.cells ([(l_ x6.events_),(i_ 0),(o_ a27),(Qk a30)])),(6,.cells ((Qbd x6))),(38,.mp (mapE (fun (x:ByteArray)=>(.d (.str x):V)) (fun (x:Int)=>((i_ x):V)) 0 c31) (c31).length)]) M,Γ.n0+117⟩) h (by exact Qi ⟨(kPtr rfl),(sm rfl),(kPtr rfl),(kMp rfl),(sm rfl),(sm rfl),(sm rfl),(sm rfl),tv⟩ ⟨bS rfl rfl rfl,bS rfl rfl rfl,⟨rfl,rfl⟩,tv⟩ rfl) (fun k32 z h=>?_)
      ·obtain ⟨tuples28,x29,a30,c31⟩:=z
       replace h:_=some _:=h
       refine sr ((Rn.bin tv rfl rfl rfl (nt ((Tr.seq ?_)))))
       refine Tr.cond rfl (fun hb33=>?_) (fun hb33=>?_)
       ·replace h:=ifT hb33 h
        refine Tr.skip (toN ?_)
        refine Tr.cutJ (fun ((tuples56,a57,c58):(List (List Int))×(List Qd)×(List (ByteArray×Int)))=>⟨look [(2,.ptr (Γ.n0+2) 0),(3,.own 1 (List.map (eL 1 (eI .i64)) tuples56)),(6,.ptr (Γ.n0+6) 0),(9,.mp (Γ.n0+38)),(10,(i_ i14)),(61,(l_ x6.events_)),(62,(i_ (x6.events_.length:Int))),(63,(i_ x29))],Qj Γ.n0 (bxs [(2,.cells ([(l_ x6.events_),(i_ 0),(o_ a27),(Qk a57)])),(6,.cells ((Qbd x6))),(38,.mp (mapE (fun (x:ByteArray)=>(.d (.str x):V)) (fun (x:Int)=>((i_ x):V)) 0 c58) (c58).length)]) M,Γ.n0+117⟩) h (fun J59 h=>?_) (fun z h=>?_)
        ·refine Tr.block (Tr.seq (Tr.rgn ?_))
         obtain ⟨x34,h35,h⟩:=bnd h
         refine Rn.idxD (e:=(eI .i64)) tv rfl rfl h35 (Rn.loadC (x:=.int .i64 x34) tv rfl (md rfl (nt ((Tr.seq ?_)))))
         refine Tr.rgnD (by decide) ?_
         refine lB (v:=(Q1 x6)) rfl rfl rfl rfl (Rn.mov (v:=.d (.lst 1 (List.map (eL 1 (eI .i64)) tuples28))) tv rfl (md rfl ?_))
         obtain ⟨x36,h37,h⟩:=bnd h
         refine Rn.idxD (e:=(eL 1 (eI .i64))) tv rfl rfl h37 (Rn.loadC (x:=.lst 1 (List.map (eI .i64) x36)) tv rfl (md rfl ?_))
         obtain ⟨⟨r39,r40⟩,h38,h⟩:=bnd h
         refine Rn.call (args:=[(Q1 x6),(l_ x36),(i_ x34)]) tv rfl (H_product_machine_step _ _ _ _ h38) pc0 (Rn.mov (v:=.tup [(l_ r39),(b_ r40)]) tv rfl (Rn.extTD (vs:=[(l_ r39),(b_ r40)]) tv rfl rfl rfl (Rn.ext (v:=(b_ r40)) (vs:=[(l_ r39),(b_ r40)]) tv rfl rfl rfl (Rn.movTD tv rfl (md rfl ?_)))))
         refine Rn.nil ⟨rfl,?_⟩
         refine toN (Tr.seq (sr ((md rfl (Rn.un tv rfl rfl (Rn.nil (toN ?_)))))))
         refine Tr.cond rfl (fun hb41=>?_) (fun hb41=>?_)
         ·have hb41:=nT' hb41
          replace h:=bF hb41 h
          refine Tr.exit ?_
          exact ⟨_,h,(by exact Qh [] ⟨(kPtr rfl),(sm rfl),(kPtr rfl),(kMp rfl),(sm rfl),(sm rfl),(sm rfl),(sm rfl),tv⟩ ⟨bS rfl rfl rfl,bS rfl rfl rfl,⟨rfl,rfl⟩,tv⟩ rfl)⟩
         ·have hb41:=nF' hb41
          replace h:=bT hb41 h
          refine Tr.skip (toN (sr ((Rn.mov (v:=.mp (Γ.n0+38)) tv rfl (md rfl ?_)))))
          obtain ⟨x43,h42,h⟩:=bnd h
          refine Rn.call (args:=[(l_ r39)]) tv rfl (H_product_key _ _ h42) pc9 (Rn.lookupC (ek:=(fun (x:ByteArray)=>(.d (.str x):V))) (ev:=(fun (x:Int)=>((i_ x):V))) (m:=c31) (k:=x43) (fun _ _=>rfl) (fun _=>rfl) (fun _=>rfl) 0 rfl tv rfl rfl rfl (Rn.mov (v:=.tup [(i_ (getM c31 x43 0)),(b_ (hasM c31 x43))]) tv rfl (Rn.ext (v:=(i_ (getM c31 x43 0))) (vs:=[(i_ (getM c31 x43 0)),(b_ (hasM c31 x43))]) tv rfl rfl rfl (Rn.ext (v:=(b_ (hasM c31 x43))) (vs:=[(i_ (getM c31 x43 0)),(b_ (hasM c31 x43))]) tv rfl rfl rfl (md rfl (md rfl (Rn.nil (toN ?_))))))))
          refine Tr.cutJ (fun ((tuples50,to51,c52):(List (List Int))×Int×(List (ByteArray×Int)))=>⟨look [(2,.ptr (Γ.n0+2) 0),(3,.own 1 (List.map (eL 1 (eI .i64)) tuples50)),(6,.ptr (Γ.n0+6) 0),(9,.mp (Γ.n0+38)),(10,(i_ i14)),(12,(i_ x34)),(15,(i_ to51)),(61,(l_ x6.events_)),(62,(i_ (x6.events_.length:Int))),(63,(i_ x29))],Qj Γ.n0 (bxs [(2,.cells ([(l_ x6.events_),(i_ 0),(o_ a27),(Qk a30)])),(6,.cells ((Qbd x6))),(38,.mp (mapE (fun (x:ByteArray)=>(.d (.str x):V)) (fun (x:Int)=>((i_ x):V)) 0 c52) (c52).length)]) M,Γ.n0+117⟩) h (fun J55 h=>?_) (fun z h=>?_)
          ·refine sr ((md rfl (Rn.un tv rfl rfl (Rn.nil (toN ?_)))))
           refine Tr.cond rfl (fun hb44=>?_) (fun hb44=>?_)
           ·have hb44:=nT' hb44
            replace h:=bF hb44 h
            refine Tr.seq (sr ((Rn.mov (v:=.d (.lst 1 (List.map (eL 1 (eI .i64)) tuples28))) tv rfl (Rn.lenD tv rfl (Rn.bin tv rfl rfl rfl (Rn.nil (toN ?_)))))))
            refine Tr.cond rfl (fun hb45=>?_) (fun hb45=>?_)
            ·replace h:=bT hb45 h
             refine sr ((Rn.build (v:=.agg [.nils 1,(i_ 0),.nils 1,.nils 3]) tv rfl (Rn.storeT (v:=.agg [.nils 1,(i_ 0),.nils 1,.nils 3]) (ds:=[.nils 1,(i_ 0),.nils 1,.nils 3]) (cs':=[.nils 1,(i_ 0),.nils 1,.nils 3]) tv rfl rfl rfl rfl rfl rfl rfl (Rn.movTC (v:=.nils 1) tv (md rfl (nt ((Tr.ret ?_))))))))
             replace h:=si h; subst h
             exact ⟨.inr rfl,.tup [.agg [.nils 1,(i_ 0),.nils 1,.nils 3],.nils 1,(i_ 3)],res3 (Qeo rfl rfl rfl rfl) rfl rfl,(WkV.tup (.cons (WkV.agg (.cons (WkV.nilsD _) (.cons (.same rfl) (.cons (WkV.nilsD _) (.cons (WkV.nilsD _) .nil))))) (.cons (WkV.nilsO _) (.cons (.same rfl) .nil)))).rd,⟨⟨tv,tv,tv,tv,tv⟩,tv,tv,tv⟩,mB⟩
            ·replace h:=bF hb45 h
             refine Tr.skip (toN (sr ((Rn.mov (v:=.d (.lst 1 (List.map (eL 1 (eI .i64)) tuples28))) tv rfl (Rn.lenD tv rfl (md rfl (nt ((sr ((Rn.mov (v:=.mp (Γ.n0+38)) tv rfl (md rfl ?_))))))))))))
             obtain ⟨x47,h46,h⟩:=bnd h
             refine Rn.call (args:=[(l_ r39)]) tv rfl (H_product_key _ _ h46) pc9 (md rfl (Rn.mapset (ek:=(fun (x:ByteArray)=>(.d (.str x):V))) (ev:=(fun (x:Int)=>((i_ x):V))) (m:=c31) (k:=x47) (v:=(tuples28.length:Int)) (fun _ _=>rfl) (fun _=>rfl) (fun _=>rfl) tv rfl rfl rfl rfl rfl (nt ((Tr.rgn (Rn.movTO tv rfl (md rfl (Rn.bslice (xs:=[(l_ r39)]) (cs:=[(l_ r39)]) tv rfl rfl rfl rfl ?_))))))))
             obtain ⟨x48,h49,h⟩:=bnd h
             refine Rn.app (e:=(eL 1 (eI .i64))) tv rfl rfl rfl (Qdk rfl rfl rfl) h49 rfl (Rn.movTO tv rfl (Rn.nil ?_))
             exact ⟨_,h,(by exact Qh [100] ⟨(kPtr rfl),(sm rfl),(kPtr rfl),(kMp rfl),(sm rfl),(sm rfl),(sm rfl),(sm rfl),(sm rfl),(sm rfl),tv⟩ ⟨bS rfl rfl rfl,bS rfl rfl rfl,⟨rfl,rfl⟩,tv⟩ rfl)⟩
           ·have hb44:=nF' hb44
            replace h:=bT hb44 h
            refine Tr.skip ?_
            exact ⟨_,h,(by exact Qh [] ⟨(kPtr rfl),(sm rfl),(kPtr rfl),(kMp rfl),(sm rfl),(sm rfl),(sm rfl),(sm rfl),(sm rfl),(sm rfl),tv⟩ ⟨bS rfl rfl rfl,bS rfl rfl rfl,⟨rfl,rfl⟩,tv⟩ rfl)⟩
          ·obtain ⟨tuples50,to51,c52⟩:=z
           refine Tr.rgn (Rn.fldP (o':=3) tv rfl rfl (Rn.loadT (cs':=[(l_ x6.events_),(i_ 0),(o_ a27),(Ql a30)]) tv rfl rfl rfl rfl (md rfl (md rfl (md rfl (Rn.build (v:=.agg [(i_ i14),(i_ x34),(i_ to51)]) tv rfl (Rn.bslice (xs:=[.agg [(i_ i14),(i_ x34),(i_ to51)]]) (cs:=[(i_ i14),(i_ x34),(i_ to51)]) tv rfl rfl rfl rfl ?_)))))))
           obtain ⟨x53,h54,h⟩:=bnd h
           refine Rn.app (e:=Qb4) tv rfl rfl rfl (Qdk rfl rfl rfl) h54 rfl (Rn.fldP (o':=3) tv rfl rfl (Rn.storeO (cs':=[(l_ x6.events_),(i_ 0),(o_ a27),(Qk x53)]) tv rfl rfl rfl rfl rfl (Rn.nil ?_)))
           exact ⟨_,h,(by exact Qh [108] ⟨(kPtr rfl),(sm rfl),(kPtr rfl),(kMp rfl),(sm rfl),(sm rfl),(sm rfl),(sm rfl),tv⟩ ⟨bS rfl rfl rfl,bS rfl rfl rfl,⟨rfl,rfl⟩,tv⟩ rfl)⟩
        ·obtain ⟨tuples56,a57,c58⟩:=z
         refine Tr.rgn (Rn.bin tv rfl rfl rfl (md rfl (Rn.nil ?_)))
         exact ⟨_,h,(by exact Qi ⟨(kPtr rfl),(sm rfl),(kPtr rfl),(kMp rfl),(sm rfl),(sm rfl),(sm rfl),(sm rfl),tv⟩ ⟨bS rfl rfl rfl,bS rfl rfl rfl,⟨rfl,rfl⟩,tv⟩ rfl)⟩
       ·replace h:=ifF hb33 h
        refine Tr.exit (toN (Tr.rgn (md rfl (Rn.bin tv rfl rfl rfl (md rfl (Rn.nil ?_))))))
        exact ⟨_,h,(by exact Qi ⟨(kPtr rfl),(sm rfl),(kPtr rfl),(kMp rfl),(sm rfl),tv⟩ ⟨bS rfl rfl rfl,bS rfl rfl rfl,⟨rfl,rfl⟩,tv⟩ rfl)⟩
    ·replace h:=ifF hb19 h
     refine Tr.exit (toN (sr ((Rn.mov (v:=.d (.lst 1 (List.map (eL 1 (eI .i64)) tuples13))) tv rfl (Rn.lenD tv rfl (Rn.fldP (o':=1) tv rfl rfl (Rn.store (v:=(i_ (tuples13.length:Int))) (cs':=[(l_ x6.events_),(i_ (tuples13.length:Int)),(o_ a15),(Qk a16)]) tv rfl rfl rfl rfl rfl rfl (nt ((sr ((lB (v:=.agg [(l_ x6.events_),(i_ (tuples13.length:Int)),(l_ a15),(Ql a16)]) rfl rfl rfl rfl (Rn.movTO tv rfl (Rn.storeT (v:=.agg [(l_ x6.events_),(i_ (tuples13.length:Int)),(l_ a15),(Ql a16)]) (ds:=[(l_ x6.events_),(i_ (tuples13.length:Int)),(l_ a15),(Ql a16)]) (cs':=[(l_ x6.events_),(i_ (tuples13.length:Int)),(l_ a15),(Ql a16)]) tv rfl rfl rfl rfl rfl rfl rfl (Rn.movTO tv rfl (md rfl (nt ((Tr.ret ?_)))))))))))))))))))
     replace h:=si h; subst h
     exact ⟨.inr rfl,.tup [.agg [(l_ x6.events_),(i_ (tuples13.length:Int)),(l_ a15),(Ql a16)],.own 1 (List.map (eL 1 (eI .i64)) tuples13),(i_ 0)],res3 (Qeo rfl rfl rfl rfl) rfl rfl,(WkV.tup (.cons (.same rfl) (.cons (.same rfl) (.cons (.same rfl) .nil)))).rd,⟨⟨tv,tv,tv,tv,tv⟩,tv,tv,tv⟩,mB⟩
theorem Q1q {P:Program} {c:Nat} {Qbk:(List Qa)→Option (Qa×(List (List Int))×Int)}
    (H_product_Synchronous:Qg8 P 20 Qbk) (hcf:Qm P c=some Qkk):Qhb P c (Qbf Qbk):=by
 intro l1 r h
 refine Qbw hcf rfl fun Γ M hP hnt hM=>?_
 subst hP
 refine Tr.init [(0,(Qe l1))] rfl ?_
 unfold Qbf at h
 unfold Qkk
 refine sr ((Rn.alloc tv rfl (md rfl (nt ((sr ((md rfl ?_))))))))
 obtain ⟨⟨r3,r4,r5⟩,h2,h⟩:=bnd h
 refine Rn.call (args:=[(Qe l1)]) tv rfl (H_product_Synchronous _ _ h2) pc9 (Rn.mov (v:=.tup [(Qb r3),.d (.lst 1 (List.map (eL 1 (eI .i64)) r4)),(i_ r5)]) tv rfl (Rn.ext (v:=(Qb r3)) (vs:=[(Qb r3),.d (.lst 1 (List.map (eL 1 (eI .i64)) r4)),(i_ r5)]) tv rfl rfl rfl (Rn.extTD (vs:=[(Qb r3),.d (.lst 1 (List.map (eL 1 (eI .i64)) r4)),(i_ r5)]) tv rfl rfl rfl (Rn.ext (v:=(i_ r5)) (vs:=[(Qb r3),.d (.lst 1 (List.map (eL 1 (eI .i64)) r4)),(i_ r5)]) tv rfl rfl rfl (Rn.alloc tv rfl (Rn.storeT (v:=(Qb r3)) (ds:=(Qc r3)) (cs':=(Qc r3)) tv rfl rfl rfl rfl rfl rfl rfl (Rn.movTD tv rfl (md rfl (nt ((sr ((lB (v:=(Qb r3)) rfl rfl rfl rfl (md rfl (Rn.storeT (v:=(Qb r3)) (ds:=(Qc r3)) (cs':=(Qc r3)) tv rfl rfl rfl rfl rfl rfl rfl (md rfl (nt ((Tr.ret ?_)))))))))))))))))))
 replace h:=si h; subst h
 exact ⟨.inr rfl,.tup [(Qb r3),(i_ r5)],res2 (Qeo rfl rfl rfl rfl) rfl,(WkV.tup (.cons (.same rfl) (.cons (.same rfl) .nil))).rd,⟨⟨tv,tv,tv,tv,tv⟩,tv,tv⟩,mB⟩
theorem Ql8 {P:Program} {c:Nat} {Qbf:(List Qa)→Option (Qa×Int)}
    (H_product_Compose:Qhb P 9 Qbf) (hcf:Qm P c=some Qfc):Qfb P c (Q3 Qbf):=by
 intro l1 r h
 refine Qbw hcf rfl fun Γ M hP hnt hM=>?_
 subst hP
 refine Tr.init [(0,(Qe l1))] rfl ?_
 unfold Q3 at h
 unfold Qfc
 refine sr ((Rn.alloc tv rfl (md rfl (nt ((sr ((md rfl ?_))))))))
 obtain ⟨⟨r3,r4⟩,h2,h⟩:=bnd h
 refine Rn.call (args:=[(Qe l1)]) tv rfl (H_product_Compose _ _ h2) pc9 (Rn.ext (v:=(Qb r3)) (vs:=[(Qb r3),(i_ r4)]) tv rfl rfl rfl (Rn.ext (v:=(i_ r4)) (vs:=[(Qb r3),(i_ r4)]) tv rfl rfl rfl (Rn.storeT (v:=(Qb r3)) (ds:=(Qc r3)) (cs':=(Qc r3)) tv rfl rfl rfl rfl rfl rfl rfl (md rfl (nt ((Tr.ret ?_)))))))
 replace h:=si h; subst h
 exact ⟨.inr rfl,.tup [(Qb r3),(i_ r4)],res2 (Qeo rfl rfl rfl rfl) rfl,(WkV.tup (.cons (.same rfl) (.cons (.same rfl) .nil))).rd,⟨⟨tv,tv,tv,tv,tv⟩,tv,tv⟩,mB⟩
theorem Q1r {P:Program} {c:Nat} {Qy:(List Int)→(List Int)→Option Bool} {Q4:(List Qd)→(List Qd)→Option Bool}
    (H_slices_Equal_int:Qgt P 15 Qy)
    (H_slices_Equal_Edge:Qfv P 16 Q4) (hcf:Qm P c=some Qkm):Qkl P c (Qcq Qy Q4):=by
 intro a1 b2 r h
 refine Qbw hcf rfl fun Γ M hP hnt hM=>?_
 subst hP
 refine Tr.init [(0,(Qb a1)),(1,(Qb b2))] rfl ?_
 unfold Qcq at h
 unfold Qkm
 refine sr ((Rn.box (v:=(Qb a1)) (cs:=(Qc a1)) tv rfl rfl rfl rfl rfl (Rn.box (v:=(Qb b2)) (cs:=(Qc b2)) tv rfl rfl rfl rfl rfl (md rfl (nt ((sr ((Rn.fldP (o':=1) tv rfl rfl (lB (v:=(i_ a1.zD)) rfl rfl rfl rfl (Rn.fldP (o':=1) tv rfl rfl (lB (v:=(i_ b2.zD)) rfl rfl rfl rfl (Rn.bin tv rfl rfl rfl (md rfl ?_))))))))))))))
 refine Qcb (a1.zD == b2.zD) (fun hb3=>?_) (fun hb3=>?_)
 ·replace h:=bT hb3 h
  refine Rn.fldP (o':=0) (gw rfl hb3) rfl rfl (Rn.load (v:=(l_ a1.zA)) (gw rfl hb3) rfl (Qbv rfl) rfl rfl (Rn.fldP (o':=0) (gw rfl hb3) rfl rfl (Rn.load (v:=(l_ b2.zA)) (gw rfl hb3) rfl (Qbv rfl) rfl rfl ?_)))
  obtain ⟨x5,h4,h⟩:=bnd h
  refine Rn.call (args:=[(l_ a1.zA),(l_ b2.zA)]) (gw rfl hb3) rfl (H_slices_Equal_int _ _ _ h4) pc9 (Rn.pickT (v:=(b_ x5)) tv rfl hb3 rfl (md rfl ?_))
  refine Qcb x5 (fun hb6=>?_) (fun hb6=>?_)
  ·replace h:=bT hb6 h
   refine Rn.fldP (o':=2) (gw rfl hb6) rfl rfl (Rn.load (v:=(l_ a1.zB)) (gw rfl hb6) rfl (Qbv rfl) rfl rfl (Rn.fldP (o':=2) (gw rfl hb6) rfl rfl (Rn.load (v:=(l_ b2.zB)) (gw rfl hb6) rfl (Qbv rfl) rfl rfl ?_)))
   obtain ⟨x8,h7,h⟩:=bnd h
   refine Rn.call (args:=[(l_ a1.zB),(l_ b2.zB)]) (gw rfl hb6) rfl (H_slices_Equal_int _ _ _ h7) pc9 (Rn.pickT (v:=(b_ x8)) tv rfl hb6 rfl (md rfl ?_))
   refine Qcb x8 (fun hb9=>?_) (fun hb9=>?_)
   ·replace h:=bT hb9 h
    refine Rn.fldP (o':=3) (gw rfl hb9) rfl rfl (Rn.load (v:=(Ql a1.zC)) (gw rfl hb9) rfl (Qbv rfl) rfl rfl (Rn.fldP (o':=3) (gw rfl hb9) rfl rfl (Rn.load (v:=(Ql b2.zC)) (gw rfl hb9) rfl (Qbv rfl) rfl rfl ?_)))
    obtain ⟨x11,h10,h⟩:=bnd h
    refine Rn.call (args:=[(Ql a1.zC),(Ql b2.zC)]) (gw rfl hb9) rfl (H_slices_Equal_Edge _ _ _ h10) pc9 (Rn.pickT (v:=(b_ x11)) tv rfl hb9 rfl (md rfl (nt ((Tr.ret ?_)))))
    replace h:=si h; subst h
    exact ⟨.inr rfl,(b_ x11),rfl,fun _ _ _ _ h=>h,tv,mB⟩
   ·replace h:=bF hb9 h
    refine Rn.sk (nw rfl hb9) (Rn.sk (nw rfl hb9) (Rn.sk (nw rfl hb9) (Rn.sk (nw rfl hb9) (Rn.sk (nw rfl hb9) (Rn.pickF (v:=(b_ false)) tv rfl hb9 rfl (md rfl (nt ((Tr.ret ?_)))))))))
    replace h:=si h; subst h
    exact ⟨.inr rfl,(b_ false),rfl,fun _ _ _ _ h=>h,tv,mB⟩
  ·replace h:=bF hb6 h
   refine Rn.sk (nw rfl hb6) (Rn.sk (nw rfl hb6) (Rn.sk (nw rfl hb6) (Rn.sk (nw rfl hb6) (Rn.sk (nw rfl hb6) (Rn.pickF (v:=(b_ false)) tv rfl hb6 rfl (md rfl (sF rfl rfl (sF rfl rfl (sF rfl rfl (sF rfl rfl (sF rfl rfl (Rn.pickF (v:=(b_ false)) tv rfl rfl rfl (md rfl (nt ((Tr.ret ?_))))))))))))))))
   replace h:=si h; subst h
   exact ⟨.inr rfl,(b_ false),rfl,fun _ _ _ _ h=>h,tv,mB⟩
 ·replace h:=bF hb3 h
  refine Rn.sk (nw rfl hb3) (Rn.sk (nw rfl hb3) (Rn.sk (nw rfl hb3) (Rn.sk (nw rfl hb3) (Rn.sk (nw rfl hb3) (Rn.pickF (v:=(b_ false)) tv rfl hb3 rfl (md rfl (sF rfl rfl (sF rfl rfl (sF rfl rfl (sF rfl rfl (sF rfl rfl (Rn.pickF (v:=(b_ false)) tv rfl rfl rfl (md rfl (sF rfl rfl (sF rfl rfl (sF rfl rfl (sF rfl rfl (sF rfl rfl (Rn.pickF (v:=(b_ false)) tv rfl rfl rfl (md rfl (nt ((Tr.ret ?_)))))))))))))))))))))))
  replace h:=si h; subst h
  exact ⟨.inr rfl,(b_ false),rfl,fun _ _ _ _ h=>h,tv,mB⟩
theorem Qim {P:Program} {c:Nat} {Qb9:Option Bool} {Qb1:(List Int)→Qf→Option Qa} {Qbh:Int→Option ((List Int))} {Qbg:Qa→Option (Bool×Int)} {Q3:(List Qa)→Option (Qa×Int)} {Qbf:(List Qa)→Option (Qa×Int)} {Qcq:Qa→Qa→Option Bool}
    (H_overseerlaw21_known:Qg1 P 4 Qb9)
    (H_overseerlaw03_Make:Qho P 5 Qb1)
    (H_overseerlaw03_Set_Events:Qep P 6 Qbh)
    (H_requirement_IsSafety:Qgh P 7 Qbg)
    (H_requirement_Conjunction:Qfb P 8 Q3)
    (H_product_Compose:Qhb P 9 Qbf)
    (H_automaton_Equal:Qkl P 10 Qcq) (hcf:Qm P c=some Qdh) (fuel:Nat):Qfd P c (Qck Qb9 Qb1 Qbh Qbg Q3 Qbf Qcq fuel):=by
 intro s1 g2 r h
 refine Qbw hcf rfl fun Γ M hP hnt hM=>?_
 subst hP
 refine Tr.init [(0,.agg [.d (.int .u8 s1.1),.d (.int .u8 s1.2.1),.d (.int .u8 s1.2.2)]),(1,.agg [.d (.int .u8 g2.1.zD),.d (.int .u8 g2.1.Marks),.d (.int .u8 g2.1.To.1.1),.d (.int .u8 g2.1.To.1.2.1),.d (.int .u8 g2.1.To.1.2.2.1),.d (.int .u8 g2.1.To.1.2.2.2.1),.d (.int .u8 g2.1.To.1.2.2.2.2),.d (.int .u8 g2.1.To.2.1.1),.d (.int .u8 g2.1.To.2.1.2.1),.d (.int .u8 g2.1.To.2.1.2.2.1),.d (.int .u8 g2.1.To.2.1.2.2.2.1),.d (.int .u8 g2.1.To.2.1.2.2.2.2),.d (.int .u8 g2.1.To.2.2.1.1),.d (.int .u8 g2.1.To.2.2.1.2.1),.d (.int .u8 g2.1.To.2.2.1.2.2.1),.d (.int .u8 g2.1.To.2.2.1.2.2.2.1),.d (.int .u8 g2.1.To.2.2.1.2.2.2.2),.d (.int .u8 g2.1.To.2.2.2.1.1),.d (.int .u8 g2.1.To.2.2.2.1.2.1),.d (.int .u8 g2.1.To.2.2.2.1.2.2.1),.d (.int .u8 g2.1.To.2.2.2.1.2.2.2.1),.d (.int .u8 g2.1.To.2.2.2.1.2.2.2.2),.d (.int .u8 g2.1.To.2.2.2.2.1),.d (.int .u8 g2.1.To.2.2.2.2.2.1),.d (.int .u8 g2.1.To.2.2.2.2.2.2.1),.d (.int .u8 g2.1.To.2.2.2.2.2.2.2.1),.d (.int .u8 g2.1.To.2.2.2.2.2.2.2.2),.d (.int .u8 g2.2.1.zD),.d (.int .u8 g2.2.1.Marks),.d (.int .u8 g2.2.1.To.1.1),.d (.int .u8 g2.2.1.To.1.2.1),.d (.int .u8 g2.2.1.To.1.2.2.1),.d (.int .u8 g2.2.1.To.1.2.2.2.1),.d (.int .u8 g2.2.1.To.1.2.2.2.2),.d (.int .u8 g2.2.1.To.2.1.1),.d (.int .u8 g2.2.1.To.2.1.2.1),.d (.int .u8 g2.2.1.To.2.1.2.2.1),.d (.int .u8 g2.2.1.To.2.1.2.2.2.1),.d (.int .u8 g2.2.1.To.2.1.2.2.2.2),.d (.int .u8 g2.2.1.To.2.2.1.1),.d (.int .u8 g2.2.1.To.2.2.1.2.1),.d (.int .u8 g2.2.1.To.2.2.1.2.2.1),.d (.int .u8 g2.2.1.To.2.2.1.2.2.2.1),.d (.int .u8 g2.2.1.To.2.2.1.2.2.2.2),.d (.int .u8 g2.2.1.To.2.2.2.1.1),.d (.int .u8 g2.2.1.To.2.2.2.1.2.1),.d (.int .u8 g2.2.1.To.2.2.2.1.2.2.1),.d (.int .u8 g2.2.1.To.2.2.2.1.2.2.2.1),.d (.int .u8 g2.2.1.To.2.2.2.1.2.2.2.2),.d (.int .u8 g2.2.1.To.2.2.2.2.1),.d (.int .u8 g2.2.1.To.2.2.2.2.2.1),.d (.int .u8 g2.2.1.To.2.2.2.2.2.2.1),.d (.int .u8 g2.2.1.To.2.2.2.2.2.2.2.1),.d (.int .u8 g2.2.1.To.2.2.2.2.2.2.2.2),.d (.int .u8 g2.2.2.zD),.d (.int .u8 g2.2.2.Marks),.d (.int .u8 g2.2.2.To.1.1),.d (.int .u8 g2.2.2.To.1.2.1),.d (.int .u8 g2.2.2.To.1.2.2.1),.d (.int .u8 g2.2.2.To.1.2.2.2.1),.d (.int .u8 g2.2.2.To.1.2.2.2.2),.d (.int .u8 g2.2.2.To.2.1.1),.d (.int .u8 g2.2.2.To.2.1.2.1),.d (.int .u8 g2.2.2.To.2.1.2.2.1),.d (.int .u8 g2.2.2.To.2.1.2.2.2.1),.d (.int .u8 g2.2.2.To.2.1.2.2.2.2),.d (.int .u8 g2.2.2.To.2.2.1.1),.d (.int .u8 g2.2.2.To.2.2.1.2.1),.d (.int .u8 g2.2.2.To.2.2.1.2.2.1),.d (.int .u8 g2.2.2.To.2.2.1.2.2.2.1),.d (.int .u8 g2.2.2.To.2.2.1.2.2.2.2),.d (.int .u8 g2.2.2.To.2.2.2.1.1),.d (.int .u8 g2.2.2.To.2.2.2.1.2.1),.d (.int .u8 g2.2.2.To.2.2.2.1.2.2.1),.d (.int .u8 g2.2.2.To.2.2.2.1.2.2.2.1),.d (.int .u8 g2.2.2.To.2.2.2.1.2.2.2.2),.d (.int .u8 g2.2.2.To.2.2.2.2.1),.d (.int .u8 g2.2.2.To.2.2.2.2.2.1),.d (.int .u8 g2.2.2.To.2.2.2.2.2.2.1),.d (.int .u8 g2.2.2.To.2.2.2.2.2.2.2.1),.d (.int .u8 g2.2.2.To.2.2.2.2.2.2.2.2)])] rfl ?_
 unfold Qck at h
 unfold Qdh
 refine sr ((Rn.box (v:=.agg [.d (.int .u8 s1.1),.d (.int .u8 s1.2.1),.d (.int .u8 s1.2.2)]) (cs:=[.d (.int .u8 s1.1),.d (.int .u8 s1.2.1),.d (.int .u8 s1.2.2)]) tv rfl rfl rfl rfl rfl (Rn.box (v:=.agg [.d (.int .u8 g2.1.zD),.d (.int .u8 g2.1.Marks),.d (.int .u8 g2.1.To.1.1),.d (.int .u8 g2.1.To.1.2.1),.d (.int .u8 g2.1.To.1.2.2.1),.d (.int .u8 g2.1.To.1.2.2.2.1),.d (.int .u8 g2.1.To.1.2.2.2.2),.d (.int .u8 g2.1.To.2.1.1),.d (.int .u8 g2.1.To.2.1.2.1),.d (.int .u8 g2.1.To.2.1.2.2.1),.d (.int .u8 g2.1.To.2.1.2.2.2.1),.d (.int .u8 g2.1.To.2.1.2.2.2.2),.d (.int .u8 g2.1.To.2.2.1.1),.d (.int .u8 g2.1.To.2.2.1.2.1),.d (.int .u8 g2.1.To.2.2.1.2.2.1),.d (.int .u8 g2.1.To.2.2.1.2.2.2.1),.d (.int .u8 g2.1.To.2.2.1.2.2.2.2),.d (.int .u8 g2.1.To.2.2.2.1.1),.d (.int .u8 g2.1.To.2.2.2.1.2.1),.d (.int .u8 g2.1.To.2.2.2.1.2.2.1),.d (.int .u8 g2.1.To.2.2.2.1.2.2.2.1),.d (.int .u8 g2.1.To.2.2.2.1.2.2.2.2),.d (.int .u8 g2.1.To.2.2.2.2.1),.d (.int .u8 g2.1.To.2.2.2.2.2.1),.d (.int .u8 g2.1.To.2.2.2.2.2.2.1),.d (.int .u8 g2.1.To.2.2.2.2.2.2.2.1),.d (.int .u8 g2.1.To.2.2.2.2.2.2.2.2),.d (.int .u8 g2.2.1.zD),.d (.int .u8 g2.2.1.Marks),.d (.int .u8 g2.2.1.To.1.1),.d (.int .u8 g2.2.1.To.1.2.1),.d (.int .u8 g2.2.1.To.1.2.2.1),.d (.int .u8 g2.2.1.To.1.2.2.2.1),.d (.int .u8 g2.2.1.To.1.2.2.2.2),.d (.int .u8 g2.2.1.To.2.1.1),.d (.int .u8 g2.2.1.To.2.1.2.1),.d (.int .u8 g2.2.1.To.2.1.2.2.1),.d (.int .u8 g2.2.1.To.2.1.2.2.2.1),.d (.int .u8 g2.2.1.To.2.1.2.2.2.2),.d (.int .u8 g2.2.1.To.2.2.1.1),.d (.int .u8 g2.2.1.To.2.2.1.2.1),.d (.int .u8 g2.2.1.To.2.2.1.2.2.1),.d (.int .u8 g2.2.1.To.2.2.1.2.2.2.1),.d (.int .u8 g2.2.1.To.2.2.1.2.2.2.2),.d (.int .u8 g2.2.1.To.2.2.2.1.1),.d (.int .u8 g2.2.1.To.2.2.2.1.2.1),.d (.int .u8 g2.2.1.To.2.2.2.1.2.2.1),.d (.int .u8 g2.2.1.To.2.2.2.1.2.2.2.1),.d (.int .u8 g2.2.1.To.2.2.2.1.2.2.2.2),.d (.int .u8 g2.2.1.To.2.2.2.2.1),.d (.int .u8 g2.2.1.To.2.2.2.2.2.1),.d (.int .u8 g2.2.1.To.2.2.2.2.2.2.1),.d (.int .u8 g2.2.1.To.2.2.2.2.2.2.2.1),.d (.int .u8 g2.2.1.To.2.2.2.2.2.2.2.2),.d (.int .u8 g2.2.2.zD),.d (.int .u8 g2.2.2.Marks),.d (.int .u8 g2.2.2.To.1.1),.d (.int .u8 g2.2.2.To.1.2.1),.d (.int .u8 g2.2.2.To.1.2.2.1),.d (.int .u8 g2.2.2.To.1.2.2.2.1),.d (.int .u8 g2.2.2.To.1.2.2.2.2),.d (.int .u8 g2.2.2.To.2.1.1),.d (.int .u8 g2.2.2.To.2.1.2.1),.d (.int .u8 g2.2.2.To.2.1.2.2.1),.d (.int .u8 g2.2.2.To.2.1.2.2.2.1),.d (.int .u8 g2.2.2.To.2.1.2.2.2.2),.d (.int .u8 g2.2.2.To.2.2.1.1),.d (.int .u8 g2.2.2.To.2.2.1.2.1),.d (.int .u8 g2.2.2.To.2.2.1.2.2.1),.d (.int .u8 g2.2.2.To.2.2.1.2.2.2.1),.d (.int .u8 g2.2.2.To.2.2.1.2.2.2.2),.d (.int .u8 g2.2.2.To.2.2.2.1.1),.d (.int .u8 g2.2.2.To.2.2.2.1.2.1),.d (.int .u8 g2.2.2.To.2.2.2.1.2.2.1),.d (.int .u8 g2.2.2.To.2.2.2.1.2.2.2.1),.d (.int .u8 g2.2.2.To.2.2.2.1.2.2.2.2),.d (.int .u8 g2.2.2.To.2.2.2.2.1),.d (.int .u8 g2.2.2.To.2.2.2.2.2.1),.d (.int .u8 g2.2.2.To.2.2.2.2.2.2.1),.d (.int .u8 g2.2.2.To.2.2.2.2.2.2.2.1),.d (.int .u8 g2.2.2.To.2.2.2.2.2.2.2.2)]) (cs:=[.d (.int .u8 g2.1.zD),.d (.int .u8 g2.1.Marks),.d (.int .u8 g2.1.To.1.1),.d (.int .u8 g2.1.To.1.2.1),.d (.int .u8 g2.1.To.1.2.2.1),.d (.int .u8 g2.1.To.1.2.2.2.1),.d (.int .u8 g2.1.To.1.2.2.2.2),.d (.int .u8 g2.1.To.2.1.1),.d (.int .u8 g2.1.To.2.1.2.1),.d (.int .u8 g2.1.To.2.1.2.2.1),.d (.int .u8 g2.1.To.2.1.2.2.2.1),.d (.int .u8 g2.1.To.2.1.2.2.2.2),.d (.int .u8 g2.1.To.2.2.1.1),.d (.int .u8 g2.1.To.2.2.1.2.1),.d (.int .u8 g2.1.To.2.2.1.2.2.1),.d (.int .u8 g2.1.To.2.2.1.2.2.2.1),.d (.int .u8 g2.1.To.2.2.1.2.2.2.2),.d (.int .u8 g2.1.To.2.2.2.1.1),.d (.int .u8 g2.1.To.2.2.2.1.2.1),.d (.int .u8 g2.1.To.2.2.2.1.2.2.1),.d (.int .u8 g2.1.To.2.2.2.1.2.2.2.1),.d (.int .u8 g2.1.To.2.2.2.1.2.2.2.2),.d (.int .u8 g2.1.To.2.2.2.2.1),.d (.int .u8 g2.1.To.2.2.2.2.2.1),.d (.int .u8 g2.1.To.2.2.2.2.2.2.1),.d (.int .u8 g2.1.To.2.2.2.2.2.2.2.1),.d (.int .u8 g2.1.To.2.2.2.2.2.2.2.2),.d (.int .u8 g2.2.1.zD),.d (.int .u8 g2.2.1.Marks),.d (.int .u8 g2.2.1.To.1.1),.d (.int .u8 g2.2.1.To.1.2.1),.d (.int .u8 g2.2.1.To.1.2.2.1),.d (.int .u8 g2.2.1.To.1.2.2.2.1),.d (.int .u8 g2.2.1.To.1.2.2.2.2),.d (.int .u8 g2.2.1.To.2.1.1),.d (.int .u8 g2.2.1.To.2.1.2.1),.d (.int .u8 g2.2.1.To.2.1.2.2.1),.d (.int .u8 g2.2.1.To.2.1.2.2.2.1),.d (.int .u8 g2.2.1.To.2.1.2.2.2.2),.d (.int .u8 g2.2.1.To.2.2.1.1),.d (.int .u8 g2.2.1.To.2.2.1.2.1),.d (.int .u8 g2.2.1.To.2.2.1.2.2.1),.d (.int .u8 g2.2.1.To.2.2.1.2.2.2.1),.d (.int .u8 g2.2.1.To.2.2.1.2.2.2.2),.d (.int .u8 g2.2.1.To.2.2.2.1.1),.d (.int .u8 g2.2.1.To.2.2.2.1.2.1),.d (.int .u8 g2.2.1.To.2.2.2.1.2.2.1),.d (.int .u8 g2.2.1.To.2.2.2.1.2.2.2.1),.d (.int .u8 g2.2.1.To.2.2.2.1.2.2.2.2),.d (.int .u8 g2.2.1.To.2.2.2.2.1),.d (.int .u8 g2.2.1.To.2.2.2.2.2.1),.d (.int .u8 g2.2.1.To.2.2.2.2.2.2.1),.d (.int .u8 g2.2.1.To.2.2.2.2.2.2.2.1),.d (.int .u8 g2.2.1.To.2.2.2.2.2.2.2.2),.d (.int .u8 g2.2.2.zD),.d (.int .u8 g2.2.2.Marks),.d (.int .u8 g2.2.2.To.1.1),.d (.int .u8 g2.2.2.To.1.2.1),.d (.int .u8 g2.2.2.To.1.2.2.1),.d (.int .u8 g2.2.2.To.1.2.2.2.1),.d (.int .u8 g2.2.2.To.1.2.2.2.2),.d (.int .u8 g2.2.2.To.2.1.1),.d (.int .u8 g2.2.2.To.2.1.2.1),.d (.int .u8 g2.2.2.To.2.1.2.2.1),.d (.int .u8 g2.2.2.To.2.1.2.2.2.1),.d (.int .u8 g2.2.2.To.2.1.2.2.2.2),.d (.int .u8 g2.2.2.To.2.2.1.1),.d (.int .u8 g2.2.2.To.2.2.1.2.1),.d (.int .u8 g2.2.2.To.2.2.1.2.2.1),.d (.int .u8 g2.2.2.To.2.2.1.2.2.2.1),.d (.int .u8 g2.2.2.To.2.2.1.2.2.2.2),.d (.int .u8 g2.2.2.To.2.2.2.1.1),.d (.int .u8 g2.2.2.To.2.2.2.1.2.1),.d (.int .u8 g2.2.2.To.2.2.2.1.2.2.1),.d (.int .u8 g2.2.2.To.2.2.2.1.2.2.2.1),.d (.int .u8 g2.2.2.To.2.2.2.1.2.2.2.2),.d (.int .u8 g2.2.2.To.2.2.2.2.1),.d (.int .u8 g2.2.2.To.2.2.2.2.2.1),.d (.int .u8 g2.2.2.To.2.2.2.2.2.2.1),.d (.int .u8 g2.2.2.To.2.2.2.2.2.2.2.1),.d (.int .u8 g2.2.2.To.2.2.2.2.2.2.2.2)]) tv rfl rfl rfl rfl rfl (md rfl (nt ((Tr.seq (Tr.seq (Tr.rgn ?_)))))))))
 obtain ⟨x4,h3,h⟩:=bnd h
 refine Rn.call (args:=[]) tv rfl (H_overseerlaw21_known _ h3) pc9 (Rn.un tv rfl rfl (Rn.nil (toN ?_)))
 refine Tr.cond rfl (fun hb5=>?_) (fun hb5=>?_)
 ·have hb5:=nT' hb5
  replace h:=bF hb5 h
  refine sr ((md rfl (nt ((Tr.ret ?_)))))
  replace h:=si h; subst h
  exact ⟨.inr rfl,(b_ false),rfl,fun _ _ _ _ h=>h,tv,mB⟩
 ·have hb5:=nF' hb5
  replace h:=bT hb5 h
  refine Tr.skip (toN (sr ((Rn.movTC (v:=.nils 4) tv (nt ((sr ((md rfl (nt ((Tr.seq (sr ((md rfl (nt ((Tr.block ?_))))))))))))))))))
  refine Tr.loop (mk:=fun ((l6,safe7,x8):(List Qa)×Bool×Int)=>⟨look [(2,.ptr (Γ.n0+2) 0),(3,.ptr (Γ.n0+3) 0),(5,(Qdb l6)),(6,(b_ safe7)),(21,(i_ x8))],Qj Γ.n0 (bxs [(2,.cells ([.d (.int .u8 s1.1),.d (.int .u8 s1.2.1),.d (.int .u8 s1.2.2)])),(3,.cells ([.d (.int .u8 g2.1.zD),.d (.int .u8 g2.1.Marks),.d (.int .u8 g2.1.To.1.1),.d (.int .u8 g2.1.To.1.2.1),.d (.int .u8 g2.1.To.1.2.2.1),.d (.int .u8 g2.1.To.1.2.2.2.1),.d (.int .u8 g2.1.To.1.2.2.2.2),.d (.int .u8 g2.1.To.2.1.1),.d (.int .u8 g2.1.To.2.1.2.1),.d (.int .u8 g2.1.To.2.1.2.2.1),.d (.int .u8 g2.1.To.2.1.2.2.2.1),.d (.int .u8 g2.1.To.2.1.2.2.2.2),.d (.int .u8 g2.1.To.2.2.1.1),.d (.int .u8 g2.1.To.2.2.1.2.1),.d (.int .u8 g2.1.To.2.2.1.2.2.1),.d (.int .u8 g2.1.To.2.2.1.2.2.2.1),.d (.int .u8 g2.1.To.2.2.1.2.2.2.2),.d (.int .u8 g2.1.To.2.2.2.1.1),.d (.int .u8 g2.1.To.2.2.2.1.2.1),.d (.int .u8 g2.1.To.2.2.2.1.2.2.1),.d (.int .u8 g2.1.To.2.2.2.1.2.2.2.1),.d (.int .u8 g2.1.To.2.2.2.1.2.2.2.2),.d (.int .u8 g2.1.To.2.2.2.2.1),.d (.int .u8 g2.1.To.2.2.2.2.2.1),.d (.int .u8 g2.1.To.2.2.2.2.2.2.1),.d (.int .u8 g2.1.To.2.2.2.2.2.2.2.1),.d (.int .u8 g2.1.To.2.2.2.2.2.2.2.2),.d (.int .u8 g2.2.1.zD),.d (.int .u8 g2.2.1.Marks),.d (.int .u8 g2.2.1.To.1.1),.d (.int .u8 g2.2.1.To.1.2.1),.d (.int .u8 g2.2.1.To.1.2.2.1),.d (.int .u8 g2.2.1.To.1.2.2.2.1),.d (.int .u8 g2.2.1.To.1.2.2.2.2),.d (.int .u8 g2.2.1.To.2.1.1),.d (.int .u8 g2.2.1.To.2.1.2.1),.d (.int .u8 g2.2.1.To.2.1.2.2.1),.d (.int .u8 g2.2.1.To.2.1.2.2.2.1),.d (.int .u8 g2.2.1.To.2.1.2.2.2.2),.d (.int .u8 g2.2.1.To.2.2.1.1),.d (.int .u8 g2.2.1.To.2.2.1.2.1),.d (.int .u8 g2.2.1.To.2.2.1.2.2.1),.d (.int .u8 g2.2.1.To.2.2.1.2.2.2.1),.d (.int .u8 g2.2.1.To.2.2.1.2.2.2.2),.d (.int .u8 g2.2.1.To.2.2.2.1.1),.d (.int .u8 g2.2.1.To.2.2.2.1.2.1),.d (.int .u8 g2.2.1.To.2.2.2.1.2.2.1),.d (.int .u8 g2.2.1.To.2.2.2.1.2.2.2.1),.d (.int .u8 g2.2.1.To.2.2.2.1.2.2.2.2),.d (.int .u8 g2.2.1.To.2.2.2.2.1),.d (.int .u8 g2.2.1.To.2.2.2.2.2.1),.d (.int .u8 g2.2.1.To.2.2.2.2.2.2.1),.d (.int .u8 g2.2.1.To.2.2.2.2.2.2.2.1),.d (.int .u8 g2.2.1.To.2.2.2.2.2.2.2.2),.d (.int .u8 g2.2.2.zD),.d (.int .u8 g2.2.2.Marks),.d (.int .u8 g2.2.2.To.1.1),.d (.int .u8 g2.2.2.To.1.2.1),.d (.int .u8 g2.2.2.To.1.2.2.1),.d (.int .u8 g2.2.2.To.1.2.2.2.1),.d (.int .u8 g2.2.2.To.1.2.2.2.2),.d (.int .u8 g2.2.2.To.2.1.1),.d (.int .u8 g2.2.2.To.2.1.2.1),.d (.int .u8 g2.2.2.To.2.1.2.2.1),.d (.int .u8 g2.2.2.To.2.1.2.2.2.1),.d (.int .u8 g2.2.2.To.2.1.2.2.2.2),.d (.int .u8 g2.2.2.To.2.2.1.1),.d (.int .u8 g2.2.2.To.2.2.1.2.1),.d (.int .u8 g2.2.2.To.2.2.1.2.2.1),.d (.int .u8 g2.2.2.To.2.2.1.2.2.2.1),.d (.int .u8 g2.2.2.To.2.2.1.2.2.2.2),.d (.int .u8 g2.2.2.To.2.2.2.1.1),.d (.int .u8 g2.2.2.To.2.2.2.1.2.1),.d (.int .u8 g2.2.2.To.2.2.2.1.2.2.1),.d (.int .u8 g2.2.2.To.2.2.2.1.2.2.2.1),.d (.int .u8 g2.2.2.To.2.2.2.1.2.2.2.2),.d (.int .u8 g2.2.2.To.2.2.2.2.1),.d (.int .u8 g2.2.2.To.2.2.2.2.2.1),.d (.int .u8 g2.2.2.To.2.2.2.2.2.2.1),.d (.int .u8 g2.2.2.To.2.2.2.2.2.2.2.1),.d (.int .u8 g2.2.2.To.2.2.2.2.2.2.2.2)]))]) M,Γ.n0+114⟩) h (by exact Qi ⟨(kPtr rfl),(kPtr rfl),(WkV.nilsO _),(sm rfl),(sm rfl),tv⟩ ⟨bS rfl rfl rfl,bS rfl rfl rfl,tv⟩ rfl) (fun k9 z h=>?_)
  ·obtain ⟨l6,safe7,x8⟩:=z
   replace h:_=some _:=h
   refine sr ((Rn.bin tv rfl rfl rfl (nt ((Tr.seq ?_)))))
   refine Tr.cond rfl (fun hb10=>?_) (fun hb10=>?_)
   ·replace h:=ifT hb10 h
    refine Tr.skip (toN (Tr.seq (Tr.block (sr ((md rfl (md rfl (nt ((Tr.seq ?_))))))))))
    refine Tr.rgnD (by decide) ?_
    refine md rfl ?_
    obtain ⟨⟨⟩,h11,h⟩:=bnd h
    refine Rn.idxArr (o':=0+(Int.toNat x8 * 1)) tv rfl rfl rfl h11 ?_
    obtain ⟨x12,h13,h⟩:=bnd h
    refine Rn.loadArr (e:=(fun (z:Int)=>.int .u8 z)) (pre:=[]) (post:=[]) tv rfl rfl (Qbv rfl) rfl rfl h13 ?_
    obtain ⟨x15,h14,h⟩:=bnd h
    refine Rn.call (args:=[.d (.int .u8 x12)]) tv rfl (H_overseerlaw03_Set_Events _ _ h14) (fun _=>Qbhb hM rfl) (md rfl ?_)
    obtain ⟨⟨⟩,h16,h⟩:=bnd h
    refine Rn.idxArr (o':=0+(Int.toNat x8 * 27)) tv rfl rfl rfl h16 ?_
    obtain ⟨x17,h18,h⟩:=bnd h
    refine Rn.loadA (g:=(fun (x:Qf)=>(Qbi x))) (xs:=[g2.1,g2.2.1,g2.2.2]) (v:=(Qds x17)) (f:=0) (fun _=>rfl) tv rfl (Qbv rfl) h18 rfl rfl ?_
    obtain ⟨x20,h19,h⟩:=bnd h
    refine Rn.call (args:=[(l_ x15),(Qds x17)]) tv rfl (H_overseerlaw03_Make _ _ _ h19) (fun _=>Qbhb hM rfl) (Rn.alloc tv rfl (Rn.storeT (v:=(Qb x20)) (ds:=(Qc x20)) (cs':=(Qc x20)) tv rfl rfl rfl rfl rfl rfl rfl ?_))
    refine Rn.nil ⟨rfl,?_⟩
    refine toN (sr ((lB (v:=(Qb x20)) rfl rfl rfl rfl ?_)))
    obtain ⟨⟨r22,r23⟩,h21,h⟩:=bnd h
    refine Rn.call (args:=[(Qb x20)]) tv rfl (H_requirement_IsSafety _ _ h21) pc9 (Rn.mov (v:=.tup [(b_ r22),(i_ r23)]) tv rfl (Rn.ext (v:=(b_ r22)) (vs:=[(b_ r22),(i_ r23)]) tv rfl rfl rfl (Rn.ext (v:=(i_ r23)) (vs:=[(b_ r22),(i_ r23)]) tv rfl rfl rfl (md rfl (md rfl (nt ((Tr.seq ?_))))))))
    refine Tr.cutB (fun (x25:Bool)=>⟨look [(2,.ptr (Γ.n0+2) 0),(3,.ptr (Γ.n0+3) 0),(5,(Qdb l6)),(6,(b_ safe7)),(8,.ptr (Γ.n0+8) 0),(9,(b_ r22)),(21,(i_ x8)),(48,(b_ x25))],Qj Γ.n0 (bxs [(2,.cells ([.d (.int .u8 s1.1),.d (.int .u8 s1.2.1),.d (.int .u8 s1.2.2)])),(3,.cells ([.d (.int .u8 g2.1.zD),.d (.int .u8 g2.1.Marks),.d (.int .u8 g2.1.To.1.1),.d (.int .u8 g2.1.To.1.2.1),.d (.int .u8 g2.1.To.1.2.2.1),.d (.int .u8 g2.1.To.1.2.2.2.1),.d (.int .u8 g2.1.To.1.2.2.2.2),.d (.int .u8 g2.1.To.2.1.1),.d (.int .u8 g2.1.To.2.1.2.1),.d (.int .u8 g2.1.To.2.1.2.2.1),.d (.int .u8 g2.1.To.2.1.2.2.2.1),.d (.int .u8 g2.1.To.2.1.2.2.2.2),.d (.int .u8 g2.1.To.2.2.1.1),.d (.int .u8 g2.1.To.2.2.1.2.1),.d (.int .u8 g2.1.To.2.2.1.2.2.1),.d (.int .u8 g2.1.To.2.2.1.2.2.2.1),.d (.int .u8 g2.1.To.2.2.1.2.2.2.2),.d (.int .u8 g2.1.To.2.2.2.1.1),.d (.int .u8 g2.1.To.2.2.2.1.2.1),.d (.int .u8 g2.1.To.2.2.2.1.2.2.1),.d (.int .u8 g2.1.To.2.2.2.1.2.2.2.1),.d (.int .u8 g2.1.To.2.2.2.1.2.2.2.2),.d (.int .u8 g2.1.To.2.2.2.2.1),.d (.int .u8 g2.1.To.2.2.2.2.2.1),.d (.int .u8 g2.1.To.2.2.2.2.2.2.1),.d (.int .u8 g2.1.To.2.2.2.2.2.2.2.1),.d (.int .u8 g2.1.To.2.2.2.2.2.2.2.2),.d (.int .u8 g2.2.1.zD),.d (.int .u8 g2.2.1.Marks),.d (.int .u8 g2.2.1.To.1.1),.d (.int .u8 g2.2.1.To.1.2.1),.d (.int .u8 g2.2.1.To.1.2.2.1),.d (.int .u8 g2.2.1.To.1.2.2.2.1),.d (.int .u8 g2.2.1.To.1.2.2.2.2),.d (.int .u8 g2.2.1.To.2.1.1),.d (.int .u8 g2.2.1.To.2.1.2.1),.d (.int .u8 g2.2.1.To.2.1.2.2.1),.d (.int .u8 g2.2.1.To.2.1.2.2.2.1),.d (.int .u8 g2.2.1.To.2.1.2.2.2.2),.d (.int .u8 g2.2.1.To.2.2.1.1),.d (.int .u8 g2.2.1.To.2.2.1.2.1),.d (.int .u8 g2.2.1.To.2.2.1.2.2.1),.d (.int .u8 g2.2.1.To.2.2.1.2.2.2.1),.d (.int .u8 g2.2.1.To.2.2.1.2.2.2.2),.d (.int .u8 g2.2.1.To.2.2.2.1.1),.d (.int .u8 g2.2.1.To.2.2.2.1.2.1),.d (.int .u8 g2.2.1.To.2.2.2.1.2.2.1),.d (.int .u8 g2.2.1.To.2.2.2.1.2.2.2.1),.d (.int .u8 g2.2.1.To.2.2.2.1.2.2.2.2),.d (.int .u8 g2.2.1.To.2.2.2.2.1),.d (.int .u8 g2.2.1.To.2.2.2.2.2.1),.d (.int .u8 g2.2.1.To.2.2.2.2.2.2.1),.d (.int .u8 g2.2.1.To.2.2.2.2.2.2.2.1),.d (.int .u8 g2.2.1.To.2.2.2.2.2.2.2.2),.d (.int .u8 g2.2.2.zD),.d (.int .u8 g2.2.2.Marks),.d (.int .u8 g2.2.2.To.1.1),.d (.int .u8 g2.2.2.To.1.2.1),.d (.int .u8 g2.2.2.To.1.2.2.1),.d (.int .u8 g2.2.2.To.1.2.2.2.1),.d (.int .u8 g2.2.2.To.1.2.2.2.2),.d (.int .u8 g2.2.2.To.2.1.1),.d (.int .u8 g2.2.2.To.2.1.2.1),.d (.int .u8 g2.2.2.To.2.1.2.2.1),.d (.int .u8 g2.2.2.To.2.1.2.2.2.1),.d (.int .u8 g2.2.2.To.2.1.2.2.2.2),.d (.int .u8 g2.2.2.To.2.2.1.1),.d (.int .u8 g2.2.2.To.2.2.1.2.1),.d (.int .u8 g2.2.2.To.2.2.1.2.2.1),.d (.int .u8 g2.2.2.To.2.2.1.2.2.2.1),.d (.int .u8 g2.2.2.To.2.2.1.2.2.2.2),.d (.int .u8 g2.2.2.To.2.2.2.1.1),.d (.int .u8 g2.2.2.To.2.2.2.1.2.1),.d (.int .u8 g2.2.2.To.2.2.2.1.2.2.1),.d (.int .u8 g2.2.2.To.2.2.2.1.2.2.2.1),.d (.int .u8 g2.2.2.To.2.2.2.1.2.2.2.2),.d (.int .u8 g2.2.2.To.2.2.2.2.1),.d (.int .u8 g2.2.2.To.2.2.2.2.2.1),.d (.int .u8 g2.2.2.To.2.2.2.2.2.2.1),.d (.int .u8 g2.2.2.To.2.2.2.2.2.2.2.1),.d (.int .u8 g2.2.2.To.2.2.2.2.2.2.2.2)])),(8,.cells ((Qc x20)))]) M,Γ.n0+114⟩) h (fun z h=>?_) (fun z h=>?_)
    ·refine Tr.rgn (md rfl (Rn.bin tv rfl rfl rfl (md rfl ?_)))
     refine Qcb (r23 != 0) (fun hb24=>?_) (fun hb24=>?_)
     ·replace h:=bT hb24 h
      refine Rn.sk (nw rfl hb24) (Rn.sk (nw rfl hb24) (Rn.sk (nw rfl hb24) (Rn.sk (nw rfl hb24) (Rn.sk (nw rfl hb24) (Rn.sk (nw rfl hb24) (Rn.sk (nw rfl hb24) (Rn.sk (nw rfl hb24) (Rn.pickT (v:=(b_ true)) tv rfl hb24 rfl (Rn.nil ?_)))))))))
      replace h:=si h; subst h
      exact Qh [] ⟨(kPtr rfl),(kPtr rfl),(sm rfl),(sm rfl),(kPtr rfl),(sm rfl),(sm rfl),(sm rfl),tv⟩ ⟨bS rfl rfl rfl,bS rfl rfl rfl,bS rfl rfl rfl,tv⟩ rfl
     ·replace h:=bF hb24 h
      refine Rn.movD (gw rfl hb24) rfl (Rn.fldP (o':=2) (gw rfl hb24) rfl rfl (Rn.load (v:=(l_ x20.zB)) (gw rfl hb24) rfl (Qbv rfl) rfl rfl (Rn.lenD (gw rfl hb24) rfl (Rn.fldP (o':=1) (gw rfl hb24) rfl rfl (Rn.load (v:=(i_ x20.zD)) (gw rfl hb24) rfl (Qbv rfl) rfl rfl (Rn.bin (gw rfl hb24) rfl rfl rfl (Rn.bin (gw rfl hb24) rfl rfl rfl (Rn.pickF (v:=(b_ (!(r22 == ((x20.zB.length:Int) == x20.zD))))) tv rfl hb24 rfl (Rn.nil ?_)))))))))
      replace h:=si h; subst h
      exact Qh [] ⟨(kPtr rfl),(kPtr rfl),(sm rfl),(sm rfl),(kPtr rfl),(sm rfl),(sm rfl),(sm rfl),tv⟩ ⟨bS rfl rfl rfl,bS rfl rfl rfl,bS rfl rfl rfl,tv⟩ rfl
    ·obtain ⟨x25,rfl⟩ : ∃ x,x=z:=⟨_,rfl⟩
     refine Tr.cond rfl (fun hb26=>?_) (fun hb26=>?_)
     ·replace h:=bT hb26 h
      refine sr ((md rfl (nt ((Tr.ret ?_)))))
      replace h:=si h; subst h
      exact ⟨.inr rfl,(b_ false),rfl,fun _ _ _ _ h=>h,tv,mB⟩
     ·replace h:=bF hb26 h
      refine Tr.skip (toN ?_)
      refine Tr.cutB (fun (safe28:Bool)=>⟨look [(2,.ptr (Γ.n0+2) 0),(3,.ptr (Γ.n0+3) 0),(5,(Qdb l6)),(6,(b_ safe28)),(8,.ptr (Γ.n0+8) 0),(21,(i_ x8))],Qj Γ.n0 (bxs [(2,.cells ([.d (.int .u8 s1.1),.d (.int .u8 s1.2.1),.d (.int .u8 s1.2.2)])),(3,.cells ([.d (.int .u8 g2.1.zD),.d (.int .u8 g2.1.Marks),.d (.int .u8 g2.1.To.1.1),.d (.int .u8 g2.1.To.1.2.1),.d (.int .u8 g2.1.To.1.2.2.1),.d (.int .u8 g2.1.To.1.2.2.2.1),.d (.int .u8 g2.1.To.1.2.2.2.2),.d (.int .u8 g2.1.To.2.1.1),.d (.int .u8 g2.1.To.2.1.2.1),.d (.int .u8 g2.1.To.2.1.2.2.1),.d (.int .u8 g2.1.To.2.1.2.2.2.1),.d (.int .u8 g2.1.To.2.1.2.2.2.2),.d (.int .u8 g2.1.To.2.2.1.1),.d (.int .u8 g2.1.To.2.2.1.2.1),.d (.int .u8 g2.1.To.2.2.1.2.2.1),.d (.int .u8 g2.1.To.2.2.1.2.2.2.1),.d (.int .u8 g2.1.To.2.2.1.2.2.2.2),.d (.int .u8 g2.1.To.2.2.2.1.1),.d (.int .u8 g2.1.To.2.2.2.1.2.1),.d (.int .u8 g2.1.To.2.2.2.1.2.2.1),.d (.int .u8 g2.1.To.2.2.2.1.2.2.2.1),.d (.int .u8 g2.1.To.2.2.2.1.2.2.2.2),.d (.int .u8 g2.1.To.2.2.2.2.1),.d (.int .u8 g2.1.To.2.2.2.2.2.1),.d (.int .u8 g2.1.To.2.2.2.2.2.2.1),.d (.int .u8 g2.1.To.2.2.2.2.2.2.2.1),.d (.int .u8 g2.1.To.2.2.2.2.2.2.2.2),.d (.int .u8 g2.2.1.zD),.d (.int .u8 g2.2.1.Marks),.d (.int .u8 g2.2.1.To.1.1),.d (.int .u8 g2.2.1.To.1.2.1),.d (.int .u8 g2.2.1.To.1.2.2.1),.d (.int .u8 g2.2.1.To.1.2.2.2.1),.d (.int .u8 g2.2.1.To.1.2.2.2.2),.d (.int .u8 g2.2.1.To.2.1.1),.d (.int .u8 g2.2.1.To.2.1.2.1),.d (.int .u8 g2.2.1.To.2.1.2.2.1),.d (.int .u8 g2.2.1.To.2.1.2.2.2.1),.d (.int .u8 g2.2.1.To.2.1.2.2.2.2),.d (.int .u8 g2.2.1.To.2.2.1.1),.d (.int .u8 g2.2.1.To.2.2.1.2.1),.d (.int .u8 g2.2.1.To.2.2.1.2.2.1),.d (.int .u8 g2.2.1.To.2.2.1.2.2.2.1),.d (.int .u8 g2.2.1.To.2.2.1.2.2.2.2),.d (.int .u8 g2.2.1.To.2.2.2.1.1),.d (.int .u8 g2.2.1.To.2.2.2.1.2.1),.d (.int .u8 g2.2.1.To.2.2.2.1.2.2.1),.d (.int .u8 g2.2.1.To.2.2.2.1.2.2.2.1),.d (.int .u8 g2.2.1.To.2.2.2.1.2.2.2.2),.d (.int .u8 g2.2.1.To.2.2.2.2.1),.d (.int .u8 g2.2.1.To.2.2.2.2.2.1),.d (.int .u8 g2.2.1.To.2.2.2.2.2.2.1),.d (.int .u8 g2.2.1.To.2.2.2.2.2.2.2.1),.d (.int .u8 g2.2.1.To.2.2.2.2.2.2.2.2),.d (.int .u8 g2.2.2.zD),.d (.int .u8 g2.2.2.Marks),.d (.int .u8 g2.2.2.To.1.1),.d (.int .u8 g2.2.2.To.1.2.1),.d (.int .u8 g2.2.2.To.1.2.2.1),.d (.int .u8 g2.2.2.To.1.2.2.2.1),.d (.int .u8 g2.2.2.To.1.2.2.2.2),.d (.int .u8 g2.2.2.To.2.1.1),.d (.int .u8 g2.2.2.To.2.1.2.1),.d (.int .u8 g2.2.2.To.2.1.2.2.1),.d (.int .u8 g2.2.2.To.2.1.2.2.2.1),.d (.int .u8 g2.2.2.To.2.1.2.2.2.2),.d (.int .u8 g2.2.2.To.2.2.1.1),.d (.int .u8 g2.2.2.To.2.2.1.2.1),.d (.int .u8 g2.2.2.To.2.2.1.2.2.1),.d (.int .u8 g2.2.2.To.2.2.1.2.2.2.1),.d (.int .u8 g2.2.2.To.2.2.1.2.2.2.2),.d (.int .u8 g2.2.2.To.2.2.2.1.1),.d (.int .u8 g2.2.2.To.2.2.2.1.2.1),.d (.int .u8 g2.2.2.To.2.2.2.1.2.2.1),.d (.int .u8 g2.2.2.To.2.2.2.1.2.2.2.1),.d (.int .u8 g2.2.2.To.2.2.2.1.2.2.2.2),.d (.int .u8 g2.2.2.To.2.2.2.2.1),.d (.int .u8 g2.2.2.To.2.2.2.2.2.1),.d (.int .u8 g2.2.2.To.2.2.2.2.2.2.1),.d (.int .u8 g2.2.2.To.2.2.2.2.2.2.2.1),.d (.int .u8 g2.2.2.To.2.2.2.2.2.2.2.2)])),(8,.cells ((Qc x20)))]) M,Γ.n0+114⟩) h (fun z h=>?_) (fun z h=>?_)
      ·refine Tr.rgn (md rfl (md rfl ?_))
       refine Qcb safe7 (fun hb27=>?_) (fun hb27=>?_)
       ·replace h:=bT hb27 h
        refine Rn.movD (gw rfl hb27) rfl (Rn.pickT (v:=(b_ r22)) tv rfl hb27 rfl (md rfl (Rn.nil ?_)))
        replace h:=si h; subst h
        exact Qh [] ⟨(kPtr rfl),(kPtr rfl),(sm rfl),(sm rfl),(kPtr rfl),(sm rfl),tv⟩ ⟨bS rfl rfl rfl,bS rfl rfl rfl,bS rfl rfl rfl,tv⟩ rfl
       ·replace h:=bF hb27 h
        refine Rn.sk (nw rfl hb27) (Rn.pickF (v:=(b_ false)) tv rfl hb27 rfl (md rfl (Rn.nil ?_)))
        replace h:=si h; subst h
        exact Qh [] ⟨(kPtr rfl),(kPtr rfl),(sm rfl),(sm rfl),(kPtr rfl),(sm rfl),tv⟩ ⟨bS rfl rfl rfl,bS rfl rfl rfl,bS rfl rfl rfl,tv⟩ rfl
      ·obtain ⟨safe28,rfl⟩ : ∃ x,x=z:=⟨_,rfl⟩
       refine Tr.rgn (Rn.movTO tv rfl (lB (v:=(Qb x20)) rfl rfl rfl rfl (Rn.bslice (xs:=[(Qb x20)]) (cs:=(Qc x20)) tv rfl rfl rfl rfl ?_)))
       obtain ⟨x29,h30,h⟩:=bnd h
       refine Rn.app (e:=Qn) tv rfl rfl rfl (Qdk rfl rfl rfl) h30 rfl (Rn.movTO tv rfl (nt ((Tr.rgn (Rn.bin tv rfl rfl rfl (md rfl (Rn.nil ?_)))))))
       exact ⟨_,h,(by exact Qi ⟨(kPtr rfl),(kPtr rfl),(sm rfl),(sm rfl),(sm rfl),tv⟩ ⟨bS rfl rfl rfl,bS rfl rfl rfl,tv⟩ rfl)⟩
   ·replace h:=ifF hb10 h
    refine Tr.exit (toN (sr ((Rn.mov (v:=(Qe l6)) tv rfl ?_))))
    obtain ⟨⟨r32,r33⟩,h31,h⟩:=bnd h
    refine Rn.call (args:=[(Qe l6)]) tv rfl (H_requirement_Conjunction _ _ h31) pc9 (Rn.mov (v:=.tup [(Qb r32),(i_ r33)]) tv rfl (Rn.ext (v:=(Qb r32)) (vs:=[(Qb r32),(i_ r33)]) tv rfl rfl rfl (Rn.ext (v:=(i_ r33)) (vs:=[(Qb r32),(i_ r33)]) tv rfl rfl rfl (Rn.alloc tv rfl (Rn.storeT (v:=(Qb r32)) (ds:=(Qc r32)) (cs':=(Qc r32)) tv rfl rfl rfl rfl rfl rfl rfl (md rfl (nt ((sr ((Rn.mov (v:=(Qe l6)) tv rfl ?_)))))))))))
    obtain ⟨⟨r35,r36⟩,h34,h⟩:=bnd h
    refine Rn.call (args:=[(Qe l6)]) tv rfl (H_product_Compose _ _ h34) pc9 (Rn.mov (v:=.tup [(Qb r35),(i_ r36)]) tv rfl (Rn.ext (v:=(Qb r35)) (vs:=[(Qb r35),(i_ r36)]) tv rfl rfl rfl (Rn.ext (v:=(i_ r36)) (vs:=[(Qb r35),(i_ r36)]) tv rfl rfl rfl (Rn.alloc tv rfl (Rn.storeT (v:=(Qb r35)) (ds:=(Qc r35)) (cs':=(Qc r35)) tv rfl rfl rfl rfl rfl rfl rfl (md rfl (nt ((Tr.seq (Tr.rgn ?_))))))))))
    obtain ⟨⟨r38,r39⟩,h37,h⟩:=bnd h
    refine Rn.call (args:=[.nils 4]) tv rfl (fun M2 nb2=>ACalls.weak (args':=[.d (.lst 4 (List.map Qn []))]) (H_requirement_Conjunction _ _ h37 M2 nb2) (.cons (WkV.nilsD _) .nil) rfl) pc9 ?_
    refine Rn.mov (v:=.tup [(Qb r38),(i_ r39)]) tv rfl (Rn.ext (v:=(Qb r38)) (vs:=[(Qb r38),(i_ r39)]) tv rfl rfl rfl (Rn.ext (v:=(i_ r39)) (vs:=[(Qb r38),(i_ r39)]) tv rfl rfl rfl (Rn.alloc tv rfl (Rn.storeT (v:=(Qb r38)) (ds:=(Qc r38)) (cs':=(Qc r38)) tv rfl rfl rfl rfl rfl rfl rfl (md rfl (nt ((sr ((lB (v:=(Qb r32)) rfl rfl rfl rfl ?_))))))))))
    obtain ⟨⟨r41,r42⟩,h40,h⟩:=bnd h
    refine Rn.call (args:=[(Qb r32)]) tv rfl (H_requirement_IsSafety _ _ h40) pc9 (Rn.mov (v:=.tup [(b_ r41),(i_ r42)]) tv rfl (Rn.ext (v:=(b_ r41)) (vs:=[(b_ r41),(i_ r42)]) tv rfl rfl rfl (Rn.ext (v:=(i_ r42)) (vs:=[(b_ r41),(i_ r42)]) tv rfl rfl rfl (md rfl (md rfl (Rn.nil (toN ?_)))))))
    refine Tr.cutB (fun (x53:Bool)=>⟨look [(4,(b_ x53))],Qj Γ.n0 (bxs [(2,.cells ([.d (.int .u8 s1.1),.d (.int .u8 s1.2.1),.d (.int .u8 s1.2.2)])),(3,.cells ([.d (.int .u8 g2.1.zD),.d (.int .u8 g2.1.Marks),.d (.int .u8 g2.1.To.1.1),.d (.int .u8 g2.1.To.1.2.1),.d (.int .u8 g2.1.To.1.2.2.1),.d (.int .u8 g2.1.To.1.2.2.2.1),.d (.int .u8 g2.1.To.1.2.2.2.2),.d (.int .u8 g2.1.To.2.1.1),.d (.int .u8 g2.1.To.2.1.2.1),.d (.int .u8 g2.1.To.2.1.2.2.1),.d (.int .u8 g2.1.To.2.1.2.2.2.1),.d (.int .u8 g2.1.To.2.1.2.2.2.2),.d (.int .u8 g2.1.To.2.2.1.1),.d (.int .u8 g2.1.To.2.2.1.2.1),.d (.int .u8 g2.1.To.2.2.1.2.2.1),.d (.int .u8 g2.1.To.2.2.1.2.2.2.1),.d (.int .u8 g2.1.To.2.2.1.2.2.2.2),.d (.int .u8 g2.1.To.2.2.2.1.1),.d (.int .u8 g2.1.To.2.2.2.1.2.1),.d (.int .u8 g2.1.To.2.2.2.1.2.2.1),.d (.int .u8 g2.1.To.2.2.2.1.2.2.2.1),.d (.int .u8 g2.1.To.2.2.2.1.2.2.2.2),.d (.int .u8 g2.1.To.2.2.2.2.1),.d (.int .u8 g2.1.To.2.2.2.2.2.1),.d (.int .u8 g2.1.To.2.2.2.2.2.2.1),.d (.int .u8 g2.1.To.2.2.2.2.2.2.2.1),.d (.int .u8 g2.1.To.2.2.2.2.2.2.2.2),.d (.int .u8 g2.2.1.zD),.d (.int .u8 g2.2.1.Marks),.d (.int .u8 g2.2.1.To.1.1),.d (.int .u8 g2.2.1.To.1.2.1),.d (.int .u8 g2.2.1.To.1.2.2.1),.d (.int .u8 g2.2.1.To.1.2.2.2.1),.d (.int .u8 g2.2.1.To.1.2.2.2.2),.d (.int .u8 g2.2.1.To.2.1.1),.d (.int .u8 g2.2.1.To.2.1.2.1),.d (.int .u8 g2.2.1.To.2.1.2.2.1),.d (.int .u8 g2.2.1.To.2.1.2.2.2.1),.d (.int .u8 g2.2.1.To.2.1.2.2.2.2),.d (.int .u8 g2.2.1.To.2.2.1.1),.d (.int .u8 g2.2.1.To.2.2.1.2.1),.d (.int .u8 g2.2.1.To.2.2.1.2.2.1),.d (.int .u8 g2.2.1.To.2.2.1.2.2.2.1),.d (.int .u8 g2.2.1.To.2.2.1.2.2.2.2),.d (.int .u8 g2.2.1.To.2.2.2.1.1),.d (.int .u8 g2.2.1.To.2.2.2.1.2.1),.d (.int .u8 g2.2.1.To.2.2.2.1.2.2.1),.d (.int .u8 g2.2.1.To.2.2.2.1.2.2.2.1),.d (.int .u8 g2.2.1.To.2.2.2.1.2.2.2.2),.d (.int .u8 g2.2.1.To.2.2.2.2.1),.d (.int .u8 g2.2.1.To.2.2.2.2.2.1),.d (.int .u8 g2.2.1.To.2.2.2.2.2.2.1),.d (.int .u8 g2.2.1.To.2.2.2.2.2.2.2.1),.d (.int .u8 g2.2.1.To.2.2.2.2.2.2.2.2),.d (.int .u8 g2.2.2.zD),.d (.int .u8 g2.2.2.Marks),.d (.int .u8 g2.2.2.To.1.1),.d (.int .u8 g2.2.2.To.1.2.1),.d (.int .u8 g2.2.2.To.1.2.2.1),.d (.int .u8 g2.2.2.To.1.2.2.2.1),.d (.int .u8 g2.2.2.To.1.2.2.2.2),.d (.int .u8 g2.2.2.To.2.1.1),.d (.int .u8 g2.2.2.To.2.1.2.1),.d (.int .u8 g2.2.2.To.2.1.2.2.1),.d (.int .u8 g2.2.2.To.2.1.2.2.2.1),.d (.int .u8 g2.2.2.To.2.1.2.2.2.2),.d (.int .u8 g2.2.2.To.2.2.1.1),.d (.int .u8 g2.2.2.To.2.2.1.2.1),.d (.int .u8 g2.2.2.To.2.2.1.2.2.1),.d (.int .u8 g2.2.2.To.2.2.1.2.2.2.1),.d (.int .u8 g2.2.2.To.2.2.1.2.2.2.2),.d (.int .u8 g2.2.2.To.2.2.2.1.1),.d (.int .u8 g2.2.2.To.2.2.2.1.2.1),.d (.int .u8 g2.2.2.To.2.2.2.1.2.2.1),.d (.int .u8 g2.2.2.To.2.2.2.1.2.2.2.1),.d (.int .u8 g2.2.2.To.2.2.2.1.2.2.2.2),.d (.int .u8 g2.2.2.To.2.2.2.2.1),.d (.int .u8 g2.2.2.To.2.2.2.2.2.1),.d (.int .u8 g2.2.2.To.2.2.2.2.2.2.1),.d (.int .u8 g2.2.2.To.2.2.2.2.2.2.2.1),.d (.int .u8 g2.2.2.To.2.2.2.2.2.2.2.2)])),(11,.cells ((Qc r32))),(13,.cells ((Qc r35))),(15,.cells ((Qc r38)))]) M,Γ.n0+114⟩) h (fun z h=>?_) (fun z h=>?_)
    ·refine Tr.rgn (md rfl (Rn.bin tv rfl rfl rfl (md rfl ?_)))
     refine Qcb (r33 == 0) (fun hb43=>?_) (fun hb43=>?_)
     ·replace h:=bT hb43 h
      refine Rn.movD (gw rfl hb43) rfl (Rn.bin (gw rfl hb43) rfl rfl rfl (Rn.pickT (v:=(b_ (r36 == 0))) tv rfl hb43 rfl (md rfl ?_)))
      refine Qcb (r36 == 0) (fun hb44=>?_) (fun hb44=>?_)
      ·replace h:=bT hb44 h
       refine Rn.load (v:=(Qb r32)) (gw rfl hb44) rfl (Qbv rfl) rfl rfl (Rn.load (v:=(Qb r35)) (gw rfl hb44) rfl (Qbv rfl) rfl rfl ?_)
       obtain ⟨x46,h45,h⟩:=bnd h
       refine Rn.call (args:=[(Qb r32),(Qb r35)]) (gw rfl hb44) rfl (H_automaton_Equal _ _ _ h45) pc9 (Rn.pickT (v:=(b_ x46)) tv rfl hb44 rfl (md rfl ?_))
       refine Qcb x46 (fun hb47=>?_) (fun hb47=>?_)
       ·replace h:=bT hb47 h
        refine Rn.movD (gw rfl hb47) rfl (Rn.bin (gw rfl hb47) rfl rfl rfl (Rn.pickT (v:=(b_ (r39 == 0))) tv rfl hb47 rfl (md rfl ?_)))
        refine Qcb (r39 == 0) (fun hb48=>?_) (fun hb48=>?_)
        ·replace h:=bT hb48 h
         refine Rn.fldP (o':=1) (gw rfl hb48) rfl rfl (Rn.load (v:=(i_ r38.zD)) (gw rfl hb48) rfl (Qbv rfl) rfl rfl (Rn.bin (gw rfl hb48) rfl rfl rfl (Rn.pickT (v:=(b_ (r38.zD == 1))) tv rfl hb48 rfl (md rfl ?_))))
         refine Qcb (r38.zD == 1) (fun hb49=>?_) (fun hb49=>?_)
         ·replace h:=bT hb49 h
          refine Rn.fldP (o':=2) (gw rfl hb49) rfl rfl (Rn.load (v:=(l_ r38.zB)) (gw rfl hb49) rfl (Qbv rfl) rfl rfl (Rn.lenD (gw rfl hb49) rfl (Rn.bin (gw rfl hb49) rfl rfl rfl (Rn.pickT (v:=(b_ ((r38.zB.length:Int) == 1))) tv rfl hb49 rfl (md rfl ?_)))))
          refine Qcb ((r38.zB.length:Int) == 1) (fun hb50=>?_) (fun hb50=>?_)
          ·replace h:=bT hb50 h
           refine Rn.movD (gw rfl hb50) rfl (Rn.bin (gw rfl hb50) rfl rfl rfl (Rn.pickT (v:=(b_ (r42 == 0))) tv rfl hb50 rfl (md rfl ?_)))
           refine Qcb (r42 == 0) (fun hb51=>?_) (fun hb51=>?_)
           ·replace h:=bT hb51 h
            refine Rn.movD (gw rfl hb51) rfl (Rn.un (gw rfl hb51) rfl rfl (Rn.movD (gw rfl hb51) rfl ?_))
            refine Qcb safe7 (fun hb52=>?_) (fun hb52=>?_)
            ·replace h:=bT hb52 h
             refine Rn.movD (gw rfl (nT hb52)) rfl (Rn.pickF (v:=(b_ r41)) (gw rfl hb51) rfl (nT hb52) rfl (Rn.pickT (v:=(b_ r41)) tv rfl hb51 rfl (md rfl (Rn.nil ?_))))
             replace h:=si h; subst h
             exact Qh [] ⟨(sm rfl),tv⟩ ⟨bS rfl rfl rfl,bS rfl rfl rfl,bS rfl rfl rfl,bS rfl rfl rfl,bS rfl rfl rfl,tv⟩ rfl
            ·replace h:=bF hb52 h
             refine Rn.sk (nw rfl (nF hb52)) (Rn.pickT (v:=(b_ true)) (gw rfl hb51) rfl (nF hb52) rfl (Rn.pickT (v:=(b_ true)) tv rfl hb51 rfl (md rfl (Rn.nil ?_))))
             replace h:=si h; subst h
             exact Qh [] ⟨(sm rfl),tv⟩ ⟨bS rfl rfl rfl,bS rfl rfl rfl,bS rfl rfl rfl,bS rfl rfl rfl,bS rfl rfl rfl,tv⟩ rfl
           ·replace h:=bF hb51 h
            refine Rn.sk (nw rfl hb51) (Rn.sk (nw rfl hb51) (Rn.sk (nw rfl hb51) (Rn.sk (nu rfl) (Rn.sk (nw rfl hb51) (Rn.pickF (v:=(b_ false)) tv rfl hb51 rfl (md rfl (Rn.nil ?_)))))))
            replace h:=si h; subst h
            exact Qh [] ⟨(sm rfl),tv⟩ ⟨bS rfl rfl rfl,bS rfl rfl rfl,bS rfl rfl rfl,bS rfl rfl rfl,bS rfl rfl rfl,tv⟩ rfl
          ·replace h:=bF hb50 h
           refine Rn.sk (nw rfl hb50) (Rn.sk (nw rfl hb50) (Rn.pickF (v:=(b_ false)) tv rfl hb50 rfl (md rfl (sF rfl rfl (sF rfl rfl (sF rfl rfl (Rn.sk (nu rfl) (sF rfl rfl (Rn.pickF (v:=(b_ false)) tv rfl rfl rfl (md rfl (Rn.nil ?_)))))))))))
           replace h:=si h; subst h
           exact Qh [] ⟨(sm rfl),tv⟩ ⟨bS rfl rfl rfl,bS rfl rfl rfl,bS rfl rfl rfl,bS rfl rfl rfl,bS rfl rfl rfl,tv⟩ rfl
         ·replace h:=bF hb49 h
          refine Rn.sk (nw rfl hb49) (Rn.sk (nw rfl hb49) (Rn.sk (nw rfl hb49) (Rn.sk (nw rfl hb49) (Rn.pickF (v:=(b_ false)) tv rfl hb49 rfl (md rfl (sF rfl rfl (sF rfl rfl (Rn.pickF (v:=(b_ false)) tv rfl rfl rfl (md rfl (sF rfl rfl (sF rfl rfl (sF rfl rfl (Rn.sk (nu rfl) (sF rfl rfl (Rn.pickF (v:=(b_ false)) tv rfl rfl rfl (md rfl (Rn.nil ?_)))))))))))))))))
          replace h:=si h; subst h
          exact Qh [] ⟨(sm rfl),tv⟩ ⟨bS rfl rfl rfl,bS rfl rfl rfl,bS rfl rfl rfl,bS rfl rfl rfl,bS rfl rfl rfl,tv⟩ rfl
        ·replace h:=bF hb48 h
         refine Rn.sk (nw rfl hb48) (Rn.sk (nw rfl hb48) (Rn.sk (nw rfl hb48) (Rn.pickF (v:=(b_ false)) tv rfl hb48 rfl (md rfl (sF rfl rfl (sF rfl rfl (sF rfl rfl (sF rfl rfl (Rn.pickF (v:=(b_ false)) tv rfl rfl rfl (md rfl (sF rfl rfl (sF rfl rfl (Rn.pickF (v:=(b_ false)) tv rfl rfl rfl (md rfl (sF rfl rfl (sF rfl rfl (sF rfl rfl (Rn.sk (nu rfl) (sF rfl rfl (Rn.pickF (v:=(b_ false)) tv rfl rfl rfl (md rfl (Rn.nil ?_))))))))))))))))))))))
         replace h:=si h; subst h
         exact Qh [] ⟨(sm rfl),tv⟩ ⟨bS rfl rfl rfl,bS rfl rfl rfl,bS rfl rfl rfl,bS rfl rfl rfl,bS rfl rfl rfl,tv⟩ rfl
       ·replace h:=bF hb47 h
        refine Rn.sk (nw rfl hb47) (Rn.sk (nw rfl hb47) (Rn.pickF (v:=(b_ false)) tv rfl hb47 rfl (md rfl (sF rfl rfl (sF rfl rfl (sF rfl rfl (Rn.pickF (v:=(b_ false)) tv rfl rfl rfl (md rfl (sF rfl rfl (sF rfl rfl (sF rfl rfl (sF rfl rfl (Rn.pickF (v:=(b_ false)) tv rfl rfl rfl (md rfl (sF rfl rfl (sF rfl rfl (Rn.pickF (v:=(b_ false)) tv rfl rfl rfl (md rfl (sF rfl rfl (sF rfl rfl (sF rfl rfl (Rn.sk (nu rfl) (sF rfl rfl (Rn.pickF (v:=(b_ false)) tv rfl rfl rfl (md rfl (Rn.nil ?_))))))))))))))))))))))))))
        replace h:=si h; subst h
        exact Qh [] ⟨(sm rfl),tv⟩ ⟨bS rfl rfl rfl,bS rfl rfl rfl,bS rfl rfl rfl,bS rfl rfl rfl,bS rfl rfl rfl,tv⟩ rfl
      ·replace h:=bF hb44 h
       refine Rn.sk (nw rfl hb44) (Rn.sk (nw rfl hb44) (Rn.sk (nw rfl hb44) (Rn.pickF (v:=(b_ false)) tv rfl hb44 rfl (md rfl (sF rfl rfl (sF rfl rfl (Rn.pickF (v:=(b_ false)) tv rfl rfl rfl (md rfl (sF rfl rfl (sF rfl rfl (sF rfl rfl (Rn.pickF (v:=(b_ false)) tv rfl rfl rfl (md rfl (sF rfl rfl (sF rfl rfl (sF rfl rfl (sF rfl rfl (Rn.pickF (v:=(b_ false)) tv rfl rfl rfl (md rfl (sF rfl rfl (sF rfl rfl (Rn.pickF (v:=(b_ false)) tv rfl rfl rfl (md rfl (sF rfl rfl (sF rfl rfl (sF rfl rfl (Rn.sk (nu rfl) (sF rfl rfl (Rn.pickF (v:=(b_ false)) tv rfl rfl rfl (md rfl (Rn.nil ?_)))))))))))))))))))))))))))))))
       replace h:=si h; subst h
       exact Qh [] ⟨(sm rfl),tv⟩ ⟨bS rfl rfl rfl,bS rfl rfl rfl,bS rfl rfl rfl,bS rfl rfl rfl,bS rfl rfl rfl,tv⟩ rfl
     ·replace h:=bF hb43 h
      refine Rn.sk (nw rfl hb43) (Rn.sk (nw rfl hb43) (Rn.pickF (v:=(b_ false)) tv rfl hb43 rfl (md rfl (sF rfl rfl (sF rfl rfl (sF rfl rfl (Rn.pickF (v:=(b_ false)) tv rfl rfl rfl (md rfl (sF rfl rfl (sF rfl rfl (Rn.pickF (v:=(b_ false)) tv rfl rfl rfl (md rfl (sF rfl rfl (sF rfl rfl (sF rfl rfl (Rn.pickF (v:=(b_ false)) tv rfl rfl rfl (md rfl (sF rfl rfl (sF rfl rfl (sF rfl rfl (sF rfl rfl (Rn.pickF (v:=(b_ false)) tv rfl rfl rfl (md rfl (sF rfl rfl (sF rfl rfl (Rn.pickF (v:=(b_ false)) tv rfl rfl rfl (md rfl (sF rfl rfl (sF rfl rfl (sF rfl rfl (Rn.sk (nu rfl) (sF rfl rfl (Rn.pickF (v:=(b_ false)) tv rfl rfl rfl (md rfl (Rn.nil ?_)))))))))))))))))))))))))))))))))))
      replace h:=si h; subst h
      exact Qh [] ⟨(sm rfl),tv⟩ ⟨bS rfl rfl rfl,bS rfl rfl rfl,bS rfl rfl rfl,bS rfl rfl rfl,bS rfl rfl rfl,tv⟩ rfl
    ·obtain ⟨x53,rfl⟩ : ∃ x,x=z:=⟨_,rfl⟩
     refine Tr.ret ?_
     replace h:=si h; subst h
     exact ⟨.inr rfl,(b_ x53),rfl,fun _ _ _ _ h=>h,tv,mB⟩
end Go.Abs
end
section
namespace Go.Proofs
open Go.Abs
set_option maxRecDepth 100000
theorem Qjr:Qm Tryz.prog 3=some Qdh:=by kernel_rfl
theorem Qza:Qm Tryz.prog 4=some Qg2:=by kernel_rfl
theorem Q1s:Qm Tryz.prog 5=some Qhp:=by kernel_rfl
theorem Qn6:Qm Tryz.prog 6=some Qeq:=by kernel_rfl
theorem Qw0:Qm Tryz.prog 7=some Qgi:=by kernel_rfl
theorem Qpe:Qm Tryz.prog 8=some Qfc:=by kernel_rfl
theorem Q6h:Qm Tryz.prog 9=some Qkk:=by kernel_rfl
theorem Q6i:Qm Tryz.prog 10=some Qkm:=by kernel_rfl
theorem Quw:Qm Tryz.prog 11=some Qfu:=by kernel_rfl
theorem Q1t:Qm Tryz.prog 12=some Qhi:=by kernel_rfl
theorem Q1u:Qm Tryz.prog 13=some Qhk:=by kernel_rfl
theorem Qzb:Qm Tryz.prog 14=some Qg0:=by kernel_rfl
theorem Q4x:Qm Tryz.prog 15=some Qji:=by kernel_rfl
theorem Q3a:Qm Tryz.prog 16=some Qia:=by kernel_rfl
theorem Qzc:Qm Tryz.prog 17=some Qg3:=by kernel_rfl
theorem Qpf:Qm Tryz.prog 18=some Qe8:=by kernel_rfl
theorem Q6j:Qm Tryz.prog 19=some Qj6:=by kernel_rfl
theorem Qzd:Qm Tryz.prog 20=some Qg9:=by kernel_rfl
theorem Qw1:Qm Tryz.prog 21=some Qf6:=by kernel_rfl
theorem Qze:Qm Tryz.prog 22=some Qgy:=by kernel_rfl
theorem Q1v:Qm Tryz.prog 23=some Qhe:=by kernel_rfl
theorem Q3b:Qm Tryz.prog 24=some Qh4:=by kernel_rfl
theorem Qpg:Qm Tryz.prog 25=some Qe4:=by kernel_rfl
theorem Q4y:Qm Tryz.prog 26=some Qi7:=by kernel_rfl
theorem Q7f:Qm Tryz.prog 27=some Qk6:=by kernel_rfl
theorem Qw2:Qm Tryz.prog 28=some Qga:=by kernel_rfl
theorem Q3c:Qm Tryz.prog 29=some Qh7:=by kernel_rfl
theorem Q6k:Qm Tryz.prog 30=some Qj5:=by kernel_rfl
theorem Qw3:Qm Tryz.prog 31=some Qgc:=by kernel_rfl
theorem Q4z:Qm Tryz.prog 32=some Qi4:=by kernel_rfl
theorem Q7g:Qm Tryz.prog 33=some Qk8:=by kernel_rfl
theorem Q3d:Qm Tryz.prog 34=some Qh9:=by kernel_rfl
theorem Q7h:Qm Tryz.prog 35=some Qla:=by kernel_rfl
theorem Qzf:Qm Tryz.prog 36=some Qg5:=by kernel_rfl
theorem Q3e:Qm Tryz.prog 37=some Qib:=by kernel_rfl
theorem Q1w:Qm Tryz.prog 38=some Qhn:=by kernel_rfl
theorem Qzg:Qm Tryz.prog 39=some Qg7:=by kernel_rfl
theorem Q1x:Qm Tryz.prog 40=some Qhm:=by kernel_rfl
theorem Qw4:Qm Tryz.prog 41=some Qge:=by kernel_rfl
theorem Q8z:Qm Tryz.prog 42=some Qnc:=by kernel_rfl
theorem Q9o:Qm Tryz.prog 43=some Qo3:=by kernel_rfl
theorem Qph:Qm Tryz.prog 44=some Qfa:=by kernel_rfl
theorem Qse:Qm Tryz.prog 46=some Qfp:=by kernel_rfl
theorem Qw5:Qm Tryz.prog 47=some Qgk:=by kernel_rfl
theorem Qzh:Qm Tryz.prog 48=some Qgx:=by kernel_rfl
theorem Q40:Qm Tryz.prog 49=some Qi5:=by kernel_rfl
theorem Q3f:Qm Tryz.prog 51=some Qh6:=by kernel_rfl
theorem Q1y:Qm Tryz.prog 52=some Qhg:=by kernel_rfl
theorem Q7i:Qm Tryz.prog 53=some Qk5:=by kernel_rfl
theorem Q41:Qm Tryz.prog 54=some Qi9:=by kernel_rfl
theorem Qpi:Qm Tryz.prog 55=some Qe6:=by kernel_rfl
theorem Q42:Qm Tryz.prog 56=some Qjc:=by kernel_rfl
theorem Q43:Qm Tryz.prog 57=some Qjf:=by kernel_rfl
theorem Qw6:Qm Tryz.prog 58=some Qgg:=by kernel_rfl
theorem Q80:Qm Tryz.prog 59=some Qm0:=by kernel_rfl
theorem Q44:Qm Tryz.prog 60=some Qjh:=by kernel_rfl
theorem Q7j:Qm Tryz.prog 61=some Qlc:=by kernel_rfl
theorem Qw7:Qm Tryz.prog 68=some Qf8:=by kernel_rfl
theorem Q9p:Qm Tryz.prog 69=some Qox:=by kernel_rfl
theorem Q45:Qm Tryz.prog 70=some Qjb:=by kernel_rfl
theorem Qle:Qm Tryz.prog 71=some Qd2:=by kernel_rfl
theorem Q6l:Qm Tryz.prog 72=some Qkh:=by kernel_rfl
theorem Q6m:Qm Tryz.prog 73=some Qkj:=by kernel_rfl
theorem Q81:Qm Tryz.prog 86=some Qmp:=by kernel_rfl
end Go.Proofs
end
section
namespace Go.Abs
open Go Go.Sort
section plain
variable {β:Type}
def insB (lt:β→β→Bool) (x:β):List β→List β
 | []=>[x]
 | y :: ys=>if lt y x then y :: insB lt x ys else x :: y :: ys
def Qzi (lt:β→β→Bool):List β→List β
 | []=>[]
 | x :: xs=>insB lt x (Qzi lt xs)
theorem Q82 (lt:β→β→Bool) (x:β):∀ l,(insB lt x l).Perm (x :: l)
 | []=>.refl _
 | y :: ys=>by
  unfold insB; split
  ·exact ((Q82 lt x ys).cons y).trans (.swap x y ys)
  ·exact .refl _
theorem Qux (lt:β→β→Bool):∀ l,(Qzi lt l).Perm l
 | []=>.refl _
 | x :: xs=>(Q82 lt x _).trans ((Qux lt xs).cons x)
theorem Quy (lt:β→β→Bool) (l:List β):(Qzi lt l).length=l.length:=(Qux lt l).length_eq
theorem Q83 {lt:β→β→Bool} (h:SWO lt) (x:β):∀ l,l.Pairwise (fun a b=>lt b a=false)→(insB lt x l).Pairwise fun a b=>lt b a=false
 | [],_=>by simp [insB]
 | y :: ys,hl=>by
  obtain ⟨h1,h2⟩:=List.pairwise_cons.1 hl
  unfold insB; split
  ·rename_i hc
   refine List.pairwise_cons.2 ⟨fun z hz=>?_,Q83 h x ys h2⟩
   rcases List.mem_cons.1 ((Q82 lt x ys).mem_iff.1 hz) with rfl | hz
   ·cases hb:lt z y with
    | false=>rfl
    | true=>have:=h.trans _ _ _ hc hb; rw [h.irrefl] at this; cases this
   ·exact h1 z hz
  ·rename_i hc
   have hc:lt y x=false:=by cases h:lt y x <;> simp_all
   refine List.pairwise_cons.2 ⟨fun z hz=>?_,hl⟩
   rcases List.mem_cons.1 hz with rfl | hz
   ·exact hc
   ·exact h.ntrans _ _ _ (h1 z hz) hc
theorem Quz {lt:β→β→Bool} (h:SWO lt):∀ l,(Qzi lt l).Pairwise fun a b=>lt b a=false
 | []=>.nil
 | x :: xs=>Q83 h x _ (Quz h xs)
end plain
def Qhv (a b:Int):Bool:=decide (a < b)
end Go.Abs
end
section
namespace Go.Abs
def Qblv (l:List Int):Option (List Int):=if l.length≤lim then some (Qzi Qhv l) else none
def keyL (l:List Int):List UInt8:=l.flatMap fun x=>Lib.decDigits x.toNat ++ [32]
def keyB (l:List Int):ByteArray:=⟨(keyL l).toArray⟩
def keyI (l:List Int):Option ByteArray:=if l.length≤lim∧∀ x∈l,0≤x∧x < 100 then some (keyB l) else none
end Go.Abs
end
section
namespace Go.Abs
open Go Go.Abs
set_option maxRecDepth 10000
set_option maxHeartbeats 4000000
def Qb7:Nat:=1099511627776
def Qex:=Q7 Qb7
def Qdv:=Qu Qex
def Qgl:=Qv Qdv Qb7
def Qey:=Q8
def Qhq:=Q6 Qey Qblv
def Qhw:=Qbj
def Qez:=Qo Qb7
def Qin:=Q9
def Qjj:=Qbq Qgl Qez Qhq Qin Qhw
def Qno:=Qcl Qb7
def Qes:=Qw Qb7
def Qju:=Qbx
def Qlg:=Qcg Qes Qju
def Qof:=Qct Qno Qlg Qb7
def Qjk:=Qcu
def Qet:=Qbm Qes Qjk
def Qnp:=Qcz
def Qhx:=Qdn Qnp
def Qgu:=Qb5
def Qdp:=Qba Qhx Qgu Qb7
def Qdl:=Qp Qdp
def Qjv:=Qby Qdl
def Qlh:=Qch Qez Qin Qof Qet Qjv
def Q46:=Qjd
def Qog:=Qcv
def Qvc:=Qdf Qog
def Qjw:=Qbz Qex Qvc
def Qsf:=Qc4
def Qli:=Qci Qgl Qez Qhq Qsf Qjw Qb7
def Qfh:=Qbp Qb7
def Qek:=Qbn Qdv Qb7
def Qdm:=Qt Qfh Qek
def Qjx:=Qb0 Qdm
def Qfz:=Qx Qb7
def Qsg:=Qc5
def Qsh:=Qc6
def Qzj:=Qdu Qfz Qsg Qsh
def Qnq:=Qcm Qjx Qzj Qb7
def Qoh:=Qcw
def Qvd:=Qdg Qes Qoh
def Qkx:=Qb8 Qnq Qvd
def Qe0:=Qy Qb7
def Qeg:=Q4 Qb7
def Qha:=Qb9 Qjj Qlh Qli Qkx Qe0 Qeg
def Qca:=Qbh Qb7
def Qdw:=Qs
def Qb2:=Qz Qb7
def Qcn:=Q5 Qb7
def Qe1:=Qbr Qcn Qb2 Qb7
def Qdx:=Qbs Qb7
def Qdq:=Qbb Qdw Qe1 Qcn Qb2 Qdx Qb7
def Qde:=Qb1 Qdw Qdq Qb7
def Qcy:=Qbg Qdm
def Qjl:=Qdc Qdm Qb7
def Qd3:=Qc1 Qet Qb7
def Qkt:=Qdo Qd3 Qb7
def Qdr:=Qbc Qb7
def Qdz:=Qbe Qdl Qb7
def Qel:=Qbo Qdl Qey Qb7
def Qbt:=Qbk Qjl Qkt Qdr keyI Qdz Qel Qb7
def Qd9:=Qbf Qbt
def Qbu:=Q3 Qd9
def Qfq:=Qcq Qe0 Qeg
def Qdi:=Qck Qha Qde Qca Qcy Qbu Qd9 Qfq Qb7
end Go.Abs
end
section
namespace Go.Proofs
open Go.Shelf
def Tryz.lays169_ren:Go.Shelf.Ren:=⟨fun | 169=>65 | n=>n,fun | 70=>104 | 9=>9 | 0=>0 | 72=>107 | 37=>105 | 127=>119 | 3=>3 | 5=>5 | n=>n,fun | n=>n⟩
theorem Tryz.lays169:Go.Proofs.Lays.n169 Tryz.prog Tryz.lays169_ren:={
 mixed:=by kernel_rfl
 f169:=Tryz.func65.trans (congrArg some (by kernel_rfl))
 t0:=Tryz.underlying0
 a0:=Tryz.isAgg0
 z0:=Tryz.sizeOf0
 v0:=Tryz.zeroValue0
 t3:=Tryz.underlying3
 a3:=Tryz.isAgg3
 z3:=Tryz.sizeOf3
 v3:=Tryz.zeroValue3
 t9:=Tryz.underlying9
 a9:=Tryz.isAgg9
 z9:=Tryz.sizeOf9
 v9:=Tryz.zeroValue9
 t37:=Tryz.underlying105
 a37:=Tryz.isAgg105
 z37:=Tryz.sizeOf105
 v37:=Tryz.zeroValue105
 t70:=Tryz.underlying104
 a70:=Tryz.isAgg104
 z70:=Tryz.sizeOf104
 v70:=Tryz.zeroValue104
 t72:=Tryz.underlying107
 a72:=Tryz.isAgg107
 z72:=Tryz.sizeOf107
 v72:=Tryz.zeroValue107
 t127:=Tryz.underlying119
 a127:=Tryz.isAgg119
 z127:=Tryz.sizeOf119
 v127:=Tryz.zeroValue119 }
theorem Tryz.Builder_Extra_169:Builder.Extra Tryz.prog Tryz.lays169_ren:={
 sizeBuilder:=by kernel_rfl
 liesBuilder:=by kernel_rfl
 t5:=Tryz.underlying5
 a5:=Tryz.isAgg5
 z5:=Tryz.sizeOf5
 v5:=Tryz.zeroValue5
 infoByte:=by kernel_rfl
 cellsByte:=by kernel_rfl
 sizeByte:=by kernel_rfl
 neB5:=by decide }
open Go.RowKit in
theorem Tryz.Builder_String_any_k (B b:Nat) (l:List UInt8) (w:World) (h:Lib.IsBuilderF 107 5 B b (Lib.byteCells l) w) (hBw:B≤w.heap.size) :
  Calls Tryz.prog 65 #[.pointer (some ⟨b,0,none⟩)] w fun e w'=>e = .returned (.string ⟨l.toArray⟩)∧(Lib.IsBuilderF 107 5 B b (Lib.byteCells l) w' ∧ Below B w w' ∧ Lib.OthersKept 5 (some b) w w'):=Any.Builder_String_any_k Tryz.lays169 Tryz.Builder_Extra_169 B b l w h hBw
def Tryz.lays171_ren:Go.Shelf.Ren:=⟨fun | 171=>63 | 243=>75 | 246=>88 | 283=>94 | 284=>95 | 285=>96 | 286=>97 | 129=>85 | 317=>99 | 318=>100 | 319=>101 | 320=>102 | 337=>103 | 338=>104 | n=>n,fun | 3=>3 | 9=>9 | 2=>2 | 4=>4 | 171=>136 | 0=>0 | 53=>98 | 37=>105 | 5=>5 | 173=>138 | 212=>145 | 51=>96 | 20=>20 | 213=>146 | 46=>72 | 232=>147 | 233=>148 | n=>n,fun | 17=>0 | 18=>1 | 19=>2 | n=>n⟩
theorem Tryz.lays171:Go.Proofs.Lays.n171 Tryz.prog Tryz.lays171_ren:={
 mixed:=by kernel_rfl
 f129:=Tryz.func85.trans (congrArg some (by kernel_rfl))
 f171:=Tryz.func63.trans (congrArg some (by kernel_rfl))
 f243:=Tryz.func75.trans (congrArg some (by kernel_rfl))
 f246:=Tryz.func88.trans (congrArg some (by kernel_rfl))
 f283:=Tryz.func94.trans (congrArg some (by kernel_rfl))
 f284:=Tryz.func95.trans (congrArg some (by kernel_rfl))
 f285:=Tryz.func96.trans (congrArg some (by kernel_rfl))
 f286:=Tryz.func97.trans (congrArg some (by kernel_rfl))
 f317:=Tryz.func99.trans (congrArg some (by kernel_rfl))
 f318:=Tryz.func100.trans (congrArg some (by kernel_rfl))
 f319:=Tryz.func101.trans (congrArg some (by kernel_rfl))
 f320:=Tryz.func102.trans (congrArg some (by kernel_rfl))
 f337:=Tryz.func103.trans (congrArg some (by kernel_rfl))
 f338:=Tryz.func104.trans (congrArg some (by kernel_rfl))
 t0:=Tryz.underlying0
 a0:=Tryz.isAgg0
 z0:=Tryz.sizeOf0
 v0:=Tryz.zeroValue0
 t2:=Tryz.underlying2
 a2:=Tryz.isAgg2
 z2:=Tryz.sizeOf2
 v2:=Tryz.zeroValue2
 t3:=Tryz.underlying3
 a3:=Tryz.isAgg3
 z3:=Tryz.sizeOf3
 v3:=Tryz.zeroValue3
 t4:=Tryz.underlying4
 a4:=Tryz.isAgg4
 z4:=Tryz.sizeOf4
 v4:=Tryz.zeroValue4
 t5:=Tryz.underlying5
 a5:=Tryz.isAgg5
 z5:=Tryz.sizeOf5
 v5:=Tryz.zeroValue5
 t9:=Tryz.underlying9
 a9:=Tryz.isAgg9
 z9:=Tryz.sizeOf9
 v9:=Tryz.zeroValue9
 t20:=Tryz.underlying20
 a20:=Tryz.isAgg20
 z20:=Tryz.sizeOf20
 v20:=Tryz.zeroValue20
 t37:=Tryz.underlying105
 a37:=Tryz.isAgg105
 z37:=Tryz.sizeOf105
 v37:=Tryz.zeroValue105
 t46:=Tryz.underlying72
 a46:=Tryz.isAgg72
 z46:=Tryz.sizeOf72
 v46:=Tryz.zeroValue72
 t51:=Tryz.underlying96
 a51:=Tryz.isAgg96
 z51:=Tryz.sizeOf96
 v51:=Tryz.zeroValue96
 t53:=Tryz.underlying98
 a53:=Tryz.isAgg98
 z53:=Tryz.sizeOf98
 v53:=Tryz.zeroValue98
 t171:=Tryz.underlying136
 a171:=Tryz.isAgg136
 z171:=Tryz.sizeOf136
 v171:=Tryz.zeroValue136
 t173:=Tryz.underlying138
 a173:=Tryz.isAgg138
 z173:=Tryz.sizeOf138
 v173:=Tryz.zeroValue138
 t212:=Tryz.underlying145
 a212:=Tryz.isAgg145
 z212:=Tryz.sizeOf145
 v212:=Tryz.zeroValue145
 t213:=Tryz.underlying146
 a213:=Tryz.isAgg146
 z213:=Tryz.sizeOf146
 t232:=Tryz.underlying147
 a232:=Tryz.isAgg147
 z232:=Tryz.sizeOf147
 v232:=Tryz.zeroValue147
 t233:=Tryz.underlying148
 a233:=Tryz.isAgg148
 z233:=Tryz.sizeOf148
 v233:=Tryz.zeroValue148
 g17:=by kernel_rfl
 g18:=by kernel_rfl
 g19:=by kernel_rfl }
open Go.RowKit Go.Sort Go.Lib in
theorem Tryz.strconv_Itoa_small (i:Nat) (hi:i < 100) (w:World) :
  Calls Tryz.prog 63 #[.int .i64 i] w fun e w'=>e = .returned (.string ⟨(Lib.decDigits i).toArray⟩)∧w' = w:=Any.strconv_Itoa_small Tryz.lays171 i hi w
def Tryz.laysSlM5_f69_ren:Go.Shelf.Ren:=⟨fun | 5=>50 | 8=>67 | 7=>66 | 19=>84 | 20=>85 | 10=>76 | 11=>77 | 12=>78 | 13=>79 | 14=>80 | 15=>81 | 16=>69 | 17=>82 | 18=>83 | 30=>89 | 31=>90 | 32=>91 | 33=>92 | 34=>93 | 35=>86 | 40=>98 | n=>n,fun | 23=>31 | 25=>3 | 3=>3 | 32=>72 | 22=>31 | 0=>0 | 44=>96 | 46=>98 | 4=>4 | 36=>122 | 35=>121 | 41=>87 | 5=>5 | 9=>9 | 53=>130 | 57=>134 | 63=>140 | 64=>141 | n=>n,fun | n=>n⟩
theorem Tryz.laysSlM5_f69:Go.Proofs.SlLaysM.n5 Tryz.prog Tryz.laysSlM5_f69_ren:={
 mixed:=by kernel_rfl
 f5:=⟨Tryz.f50.name,by decide,Tryz.func50.trans (congrArg some (by kernel_rfl))⟩
 f7:=⟨Tryz.f66.name,by decide,Tryz.func66.trans (congrArg some (by kernel_rfl))⟩
 f8:=Tryz.func67.trans (congrArg some (by kernel_rfl))
 f10:=⟨Tryz.f76.name,by decide,Tryz.func76.trans (congrArg some (by kernel_rfl))⟩
 f11:=⟨Tryz.f77.name,by decide,Tryz.func77.trans (congrArg some (by kernel_rfl))⟩
 f12:=⟨Tryz.f78.name,by decide,Tryz.func78.trans (congrArg some (by kernel_rfl))⟩
 f13:=⟨Tryz.f79.name,by decide,Tryz.func79.trans (congrArg some (by kernel_rfl))⟩
 f14:=⟨Tryz.f80.name,by decide,Tryz.func80.trans (congrArg some (by kernel_rfl))⟩
 f15:=⟨Tryz.f81.name,by decide,Tryz.func81.trans (congrArg some (by kernel_rfl))⟩
 f16:=⟨Tryz.f69.name,by decide,Tryz.func69.trans (congrArg some (by kernel_rfl))⟩
 f17:=⟨Tryz.f82.name,by decide,Tryz.func82.trans (congrArg some (by kernel_rfl))⟩
 f18:=⟨Tryz.f83.name,by decide,Tryz.func83.trans (congrArg some (by kernel_rfl))⟩
 f19:=Tryz.func84.trans (congrArg some (by kernel_rfl))
 f20:=Tryz.func85.trans (congrArg some (by kernel_rfl))
 f30:=⟨Tryz.f89.name,by decide,Tryz.func89.trans (congrArg some (by kernel_rfl))⟩
 f31:=Tryz.func90.trans (congrArg some (by kernel_rfl))
 f32:=Tryz.func91.trans (congrArg some (by kernel_rfl))
 f33:=⟨Tryz.f92.name,by decide,Tryz.func92.trans (congrArg some (by kernel_rfl))⟩
 f34:=⟨Tryz.f93.name,by decide,Tryz.func93.trans (congrArg some (by kernel_rfl))⟩
 f35:=⟨Tryz.f86.name,by decide,Tryz.func86.trans (congrArg some (by kernel_rfl))⟩
 f40:=⟨Tryz.f98.name,by decide,Tryz.func98.trans (congrArg some (by kernel_rfl))⟩
 t0:=Tryz.underlying0
 a0:=Tryz.isAgg0
 z0:=Tryz.sizeOf0
 v0:=Tryz.zeroValue0
 t3:=Tryz.underlying3
 a3:=Tryz.isAgg3
 z3:=Tryz.sizeOf3
 v3:=Tryz.zeroValue3
 t4:=Tryz.underlying4
 a4:=Tryz.isAgg4
 z4:=Tryz.sizeOf4
 v4:=Tryz.zeroValue4
 t5:=Tryz.underlying5
 a5:=Tryz.isAgg5
 z5:=Tryz.sizeOf5
 v5:=Tryz.zeroValue5
 t9:=Tryz.underlying9
 a9:=Tryz.isAgg9
 z9:=Tryz.sizeOf9
 v9:=Tryz.zeroValue9
 t22:=Tryz.underlying31
 a22:=Tryz.isAgg31
 z22:=Tryz.sizeOf31
 v22:=Tryz.zeroValue31
 t23:=Tryz.underlying31
 a23:=Tryz.isAgg31
 z23:=Tryz.sizeOf31
 v23:=Tryz.zeroValue31
 t25:=Tryz.underlying3
 a25:=Tryz.isAgg3
 z25:=Tryz.sizeOf3
 v25:=Tryz.zeroValue3
 t32:=Tryz.underlying72
 a32:=Tryz.isAgg72
 z32:=Tryz.sizeOf72
 v32:=Tryz.zeroValue72
 t35:=Tryz.underlying121
 a35:=Tryz.isAgg121
 z35:=Tryz.sizeOf121
 v35:=Tryz.zeroValue121
 t36:=Tryz.underlying122
 a36:=Tryz.isAgg122
 z36:=Tryz.sizeOf122
 v36:=Tryz.zeroValue122
 t41:=Tryz.underlying87
 a41:=Tryz.isAgg87
 z41:=Tryz.sizeOf87
 v41:=Tryz.zeroValue87
 t44:=Tryz.underlying96
 a44:=Tryz.isAgg96
 z44:=Tryz.sizeOf96
 v44:=Tryz.zeroValue96
 t46:=Tryz.underlying98
 a46:=Tryz.isAgg98
 z46:=Tryz.sizeOf98
 v46:=Tryz.zeroValue98
 t53:=Tryz.underlying130
 a53:=Tryz.isAgg130
 z53:=Tryz.sizeOf130
 v53:=Tryz.zeroValue130
 t57:=Tryz.underlying134
 a57:=Tryz.isAgg134
 z57:=Tryz.sizeOf134
 v57:=Tryz.zeroValue134
 t63:=Tryz.underlying140
 a63:=Tryz.isAgg140
 z63:=Tryz.sizeOf140
 v63:=Tryz.zeroValue140
 t64:=Tryz.underlying141
 a64:=Tryz.isAgg141
 z64:=Tryz.sizeOf141
 v64:=Tryz.zeroValue141 }
open Go.Sort Go.RowKit in
theorem Tryz.slices_Sort_int (blk off cap:Nat) (zs:List Int) (w:World) (hH:Holds (Value.int .i64) w blk off zs.toArray) (hblk:blk < w.heap.size) (hsz:zs.length < 4611686018427387904) :
  Calls Tryz.prog 50 #[.slice (some ⟨blk,off,none⟩) zs.length cap] w fun e w' =>
   e = .returned (.tuple #[])∧∃ n os,w' = grow (putRow (Value.int .i64) (Sort.ahead w n) blk off (zs.mergeSort fun x y=>decide (x≤y)).toArray) os:=AnyM.slices_Sort_int Tryz.laysSlM5_f69 blk off cap zs w hH hblk hsz
open Go.RowKit Go.Sort in
theorem Tryz.slices_Sort_int_none (p:Option Addr) (cap:Nat) (w:World) :
  Calls Tryz.prog 50 #[.slice p 0 cap] w fun e w'=>e = .returned (.tuple #[])∧w' = w:=AnyM.slices_Sort_int_none Tryz.laysSlM5_f69 p cap w
def Tryz.lays167_ren:Go.Shelf.Ren:=⟨fun | 167=>64 | 240=>74 | 276=>87 | n=>n,fun | 0=>0 | 4=>4 | 5=>5 | 9=>9 | 20=>20 | 37=>105 | 70=>104 | 72=>107 | 75=>109 | 80=>114 | 164=>127 | n=>n,fun | n=>n⟩
theorem Tryz.lays167:Go.Proofs.Lays.n167 Tryz.prog Tryz.lays167_ren:={
 mixed:=by kernel_rfl
 f167:=Tryz.func64.trans (congrArg some (by kernel_rfl))
 f240:=Tryz.func74.trans (congrArg some (by kernel_rfl))
 f276:=Tryz.func87.trans (congrArg some (by kernel_rfl))
 t0:=Tryz.underlying0
 a0:=Tryz.isAgg0
 z0:=Tryz.sizeOf0
 v0:=Tryz.zeroValue0
 t4:=Tryz.underlying4
 a4:=Tryz.isAgg4
 z4:=Tryz.sizeOf4
 v4:=Tryz.zeroValue4
 t5:=Tryz.underlying5
 a5:=Tryz.isAgg5
 z5:=Tryz.sizeOf5
 v5:=Tryz.zeroValue5
 t9:=Tryz.underlying9
 a9:=Tryz.isAgg9
 z9:=Tryz.sizeOf9
 v9:=Tryz.zeroValue9
 t20:=Tryz.underlying20
 a20:=Tryz.isAgg20
 z20:=Tryz.sizeOf20
 v20:=Tryz.zeroValue20
 t37:=Tryz.underlying105
 a37:=Tryz.isAgg105
 z37:=Tryz.sizeOf105
 v37:=Tryz.zeroValue105
 t70:=Tryz.underlying104
 a70:=Tryz.isAgg104
 z70:=Tryz.sizeOf104
 v70:=Tryz.zeroValue104
 t72:=Tryz.underlying107
 a72:=Tryz.isAgg107
 z72:=Tryz.sizeOf107
 v72:=Tryz.zeroValue107
 t75:=Tryz.underlying109
 a75:=Tryz.isAgg109
 z75:=Tryz.sizeOf109
 v75:=Tryz.zeroValue109
 t164:=Tryz.underlying127
 a164:=Tryz.isAgg127
 z164:=Tryz.sizeOf127
 v164:=Tryz.zeroValue127 }
theorem Tryz.Builder_Extra_167:Builder.Extra Tryz.prog Tryz.lays167_ren:={
 sizeBuilder:=by kernel_rfl
 liesBuilder:=by kernel_rfl
 t5:=Tryz.underlying5
 a5:=Tryz.isAgg5
 z5:=Tryz.sizeOf5
 v5:=Tryz.zeroValue5
 infoByte:=by kernel_rfl
 cellsByte:=by kernel_rfl
 sizeByte:=by kernel_rfl
 neB5:=by decide }
def Tryz.lays166_ren:Go.Shelf.Ren:=⟨fun | 166=>62 | 240=>74 | 276=>87 | n=>n,fun | 0=>0 | 3=>3 | 4=>4 | 5=>5 | 9=>9 | 20=>20 | 37=>105 | 70=>104 | 72=>107 | 75=>109 | 80=>114 | 164=>127 | n=>n,fun | n=>n⟩
theorem Tryz.lays166:Go.Proofs.Lays.n166 Tryz.prog Tryz.lays166_ren:={
 mixed:=by kernel_rfl
 f166:=Tryz.func62.trans (congrArg some (by kernel_rfl))
 f240:=Tryz.func74.trans (congrArg some (by kernel_rfl))
 f276:=Tryz.func87.trans (congrArg some (by kernel_rfl))
 t0:=Tryz.underlying0
 a0:=Tryz.isAgg0
 z0:=Tryz.sizeOf0
 v0:=Tryz.zeroValue0
 t3:=Tryz.underlying3
 a3:=Tryz.isAgg3
 z3:=Tryz.sizeOf3
 v3:=Tryz.zeroValue3
 t4:=Tryz.underlying4
 a4:=Tryz.isAgg4
 z4:=Tryz.sizeOf4
 v4:=Tryz.zeroValue4
 t9:=Tryz.underlying9
 a9:=Tryz.isAgg9
 z9:=Tryz.sizeOf9
 v9:=Tryz.zeroValue9
 t20:=Tryz.underlying20
 a20:=Tryz.isAgg20
 z20:=Tryz.sizeOf20
 v20:=Tryz.zeroValue20
 t37:=Tryz.underlying105
 a37:=Tryz.isAgg105
 z37:=Tryz.sizeOf105
 v37:=Tryz.zeroValue105
 t70:=Tryz.underlying104
 a70:=Tryz.isAgg104
 z70:=Tryz.sizeOf104
 v70:=Tryz.zeroValue104
 t72:=Tryz.underlying107
 a72:=Tryz.isAgg107
 z72:=Tryz.sizeOf107
 v72:=Tryz.zeroValue107
 t75:=Tryz.underlying109
 a75:=Tryz.isAgg109
 z75:=Tryz.sizeOf109
 v75:=Tryz.zeroValue109
 t164:=Tryz.underlying127
 a164:=Tryz.isAgg127
 z164:=Tryz.sizeOf127
 v164:=Tryz.zeroValue127 }
theorem Tryz.Builder_Extra_166:Builder.Extra Tryz.prog Tryz.lays166_ren:={
 sizeBuilder:=by kernel_rfl
 liesBuilder:=by kernel_rfl
 t5:=Tryz.underlying5
 a5:=Tryz.isAgg5
 z5:=Tryz.sizeOf5
 v5:=Tryz.zeroValue5
 infoByte:=by kernel_rfl
 cellsByte:=by kernel_rfl
 sizeByte:=by kernel_rfl
 neB5:=by decide }
open Go.RowKit in
theorem Tryz.Builder_WriteByte_k (B b:Nat) (bs:List Value) (c:Int) (w:World) (h:Lib.IsBuilderF 107 5 B b bs w) (hlen:bs.length+1≤140737488355328) (hBw:B≤w.heap.size) :
  Calls Tryz.prog 64 #[.pointer (some ⟨b,0,none⟩),.int .u8 c] w fun e w'=>e = .returned .nilIface∧(Lib.BuilderAtF 107 5 B b (.pointer (some ⟨b,0,none⟩)) (bs ++ [.int .u8 c]) w' ∧ Below B w w' ∧ Lib.OthersKept 5 (some b) w w'):=Any.Builder_WriteByte_k Tryz.lays167 Tryz.Builder_Extra_167 B b bs c w h hlen hBw
open Go.RowKit in
theorem Tryz.Builder_WriteString_k (B b:Nat) (bs:List Value) (s:ByteArray) (w:World) (h:Lib.IsBuilderF 107 5 B b bs w) (hlen:bs.length+s.size≤140737488355328) (hBw:B≤w.heap.size) :
  Calls Tryz.prog 62 #[.pointer (some ⟨b,0,none⟩),.string s] w fun e w'=>e = .returned (.tuple #[.int .i64 s.size,.nilIface])∧(Lib.BuilderAtF 107 5 B b (.pointer (some ⟨b,0,none⟩)) (bs ++ Lib.strCells s) w' ∧ Below B w w' ∧ Lib.OthersKept 5 (some b) w w'):=Any.Builder_WriteString_k Tryz.lays166 Tryz.Builder_Extra_166 B b bs s w h hlen hBw
end Go.Proofs
end
section
namespace Go.Abs
open Go Go.RowKit
theorem Qbbn {P:Program} {f:FuncId} {args:List V} {x:D} (hx:x.scalar=true) (hb:Qh2 P f=true)
  (h:∀ (w:World) (g:G) (us:List Value),(∀ b o,g.imm b o→b < w.heap.size)→RFs g w args us→Calls P f us.toArray w fun e w'=>e = .returned x.val∧Below w.heap.size w w') (M:Mem) (nb:Nat):ACalls P f args M nb (.d x) M nb:=by
 refine ⟨hb,Nat.le_refl _,fun w g us hm hMon hfresh hus hfl hons=>?_⟩
 refine Calls.mono (h w g us (fun b o hi=>(hm.imm b o hi).1) hus) ?_
 rintro e w' ⟨rfl,hbw⟩
 have hI:Imm g.imm g.imm w w':=⟨fun _ _ h=>h,fun b o hi=>Qe2 (hbw.block b (hm.imm b o hi).1)⟩
 have hk:Kept g w g w' (There M) (fun _=>True):=⟨hI,fun _ _=>rfl,fun b _ hlt=>⟨rfl,hbw.block b hlt,fun _=>Iff.rfl⟩⟩
 refine ⟨_,g,rfl,hm.kept hk hMon (fun _ _ _=>trivial) trivial (fun _ _=>trivial) (fun b o hi=>?_),?_,trivial,hMon,?_⟩
 ·obtain ⟨h1,h2⟩:=hm.imm b o hi
  exact ⟨Nat.lt_of_lt_of_le h1 hbw.size,h2⟩
 ·simp only [RV]; exact (Qbhl hx).2 rfl
 ·exact ⟨hbw.os,hbw.tape,hbw.output,hbw.size,hI,fun _ _=>rfl,fun b hb _=>⟨rfl,hbw.block b hb,fun _=>Iff.rfl⟩⟩
theorem Qbkq {g:G} {w:World} {l:List Int} {k:IntKind} {u:Value} (h:RF g w (.d (.lst 1 (l.map (fun n=>[.int k n])))) u) :
  ∃ a cap,u = .slice a l.length cap∧l.length≤cap∧(l=[]∨∃ b o,a=some ⟨b,o,none⟩∧∀ (i:Nat) n,l[i]? = some n→g.imm b (o+i)∧w.cell? ⟨b,o+i,none⟩=some (.int k n)):=by
 have h:=RF_d.1 h
 simp only [RD,List.length_map] at h
 obtain ⟨a,cap,rfl,hc,hl⟩:=h
 refine ⟨a,cap,rfl,hc,?_⟩
 rcases hl with hl | ⟨b,o,rfl,hl⟩
 ·exact .inl (by simpa using hl)
 ·refine .inr ⟨b,o,rfl,fun i n hi=>?_⟩
  have:=(Q73 hl i [.int k n] (by simp [hi])).2
  simp only [RDc,Nat.mul_one,RD] at this
  obtain ⟨h1,⟨u,h2,rfl⟩,_⟩:=this
  exact ⟨h1,h2⟩
end Go.Abs
end
section
namespace Go.Abs
open Go Go.Sort Go.RowKit
theorem Qbdt {P:Program} {f:FuncId} {ex:Array Value} {exV:List V} {sz nb:Nat} {M:Mem} (hb:Qh2 P f=true) (hex:∀ g w us,RFs g w exV us→us=ex.toList)
  (h:∀ (p:Option Addr) (cap:Nat) (w:World),Calls P f (#[.slice p 0 cap] ++ ex) w fun e' w'=>e' = .returned (.tuple #[])∧w' = w) :
  ACalls P f (.d (.lst sz []) :: exV) M nb (.tup []) M nb:=by
 refine ⟨hb,Nat.le_refl _,fun w g us hm hMon hfresh hus hfl hons=>?_⟩
 obtain ⟨u0,us',rfl,hu0,hus'⟩:=hus
 have h1:=hex _ _ _ hus'
 subst h1
 have h2:∃ p cap,u0 = .slice p 0 cap:=by
  have:=RF_d.1 hu0
  obtain ⟨a,cap,rfl,_,_⟩:=this
  exact ⟨a,cap,rfl⟩
 obtain ⟨p,cap,rfl⟩:=h2
 have e1:(Value.slice p 0 cap :: ex.toList).toArray = #[.slice p 0 cap] ++ ex:=by apply Array.ext'; simp
 rw [e1]
 refine (h p cap w).mono ?_
 rintro e' w' ⟨rfl,rfl⟩
 exact ⟨_,g,rfl,hm,⟨[],rfl,rfl⟩,trivial,hMon,Fr.refl _ _ _⟩
theorem Qbdu (l:List Int):(l.mergeSort fun x y=>decide (x≤y))=Qzi Qhv l:=by
 have hO:Go.Sort.SWO Qhv:=⟨fun x=>by simp [Qhv],fun x y z h1 h2=>by simp [Qhv] at *; omega,fun x y z h1 h2=>by simp [Qhv] at *; omega⟩
 refine List.Perm.eq_of_pairwise (le:=fun a b=>Qhv b a=false) (fun a b _ _ h1 h2=>by simp [Qhv] at *; omega) ?_ (Quz hO l) ((List.mergeSort_perm _ _).trans (Qux _ l).symm)
 have:=List.pairwise_mergeSort (le:=fun x y:Int=>decide (x≤y)) (fun a b c h1 h2=>by simp at *; omega) (fun a b=>by simp; omega) l
 exact this.imp fun h=>by simp [Qhv] at *; omega
end Go.Abs
end
section
namespace Go.Abs
open Go Go.Sort Go.RowKit
theorem Q84 (xs:List Int):rowV (eI .i64) xs=xs.map (Value.int .i64):=by
 unfold rowV
 induction xs with
 | nil=>rfl
 | cons x xs ih=>simp only [List.map_cons,List.flatten_cons,List.map_append,ih]; rfl
theorem Qbhs {P:Program} {c:Nat} (hb:Qh2 P c=true)
  (hs:∀ (blk off cap:Nat) (zs:List Int) (w:World),Holds (Value.int .i64) w blk off zs.toArray→blk < w.heap.size→zs.length < 4611686018427387904 →
   Calls P c #[.slice (some ⟨blk,off,none⟩) zs.length cap] w fun e w'=>e = .returned (.tuple #[])∧∃ n os,w' = grow (putRow (Value.int .i64) (Sort.ahead w n) blk off (zs.mergeSort fun x y=>decide (x≤y)).toArray) os)
  (hnone:∀ (p:Option Addr) (cap:Nat) (w:World),Calls P c (#[.slice p 0 cap] ++ #[]) w fun e' w'=>e' = .returned (.tuple #[])∧w' = w) :
  RowK P c (eI .i64) 1 [] (fun l=>if l.length≤lim then some (Qzi Qhv l) else none):=by
 have hrow:Qblq P c (eI .i64) #[] (fun xs=>Qzi Qhv xs):=by
  intro blk cap xs w hcell hblk hsz
  refine Calls.mono (hs blk 0 cap xs w ?_ hblk hsz) ?_
  ·intro j hj
   have hj' : j < xs.length:=by simpa using hj
   have:=hcell j (by rw [Q84]; simpa using hj')
   rw [Q84] at this
   rw [Nat.zero_add]
   refine ⟨?_,this.2⟩
   rw [this.1,getElem!_pos xs.toArray j hj]
   simp [hj']
  ·rintro e w' ⟨rfl,n,os,rfl⟩
   refine ⟨rfl,n,os,?_⟩
   rw [Qbdu,Q84]
   congr 1
   unfold putRow
   congr 1
   funext c
   unfold putCells
   congr 1
   funext k x
   simp only [List.size_toArray,List.length_map]
   split
   ·rename_i h
    simp only [id]
    rw [getElem!_pos _ _ (by simp; omega),getElem!_pos _ _ (by simp; omega)]
    simp
   ·rfl
 intro xs ys h
 dsimp only at h
 split at h <;> cases h
 rename_i hl
 refine ⟨Quy _ _,fun h0=>?_,fun hl2 cap k0 M nb hM=>?_⟩
 ·subst h0
  exact ⟨rfl,fun M nb=>Qbdt (ex:=#[]) (exV:=[]) hb (fun _ _ _ h=>h) hnone⟩
 ·exact Qbfr (e:=eI .i64) (fun _=>rfl) (fun _=>rfl) (fun xs=>Quy _ _) (ex:=#[]) (exV:=[]) (fun _ _ _ h=>h) hb hrow xs cap k0 M nb hM (by unfold lim at hl; omega)
end Go.Abs
end
section
namespace Go.Proofs
open Go.RowKit Go.Abs
theorem Tryz.rowK69:Go.Abs.RowK Tryz.prog 50 (eI .i64) 1 [] Qblv :=
 Qbhs (by kernel_rfl) Tryz.slices_Sort_int Tryz.slices_Sort_int_none
theorem Qbjy {i:Nat} (h:i < 100):(Lib.decDigits i).length≤2:=by
 by_cases h1:i < 10
 ·rw [Lib.decDigits_one h1]; simp
 ·rw [Lib.decDigits_two h1 h]; simp
theorem Qbht:∀ l:List Int,(∀ x∈l,0≤x∧x < 100)→(keyL l).length≤3 * l.length
 | [],_=>by simp [keyL]
 | x :: l,h=>by
  have hx:=h x (by simp)
  have h1:=Qbjy (i:=x.toNat) (by omega)
  have ih:=Qbht l fun y hy=>h y (by simp [hy])
  simp only [keyL,List.flatMap_cons,List.length_append,List.length_cons,List.length_nil] at *
  omega
set_option maxHeartbeats 4000000 in
set_option maxRecDepth 1000000 in
theorem Tryz.key_walk (l:List Int) (hl:l.length≤lim) (hx:∀ x∈l,0≤x∧x < 100) (a:Option Addr) (cap:Nat) (w:World)
  (hc:∀ (i:Nat) n,l[i]? = some n→∃ b o,a=some ⟨b,o,none⟩∧b < w.heap.size∧w.cell? ⟨b,o+i,none⟩=some (.int .i64 n)) :
  Calls Tryz.prog 45 #[.slice a l.length cap] w fun e w'=>e = .returned (.string (keyB l))∧Below w.heap.size w w':=by
 have hlim:l.length≤1099511627776:=hl
 go_enter Tryz.func45,Tryz.ntmps45
 go_wp2
 go_loopw [8] (fun vi wr=>∃ (k:Nat),vi = .int .i64 k∧k≤l.length∧Lib.IsBuilderF 107 5 w.heap.size w.heap.size (Lib.byteCells (keyL (l.take k))) wr∧Below w.heap.size w wr) (fun vi _=>l.length - (intOf vi).toNat)
 case atStart =>
  refine ⟨0,rfl,by omega,?_,((Below.refl _ w).alloc (Nat.le_refl _) _)⟩
  exact Lib.IsBuilderF.of (Lib.fresh_isBuilder 107 5 w)
 case round =>
  obtain ⟨k,rfl,hk,hI,hbw⟩:=hrel
  by_cases hlt:k < l.length
  ·obtain ⟨b,o,rfl,hb,hcell⟩:=hc k l[k] (List.getElem?_eq_getElem hlt)
   have hcr:wr.cell? ⟨b,o+k,none⟩=some (.int .i64 l[k]):=by
    rw [← hcell]; simp only [World.cell?]; rw [hbw.block b hb]
   have hxk:=hx l[k] (List.getElem_mem hlt)
   obtain ⟨n,hn⟩ : ∃ n:Nat,l[k]=(n:Int):=⟨l[k].toNat,by omega⟩
   have hn100:n < 100:=by omega
   rw [hn] at hcr
   have hdl:=Qbjy hn100
   have hsz:w.heap.size≤wr.heap.size:=hbw.size
   have hkl:=Qbht (l.take k) fun x hxm=>hx x (List.mem_of_mem_take hxm)
   rw [List.length_take] at hkl
   go_wp2_with (go_at_call 63; refine (Tryz.strconv_Itoa_small n hn100 _).mono ?_)
   rintro e W0 ⟨rfl,rfl⟩
   go_wp2_with (go_at_call 62; refine (Tryz.Builder_WriteString_k w.heap.size w.heap.size _ _ _ hI (by rw [Lib.byteCells_length]; simp only [ByteArray.size,List.size_toArray]; omega) hsz).mono ?_)
   rintro e W1 ⟨rfl,h1,b1,k1⟩
   have hsz1:w.heap.size≤W1.heap.size:=Nat.le_trans hsz b1.size
   have hlen2:(Lib.byteCells (keyL (l.take k)) ++ Lib.strCells ⟨(Lib.decDigits n).toArray⟩).length+1≤140737488355328:=by
    rw [show Lib.strCells ⟨(Lib.decDigits n).toArray⟩=Lib.byteCells (Lib.decDigits n) from rfl,List.length_append,Lib.byteCells_length,Lib.byteCells_length]; omega
   go_wp2_with (go_at_call 64; refine (Tryz.Builder_WriteByte_k w.heap.size w.heap.size _ 32 _ (Or.inr h1) hlen2 hsz1).mono ?_)
   rintro e W2 ⟨rfl,h2,b2,k2⟩
   go_wp2
   go_roundw
   case rel =>
    refine ⟨k+1,by simp,by omega,?_,(hbw.trans b1).trans b2⟩
    have e1:keyL (l.take (k+1))=keyL (l.take k) ++ Lib.decDigits n ++ [32]:=by
     rw [List.take_succ_eq_append_getElem hlt]; simp only [keyL,List.flatMap_append,List.flatMap_cons,List.flatMap_nil,List.append_nil,hn,Int.toNat_natCast,List.append_assoc]
    rw [e1,Lib.byteCells_append,Lib.byteCells_append]; exact Or.inr h2
   case measure =>
    simp [intOf]; omega
  ·have hk2:k=l.length:=by omega
   subst hk2
   go_wp2_with (go_at_call 65; refine (Tryz.Builder_String_any_k w.heap.size w.heap.size _ _ hI hbw.size).mono ?_)
   rintro e W1 ⟨rfl,_,b1,_⟩
   go_wp2
   go_ret
   refine ⟨?_,hbw.trans b1⟩
   first | rfl | (rw [List.take_length]; rfl) | (simp [keyB,List.take_length])
theorem Tryz.keyK:Go.Abs.K_product_key Tryz.prog 45 keyI:=by
 intro l r h
 unfold keyI at h
 split at h <;> cases h
 rename_i hc
 intro M nb
 refine Qbbn rfl (by kernel_rfl) (fun w g us himm hus=>?_) M nb
 obtain ⟨u,us',rfl,hu,hus'⟩:=hus
 simp only [RFs] at hus'
 subst hus'
 obtain ⟨a,cap,rfl,hcap,hl⟩:=Qbkq hu
 refine Tryz.key_walk l hc.1 hc.2 a cap w fun i n hi=>?_
 rcases hl with rfl | ⟨b,o,rfl,hl⟩
 ·simp at hi
 ·exact ⟨b,o,rfl,himm _ _ (hl i n hi).1,(hl i n hi).2⟩
end Go.Proofs
end
section
namespace Go.Proofs
open Go Go.Abs
set_option maxRecDepth 10000
set_option maxHeartbeats 4000000
theorem Qnr:Qgr Tryz.prog 32 Qex:=Qy1 Q4z Qb7
theorem Qjy:Qev Tryz.prog 48 Qdv:=Qr6 Qnr Qzh
theorem Qjm:Qej Tryz.prog 21 Qgl:=Qo6 Qjy Qw1 Qb7
theorem Qns:Qgs Tryz.prog 49 Qey:=Qy2 Q40
theorem Qky:Qff Tryz.prog 23 Qhq:=Qup Qns Tryz.rowK69 Q1v
theorem Qn7:Qe3 Tryz.prog 25 Qhw:=Ql4 Qpg
theorem Qgm:Qdt Tryz.prog 22 Qez:=Qr7 Qze Qb7
theorem Qlj:Qfs Tryz.prog 24 Qin:=Qwu Q3b
theorem Qsi:Qft Tryz.prog 11 Qjj:=Qn5 Qjm Qgm Qky Qlj Qn7 Quw
theorem Q1z:Qh5 Tryz.prog 51 Qno:=Qwv Q3f Qb7
theorem Qkn:Qfy Tryz.prog 53 Qes:=Q25 Q7i Qb7
theorem Qu0:Qf7 Tryz.prog 68 Qju:=Qo7 Qw7
theorem Qzk:Qhf Tryz.prog 52 Qlg:=Quq Qkn Qu0 Q1y
theorem Q3g:Qi6 Tryz.prog 26 Qof:=Qy3 Q1z Qzk Q4y Qb7
theorem Q3h:Qi8 Tryz.prog 54 Qjk:=Qy4 Q41
theorem Qsj:Qhy Tryz.prog 27 Qet:=Q26 Qkn Q3h Q7f
theorem Q7k:Qmo Tryz.prog 86 Qnp:=Q4u Q81
theorem Q85:Qow Tryz.prog 69 Qhx:=Q6f Q7k Q9p
theorem Q3i:Qja Tryz.prog 70 Qgu:=Qy5 Q45
theorem Qn8:Qe5 Tryz.prog 55 Qdp:=Ql5 Q85 Q3i Qpi Qb7
theorem Qhr:Qef Tryz.prog 29 Qdl:=Qww Qn8 Q3c
theorem Qu1:Qf9 Tryz.prog 28 Qjv:=Qo8 Qhr Qw2
theorem Qzl:Qhh Tryz.prog 12 Qlh:=Qur Qgm Qlj Q3g Qsj Qu1 Q1t
theorem Qbdv:Qoe Tryz.prog 56 Q46:=Qy6 Q42
theorem Q3j:Qje Tryz.prog 57 Qog:=Qy7 Q43
theorem Q6n:Qk7 Tryz.prog 33 Qvc:=Q27 Q3j Q7g
theorem Qu2:Qgb Tryz.prog 31 Qjw:=Qo9 Qnr Q6n Qw3
theorem Q47:Qj4 Tryz.prog 30 Qsf:=Q1m Q6k
theorem Qzm:Qhj Tryz.prog 13 Qli:=Qus Qjm Qgm Qky Q47 Qu2 Q1u Qb7
theorem Qzn:Qhl Tryz.prog 40 Qfh:=Qut Q1x Qb7
theorem Qu3:Qgd Tryz.prog 41 Qek:=Qpa Qjy Qw4 Qb7
theorem Qjn:Qfn Tryz.prog 19 Qdm:=Q1n Qzn Qu3 Q6j
theorem Qu4:Qgf Tryz.prog 58 Qjx:=Qpb Qjn Qw6
theorem Qkz:Qd1 Tryz.prog 71 Qfz:=Qjq Qle Qb7
theorem Q48:Qkg Tryz.prog 72 Qsg:=Q1o Q6l
theorem Q49:Qki Tryz.prog 73 Qsh:=Q1p Q6m
theorem Q7l:Qmz Tryz.prog 59 Qzj:=Q4v Qkz Q48 Q49 Q80
theorem Q10:Qh8 Tryz.prog 34 Qnq:=Qwx Qu4 Q7l Q3d Qb7
theorem Q3k:Qjg Tryz.prog 60 Qoh:=Qy8 Q44
theorem Q6o:Qk9 Tryz.prog 35 Qvd:=Q28 Qkn Q3k Q7h
theorem Qw8:Qgz Tryz.prog 14 Qkx:=Qr8 Q10 Q6o Qzb
theorem Qnt:Qgt Tryz.prog 15 Qe0:=Qy9 Q4x Qb7
theorem Qlk:Qfv Tryz.prog 16 Qeg:=Qwy Q3a Qb7
theorem Qw9:Qg1 Tryz.prog 4 Qha:=Qr9 Qsi Qzl Qzm Qw8 Qnt Qlk Qza
theorem Qnu:Qep Tryz.prog 6 Qca:=Qld Qn6 Qb7
theorem Qjz:Qew Tryz.prog 17 Qdw:=Qsa Qzc
theorem Qk0:Qfg Tryz.prog 38 Qb2:=Quu Q1w Qb7
theorem Qll:Qfw Tryz.prog 37 Qcn:=Qwz Q3e Qb7
theorem Qxa:Qg4 Tryz.prog 36 Qe1:=Qsb Qll Qk0 Qzf Qb7
theorem Qxb:Qg6 Tryz.prog 39 Qdx:=Qsc Qzg Qb7
theorem Qn9:Qe7 Tryz.prog 18 Qdq:=Ql6 Qjz Qxa Qll Qk0 Qxb Qpf Qb7
theorem Qzo:Qho Tryz.prog 5 Qde:=Quv Qjz Qn9 Q1s Qb7
theorem Qu5:Qgh Tryz.prog 7 Qcy:=Qpc Qjn Qw0
theorem Q7m:Qnb Tryz.prog 42 Qjl:=Q4w Qjn Q8z Qb7
theorem Q6p:Qlb Tryz.prog 61 Qd3:=Q29 Qsj Q7j Qb7
theorem Q86:Qo2 Tryz.prog 43 Qkt:=Q6g Q6p Q9o Qb7
theorem Qoa:Qe9 Tryz.prog 44 Qdr:=Ql7 Qph Qb7
theorem Qpj:Qfo Tryz.prog 46 Qdz:=Qnn Qhr Qse Qb7
theorem Qu6:Qgj Tryz.prog 47 Qel:=Qpd Qhr Qns Qw5 Qb7
theorem Qxc:Qg8 Tryz.prog 20 Qbt:=Qsd Q7m Q86 Qoa Tryz.keyK Qpj Qu6 Qzd Qb7
theorem Qoi:Qhb Tryz.prog 9 Qd9:=Q1q Qxc Q6h
theorem Qob:Qfb Tryz.prog 8 Qbu:=Ql8 Qoi Qpe
theorem Q5a:Qkl Tryz.prog 10 Qfq:=Q1r Qnt Qlk Q6i
theorem Q5b:Qfd Tryz.prog 3 Qdi:=Qim Qw9 Qzo Qnu Qu5 Qob Qoi Q5a Qjr Qb7
end Go.Proofs
end
section
namespace Go.Abs
open Go Go.ChangeShapes Go.WideShapes Go.ChangeAt Go.RowKit
def live (w:World):Nat→Nat→Prop:=fun b o=>(w.cell? ⟨b,o,none⟩).isSome=true
def RDs (w:World):List D→List Value→Prop
 | [],vs=>vs=[]
 | x :: xs,vs=>∃ u us,vs=u :: us∧RD (live w) w x u∧RDs w xs us
theorem Qbao {w:World}:∀ {xs ys:List D} {us vs:List Value},RDs w xs us→RDs w ys vs→RDs w (xs ++ ys) (us ++ vs)
 | [],ys,us,vs,h,k=>by simp only [RDs] at h; subst h; simpa using k
 | x :: xs,ys,us,vs,⟨u,us',e,r,h⟩,k=>by subst e; exact ⟨u,us' ++ vs,by simp,r,Qbao h k⟩
def RDat (w:World) (cs:List Value) (off:Nat) (xs:List D):Prop:=RDs w xs ((cs.drop off).take xs.length)
theorem RDat.app {w:World} {cs:List Value} {off:Nat} {xs ys:List D} (h:RDat w cs off xs) {n:Nat} (hn:n=off+xs.length) (k:RDat w cs n ys):RDat w cs off (xs ++ ys):=by
 subst hn
 have:=Qbao h k
 unfold RDat
 rw [List.length_append,List.take_add,List.drop_drop]
 exact this
theorem RDat.nil {w:World} {cs:List Value} {off:Nat}:RDat w cs off []:=by simp [RDat,RDs]
theorem RDat.all {w:World} {cs:List Value} {xs:List D} (h:RDat w cs 0 xs) (hl:cs.length=xs.length):RDs w xs cs:=by
 unfold RDat at h
 rw [List.drop_zero,← hl,List.take_length] at h
 exact h
def Q9q {α:Type} (P:Program) (t:TypeId) (e:α→List D) (wf:α→Prop):Prop :=
 ∀ {H:Type} {enc:TypeId×Value→H} {w:World} {base:Nat} {spare:Nat→Bool} {held:Bool} {fuel:Nat} {cs:List Value} {x:DataW H×List MemPlace},
  DataW.trod enc P w base spare held fuel t cs=some x→∃ a,wf a∧RDs w (e a) cs
def wfI (k:IntKind) (n:Int):Prop:=(Lit.int k n).wf=true
variable {P:Program} {t:TypeId}
theorem Qbcv {k:IntKind} (ht:P.underlying t=some (.int k)):Q9q P t (fun n:Int=>[.int k n]) (wfI k):=by
 intro H enc w base spare held fuel cs x h
 obtain ⟨n,rfl,_,hw⟩:=DataW.trod_int ht h
 exact ⟨n,hw,_,_,rfl,by simp [RD],rfl⟩
theorem Qd5 {α:Type} {el:TypeId} {e:α→List D} {wf:α→Prop} {sz:Nat} (he:Q9q P el e wf) (hsz:P.cellsOf el=sz) (hlen:∀ a,(e a).length=sz)
  {H:Type} {enc:TypeId×Value→H} {w:World} {base:Nat} {spare:Nat→Bool} {held:Bool} {fuel off:Nat} {cs:List Value} {x:DataW H×List MemPlace}
  (h:DataW.trod enc P w base spare held fuel el ((cs.drop off).take (P.cellsOf el))=some x):∃ a,wf a∧RDat w cs off (e a):=by
 obtain ⟨a,h1,h2⟩:=he h
 refine ⟨a,h1,?_⟩
 unfold RDat
 rw [hlen,← hsz]; exact h2
theorem Qbhu {H:Type} {enc:TypeId×Value→H} {w:World} {base:Nat} {spare:Nat→Bool} {held:Bool} {fuel:Nat} {cs:List Value} {x:DataW H×List MemPlace} {fs:Array Field}
  (ht:P.underlying t=some (.struct fs)) (h:DataW.trod enc P w base spare held fuel t cs=some x) :
  cs.length=P.cellsOf t∧∃ n,∀ (i:Nat) (f:Field),fs[i]? = some f→∃ y,DataW.trod enc P w base spare held n f.type ((cs.drop f.offset).take (P.cellsOf f.type))=some y:=by
 obtain ⟨xs,n,_,_,h1,h2,h3⟩:=DataW.trod_struct ht h
 refine ⟨h1,n,fun i f hf=>?_⟩
 have hi:i < fs.size:=(Array.getElem?_eq_some_iff.1 hf).1
 exact ⟨xs[i]'(by omega),by rw [h3 i f hf]; exact List.getElem?_eq_getElem (by omega)⟩
theorem Qbi3 {H:Type} {enc:TypeId×Value→H} {w:World} {base:Nat} {spare:Nat→Bool} {held:Bool} {fuel:Nat} {cs:List Value} {x:DataW H×List MemPlace} {n:Nat} {el:TypeId}
  (ht:P.underlying t=some (.array n el)) (h:DataW.trod enc P w base spare held fuel t cs=some x) :
  cs.length=P.cellsOf t∧∃ m,∀ i,i < n→∃ y,DataW.trod enc P w base spare held m el ((cs.drop (i * P.cellsOf el)).take (P.cellsOf el))=some y:=by
 obtain ⟨xs,m,_,_,h1,h2,h3⟩:=DataW.trod_array ht h
 exact ⟨h1,m,fun i hi=>⟨xs[i]'(by omega),by rw [h3 i hi]; exact List.getElem?_eq_getElem (by omega)⟩⟩
def Q5c {α:Type} (P:Program) (t:TypeId) (v:α→V) (wf:α→Prop):Prop :=
 ∀ {H:Type} {enc:TypeId×Value→H} {w:World} {base b0:Nat} {spare:Nat→Bool} {held:Bool} {u:Value} {d:DataW H} {ps:List MemPlace},
  Value.okWide P w .any b0 t u→DataW.Trod enc P w base spare held t u d ps→∃ a,wf a∧RF ⟨fun _=>0,live w,fun _=>.ext⟩ w (v a) u
theorem Qblw {imm:Nat→Nat→Prop} {w:World} {x:D} {u:Value} (h:RD imm w x u):u.oneCell' = true:=by
 cases x with
 | int k n=>simp only [RD] at h; subst h; rfl
 | bool b=>simp only [RD] at h; subst h; rfl
 | str s=>simp only [RD] at h; subst h; rfl
 | lst sz l=>simp only [RD] at h; obtain ⟨a,cap,rfl,_⟩:=h; cases a <;> rfl
 | mp es c=>simp only [RD] at h; obtain ⟨b,rfl,_⟩:=h; rfl
theorem Qbhv {w:World} {g:G} (hg:g.imm=live w):∀ {xs:List D} {us:List Value} {ℓ:Owner} {i:Nat},RDs w xs us→RVs g w (xs.map V.d) ℓ i us∧∀ u∈us,u.oneCell' = true
 | [],us,ℓ,i,h=>by simp only [RDs] at h; subst h; simp [RVs]
 | x :: xs,us,ℓ,i,⟨u,us',e,r,h⟩=>by
  subst e
  obtain ⟨h1,h2⟩:=Qbhv hg (ℓ:=ℓ) (i:=i+1) h
  refine ⟨⟨u,us',rfl,by simpa [RV,hg] using r,h1⟩,fun v hv=>?_⟩
  rcases List.mem_cons.1 hv with rfl | hv
  ·exact Qblw r
  ·exact h2 v hv
theorem Qbhw {α:Type} {e:α→List D} {wf:α→Prop} (he:Q9q P t e wf) (hagg:(∃ fs,P.underlying t=some (.struct fs))∨∃ n el,P.underlying t=some (.array n el)):Q5c P t (fun a=>.agg ((e a).map V.d)) wf:=by
 intro H enc w base b0 spare held u d ps hok hd
 obtain ⟨cs,rfl⟩ : ∃ cs,u = .agg cs:=by
  rcases hagg with ⟨fs,ht⟩ | ⟨n,el,ht⟩
  ·simp only [Value.okWide,ht] at hok; obtain ⟨cs,rfl,_⟩:=hok; exact ⟨cs,rfl⟩
  ·simp only [Value.okWide,ht] at hok; obtain ⟨cs,rfl,_⟩:=hok; exact ⟨cs,rfl⟩
 obtain ⟨fuel,hf⟩:=hd
 obtain ⟨a,h1,h2⟩:=he hf
 refine ⟨a,h1,fun ℓ=>?_⟩
 simp only [RV]
 obtain ⟨h3,h4⟩:=Qbhv (g:=⟨fun _=>0,live w,fun _=>.ext⟩) rfl (ℓ:=ℓ) (i:=0) h2
 exact ⟨cs.toList,by simp,h3,h4⟩
def Qblx (P:Program) (f:FuncId) (ts:List TypeId):Prop :=
 ∀ {H:Type} {enc:TypeId×Value→H} {w:World} {b0:Nat} {us:List Value} {ds:List (DataW H)} {ps:List MemPlace},
  (∀ (j:Nat) t u,ts[j]? = some t→us[j]? = some u→Value.okWide P w .any b0 t u)→DataW.TrodAll enc P w 0 (fun _=>true) true ts us ds ps →
  ∃ vs,RFs ⟨fun _=>0,live w,fun _=>.ext⟩ w vs us∧(∀ x∈vs,Flat x)∧V.lt.go 0 vs=true∧∀ M nb,ACalls P f vs M nb (.d (.bool true)) M nb
theorem Q5d (hl:laidOutB P=true) {W W' : World} {sp:Nat→Bool} {H:Type} {enc:TypeId×Value→H}:∀ {ts:List TypeId} {us:List Value} {ds:List (DataW H)} {ps:List MemPlace},
  (∀ t∈ts,P.readableRec t=true∧t < P.types.size)→DataW.TrodAll enc P W 0 (fun _=>true) true ts us ds ps→(∀ p∈ps,W.sameAt W' p)→(∀ p∈ps,sp p.block=true)→DataW.TrodAll enc P W' 0 sp true ts us ds ps
 | [],[],[],ps,_,h,_,_=>h
 | t :: ts,u :: us,d :: ds,ps,hr,⟨p,q,h1,h2,e⟩,hs,hp=>by
  subst e
  obtain ⟨r1,r2⟩:=hr t (by simp)
  exact ⟨p,q,WideElems.Trod_stays hl r1 r2 h1 (fun x hx=>hs x (by simp [hx])) (fun x hx=>hp x (by simp [hx])),Q5d hl (fun t ht=>hr t (by simp [ht])) h2 (fun x hx=>hs x (by simp [hx])) (fun x hx=>hp x (by simp [hx])),rfl⟩
 | [],[],_ :: _,_,_,h,_,_=>h.elim
 | [],_ :: _,_,_,_,h,_,_=>h.elim
 | _ :: _,[],_,_,_,h,_,_=>h.elim
 | _ :: _,_ :: _,[],_,_,h,_,_=>h.elim
theorem Q87 {W:World} {sp:Nat→Bool} {held:Bool} {base:Nat} {H:Type} {enc:TypeId×Value→H}:∀ {ts:List TypeId} {us:List Value} {ds:List (DataW H)} {ps:List MemPlace},
  DataW.TrodAll enc P W base sp held ts us ds ps→ds.length=ts.length∧us.length=ts.length
 | [],[],[],ps,h=>⟨rfl,rfl⟩
 | t :: ts,u :: us,d :: ds,ps,⟨p,q,h1,h2,e⟩=>by have:=Q87 h2; simp [this.1,this.2]
 | [],[],_ :: _,_,h=>h.elim
 | [],_ :: _,_,_,h=>h.elim
 | _ :: _,[],_,_,h=>h.elim
 | _ :: _,_ :: _,[],_,h=>h.elim
section
variable {α β γ δ:Type} {f:FuncId} {ta tb tc td:TypeId} {va:α→V} {vb:β→V} {vc:γ→V} {vd:δ→V} {wa:α→Prop} {wb:β→Prop} {wc:γ→Prop} {wd:δ→Prop}
theorem Q88 {H:Type} {enc:TypeId×Value→H} {w:World} {base:Nat} {sp:Nat→Bool} {held:Bool} {t:TypeId} {ts:List TypeId} {us:List Value} {ds:List (DataW H)} {ps:List MemPlace} (h:DataW.TrodAll enc P w base sp held (t :: ts) us ds ps) :
  ∃ u us' d ds' p q,us=u :: us' ∧ ds=d :: ds' ∧ DataW.Trod enc P w base sp held t u d p∧DataW.TrodAll enc P w base sp held ts us' ds' q:=by
 match us,ds,h with
 | u :: us',d :: ds',⟨p,q,h1,h2,_⟩=>exact ⟨u,us',d,ds',p,q,rfl,rfl,h1,h2⟩
 | [],[],h=>exact h.elim
 | [],_ :: _,h=>exact h.elim
 | _ :: _,[],h=>exact h.elim
theorem Qbdw {H:Type} {enc:TypeId×Value→H} {w:World} {base:Nat} {sp:Nat→Bool} {held:Bool} {us:List Value} {ds:List (DataW H)} {ps:List MemPlace} (h:DataW.TrodAll enc P w base sp held [] us ds ps):us=[]:=by
 match us,ds,h with
 | [],[],_=>rfl
 | [],_ :: _,h=>exact h.elim
 | _ :: _,[],h=>exact h.elim
 | _ :: _,_ :: _,h=>exact h.elim
theorem Qbmb (ra:Q5c P ta va wa) (fa:∀ a,(va a).dem=va a) (la:∀ a,(va a).lt 0=true) (rb:Q5c P tb vb wb) (fb:∀ a,(vb a).dem=vb a) (lb:∀ a,(vb a).lt 0=true)
  (law:∀ a b,wa a→wb b→∀ M nb,ACalls P f [va a,vb b] M nb (.d (.bool true)) M nb):Qblx P f [ta,tb]:=by
 intro H enc w b0 us ds ps hok hT
 obtain ⟨u,us',d,ds',p,q,rfl,rfl,h1,hT⟩:=Q88 hT
 obtain ⟨u2,us',d2,ds',p2,q2,rfl,rfl,h2,hT⟩:=Q88 hT
 obtain rfl:=Qbdw hT
 obtain ⟨a,ha,hra⟩:=ra (hok 0 _ _ rfl rfl) h1
 obtain ⟨b,hb,hrb⟩:=rb (hok 1 _ _ rfl rfl) h2
 refine ⟨[va a,vb b],⟨u,_,rfl,hra,u2,_,rfl,hrb,rfl⟩,?_,by simp [V.lt.go,la,lb],law a b ha hb⟩
 intro x hx
 simp only [List.mem_cons,List.not_mem_nil,or_false] at hx
 rcases hx with rfl | rfl
 ·exact fa a
 ·exact fb b
end
theorem Qbe2 {H:Type} {enc:TypeId×Value→H} {w:World} {base:Nat} {spare:Nat→Bool} {held:Bool} {fuel:Nat} {cs:List Value} {x:DataW H×List MemPlace} {n sz:Nat} {el:TypeId}
  (ht:P.underlying t=some (.array n el)) (hsz:P.cellsOf el=sz) (h:DataW.trod enc P w base spare held fuel t cs=some x) :
  cs.length=P.cellsOf t∧∃ m,∀ i,i < n→∃ y,DataW.trod enc P w base spare held m el ((cs.drop (i * sz)).take (P.cellsOf el))=some y:=by
 obtain ⟨h1,m,h2⟩:=Qbi3 ht h
 exact ⟨h1,m,fun i hi=>by have:=h2 i hi; rwa [show i * P.cellsOf el=i * sz from by rw [hsz]] at this⟩
end Go.Abs
end
section
namespace Go.Proofs
open Go Go.Abs
set_option maxRecDepth 100000
def W_22 (x:Int):Prop:=wfI .u8 x
theorem R_22:Q9q Tryz.prog 22 (eI .u8) W_22:=Qbcv Tryz.underlying22
def W_23 (x:Int×Int×Int):Prop:=W_22 x.1∧W_22 x.2.1∧W_22 x.2.2
theorem R_23:Q9q Tryz.prog 23 (fun p:Int×Int×Int=>[.int .u8 p.1,.int .u8 p.2.1,.int .u8 p.2.2]) W_23:=by
  intro H enc w base spare held fuel cs x h
  obtain ⟨hl,n,hf⟩:=Qbe2 (sz:=1) Tryz.underlying23 (by kernel_rfl) h
  obtain ⟨y0,h0⟩:=hf 0 (by decide)
  obtain ⟨a0,w0,r0⟩:=Qd5 (off:=0 * 1) (sz:=1) R_22 (by kernel_rfl) (fun _=>rfl) h0
  obtain ⟨y1,h1⟩:=hf 1 (by decide)
  obtain ⟨a1,w1,r1⟩:=Qd5 (off:=1 * 1) (sz:=1) R_22 (by kernel_rfl) (fun _=>rfl) h1
  obtain ⟨y2,h2⟩:=hf 2 (by decide)
  obtain ⟨a2,w2,r2⟩:=Qd5 (off:=2 * 1) (sz:=1) R_22 (by kernel_rfl) (fun _=>rfl) h2
  exact ⟨(a0,a1,a2),⟨w0,w1,w2⟩,RDat.all (xs:=(fun p:Int×Int×Int=>[.int .u8 p.1,.int .u8 p.2.1,.int .u8 p.2.2]) (a0,a1,a2)) (RDat.app r0 rfl (RDat.app r1 rfl r2)) (hl.trans (by kernel_rfl))⟩
theorem A_23:Q5c Tryz.prog 23 (fun (a:Int×Int×Int)=>.agg [.d (.int .u8 a.1),.d (.int .u8 a.2.1),.d (.int .u8 a.2.2)]) W_23:=Qbhw R_23 (.inr ⟨_,_,Tryz.underlying23⟩)
def W_5 (x:Int):Prop:=wfI .u8 x
theorem R_5:Q9q Tryz.prog 5 (eI .u8) W_5:=Qbcv Tryz.underlying5
def W_24 (x:Int×Int×Int×Int×Int):Prop:=W_5 x.1∧W_5 x.2.1∧W_5 x.2.2.1∧W_5 x.2.2.2.1∧W_5 x.2.2.2.2
theorem R_24:Q9q Tryz.prog 24 (fun p:Int×Int×Int×Int×Int=>[.int .u8 p.1,.int .u8 p.2.1,.int .u8 p.2.2.1,.int .u8 p.2.2.2.1,.int .u8 p.2.2.2.2]) W_24:=by
  intro H enc w base spare held fuel cs x h
  obtain ⟨hl,n,hf⟩:=Qbe2 (sz:=1) Tryz.underlying24 (by kernel_rfl) h
  obtain ⟨y0,h0⟩:=hf 0 (by decide)
  obtain ⟨a0,w0,r0⟩:=Qd5 (off:=0 * 1) (sz:=1) R_5 (by kernel_rfl) (fun _=>rfl) h0
  obtain ⟨y1,h1⟩:=hf 1 (by decide)
  obtain ⟨a1,w1,r1⟩:=Qd5 (off:=1 * 1) (sz:=1) R_5 (by kernel_rfl) (fun _=>rfl) h1
  obtain ⟨y2,h2⟩:=hf 2 (by decide)
  obtain ⟨a2,w2,r2⟩:=Qd5 (off:=2 * 1) (sz:=1) R_5 (by kernel_rfl) (fun _=>rfl) h2
  obtain ⟨y3,h3⟩:=hf 3 (by decide)
  obtain ⟨a3,w3,r3⟩:=Qd5 (off:=3 * 1) (sz:=1) R_5 (by kernel_rfl) (fun _=>rfl) h3
  obtain ⟨y4,h4⟩:=hf 4 (by decide)
  obtain ⟨a4,w4,r4⟩:=Qd5 (off:=4 * 1) (sz:=1) R_5 (by kernel_rfl) (fun _=>rfl) h4
  exact ⟨(a0,a1,a2,a3,a4),⟨w0,w1,w2,w3,w4⟩,RDat.all (xs:=(fun p:Int×Int×Int×Int×Int=>[.int .u8 p.1,.int .u8 p.2.1,.int .u8 p.2.2.1,.int .u8 p.2.2.2.1,.int .u8 p.2.2.2.2]) (a0,a1,a2,a3,a4)) (RDat.app r0 rfl (RDat.app r1 rfl (RDat.app r2 rfl (RDat.app r3 rfl r4)))) (hl.trans (by kernel_rfl))⟩
def W_25 (x:(Int×Int×Int×Int×Int)×(Int×Int×Int×Int×Int)×(Int×Int×Int×Int×Int)×(Int×Int×Int×Int×Int)×(Int×Int×Int×Int×Int)):Prop:=W_24 x.1∧W_24 x.2.1∧W_24 x.2.2.1∧W_24 x.2.2.2.1∧W_24 x.2.2.2.2
theorem R_25:Q9q Tryz.prog 25 (fun p:(Int×Int×Int×Int×Int)×(Int×Int×Int×Int×Int)×(Int×Int×Int×Int×Int)×(Int×Int×Int×Int×Int)×(Int×Int×Int×Int×Int)=>[.int .u8 p.1.1,.int .u8 p.1.2.1,.int .u8 p.1.2.2.1,.int .u8 p.1.2.2.2.1,.int .u8 p.1.2.2.2.2,.int .u8 p.2.1.1,.int .u8 p.2.1.2.1,.int .u8 p.2.1.2.2.1,.int .u8 p.2.1.2.2.2.1,.int .u8 p.2.1.2.2.2.2,.int .u8 p.2.2.1.1,.int .u8 p.2.2.1.2.1,.int .u8 p.2.2.1.2.2.1,.int .u8 p.2.2.1.2.2.2.1,.int .u8 p.2.2.1.2.2.2.2,.int .u8 p.2.2.2.1.1,.int .u8 p.2.2.2.1.2.1,.int .u8 p.2.2.2.1.2.2.1,.int .u8 p.2.2.2.1.2.2.2.1,.int .u8 p.2.2.2.1.2.2.2.2,.int .u8 p.2.2.2.2.1,.int .u8 p.2.2.2.2.2.1,.int .u8 p.2.2.2.2.2.2.1,.int .u8 p.2.2.2.2.2.2.2.1,.int .u8 p.2.2.2.2.2.2.2.2]) W_25:=by
  intro H enc w base spare held fuel cs x h
  obtain ⟨hl,n,hf⟩:=Qbe2 (sz:=5) Tryz.underlying25 (by kernel_rfl) h
  obtain ⟨y0,h0⟩:=hf 0 (by decide)
  obtain ⟨a0,w0,r0⟩:=Qd5 (off:=0 * 5) (sz:=5) R_24 (by kernel_rfl) (fun _=>rfl) h0
  obtain ⟨y1,h1⟩:=hf 1 (by decide)
  obtain ⟨a1,w1,r1⟩:=Qd5 (off:=1 * 5) (sz:=5) R_24 (by kernel_rfl) (fun _=>rfl) h1
  obtain ⟨y2,h2⟩:=hf 2 (by decide)
  obtain ⟨a2,w2,r2⟩:=Qd5 (off:=2 * 5) (sz:=5) R_24 (by kernel_rfl) (fun _=>rfl) h2
  obtain ⟨y3,h3⟩:=hf 3 (by decide)
  obtain ⟨a3,w3,r3⟩:=Qd5 (off:=3 * 5) (sz:=5) R_24 (by kernel_rfl) (fun _=>rfl) h3
  obtain ⟨y4,h4⟩:=hf 4 (by decide)
  obtain ⟨a4,w4,r4⟩:=Qd5 (off:=4 * 5) (sz:=5) R_24 (by kernel_rfl) (fun _=>rfl) h4
  exact ⟨(a0,a1,a2,a3,a4),⟨w0,w1,w2,w3,w4⟩,RDat.all (xs:=(fun p:(Int×Int×Int×Int×Int)×(Int×Int×Int×Int×Int)×(Int×Int×Int×Int×Int)×(Int×Int×Int×Int×Int)×(Int×Int×Int×Int×Int)=>[.int .u8 p.1.1,.int .u8 p.1.2.1,.int .u8 p.1.2.2.1,.int .u8 p.1.2.2.2.1,.int .u8 p.1.2.2.2.2,.int .u8 p.2.1.1,.int .u8 p.2.1.2.1,.int .u8 p.2.1.2.2.1,.int .u8 p.2.1.2.2.2.1,.int .u8 p.2.1.2.2.2.2,.int .u8 p.2.2.1.1,.int .u8 p.2.2.1.2.1,.int .u8 p.2.2.1.2.2.1,.int .u8 p.2.2.1.2.2.2.1,.int .u8 p.2.2.1.2.2.2.2,.int .u8 p.2.2.2.1.1,.int .u8 p.2.2.2.1.2.1,.int .u8 p.2.2.2.1.2.2.1,.int .u8 p.2.2.2.1.2.2.2.1,.int .u8 p.2.2.2.1.2.2.2.2,.int .u8 p.2.2.2.2.1,.int .u8 p.2.2.2.2.2.1,.int .u8 p.2.2.2.2.2.2.1,.int .u8 p.2.2.2.2.2.2.2.1,.int .u8 p.2.2.2.2.2.2.2.2]) (a0,a1,a2,a3,a4)) (RDat.app r0 rfl (RDat.app r1 rfl (RDat.app r2 rfl (RDat.app r3 rfl r4)))) (hl.trans (by kernel_rfl))⟩
def W_27 (x:Qf):Prop:=W_5 x.zD∧W_5 x.Marks∧W_25 x.To
theorem R_27:Q9q Tryz.prog 27 Qkw W_27:=by
  intro H enc w base spare held fuel cs x h
  obtain ⟨hl,n,hf⟩:=Qbhu Tryz.underlying27 h
  obtain ⟨y0,h0⟩:=hf 0 _ rfl
  obtain ⟨a0,w0,r0⟩:=Qd5 (off:=0) (sz:=1) R_5 (by kernel_rfl) (fun _=>rfl) h0
  obtain ⟨y1,h1⟩:=hf 1 _ rfl
  obtain ⟨a1,w1,r1⟩:=Qd5 (off:=1) (sz:=1) R_5 (by kernel_rfl) (fun _=>rfl) h1
  obtain ⟨y2,h2⟩:=hf 2 _ rfl
  obtain ⟨a2,w2,r2⟩:=Qd5 (off:=2) (sz:=25) R_25 (by kernel_rfl) (fun _=>rfl) h2
  exact ⟨⟨a0,a1,a2⟩,⟨w0,w1,w2⟩,RDat.all (xs:=Qkw ⟨a0,a1,a2⟩) (RDat.app r0 rfl (RDat.app r1 rfl r2)) (hl.trans (by kernel_rfl))⟩
def W_28 (x:Qf×Qf×Qf):Prop:=W_27 x.1∧W_27 x.2.1∧W_27 x.2.2
theorem R_28:Q9q Tryz.prog 28 (fun p:Qf×Qf×Qf=>[.int .u8 p.1.zD,.int .u8 p.1.Marks,.int .u8 p.1.To.1.1,.int .u8 p.1.To.1.2.1,.int .u8 p.1.To.1.2.2.1,.int .u8 p.1.To.1.2.2.2.1,.int .u8 p.1.To.1.2.2.2.2,.int .u8 p.1.To.2.1.1,.int .u8 p.1.To.2.1.2.1,.int .u8 p.1.To.2.1.2.2.1,.int .u8 p.1.To.2.1.2.2.2.1,.int .u8 p.1.To.2.1.2.2.2.2,.int .u8 p.1.To.2.2.1.1,.int .u8 p.1.To.2.2.1.2.1,.int .u8 p.1.To.2.2.1.2.2.1,.int .u8 p.1.To.2.2.1.2.2.2.1,.int .u8 p.1.To.2.2.1.2.2.2.2,.int .u8 p.1.To.2.2.2.1.1,.int .u8 p.1.To.2.2.2.1.2.1,.int .u8 p.1.To.2.2.2.1.2.2.1,.int .u8 p.1.To.2.2.2.1.2.2.2.1,.int .u8 p.1.To.2.2.2.1.2.2.2.2,.int .u8 p.1.To.2.2.2.2.1,.int .u8 p.1.To.2.2.2.2.2.1,.int .u8 p.1.To.2.2.2.2.2.2.1,.int .u8 p.1.To.2.2.2.2.2.2.2.1,.int .u8 p.1.To.2.2.2.2.2.2.2.2,.int .u8 p.2.1.zD,.int .u8 p.2.1.Marks,.int .u8 p.2.1.To.1.1,.int .u8 p.2.1.To.1.2.1,.int .u8 p.2.1.To.1.2.2.1,.int .u8 p.2.1.To.1.2.2.2.1,.int .u8 p.2.1.To.1.2.2.2.2,.int .u8 p.2.1.To.2.1.1,.int .u8 p.2.1.To.2.1.2.1,.int .u8 p.2.1.To.2.1.2.2.1,.int .u8 p.2.1.To.2.1.2.2.2.1,.int .u8 p.2.1.To.2.1.2.2.2.2,.int .u8 p.2.1.To.2.2.1.1,.int .u8 p.2.1.To.2.2.1.2.1,.int .u8 p.2.1.To.2.2.1.2.2.1,.int .u8 p.2.1.To.2.2.1.2.2.2.1,.int .u8 p.2.1.To.2.2.1.2.2.2.2,.int .u8 p.2.1.To.2.2.2.1.1,.int .u8 p.2.1.To.2.2.2.1.2.1,.int .u8 p.2.1.To.2.2.2.1.2.2.1,.int .u8 p.2.1.To.2.2.2.1.2.2.2.1,.int .u8 p.2.1.To.2.2.2.1.2.2.2.2,.int .u8 p.2.1.To.2.2.2.2.1,.int .u8 p.2.1.To.2.2.2.2.2.1,.int .u8 p.2.1.To.2.2.2.2.2.2.1,.int .u8 p.2.1.To.2.2.2.2.2.2.2.1,.int .u8 p.2.1.To.2.2.2.2.2.2.2.2,.int .u8 p.2.2.zD,.int .u8 p.2.2.Marks,.int .u8 p.2.2.To.1.1,.int .u8 p.2.2.To.1.2.1,.int .u8 p.2.2.To.1.2.2.1,.int .u8 p.2.2.To.1.2.2.2.1,.int .u8 p.2.2.To.1.2.2.2.2,.int .u8 p.2.2.To.2.1.1,.int .u8 p.2.2.To.2.1.2.1,.int .u8 p.2.2.To.2.1.2.2.1,.int .u8 p.2.2.To.2.1.2.2.2.1,.int .u8 p.2.2.To.2.1.2.2.2.2,.int .u8 p.2.2.To.2.2.1.1,.int .u8 p.2.2.To.2.2.1.2.1,.int .u8 p.2.2.To.2.2.1.2.2.1,.int .u8 p.2.2.To.2.2.1.2.2.2.1,.int .u8 p.2.2.To.2.2.1.2.2.2.2,.int .u8 p.2.2.To.2.2.2.1.1,.int .u8 p.2.2.To.2.2.2.1.2.1,.int .u8 p.2.2.To.2.2.2.1.2.2.1,.int .u8 p.2.2.To.2.2.2.1.2.2.2.1,.int .u8 p.2.2.To.2.2.2.1.2.2.2.2,.int .u8 p.2.2.To.2.2.2.2.1,.int .u8 p.2.2.To.2.2.2.2.2.1,.int .u8 p.2.2.To.2.2.2.2.2.2.1,.int .u8 p.2.2.To.2.2.2.2.2.2.2.1,.int .u8 p.2.2.To.2.2.2.2.2.2.2.2]) W_28:=by
  intro H enc w base spare held fuel cs x h
  obtain ⟨hl,n,hf⟩:=Qbe2 (sz:=27) Tryz.underlying28 (by kernel_rfl) h
  obtain ⟨y0,h0⟩:=hf 0 (by decide)
  obtain ⟨a0,w0,r0⟩:=Qd5 (off:=0 * 27) (sz:=27) R_27 (by kernel_rfl) (fun _=>rfl) h0
  obtain ⟨y1,h1⟩:=hf 1 (by decide)
  obtain ⟨a1,w1,r1⟩:=Qd5 (off:=1 * 27) (sz:=27) R_27 (by kernel_rfl) (fun _=>rfl) h1
  obtain ⟨y2,h2⟩:=hf 2 (by decide)
  obtain ⟨a2,w2,r2⟩:=Qd5 (off:=2 * 27) (sz:=27) R_27 (by kernel_rfl) (fun _=>rfl) h2
  exact ⟨(a0,a1,a2),⟨w0,w1,w2⟩,RDat.all (xs:=(fun p:Qf×Qf×Qf=>[.int .u8 p.1.zD,.int .u8 p.1.Marks,.int .u8 p.1.To.1.1,.int .u8 p.1.To.1.2.1,.int .u8 p.1.To.1.2.2.1,.int .u8 p.1.To.1.2.2.2.1,.int .u8 p.1.To.1.2.2.2.2,.int .u8 p.1.To.2.1.1,.int .u8 p.1.To.2.1.2.1,.int .u8 p.1.To.2.1.2.2.1,.int .u8 p.1.To.2.1.2.2.2.1,.int .u8 p.1.To.2.1.2.2.2.2,.int .u8 p.1.To.2.2.1.1,.int .u8 p.1.To.2.2.1.2.1,.int .u8 p.1.To.2.2.1.2.2.1,.int .u8 p.1.To.2.2.1.2.2.2.1,.int .u8 p.1.To.2.2.1.2.2.2.2,.int .u8 p.1.To.2.2.2.1.1,.int .u8 p.1.To.2.2.2.1.2.1,.int .u8 p.1.To.2.2.2.1.2.2.1,.int .u8 p.1.To.2.2.2.1.2.2.2.1,.int .u8 p.1.To.2.2.2.1.2.2.2.2,.int .u8 p.1.To.2.2.2.2.1,.int .u8 p.1.To.2.2.2.2.2.1,.int .u8 p.1.To.2.2.2.2.2.2.1,.int .u8 p.1.To.2.2.2.2.2.2.2.1,.int .u8 p.1.To.2.2.2.2.2.2.2.2,.int .u8 p.2.1.zD,.int .u8 p.2.1.Marks,.int .u8 p.2.1.To.1.1,.int .u8 p.2.1.To.1.2.1,.int .u8 p.2.1.To.1.2.2.1,.int .u8 p.2.1.To.1.2.2.2.1,.int .u8 p.2.1.To.1.2.2.2.2,.int .u8 p.2.1.To.2.1.1,.int .u8 p.2.1.To.2.1.2.1,.int .u8 p.2.1.To.2.1.2.2.1,.int .u8 p.2.1.To.2.1.2.2.2.1,.int .u8 p.2.1.To.2.1.2.2.2.2,.int .u8 p.2.1.To.2.2.1.1,.int .u8 p.2.1.To.2.2.1.2.1,.int .u8 p.2.1.To.2.2.1.2.2.1,.int .u8 p.2.1.To.2.2.1.2.2.2.1,.int .u8 p.2.1.To.2.2.1.2.2.2.2,.int .u8 p.2.1.To.2.2.2.1.1,.int .u8 p.2.1.To.2.2.2.1.2.1,.int .u8 p.2.1.To.2.2.2.1.2.2.1,.int .u8 p.2.1.To.2.2.2.1.2.2.2.1,.int .u8 p.2.1.To.2.2.2.1.2.2.2.2,.int .u8 p.2.1.To.2.2.2.2.1,.int .u8 p.2.1.To.2.2.2.2.2.1,.int .u8 p.2.1.To.2.2.2.2.2.2.1,.int .u8 p.2.1.To.2.2.2.2.2.2.2.1,.int .u8 p.2.1.To.2.2.2.2.2.2.2.2,.int .u8 p.2.2.zD,.int .u8 p.2.2.Marks,.int .u8 p.2.2.To.1.1,.int .u8 p.2.2.To.1.2.1,.int .u8 p.2.2.To.1.2.2.1,.int .u8 p.2.2.To.1.2.2.2.1,.int .u8 p.2.2.To.1.2.2.2.2,.int .u8 p.2.2.To.2.1.1,.int .u8 p.2.2.To.2.1.2.1,.int .u8 p.2.2.To.2.1.2.2.1,.int .u8 p.2.2.To.2.1.2.2.2.1,.int .u8 p.2.2.To.2.1.2.2.2.2,.int .u8 p.2.2.To.2.2.1.1,.int .u8 p.2.2.To.2.2.1.2.1,.int .u8 p.2.2.To.2.2.1.2.2.1,.int .u8 p.2.2.To.2.2.1.2.2.2.1,.int .u8 p.2.2.To.2.2.1.2.2.2.2,.int .u8 p.2.2.To.2.2.2.1.1,.int .u8 p.2.2.To.2.2.2.1.2.1,.int .u8 p.2.2.To.2.2.2.1.2.2.1,.int .u8 p.2.2.To.2.2.2.1.2.2.2.1,.int .u8 p.2.2.To.2.2.2.1.2.2.2.2,.int .u8 p.2.2.To.2.2.2.2.1,.int .u8 p.2.2.To.2.2.2.2.2.1,.int .u8 p.2.2.To.2.2.2.2.2.2.1,.int .u8 p.2.2.To.2.2.2.2.2.2.2.1,.int .u8 p.2.2.To.2.2.2.2.2.2.2.2]) (a0,a1,a2)) (RDat.app r0 rfl (RDat.app r1 rfl r2)) (hl.trans (by kernel_rfl))⟩
theorem A_28:Q5c Tryz.prog 28 (fun (a:Qf×Qf×Qf)=>.agg [.d (.int .u8 a.1.zD),.d (.int .u8 a.1.Marks),.d (.int .u8 a.1.To.1.1),.d (.int .u8 a.1.To.1.2.1),.d (.int .u8 a.1.To.1.2.2.1),.d (.int .u8 a.1.To.1.2.2.2.1),.d (.int .u8 a.1.To.1.2.2.2.2),.d (.int .u8 a.1.To.2.1.1),.d (.int .u8 a.1.To.2.1.2.1),.d (.int .u8 a.1.To.2.1.2.2.1),.d (.int .u8 a.1.To.2.1.2.2.2.1),.d (.int .u8 a.1.To.2.1.2.2.2.2),.d (.int .u8 a.1.To.2.2.1.1),.d (.int .u8 a.1.To.2.2.1.2.1),.d (.int .u8 a.1.To.2.2.1.2.2.1),.d (.int .u8 a.1.To.2.2.1.2.2.2.1),.d (.int .u8 a.1.To.2.2.1.2.2.2.2),.d (.int .u8 a.1.To.2.2.2.1.1),.d (.int .u8 a.1.To.2.2.2.1.2.1),.d (.int .u8 a.1.To.2.2.2.1.2.2.1),.d (.int .u8 a.1.To.2.2.2.1.2.2.2.1),.d (.int .u8 a.1.To.2.2.2.1.2.2.2.2),.d (.int .u8 a.1.To.2.2.2.2.1),.d (.int .u8 a.1.To.2.2.2.2.2.1),.d (.int .u8 a.1.To.2.2.2.2.2.2.1),.d (.int .u8 a.1.To.2.2.2.2.2.2.2.1),.d (.int .u8 a.1.To.2.2.2.2.2.2.2.2),.d (.int .u8 a.2.1.zD),.d (.int .u8 a.2.1.Marks),.d (.int .u8 a.2.1.To.1.1),.d (.int .u8 a.2.1.To.1.2.1),.d (.int .u8 a.2.1.To.1.2.2.1),.d (.int .u8 a.2.1.To.1.2.2.2.1),.d (.int .u8 a.2.1.To.1.2.2.2.2),.d (.int .u8 a.2.1.To.2.1.1),.d (.int .u8 a.2.1.To.2.1.2.1),.d (.int .u8 a.2.1.To.2.1.2.2.1),.d (.int .u8 a.2.1.To.2.1.2.2.2.1),.d (.int .u8 a.2.1.To.2.1.2.2.2.2),.d (.int .u8 a.2.1.To.2.2.1.1),.d (.int .u8 a.2.1.To.2.2.1.2.1),.d (.int .u8 a.2.1.To.2.2.1.2.2.1),.d (.int .u8 a.2.1.To.2.2.1.2.2.2.1),.d (.int .u8 a.2.1.To.2.2.1.2.2.2.2),.d (.int .u8 a.2.1.To.2.2.2.1.1),.d (.int .u8 a.2.1.To.2.2.2.1.2.1),.d (.int .u8 a.2.1.To.2.2.2.1.2.2.1),.d (.int .u8 a.2.1.To.2.2.2.1.2.2.2.1),.d (.int .u8 a.2.1.To.2.2.2.1.2.2.2.2),.d (.int .u8 a.2.1.To.2.2.2.2.1),.d (.int .u8 a.2.1.To.2.2.2.2.2.1),.d (.int .u8 a.2.1.To.2.2.2.2.2.2.1),.d (.int .u8 a.2.1.To.2.2.2.2.2.2.2.1),.d (.int .u8 a.2.1.To.2.2.2.2.2.2.2.2),.d (.int .u8 a.2.2.zD),.d (.int .u8 a.2.2.Marks),.d (.int .u8 a.2.2.To.1.1),.d (.int .u8 a.2.2.To.1.2.1),.d (.int .u8 a.2.2.To.1.2.2.1),.d (.int .u8 a.2.2.To.1.2.2.2.1),.d (.int .u8 a.2.2.To.1.2.2.2.2),.d (.int .u8 a.2.2.To.2.1.1),.d (.int .u8 a.2.2.To.2.1.2.1),.d (.int .u8 a.2.2.To.2.1.2.2.1),.d (.int .u8 a.2.2.To.2.1.2.2.2.1),.d (.int .u8 a.2.2.To.2.1.2.2.2.2),.d (.int .u8 a.2.2.To.2.2.1.1),.d (.int .u8 a.2.2.To.2.2.1.2.1),.d (.int .u8 a.2.2.To.2.2.1.2.2.1),.d (.int .u8 a.2.2.To.2.2.1.2.2.2.1),.d (.int .u8 a.2.2.To.2.2.1.2.2.2.2),.d (.int .u8 a.2.2.To.2.2.2.1.1),.d (.int .u8 a.2.2.To.2.2.2.1.2.1),.d (.int .u8 a.2.2.To.2.2.2.1.2.2.1),.d (.int .u8 a.2.2.To.2.2.2.1.2.2.2.1),.d (.int .u8 a.2.2.To.2.2.2.1.2.2.2.2),.d (.int .u8 a.2.2.To.2.2.2.2.1),.d (.int .u8 a.2.2.To.2.2.2.2.2.1),.d (.int .u8 a.2.2.To.2.2.2.2.2.2.1),.d (.int .u8 a.2.2.To.2.2.2.2.2.2.2.1),.d (.int .u8 a.2.2.To.2.2.2.2.2.2.2.2)]) W_28:=Qbhw R_28 (.inr ⟨_,_,Tryz.underlying28⟩)
end Go.Proofs
end
section
namespace Go.Abs
open Go
theorem Qhc {X R:Type} {F:(X→Option R)→X→Option R} (I:X→Prop) (m:X→Nat) (Q:X→Option R→Prop)
  (step:∀ (k:X→Option R) (x:X),I x→(∀ y,I y→m y < m x→Q y (k y))→Q x (F k x)):∀ (fuel:Nat) (x:X),I x→m x < fuel→Q x (Qda F fuel x)
 | 0,x,_,h=>absurd h (Nat.not_lt_zero _)
 | fuel+1,x,hi,h=>step _ x hi fun y hy hm=>Qhc I m Q step fuel y hy (by omega)
theorem Q7w {X R:Type} {F:(X→Option R)→X→Option R} {fuel:Nat} {x:X} (I:X→Prop) (m:X→Nat) (q:Option R) (hi:I x) (hm:m x < fuel)
  (step:∀ (k:X→Option R) (x:X),I x→(∀ y,I y→m y < m x→k y=q)→F k x=q):Qda F fuel x=q :=
 Qhc I m (fun _ r=>r=q) step fuel x hi hm
theorem Qzp {x:Int} (h1 : -9223372036854775808≤x) (h2:x≤9223372036854775807):IntKind.wrap .i64 x=x:=by
 simp [IntKind.wrap,IntKind.bits,IntKind.signed]; omega
theorem Qcf {n:Nat} (h:n < 9223372036854775807):IntKind.wrap .i64 ((n:Int)+1)=((n+1:Nat):Int):=by
 rw [Qzp (by omega) (by omega)]; omega
theorem Qb6 {α:Type} {l:List α} {n:Nat} (h:n < l.length):getO l (n:Int)=some l[n]:=by
 simp [getO,h]
theorem Q89 {α:Type} {l:List α} {i:Int} {x:α}:getO l i=some x↔0≤i∧l[i.toNat]? = some x:=by
 unfold getO; split
 ·rename_i h; simp [h]
 ·rename_i h; simp only [reduceCtorEq,false_iff,not_and]; exact fun h'=>absurd h' h
theorem Qeh {α:Type} {l m:List α} (h:l.length+m.length≤lim):appO l m=some (l ++ m):=by
 unfold appO; rw [if_pos h]
theorem Qbcw {α:Type} {s t:List α} {k:Nat} (hs:k < s.length) (ht:k < t.length) (h:s.take k=t.take k) (he:s[k]=t[k]):s.take (k+1)=t.take (k+1):=by
 rw [List.take_add_one,List.take_add_one,h,List.getElem?_eq_getElem hs,List.getElem?_eq_getElem ht,he]
theorem Qk1 {R:Type} {F:(Int→Option R)→Int→Option R} {len fuel:Nat} (G:Nat→Option R) (hf:len < fuel)
  (step:∀ (k:Int→Option R) (n:Nat),n < len→k ((n+1:Nat):Int)=G (n+1)→F k (n:Int)=G n) (last:∀ k:Int→Option R,F k (len:Int)=G len):Qda F fuel 0=G 0:=by
 have:=Qhc (F:=F) (fun x=>∃ n:Nat,x=(n:Int)∧n≤len) (fun x=>len - x.toNat) (fun x r=>∀ n:Nat,x=(n:Int)→r=G n) (fun k x hx ih=>by
  obtain ⟨n,rfl,hn⟩:=hx
  intro m hm
  obtain rfl:n=m:=by omega
  by_cases h:n < len
  ·exact step k n h (ih _ ⟨n+1,rfl,by omega⟩ (by omega) (n+1) rfl)
  ·obtain rfl:n=len:=by omega
   exact last k) fuel 0 ⟨0,rfl,by omega⟩ (by simpa using hf)
 exact this 0 rfl
theorem Qbcx {n:Nat} (h0:0 < n) (h:n < 9223372036854775807):IntKind.wrap .i64 ((n:Int) - 1)=((n - 1:Nat):Int):=by
 rw [Qzp (by omega) (by omega)]; omega
theorem Qbi4 {X S R:Type} {F:(X→Option R)→X→Option R} {len:Nat} (mk:Nat→S→X) (G:Nat→S→Option R)
  (step:∀ (k:X→Option R) (n:Nat) (s:S),n < len→(∀ s',k (mk (n+1) s')=G (n+1) s')→F k (mk n s)=G n s) (last:∀ (k:X→Option R) (s:S),F k (mk len s)=G len s) :
  ∀ (fuel n:Nat) (s:S),n≤len→len - n < fuel→Qda F fuel (mk n s)=G n s
 | 0,n,s,_,h=>by omega
 | fuel+1,n,s,hn,h=>by
  show F (Qda F fuel) (mk n s)=_
  by_cases hlt:n < len
  ·exact step _ n s hlt fun s'=>Qbi4 mk G step last fuel (n+1) s' (by omega) (by omega)
  ·obtain rfl:n=len:=by omega
   exact last _ s
theorem Qbly {i j:Nat} (hi:i < 1000000000000) (hj:j < 1000000000000):IntKind.wrap .i64 (Int.fdiv (IntKind.wrap .u64 (IntKind.wrap .i64 ((i:Int)+j))) (2 ^ (min (Int.toNat 1) (IntKind.bits .u64))))=(((i+j) / 2:Nat):Int):=by
 have h1:IntKind.wrap .i64 ((i:Int)+j)=((i+j:Nat):Int):=by rw [Qzp (by omega) (by omega)]; omega
 have h2:IntKind.wrap .u64 ((i+j:Nat):Int)=((i+j:Nat):Int):=by
  simp [IntKind.wrap,IntKind.bits,IntKind.signed]; omega
 have h3:(2:Int) ^ (min (Int.toNat 1) (IntKind.bits .u64))=2:=by decide
 rw [h1,h2,h3,Int.fdiv_eq_ediv_of_nonneg _ (by omega),show ((i+j:Nat):Int) / 2=(((i+j) / 2:Nat):Int) from by omega,Qzp (by omega) (by omega)]
theorem Qbi5 {α:Type} {l:List α} {i j:Nat} (h:i≤j) (hj:j≤l.length):slcO l (i:Int) (j:Int)=some ((l.take j).drop i):=by
 simp [slcO,h,hj]
theorem Qbft:∀ {l m:List Int},l.Pairwise (· < ·)→m.Pairwise (· < ·)→(∀ x,x∈l↔x∈m)→l=m
 | l,m,h1,h2,h=>by
  have n1:l.Nodup:=h1.imp fun h=>by omega
  have n2:m.Nodup:=h2.imp fun h=>by omega
  have hp:l.Perm m:=(List.perm_ext_iff_of_nodup n1 n2).2 h
  exact List.Perm.eq_of_pairwise (le:=(· < ·)) (fun a b _ _ h1 h2=>by omega) h1 h2 hp
section
variable {α:Type} {p:α→Bool}
theorem Qbap:∀ {l:List α},l.Pairwise (fun a b=>p b=true→p a=true)→∀ (n:Nat) (h:n < l.length),p l[n]=true↔n < (l.filter p).length
 | [],_,n,h=>by simp at h
 | x :: xs,hs,n,h=>by
  obtain ⟨h1,h2⟩:=List.pairwise_cons.1 hs
  cases n with
  | zero =>
   cases hx:p x with
   | true=>simp [hx]
   | false =>
    have:xs.filter p=[]:=List.filter_eq_nil_iff.2 fun y hy hp=>by have:=h1 y hy hp; rw [hx] at this; cases this
    simp [hx,this]
  | succ n =>
   have ih:=Qbap h2 n (by simpa using h)
   cases hx:p x with
   | true=>simp [hx,ih]
   | false =>
    have:xs.filter p=[]:=List.filter_eq_nil_iff.2 fun y hy hp=>by have:=h1 y hy hp; rw [hx] at this; cases this
    rw [this] at ih
    simp [hx,this] at ih ⊢
    exact ih
end
theorem Qsk {X S R:Type} {F:(X→Option R)→X→Option R} {len:Nat} (mk:Nat→S→X) (I:Nat→S→Prop) (G:Nat→S→Option R)
  (step:∀ (k:X→Option R) (n:Nat) (s:S),n < len→I n s→(∀ s',I (n+1) s' → k (mk (n+1) s')=G (n+1) s')→F k (mk n s)=G n s) (last:∀ (k:X→Option R) (s:S),I len s→F k (mk len s)=G len s) :
  ∀ (fuel n:Nat) (s:S),n≤len→len - n < fuel→I n s→Qda F fuel (mk n s)=G n s
 | 0,n,s,_,h,_=>by omega
 | fuel+1,n,s,hn,h,hi=>by
  show F (Qda F fuel) (mk n s)=_
  by_cases hlt:n < len
  ·exact step _ n s hlt hi fun s' hi'=>Qsk mk I G step last fuel (n+1) s' (by omega) (by omega) hi'
  ·obtain rfl:n=len:=by omega
   exact last _ s hi
theorem Qko:∀ {l:List Int} {a b:Int},l.Pairwise (· < ·)→(∀ x∈l,a≤x∧x < b)→l.length≤(b - a).toNat
 | [],_,_,_,_=>by simp
 | x :: xs,a,b,h,hr=>by
  obtain ⟨h1,h2⟩:=List.pairwise_cons.1 h
  have:=Qko (a:=x+1) (b:=b) h2 fun y hy=>⟨by have:=h1 y hy; omega,(hr y (by simp [hy])).2⟩
  have:=hr x (by simp)
  simp only [List.length_cons]
  omega
end Go.Abs
end
section
namespace Go.Abs
abbrev big : Nat := 1000000000000
def small (a : Qa) : Prop := a.zA.length < big ∧ a.zB.length < big ∧ a.zC.length < big
end Go.Abs
end
section
namespace Go.Abs
open Go
def Qgn (n:Int):Option Int→List Int→Int
 | _,[]=>0
 | p,x :: xs=>if x < 0∨x≥n then 2 else if ∃ y,p=some y∧x≤y then 5 else Qgn n (some x) xs
def Qhz (al:List Int) (st:Int):Option Qd→List Qd→Int
 | _,[]=>0
 | p,x :: xs=>if x.From < 0∨x.From≥st∨x.To < 0∨x.To≥st then 2 else if x.Event∉al then 9 else if ∃ y,p=some y∧(x.From < y.From∨x.From=y.From∧x.Event≤y.Event) then 5 else Qhz al st (some x) xs
def Q7x (a:Qa):Int :=
 if Qgn 32 none a.zA≠0 then Qgn 32 none a.zA else if a.zD < 0 then 2 else if a.zD > 4096 then 3 else
 if Qgn a.zD none a.zB≠0 then Qgn a.zD none a.zB else Qhz a.zA a.zD none a.zC
def ahead {α:Type} (l:List α) (n:Nat):Option α:=if n=0 then none else l[n - 1]?
theorem Qz5 {α:Type} (l:List α):ahead l 0=none:=rfl
theorem Qbaq {α:Type} (l:List α) {n:Nat} (h:n < l.length):ahead l (n+1)=some l[n]:=by simp [ahead,h]
theorem Qbcy {α:Type} (l:List α) {n:Nat} (h0:0 < n) (h:n≤l.length):ahead l n=some (l[n - 1]'(by omega)):=by
 simp [ahead,show n≠0 from by omega,show n - 1 < l.length from by omega]
theorem Qbcz {n:Int} {l:List Int} {k:Nat} (h:k < l.length):Qgn n (ahead l k) (l.drop k)=if l[k] < 0∨l[k]≥n then 2 else if ∃ y,ahead l k=some y∧l[k]≤y then 5 else Qgn n (ahead l (k+1)) (l.drop (k+1)):=by
 rw [List.drop_eq_getElem_cons h,Qgn,Qbaq l h]
theorem Qbbo {al:List Int} {n:Int} {l:List Qd} {k:Nat} (h:k < l.length):Qhz al n (ahead l k) (l.drop k)=if l[k].From < 0∨l[k].From≥n∨l[k].To < 0∨l[k].To≥n then 2 else if l[k].Event∉al then 9 else if ∃ y,ahead l k=some y∧(l[k].From < y.From∨l[k].From=y.From∧l[k].Event≤y.Event) then 5 else Qhz al n (ahead l (k+1)) (l.drop (k+1)):=by
 rw [List.drop_eq_getElem_cons h,Qhz,Qbaq l h]
theorem Q9a {l:List Int} {n:Int} (hl:l.length < big):Qfh l n=some (Qgn n none l):=by
 unfold Qfh Qbp
 refine (Qk1 (len:=l.length) (fun k=>some (Qgn n (ahead l k) (l.drop k))) (by unfold Qb7; unfold big at hl; omega) ?_ ?_).trans (by simp [Qz5])
 ·intro k i hi ih
  have hb:i < 1000000000000:=by unfold big at hl; omega
  rw [Qbcz hi]
  try dsimp only
  rw [if_pos (by omega),Qb6 hi,Qcf (by omega),ih]
  simp only [Option.bind_some]
  by_cases h1:l[i] < 0
  ·simp [h1]
  ·by_cases h2:l[i]≥n
   ·simp [h1,h2]
   ·by_cases h0:0 < i
    ·rw [Qbcx h0 (by omega),Qb6 (by omega:i - 1 < l.length),Qbcy l h0 (by omega)]
     by_cases h3:l[i]≤l[i - 1] <;> simp [h1,h2,h3,h0]
    ·obtain rfl:i=0:=by omega
     simp [h1,h2,Qz5]
 ·intro k; simp [Qgn]
theorem Qbi6 {l:List Int} {v:Int} (hl:l.length < big):Qex l v=some (if v∈l then (l.idxOf v:Int) else -1):=by
 unfold Qex Q7
 refine (Qk1 (len:=l.length) (fun k=>some (if v∈l.drop k then ((k+(l.drop k).idxOf v:Nat):Int) else -1)) (by unfold Qb7; unfold big at hl; omega) ?_ ?_).trans (by simp)
 ·intro k i hi ih
  have hb:i < 1000000000000:=by unfold big at hl; omega
  try dsimp only
  rw [if_pos (by omega),Qb6 hi,Qcf (by omega),ih,List.drop_eq_getElem_cons hi]
  simp only [Option.bind_some,List.mem_cons,List.idxOf_cons]
  by_cases h:v=l[i]
  ·simp [← h]
  ·have:¬ l[i]=v:=fun e=>h e.symm
   have hbq:(l[i] == v)=false:=by simp [this]
   by_cases h2:v∈l.drop (i+1) <;> simp [h,h2,hbq]
   omega
 ·intro k; simp
theorem Qbdx {l:List Int} {v:Int} (hl:l.length < big):Qdv l v=some (decide (v∈l)):=by
 unfold Qdv Qu
 rw [Qbi6 hl]
 simp only [Option.bind_some,Option.some.injEq]
 by_cases h:v∈l <;> simp [h]
theorem Qbjz {l:List Int} {v:Int} (hl:l.length < big):Qcn l v=some (decide (v∈l)):=by
 unfold Qcn Q5
 refine (Qk1 (len:=l.length) (fun k=>some (decide (v∈l.drop k))) (by unfold Qb7; unfold big at hl; omega) ?_ ?_).trans (by simp)
 ·intro k i hi ih
  have hb:i < 1000000000000:=by unfold big at hl; omega
  try dsimp only
  rw [if_pos (by omega),Qb6 hi,Qcf (by omega),ih,List.drop_eq_getElem_cons hi]
  simp only [Option.bind_some,List.mem_cons]
  by_cases h:l[i]=v
  ·simp [h]
  ·have:¬ v=l[i]:=fun e=>h e.symm
   simp [h,this]
 ·intro k; simp
theorem Qbbp {a:Qa} (h:small a):Qek a=some (Qhz a.zA a.zD none a.zC):=by
 obtain ⟨hal,_,hl⟩:=h
 unfold Qek Qbn
 refine (Qk1 (len:=a.zC.length) (fun k=>some (Qhz a.zA a.zD (ahead a.zC k) (a.zC.drop k))) (by unfold Qb7; unfold big at hl; omega) ?_ ?_).trans (by simp [Qz5])
 ·intro k i hi ih
  have hb:i < 1000000000000:=by unfold big at hl; omega
  rw [Qbbo hi]
  unfold letJ
  try dsimp only
  rw [if_pos (by omega),Qb6 hi,Qcf (by omega),ih]
  simp only [Option.bind_some,Qbdx hal]
  generalize a.zC[i]=x
  by_cases h1:x.From < 0
  ·simp [h1]
  by_cases h2:x.From≥a.zD
  ·simp [h1,h2]
  by_cases h3:x.To < 0
  ·simp [h1,h2,h3]
  by_cases h4:x.To≥a.zD
  ·simp [h1,h2,h3,h4]
  by_cases h5:x.Event∈a.zA
  ·by_cases h0:0 < i
   ·rw [Qbcx h0 (by omega),Qb6 (by omega:i - 1 < a.zC.length),Qbcy a.zC h0 (by omega)]
    generalize a.zC[i - 1]=y
    have hi0:i≠0:=by omega
    by_cases h6:x.From < y.From
    ·simp [h1,h2,h3,h4,h5,h6,hi0]
    by_cases h7:y.From=x.From
    ·by_cases h8:x.Event≤y.Event <;> simp [h1,h2,h3,h4,h5,h6,h7,h8,hi0]
    ·have h7' : ¬ x.From=y.From:=fun e=>h7 e.symm
     simp [h1,h2,h3,h4,h5,h6,h7,hi0,h7']
   ·obtain rfl:i=0:=by omega
    simp [h1,h2,h3,h4,h5,Qz5]
  ·simp [h1,h2,h3,h4,h5]
 ·intro k; unfold letJ; simp [Qhz]
theorem Qbi7 {a:Qa} (h:small a):Qdm a=some (Q7x a):=by
 unfold Qdm Qt Q7x
 rw [Q9a h.1,Q9a h.2.1,Qbbp h]
 simp only [Option.bind_some]
 by_cases h1:Qgn 32 none a.zA=0
 ·by_cases h2:a.zD < 0
  ·simp [h1,h2]
  by_cases h3:a.zD > 4096
  ·simp [h1,h2,h3]
  by_cases h4:Qgn a.zD none a.zB=0 <;> simp [h1,h2,h3,h4]
 ·simp [h1]
end Go.Abs
end
section
namespace Go.Abs
open Go
def Qjo (x y:Qd):Prop:=x.From < y.From∨x.From=y.From∧x.Event < y.Event
instance (x y:Qd):Decidable (Qjo x y):=by unfold Qjo; infer_instance
structure Right (a:Qa):Prop where
 al0:∀ x∈a.zA,0≤x∧x < 32
 al:a.zA.Pairwise (· < ·)
 st:0≤a.zD∧a.zD≤4096
 ma0:∀ x∈a.zB,0≤x∧x < a.zD
 ma:a.zB.Pairwise (· < ·)
 ed0:∀ x∈a.zC,0≤x.From∧x.From < a.zD∧0≤x.To∧x.To < a.zD∧x.Event∈a.zA
 ed:a.zC.Pairwise Qjo
theorem Qk2 {n:Int}:∀ {l:List Int} {p:Option Int},Qgn n p l=0↔(∀ x∈l,0≤x∧x < n)∧l.Pairwise (· < ·)∧∀ y,p=some y→∀ x∈l,y < x
 | [],p=>by simp [Qgn]
 | x :: xs,p=>by
  rw [Qgn]
  split
  ·rename_i h
   refine ⟨fun h=>by omega,fun hh=>?_⟩
   have:=hh.1 x (by simp); omega
  ·rename_i h
   split
   ·rename_i h2
    obtain ⟨y,hy,hxy⟩:=h2
    refine ⟨fun h=>by omega,fun hh=>?_⟩
    have:=hh.2.2 y hy x (by simp); omega
   ·rename_i h2
    rw [Qk2]
    constructor
    ·rintro ⟨k1,k2,k3⟩
     refine ⟨fun z hz=>?_,List.pairwise_cons.2 ⟨fun z hz=>k3 x rfl z hz,k2⟩,fun y hy z hz=>?_⟩
     ·rcases List.mem_cons.1 hz with rfl | hz
      ·omega
      ·exact k1 z hz
     ·have hyx:y < x:=by
       rcases Int.lt_or_le y x with h | h
       ·exact h
       ·exact absurd ⟨y,hy,h⟩ h2
      rcases List.mem_cons.1 hz with rfl | hz
      ·exact hyx
      ·have:=k3 x rfl z hz; omega
    ·rintro ⟨k1,k2,k3⟩
     obtain ⟨k4,k5⟩:=List.pairwise_cons.1 k2
     exact ⟨fun z hz=>k1 z (by simp [hz]),k5,fun y hy z hz=>by cases hy; exact k4 z hz⟩
theorem Qu7 {al:List Int} {n:Int}:∀ {l:List Qd} {p:Option Qd},Qhz al n p l=0↔(∀ x∈l,0≤x.From∧x.From < n∧0≤x.To∧x.To < n∧x.Event∈al)∧l.Pairwise Qjo∧∀ y,p=some y→∀ x∈l,Qjo y x
 | [],p=>by simp [Qhz]
 | x :: xs,p=>by
  have tr:∀ a b c:Qd,Qjo a b→Qjo b c→Qjo a c:=fun a b c h k=>by unfold Qjo at *; omega
  rw [Qhz]
  split
  ·rename_i h
   refine ⟨fun h=>by omega,fun hh=>?_⟩
   have:=hh.1 x (by simp); omega
  ·rename_i h
   split
   ·rename_i h2
    refine ⟨fun h=>by omega,fun hh=>?_⟩
    exact absurd (hh.1 x (by simp)).2.2.2.2 h2
   ·rename_i hal
    split
    ·rename_i h2
     obtain ⟨y,hy,hxy⟩:=h2
     refine ⟨fun h=>by omega,fun hh=>?_⟩
     have:=hh.2.2 y hy x (by simp)
     unfold Qjo at this; omega
    ·rename_i h2
     rw [Qu7]
     constructor
     ·rintro ⟨k1,k2,k3⟩
      refine ⟨fun z hz=>?_,List.pairwise_cons.2 ⟨fun z hz=>k3 x rfl z hz,k2⟩,fun y hy z hz=>?_⟩
      ·rcases List.mem_cons.1 hz with rfl | hz
       ·exact ⟨by omega,by omega,by omega,by omega,Decidable.not_not.1 hal⟩
       ·exact k1 z hz
      ·have hyx:Qjo y x:=by
        apply Decidable.byContradiction
        intro h
        exact h2 ⟨y,hy,by unfold Qjo at h; omega⟩
       rcases List.mem_cons.1 hz with rfl | hz
       ·exact hyx
       ·exact tr _ _ _ hyx (k3 x rfl z hz)
     ·rintro ⟨k1,k2,k3⟩
      obtain ⟨k4,k5⟩:=List.pairwise_cons.1 k2
      exact ⟨fun z hz=>k1 z (by simp [hz]),k5,fun y hy z hz=>by cases hy; exact k4 z hz⟩
theorem Qbhx {a:Qa}:Q7x a=0↔Right a:=by
 unfold Q7x
 constructor
 ·intro h
  split at h
  ·rename_i h1; exact absurd h h1
  rename_i h1
  split at h
  ·omega
  split at h
  ·omega
  split at h
  ·rename_i h4; exact absurd h h4
  rename_i h4
  have q1:=Qk2.1 (Decidable.not_not.1 h1)
  have q2:=Qk2.1 (Decidable.not_not.1 h4)
  have q3:=Qu7.1 h
  exact ⟨q1.1,q1.2.1,⟨by omega,by omega⟩,q2.1,q2.2.1,q3.1,q3.2.1⟩
 ·intro h
  have q1:Qgn 32 none a.zA=0:=Qk2.2 ⟨h.al0,h.al,fun y hy=>by cases hy⟩
  have q2:Qgn a.zD none a.zB=0:=Qk2.2 ⟨h.ma0,h.ma,fun y hy=>by cases hy⟩
  have q3:Qhz a.zA a.zD none a.zC=0:=Qu7.2 ⟨h.ed0,h.ed,fun y hy=>by cases hy⟩
  have:=h.st
  rw [if_neg (by simp [q1]),if_neg (by omega),if_neg (by omega),if_neg (by simp [q2]),q3]
def outP (a:Qa) (s:Int):List Qd:=a.zC.filter fun x=>x.From == s
def Qf0 (a:Qa) (s e:Int):Int:=match a.zC.find? fun x=>x.From == s && x.Event == e with
 | some x=>x.To
 | none=>-1
section
variable {a:Qa} (h:Right a) (hs:small a)
include h hs
omit h in
theorem Qbar {s e:Int}:Qb2 a s e=some (Qf0 a s e):=by
 have hb:a.zC.length < 1000000000000:=hs.2.2
 unfold Qb2 Qz
 refine (Qk1 (len:=a.zC.length) (fun k=>some (match (a.zC.drop k).find? (fun x=>x.From == s && x.Event == e) with | some x=>x.To | none=>-1)) (by unfold Qb7; omega) ?_ ?_).trans (by simp [Qf0])
 ·intro k i hi ih
  rw [if_pos (by omega),Qb6 hi,Qcf (by omega),ih,List.drop_eq_getElem_cons hi]
  simp only [Option.bind_some,List.find?_cons]
  cases h1:a.zC[i].From == s <;> cases h2:a.zC[i].Event == e <;> simp [h1,h2]
 ·intro k; simp
end
theorem Q9b {a:Qa} (h:Right a) (s e:Int):Qf0 a s e = -1∨0≤Qf0 a s e∧Qf0 a s e < a.zD∧0≤s∧s < a.zD∧e∈a.zA:=by
 unfold Qf0
 split
 ·rename_i x hx
  have hm:=List.mem_of_find?_eq_some hx
  have hp:=List.find?_some hx
  obtain ⟨k1,k2,k3,k4,k5⟩:=h.ed0 x hm
  simp at hp
  exact .inr ⟨k3,k4,by omega,by omega,hp.2 ▸ k5⟩
 ·exact .inl rfl
theorem Qbc0 {a:Qa} (h:Right a) {s e:Int}:0≤Qf0 a s e↔∃ x∈outP a s,x.Event=e:=by
 unfold Qf0 outP
 split
 ·rename_i x hx
  have hm:=List.mem_of_find?_eq_some hx
  have hp:=List.find?_some hx
  simp at hp
  refine ⟨fun _=>⟨x,by simp [hm,hp.1],hp.2⟩,fun _=>(h.ed0 x hm).2.2.1⟩
 ·rename_i hx
  have:=List.find?_eq_none.1 hx
  refine ⟨fun h=>by omega,?_⟩
  rintro ⟨x,h1,h2⟩
  simp at h1
  exact absurd (by simp [h1.2,h2]) (this x h1.1)
theorem Q3l {a:Qa} (h:Right a) (s:Int):(outP a s).map (·.Event)=a.zA.filter fun e=>decide (0≤Qf0 a s e):=by
 refine Qbft ?_ (h.al.filter _) fun e=>?_
 ·rw [List.pairwise_map]
  have h1:(outP a s).Pairwise Qjo:=h.ed.filter _
  have h2:∀ x∈outP a s,x.From=s:=fun x hx=>by unfold outP at hx; simp at hx; exact hx.2
  exact List.Pairwise.imp_of_mem (fun {x y} hx hy hk=>by have:=h2 x hx; have:=h2 y hy; unfold Qjo at hk; omega) h1
 ·simp only [List.mem_map,List.mem_filter,decide_eq_true_eq,Qbc0 h]
  constructor
  ·rintro ⟨x,hx,rfl⟩
   refine ⟨?_,x,hx,rfl⟩
   unfold outP at hx; simp at hx; exact (h.ed0 x hx.1).2.2.2.2
  ·rintro ⟨_,x,hx,rfl⟩; exact ⟨x,hx,rfl⟩
theorem Qbc1 {a:Qa} (h:Right a) {s:Int} {x:Qd} (hx:x∈outP a s):Qf0 a s x.Event=x.To:=by
 unfold outP at hx
 simp at hx
 unfold Qf0
 split
 ·rename_i y hy
  have hm:=List.mem_of_find?_eq_some hy
  have hp:=List.find?_some hy
  simp at hp
  have:x=y:=by
   rcases Classical.em (x=y) with e | hne
   ·exact e
   ·exfalso
    have hk:Qjo x y∨Qjo y x:=by
     have:=List.pairwise_iff_getElem.1 h.ed
     obtain ⟨i,hi,rfl⟩:=List.getElem_of_mem hx.1
     obtain ⟨j,hj,rfl⟩:=List.getElem_of_mem hm
     rcases Nat.lt_trichotomy i j with hij | hij | hij
     ·exact .inl (this i j hi hj hij)
     ·subst hij; exact absurd rfl hne
     ·exact .inr (this j i hj hi hij)
    unfold Qjo at hk; omega
  rw [this]
 ·rename_i hn
  exact absurd (by simp [hx.2]) (List.find?_eq_none.1 hn x hx.1)
end Go.Abs
end
section
namespace Go.Abs
open Go
theorem Right.small {a:Qa} (h:Right a):small a∧a.zA.length≤32∧a.zB.length≤4096∧a.zC.length≤131072:=by
 have h1:=Qko h.al h.al0
 have h2:=Qko h.ma h.ma0
 have h3:(a.zC.map fun x=>x.From * 32+x.Event).Pairwise (· < ·):=by
  rw [List.pairwise_map]
  refine List.Pairwise.imp_of_mem (fun {x y} hx hy hk=>?_) h.ed
  have:=h.al0 _ (h.ed0 x hx).2.2.2.2
  have:=h.al0 _ (h.ed0 y hy).2.2.2.2
  unfold Qjo at hk; omega
 have h4:=Qko (a:=0) (b:=131072) h3 (by
  intro z hz
  obtain ⟨x,hx,rfl⟩:=List.mem_map.1 hz
  have:=h.al0 _ (h.ed0 x hx).2.2.2.2
  have:=h.ed0 x hx
  have:=h.st
  omega)
 rw [List.length_map] at h4
 have:=h.st
 refine ⟨⟨?_,?_,?_⟩,?_,?_,?_⟩ <;> (try unfold big) <;> omega
theorem Q9c {a:Qa} (h:Right a):Qdm a=some 0:=by rw [Qbi7 h.small.1,Qbhx.2 h]
end Go.Abs
end
section
namespace Go.Abs
open Go
def ins (o:List Int) (t:Int):List Int:=if t∈o then o else o ++ [t]
def Q7n (a:Qa) (s:Int):List Int:=(outP a s).map (·.To)
def bfs (a:Qa):Nat→Nat→List Int→List Int
 | 0,_,o=>o
 | fuel+1,i,o=>match o[i]? with
  | some s=>bfs a fuel (i+1) ((Q7n a s).foldl ins o)
  | none=>o
def Qoj (a:Qa):List Int:=bfs a (a.zD.toNat+1) 0 (if 0 < a.zD then [0] else [])
structure Fnd (a:Qa) (o:List Int):Prop where
 nd:o.Nodup
 rg:∀ s∈o,0≤s∧s < a.zD
theorem Fnd.len {a:Qa} {o:List Int} (h:Fnd a o):o.length≤a.zD.toNat:=by
 have hO:Go.Sort.SWO Qhv:=⟨fun x=>by simp [Qhv],fun x y z h1 h2=>by simp [Qhv] at *; omega,fun x y z h1 h2=>by simp [Qhv] at *; omega⟩
 have hp:=Qux Qhv o
 have hs:=Quz hO o
 have hn:(Qzi Qhv o).Nodup:=(hp.nodup_iff).2 h.nd
 have hlt:(Qzi Qhv o).Pairwise (· < ·):=by
  have:(Qzi Qhv o).Pairwise fun x y=>Qhv y x=false∧x≠y:=hs.and hn
  exact this.imp fun ⟨h1,h2⟩=>by simp [Qhv] at h1; omega
 have:=Qko hlt (a:=0) (b:=a.zD) fun x hx=>h.rg x (hp.mem_iff.1 hx)
 rw [Quy] at this
 simpa using this
theorem Qbdy {o:List Int} {t x:Int}:x∈ins o t↔x∈o∨x=t:=by
 unfold ins; split
 ·rename_i h; constructor
  ·exact .inl
  ·rintro (h' | rfl)
   ·exact h'
   ·exact h
 ·simp
theorem Qbkr (o:List Int) (t:Int):o <+: ins o t:=by
 unfold ins; split
 ·exact List.prefix_refl o
 ·exact List.prefix_append o [t]
theorem Fnd.ins {a:Qa} {o:List Int} (h:Fnd a o) {t:Int} (ht:0≤t∧t < a.zD):Fnd a (ins o t):=by
 refine ⟨?_,fun s hs=>?_⟩
 ·unfold Go.Abs.ins; split
  ·exact h.nd
  ·rename_i hn
   rw [List.nodup_append]
   exact ⟨h.nd,by simp,fun x hx y hy=>by simp at hy; subst hy; exact fun e=>hn (e ▸ hx)⟩
 ·rcases Qbdy.1 hs with hs | rfl
  ·exact h.rg s hs
  ·exact ht
theorem Q9d {a:Qa}:∀ {ts o:List Int},Fnd a o→(∀ t∈ts,0≤t∧t < a.zD)→Fnd a (ts.foldl ins o)∧o <+: ts.foldl ins o∧(∀ t∈ts,t∈ts.foldl ins o)∧∀ x∈ts.foldl ins o,x∈o∨x∈ts
 | [],o,h,_=>⟨h,List.prefix_refl o,by simp,fun x hx=>.inl hx⟩
 | t :: ts,o,h,ht=>by
  obtain ⟨h1,h2,h3,h4⟩:=Q9d (ts:=ts) (h.ins (ht t (by simp))) fun t ht'=>ht t (by simp [ht'])
  refine ⟨h1,(Qbkr o t).trans h2,fun x hx=>?_,fun x hx=>?_⟩
  ·rcases List.mem_cons.1 hx with rfl | hx
   ·exact h2.subset (Qbdy.2 (.inr rfl))
   ·exact h3 x hx
  ·rcases h4 x hx with h5 | h5
   ·rcases Qbdy.1 h5 with h6 | rfl
    ·exact .inl h6
    ·exact .inr (by simp)
   ·exact .inr (by simp [h5])
theorem Q9e {a:Qa} (h:Right a) (s:Int):∀ t∈Q7n a s,0≤t∧t < a.zD:=by
 intro t ht
 unfold Q7n outP at ht
 obtain ⟨x,hx,rfl⟩:=List.mem_map.1 ht
 have:=h.ed0 x ((List.mem_filter.1 hx).1)
 omega
theorem Qz6 {α:Type} {l m:List α} (h:l <+: m) {i:Nat} {x:α} (hx:l[i]? = some x):m[i]? = some x:=by
 obtain ⟨t,rfl⟩:=h
 have:=(List.getElem?_eq_some_iff.1 hx).1
 rw [List.getElem?_append_left this]; exact hx
theorem Qbe3 {a:Qa} (h:Right a):∀ (fuel i:Nat) (o:List Int),Fnd a o→i≤o.length→a.zD.toNat+1≤fuel+i→(∀ j s,j < i→o[j]? = some s→∀ t∈Q7n a s,t∈o) →
  Fnd a (bfs a fuel i o)∧o <+: bfs a fuel i o∧∀ s∈bfs a fuel i o,∀ t∈Q7n a s,t∈bfs a fuel i o
 | 0,i,o,hf,hi,hfu,_=>by have:=hf.len; omega
 | fuel+1,i,o,hf,hi,hfu,hc=>by
  unfold bfs
  cases hg:o[i]? with
  | none =>
   dsimp only
   refine ⟨hf,List.prefix_refl o,fun s hs t ht=>?_⟩
   obtain ⟨j,hj⟩:=List.getElem?_of_mem hs
   have hlt:=(List.getElem?_eq_some_iff.1 hj).1
   exact hc j s (by have:=List.getElem?_eq_none_iff.1 hg; omega) hj t ht
  | some s =>
   dsimp only
   obtain ⟨h1,h2,h3,_⟩:=Q9d hf (Q9e h s)
   have hlen:i < o.length:=(List.getElem?_eq_some_iff.1 hg).1
   have hle:=h2.length_le
   obtain ⟨k1,k2,k3⟩:=Qbe3 h fuel (i+1) ((Q7n a s).foldl ins o) h1 (by omega) (by omega) (fun j s' hj hs' t ht=>by
    by_cases hji:j < i
    ·have hjl:j < o.length:=by omega
     have:o[j]? = some s':=by
      have:=Qz6 h2 (List.getElem?_eq_getElem hjl)
      rw [hs'] at this; rw [List.getElem?_eq_getElem hjl]; exact this.symm
     exact h2.subset (hc j s' hji this t ht)
    ·obtain rfl:j=i:=by omega
     have:=Qz6 h2 hg
     rw [hs'] at this; cases this
     exact h3 t ht)
   exact ⟨k1,h2.trans k2,k3⟩
theorem Q6q {a:Qa} (h:Right a):Fnd a (Qoj a)∧(if 0 < a.zD then [0] else []) <+: Qoj a∧∀ s∈Qoj a,∀ t∈Q7n a s,t∈Qoj a :=
 Qbe3 h _ 0 _ ⟨by split <;> simp,fun s hs=>by split at hs <;> simp at hs; subst hs; omega⟩ (Nat.zero_le _) (by omega) fun j s hj=>by omega
def Q15 (m:List Int):Nat→List Int→List Int
 | _,[]=>[]
 | i,s :: t=>(if s∈m then [(i:Int)] else []) ++ Q15 m (i+1) t
def rowP (a:Qa) (F:List Int) (i:Nat) (s:Int):List Qd:=(outP a s).map fun x=>⟨(i:Int),x.Event,(F.idxOf x.To:Int)⟩
def Q16 (a:Qa) (F:List Int):Nat→List Int→List Qd
 | _,[]=>[]
 | i,s :: t=>rowP a F i s ++ Q16 a F (i+1) t
def Q5e (a:Qa):Qa:=⟨a.zA,((Qoj a).length:Int),Q15 a.zB 0 (Qoj a),Q16 a (Qoj a) 0 (Qoj a)⟩
theorem Qzq {m:List Int}:∀ {l:List Int} {i:Nat},∀ x∈Q15 m i l,(i:Int)≤x∧x < (i+l.length:Nat)
 | [],i,x,hx=>by simp [Q15] at hx
 | s :: t,i,x,hx=>by
  simp only [Q15,List.mem_append] at hx
  rcases hx with hx | hx
  ·split at hx <;> simp at hx
   subst hx; simp only [List.length_cons]; omega
  ·have:=Qzq x hx; simp only [List.length_cons]; omega
theorem Q5f {m:List Int}:∀ {l:List Int} {i:Nat},(Q15 m i l).Pairwise (· < ·)
 | [],i=>.nil
 | s :: t,i=>by
  simp only [Q15]
  rw [List.pairwise_append]
  refine ⟨by split <;> simp,Q5f,fun x hx y hy=>?_⟩
  have:=Qzq y hy
  split at hx <;> simp at hx
  omega
theorem Q3m {a:Qa} {F:List Int}:∀ {l:List Int} {i:Nat},∀ x∈Q16 a F i l,(i:Int)≤x.From∧x.From < (i+l.length:Nat)∧∃ s∈l,∃ y∈outP a s,x.Event=y.Event∧x.To=(F.idxOf y.To:Int)
 | [],i,x,hx=>by simp [Q16] at hx
 | s :: t,i,x,hx=>by
  simp only [Q16,List.mem_append] at hx
  rcases hx with hx | hx
  ·obtain ⟨y,hy,rfl⟩:=List.mem_map.1 hx
   simp only [List.length_cons]
   exact ⟨by omega,by omega,s,by simp,y,hy,rfl,rfl⟩
  ·obtain ⟨h1,h2,s',h3,h4⟩:=Q3m x hx
   simp only [List.length_cons]
   exact ⟨by omega,by omega,s',by simp [h3],h4⟩
theorem Q5g {a:Qa} (h:Right a) {F:List Int}:∀ {l:List Int} {i:Nat},(Q16 a F i l).Pairwise Qjo
 | [],i=>.nil
 | s :: t,i=>by
  simp only [Q16]
  rw [List.pairwise_append]
  refine ⟨?_,Q5g h,fun x hx y hy=>?_⟩
  ·unfold rowP
   rw [List.pairwise_map]
   have h1:(outP a s).Pairwise Qjo:=h.ed.filter _
   have h2:∀ x∈outP a s,x.From=s:=fun x hx=>by unfold outP at hx; simp at hx; exact hx.2
   exact List.Pairwise.imp_of_mem (fun {x y} hx hy hk=>by have:=h2 x hx; have:=h2 y hy; unfold Qjo at hk; exact .inr ⟨rfl,by show x.Event < y.Event; omega⟩) h1
  ·obtain ⟨z,_,rfl⟩:=List.mem_map.1 hx
   have:=(Q3m y hy).1
   unfold Qjo; simp only; omega
theorem Qbc2 {a:Qa} (h:Right a):Right (Q5e a):=by
 obtain ⟨h1,h2,h3⟩:=Q6q h
 have hl:=h1.len
 have hst:=h.st
 refine ⟨h.al0,h.al,⟨by simp only [Q5e]; omega,by simp only [Q5e]; omega⟩,fun x hx=>?_,Q5f,fun x hx=>?_,Q5g h⟩
 ·have:=Qzq x hx; simp only [Q5e]; omega
 ·obtain ⟨k1,k2,s,hs,y,hy,k3,k4⟩:=Q3m x hx
  have hy' : y.To∈Qoj a:=h3 s hs y.To (List.mem_map.2 ⟨y,hy,rfl⟩)
  have:=List.idxOf_lt_length_iff.2 hy'
  simp only [Q5e]
  refine ⟨by omega,by omega,by omega,by omega,?_⟩
  rw [k3]
  unfold outP at hy
  exact (h.ed0 y ((List.mem_filter.1 hy).1)).2.2.2.2
end Go.Abs
end
section
namespace Go.Abs
open Go
theorem Qbe4 {l:List Int} (hl:l.length≤lim):Qdw l=some ⟨l,0,[],[]⟩:=by
 unfold Qdw Qs
 rw [Qeh (by simpa using hl)]; rfl
theorem Qbdz {l:List Int} {v:Int} (hl:l.length < big):Qdx l v=some (if v∈l then (l.idxOf v:Int) else -1):=by
 have hb:l.length < 1000000000000:=hl
 unfold Qdx Qbs
 refine (Qk1 (len:=l.length) (fun k=>some (if v∈l.drop k then ((k+(l.drop k).idxOf v:Nat):Int) else -1)) (by unfold Qb7; omega) ?_ ?_).trans (by simp)
 ·intro k i hi ih
  rw [if_pos (by omega),Qb6 hi,Qcf (by omega),ih,List.drop_eq_getElem_cons hi]
  simp only [Option.bind_some,List.mem_cons,List.idxOf_cons]
  by_cases h:v=l[i]
  ·simp [← h]
  ·have h' : ¬ l[i]=v:=fun e=>h e.symm
   have hbq:(l[i] == v)=false:=by simp [h']
   by_cases h2:v∈l.drop (i+1) <;> simp [h,h2,hbq]
   omega
 ·intro k; simp
theorem Q61 {a:Qa} (h:Right a) (s:Int):Q7n a s=(a.zA.filter fun e=>decide (0≤Qf0 a s e)).map (Qf0 a s):=by
 rw [← Q3l h,List.map_map]
 unfold Q7n
 exact List.map_congr_left fun x hx=>(Qbc1 h hx).symm
theorem Qbas {a:Qa} (s:Int):∀ (al o:List Int),al.foldl (fun o e=>if 0≤Qf0 a s e then ins o (Qf0 a s e) else o) o=((al.filter fun e=>decide (0≤Qf0 a s e)).map (Qf0 a s)).foldl ins o
 | [],o=>rfl
 | e :: al,o=>by
  by_cases hx:0≤Qf0 a s e <;> simp [List.filter_cons,hx,Qbas s al]
theorem Qbi8 {a:Qa} {fuel i:Nat} {o:List Int} (hi:i < o.length):bfs a (fuel+1) i o=bfs a fuel (i+1) ((Q7n a o[i]).foldl ins o):=by
 conv=>lhs; unfold bfs
 rw [List.getElem?_eq_getElem hi]
theorem Qbks {a:Qa} {fuel:Nat} {o:List Int}:bfs a fuel o.length o=o:=by
 cases fuel with
 | zero=>rfl
 | succ n=>unfold bfs; simp
section
variable {a:Qa} (h:Right a)
include h
theorem Qbfu (fuel:Nat) (hfu:1099511627776≤fuel) {s:Int} {o:List Int} {i:Nat} (hf:Fnd a o) (hi:o[i]? = some s) :
  Qda (fun k12 ((out10,k11):(List Int)×Int)=>(if (k11 < (a.zA.length:Int)) then ((((getO out10 (i:Int)).bind fun x14=>((getO a.zA k11).bind fun x16=>((Qb2 a x14 x16).bind fun x19=>(((if (x19≥0) then ((Qcn out10 x19).bind fun x22=>some (!x22)) else some false)).bind fun (x23:Bool)=>(if x23 then ((appO out10 [x19]).bind fun x25=>some x25) else some out10)))))).bind fun (out27:List Int)=>k12 (out27,(IntKind.wrap .i64 (k11+1)))) else some out10)) fuel (o,0)=some ((Q7n a s).foldl ins o):=by
 have hs:=h.small.1
 have hst:=h.st
 have hb:a.zA.length < 1000000000000:=hs.1
 rw [Q61 h,← Qbas]
 refine (Qsk (len:=a.zA.length) (fun n (acc:List Int)=>(acc,(n:Int))) (fun n acc=>Fnd a acc∧acc[i]? = some s) (fun n acc=>some ((a.zA.drop n).foldl (fun o e=>if 0≤Qf0 a s e then ins o (Qf0 a s e) else o) acc)) ?_ ?_ fuel 0 o (Nat.zero_le _) (by omega) ⟨hf,hi⟩).trans (by simp)
 ·intro k n acc hn ⟨k1,k2⟩ ih
  have hlen:=k1.len
  have hg:getO acc (i:Int)=some s:=by rw [Q89]; exact ⟨by omega,by simpa using k2⟩
  dsimp only
  rw [if_pos (by omega),hg,Qb6 hn]
  simp only [Option.bind_some]
  rw [Qbar hs,Qcf (by omega)]
  simp only [Option.bind_some]
  rw [Qbjz (by unfold big; omega),List.drop_eq_getElem_cons hn,List.foldl_cons]
  rcases Q9b h s a.zA[n] with hr | hr
  ·rw [hr]; simp only [show ¬ ((-1:Int)≥0) from by omega,show ¬ ((0:Int) ≤ -1) from by omega,if_false,Option.bind_some,Bool.false_eq_true]
   exact ih _ ⟨k1,k2⟩
  ·have hge:Qf0 a s a.zA[n]≥0:=hr.1
   by_cases hm:Qf0 a s a.zA[n]∈acc
   ·simp only [hge,hm,decide_true,Bool.not_true,if_true,Option.bind_some,Bool.false_eq_true,if_false,hr.1,ins]
    exact ih _ ⟨k1,k2⟩
   ·simp only [hge,hm,decide_false,Bool.not_false,if_true,Option.bind_some,hr.1,ins,if_false]
    rw [Qeh (by simp only [List.length_cons,List.length_nil]; unfold lim; omega)]
    simp only [Option.bind_some]
    have hi':=k1.ins (t:=Qf0 a s a.zA[n]) ⟨hr.1,hr.2.1⟩
    unfold ins at hi'
    rw [if_neg hm] at hi'
    exact ih _ ⟨hi',Qz6 (List.prefix_append acc _) k2⟩
 ·intro k acc _
  dsimp only
  rw [if_neg (by omega)]; simp
theorem Qbd0:Qe1 a=some (Qoj a):=by
 have hs:=h.small.1
 have hst:=h.st
 unfold Qe1 Qbr
 obtain ⟨fuel,hfu,hge⟩ : ∃ f,Qb7=f∧1099511627776≤f:=⟨_,rfl,Nat.le_refl _⟩
 rw [hfu]
 have hloop:∀ o:List Int,Fnd a o→Qda (fun (k8:List Int×Int→Option (List Int)) ((out6,i7):(List Int)×Int)=>(if (i7 < (out6.length:Int)) then ((Qda (fun k12 ((out10,k11):(List Int)×Int)=>(if (k11 < (a.zA.length:Int)) then ((((getO out10 i7).bind fun x14=>((getO a.zA k11).bind fun x16=>((Qb2 a x14 x16).bind fun x19=>(((if (x19≥0) then ((Qcn out10 x19).bind fun x22=>some (!x22)) else some false)).bind fun (x23:Bool)=>(if x23 then ((appO out10 [x19]).bind fun x25=>some x25) else some out10)))))).bind fun (out27:List Int)=>k12 (out27,(IntKind.wrap .i64 (k11+1)))) else some out10)) fuel (out6,0)).bind fun (out28:List Int)=>k8 (out28,(IntKind.wrap .i64 (i7+1)))) else some out6)) fuel (o,0)=some (bfs a (a.zD.toNat+1) 0 o):=by
  intro o ho
  have:=Qhc (F:=fun (k8:List Int×Int→Option (List Int)) ((out6,i7):(List Int)×Int)=>(if (i7 < (out6.length:Int)) then ((Qda (fun k12 ((out10,k11):(List Int)×Int)=>(if (k11 < (a.zA.length:Int)) then ((((getO out10 i7).bind fun x14=>((getO a.zA k11).bind fun x16=>((Qb2 a x14 x16).bind fun x19=>(((if (x19≥0) then ((Qcn out10 x19).bind fun x22=>some (!x22)) else some false)).bind fun (x23:Bool)=>(if x23 then ((appO out10 [x19]).bind fun x25=>some x25) else some out10)))))).bind fun (out27:List Int)=>k12 (out27,(IntKind.wrap .i64 (k11+1)))) else some out10)) fuel (out6,0)).bind fun (out28:List Int)=>k8 (out28,(IntKind.wrap .i64 (i7+1)))) else some out6))
   (fun x=>∃ i:Nat,x.2=(i:Int)∧i≤x.1.length∧Fnd a x.1) (fun x=>a.zD.toNat+1 - x.2.toNat) (fun x r=>r=some (bfs a (a.zD.toNat+1 - x.2.toNat) x.2.toNat x.1)) (by
    rintro k ⟨o,i⟩ ⟨i,rfl,hi,hf⟩ ih
    replace hi:i≤o.length:=hi
    replace hf:Fnd a o:=hf
    have hl:=hf.len
    dsimp only
    by_cases hlt:i < o.length
    ·rw [if_pos (by omega),Qbfu h fuel hge hf (List.getElem?_eq_getElem hlt),Option.bind_some,Qcf (by omega)]
     obtain ⟨q1,q2,_,_⟩:=Q9d hf (Q9e h o[i])
     have hle:=q2.length_le
     rw [ih _ ⟨i+1,rfl,by simp only; omega,q1⟩ (by simp only; omega)]
     simp only [Int.toNat_natCast]
     rw [show a.zD.toNat+1 - i=(a.zD.toNat+1 - (i+1))+1 from by omega,Qbi8 hlt]
    ·rw [if_neg (by omega)]
     obtain rfl:i=o.length:=by omega
     simp only [Int.toNat_natCast,Qbks]) fuel (o,0) ⟨0,rfl,Nat.zero_le _,ho⟩ (by simp only; omega)
  simpa using this
 by_cases h0:0 < a.zD
 ·rw [if_pos (by omega),Qeh (by simp only [List.length_cons,List.length_nil]; unfold lim; omega)]
  simp only [Option.bind_some]
  rw [show ([] ++ [0]:List Int)=[0] from rfl,hloop [0] ⟨by simp,fun s hs=>by simp at hs; subst hs; omega⟩]
  simp only [Option.bind_some,Qoj,if_pos h0]
 ·rw [if_neg (by omega)]
  simp only [Option.bind_some]
  rw [hloop [] ⟨by simp,fun s hs=>by simp at hs⟩]
  simp only [Option.bind_some,Qoj,if_neg h0]
theorem Qbat (fuel:Nat) (hfu:1099511627776≤fuel) {F:List Int} (hF:Fnd a F) (hcl:∀ s∈F,∀ t∈Q7n a s,t∈F) {s:Int} {i:Nat} (hi:F[i]? = some s) (ms:List Int) (es:List Qd) (hes:es.length≤200000) :
  Qda (fun (k24:Int×List Qd→Option (List Int×List Qd)) ((k22,out23):Int×(List Qd))=>(if (k22 < (a.zA.length:Int)) then ((((getO F (i:Int)).bind fun x26=>((getO a.zA k22).bind fun x28=>((Qb2 a x26 x28).bind fun x31=>(if (x31≥0) then ((getO a.zA k22).bind fun x33=>((Qdx F x31).bind fun x36=>((appO out23 [(Qd.mk (i:Int) x33 x36)]).bind fun x37=>some x37))) else some out23))))).bind fun (out39:List Qd)=>k24 ((IntKind.wrap .i64 (k22+1)),out39)) else some (ms,out23))) fuel (0,es)=some (ms,es ++ rowP a F i s):=by
 have hs:=h.small.1
 have hst:=h.st
 have hal:=h.small.2.1
 have hb:a.zA.length < 1000000000000:=hs.1
 have hFl:=hF.len
 have hrow:rowP a F i s=(a.zA.filter fun e=>decide (0≤Qf0 a s e)).map fun e=>⟨(i:Int),e,(F.idxOf (Qf0 a s e):Int)⟩:=by
  rw [← Q3l h,List.map_map]
  unfold rowP
  exact List.map_congr_left fun x hx=>by simp only [Function.comp]; rw [Qbc1 h hx]
 rw [hrow]
 refine (Qsk (len:=a.zA.length) (fun n (acc:List Qd)=>((n:Int),acc)) (fun n acc=>acc.length≤200000+n) (fun n acc=>some (ms,acc ++ ((a.zA.drop n).filter fun e=>decide (0≤Qf0 a s e)).map fun e=>⟨(i:Int),e,(F.idxOf (Qf0 a s e):Int)⟩)) ?_ ?_ fuel 0 es (Nat.zero_le _) (by omega) (by omega)).trans (by simp)
 ·intro k n acc hn k1 ih
  have hg:getO F (i:Int)=some s:=by rw [Q89]; exact ⟨by omega,by simpa using hi⟩
  dsimp only
  rw [if_pos (by omega),hg,Qb6 hn]
  simp only [Option.bind_some]
  rw [Qbar hs,Qcf (by omega)]
  simp only [Option.bind_some]
  rw [List.drop_eq_getElem_cons hn,List.filter_cons]
  by_cases hr:0≤Qf0 a s a.zA[n]
  ·have hm:Qf0 a s a.zA[n]∈F:=hcl s (List.mem_of_getElem? hi) _ (by rw [Q61 h]; exact List.mem_map.2 ⟨_,List.mem_filter.2 ⟨List.getElem_mem hn,by simpa using hr⟩,rfl⟩)
   rw [if_pos hr,Qbdz (by unfold big; omega),if_pos hm]
   simp only [Option.bind_some]
   rw [Qeh (by simp only [List.length_cons,List.length_nil]; unfold lim; omega)]
   simp only [Option.bind_some]
   rw [ih _ (by simp only [List.length_append,List.length_cons,List.length_nil]; omega)]
   simp only [hr,decide_true,if_true,List.map_cons,List.append_assoc,List.cons_append,List.nil_append]
  ·rw [if_neg (by omega)]
   simp only [Option.bind_some]
   rw [ih _ (by omega)]
   simp only [hr,decide_false,Bool.false_eq_true,if_false]
 ·intro k acc _
  dsimp only
  rw [if_neg (by omega)]; simp
theorem Qbi9 {F:List Int} {i:Nat} {s:Int}:(rowP a F i s).length≤32:=by
 have:=h.small.2.1
 have h1:(rowP a F i s).length=((outP a s).map (·.Event)).length:=by simp [rowP]
 rw [h1,Q3l h]
 exact Nat.le_trans (List.length_filter_le _ _) this
theorem Q9f:Qdq a=some (Q5e a):=by
 have hs:=h.small.1
 have hst:=h.st
 have hal:=h.small.2.1
 have hb:a.zA.length < 1000000000000:=hs.1
 obtain ⟨hF,_,hcl⟩:=Q6q h
 have hFl:=hF.len
 unfold Qdq Qbb
 obtain ⟨fuel,hfu,hge⟩ : ∃ f,Qb7=f∧1099511627776≤f:=⟨_,rfl,Nat.le_refl _⟩
 rw [hfu,Qbd0 h,Option.bind_some,Qbe4 (by unfold lim; omega),Option.bind_some]
 unfold Q5e
 generalize Qoj a=F at hF hcl hFl
 show Option.bind (Qda _ fuel (((0:Nat):Int),[],[],[],[],[])) _=_
 rw [Qsk (len:=F.length) (R:=List Int×List Int×List Qd×List Int×List Qd) (fun n (acc:List Int×List Qd)=>((n:Int),([]:List Int),([]:List Int),([]:List Qd),acc.1,acc.2)) (fun n acc=>acc.1.length≤n∧acc.2.length≤32 * n)
  (fun n acc=>some (([]:List Int),([]:List Int),([]:List Qd),acc.1 ++ Q15 a.zB n (F.drop n),acc.2 ++ Q16 a F n (F.drop n))) ?_ ?_ fuel 0 ([],[]) (Nat.zero_le _) (by omega) ⟨Nat.zero_le _,Nat.zero_le _⟩]
 ·simp
 ·rintro k n ⟨ms,es⟩ hn ⟨k1,k2⟩ ih
  replace k1:ms.length≤n:=k1
  replace k2:es.length≤32 * n:=k2
  have hg:=List.getElem?_eq_getElem hn
  dsimp only
  rw [if_pos (by omega),Qb6 hn]
  simp only [Option.bind_some]
  rw [Qbjz hs.2.1]
  simp only [Option.bind_some]
  have hrl:=Qbi9 h (F:=F) (i:=n) (s:=F[n])
  rw [List.drop_eq_getElem_cons hn]
  simp only [Q15,Q16]
  by_cases hm:F[n]∈a.zB
  ·simp only [hm,decide_true,if_true]
   rw [Qeh (by simp only [List.length_cons,List.length_nil]; unfold lim; omega)]
   simp only [Option.bind_some]
   have:=Qbat h fuel hge hF hcl hg (ms ++ [(n:Int)]) es (by omega)
   rw [Qb6 hn] at this
   simp only [Option.bind_some] at this
   rw [this]
   simp only [Option.bind_some]
   rw [Qcf (by omega),ih (ms ++ [(n:Int)],es ++ rowP a F n F[n]) ⟨by simp only [List.length_append,List.length_cons,List.length_nil]; omega,by simp only [List.length_append]; omega⟩]
   simp only [List.append_assoc]
  ·simp only [hm,decide_false,Bool.false_eq_true,if_false,Option.bind_some]
   have:=Qbat h fuel hge hF hcl hg ms es (by omega)
   rw [Qb6 hn] at this
   simp only [Option.bind_some] at this
   rw [this]
   simp only [Option.bind_some]
   rw [Qcf (by omega),ih (ms,es ++ rowP a F n F[n]) ⟨by simp only; omega,by simp only [List.length_append]; omega⟩]
   simp only [List.append_assoc,List.nil_append]
 ·rintro k ⟨ms,es⟩ _
  dsimp only
  rw [if_neg (by omega)]
  simp [Q15,Q16]
end
end Go.Abs
end
section
namespace Go.Abs
open Go
structure Evs (l:List Int):Prop where
 rg:∀ x∈l,0≤x∧x < 5
 so:l.Pairwise (· < ·)
theorem Evs.len {l:List Int} (h:Evs l):l.length≤5:=by have:=Qko h.so h.rg; simpa using this
def Qbja:List Int→Bool
 | []=>true
 | x :: xs=>xs.all (fun y=>decide (x < y)) && Qbja xs
theorem Qbc3:∀ {l:List Int},Qbja l=true→l.Pairwise (· < ·)
 | [],_=>.nil
 | x :: xs,h=>by
  simp only [Qbja,Bool.and_eq_true,List.all_eq_true,decide_eq_true_eq] at h
  exact List.pairwise_cons.2 ⟨h.1,Qbc3 h.2⟩
def evB (s:Nat):Bool:=match Qca (s:Int) with
 | some l=>Qbja l && l.all fun x=>decide (0≤x) && decide (x < 5)
 | none=>false
theorem Qbkt:(List.range 256).all evB=true:=by kernel_rfl
theorem Qbhy {s:Int} (h0:0≤s) (h1:s < 256):∃ l,Qca s=some l∧Evs l:=by
 have:=List.all_eq_true.1 Qbkt s.toNat (List.mem_range.2 (by omega))
 unfold evB at this
 rw [show ((s.toNat:Nat):Int)=s from by omega] at this
 split at this
 ·rename_i l hl
  simp only [Bool.and_eq_true,List.all_eq_true,decide_eq_true_eq] at this
  exact ⟨l,hl,fun x hx=>this.2 x hx,Qbc3 this.1⟩
 ·cases this
structure Mks (n:Nat) (ms:List Int):Prop where
 rg:∀ x∈ms,0≤x∧x < n
 so:ms.Pairwise (· < ·)
structure Eds (al:List Int) (N:Int) (i k:Nat) (es:List Qd):Prop where
 rg:∀ x∈es,0≤x.From∧0≤x.To∧x.To < N∧x.Event∈al∧(x.From < i∨x.From=i∧∃ j:Nat,j < k∧al[j]? = some x.Event)
 so:es.Pairwise Qjo
 ln:es.length≤5 * i+k
theorem Mks.up {n:Nat} {ms:List Int} (h:Mks n ms):Mks (n+1) ms:=⟨fun x hx=>by have:=h.rg x hx; omega,h.so⟩
theorem Mks.add {n:Nat} {ms:List Int} (h:Mks n ms):Mks (n+1) (ms ++ [(n:Int)]):=by
 refine ⟨fun x hx=>?_,?_⟩
 ·rcases List.mem_append.1 hx with hx | hx
  ·have:=h.rg x hx; omega
  ·simp at hx; omega
 ·rw [List.pairwise_append]
  exact ⟨h.so,by simp,fun x hx y hy=>by simp at hy; have:=h.rg x hx; omega⟩
theorem Mks.len {n:Nat} {ms:List Int} (h:Mks n ms):ms.length≤n:=by have:=Qko h.so h.rg; simpa using this
section
variable {al:List Int} (hal:Evs al) {N:Int} {i k:Nat} {es:List Qd}
theorem Eds.up (h:Eds al N i k es):Eds al N i (k+1) es:=⟨fun x hx=>by
 obtain ⟨h1,h2,h3,h4,h5⟩:=h.rg x hx
 refine ⟨h1,h2,h3,h4,?_⟩
 rcases h5 with h5 | ⟨h5,j,h6,h7⟩
 ·exact .inl h5
 ·exact .inr ⟨h5,j,by omega,h7⟩,h.so,by have:=h.ln; omega⟩
theorem Eds.next (h:Eds al N i k es) (hk:k≤5):Eds al N (i+1) 0 es:=⟨fun x hx=>by
 obtain ⟨h1,h2,h3,h4,h5⟩:=h.rg x hx
 exact ⟨h1,h2,h3,h4,.inl (by rcases h5 with h5 | ⟨h5,_⟩ <;> omega)⟩,h.so,by have:=h.ln; omega⟩
include hal in
theorem Eds.add (h:Eds al N i k es) (hk:k < al.length) {t:Int} (ht:0≤t∧t < N):Eds al N i (k+1) (es ++ [⟨(i:Int),al[k],t⟩]):=by
 refine ⟨fun x hx=>?_,?_,by have:=h.ln; simp only [List.length_append,List.length_cons,List.length_nil]; omega⟩
 ·rcases List.mem_append.1 hx with hx | hx
  ·exact h.up.rg x hx
  ·simp at hx; subst hx
   exact ⟨by simp only; omega,ht.1,ht.2,List.getElem_mem hk,.inr ⟨rfl,k,by omega,List.getElem?_eq_getElem hk⟩⟩
 ·rw [List.pairwise_append]
  refine ⟨h.so,by simp,fun x hx y hy=>?_⟩
  simp at hy; subst hy
  obtain ⟨_,_,_,_,h5⟩:=h.rg x hx
  rcases h5 with h5 | ⟨h5,j,h6,h7⟩
  ·exact .inl h5
  ·refine .inr ⟨h5,?_⟩
   obtain ⟨h8,h9⟩:=List.getElem?_eq_some_iff.1 h7
   rw [← h9]
   exact List.pairwise_iff_getElem.1 hal.so j k h8 hk h6
end
structure Q9g (g:Qf):Prop where
 st:0≤g.zD∧g.zD < 256
 to:∀ x∈[g.To.1.1,g.To.1.2.1,g.To.1.2.2.1,g.To.1.2.2.2.1,g.To.1.2.2.2.2,g.To.2.1.1,g.To.2.1.2.1,g.To.2.1.2.2.1,g.To.2.1.2.2.2.1,g.To.2.1.2.2.2.2,g.To.2.2.1.1,g.To.2.2.1.2.1,g.To.2.2.1.2.2.1,g.To.2.2.1.2.2.2.1,g.To.2.2.1.2.2.2.2,g.To.2.2.2.1.1,g.To.2.2.2.1.2.1,g.To.2.2.2.1.2.2.1,g.To.2.2.2.1.2.2.2.1,g.To.2.2.2.1.2.2.2.2,g.To.2.2.2.2.1,g.To.2.2.2.2.2.1,g.To.2.2.2.2.2.2.1,g.To.2.2.2.2.2.2.2.1,g.To.2.2.2.2.2.2.2.2],0≤x∧x < 256
theorem Qbe5 {al:List Int} (hal:Evs al) (fuel:Nat) (hfu:1099511627776≤fuel) {L:List Int} (hL:L.length=25) (hL2:∀ x∈L,0≤x∧x < 256) {N:Int} (hN:1≤N∧N≤5) {i:Nat} (hi:(i:Int) < N) {ms:List Int} {es:List Qd} (hes:Eds al N i 0 es) :
  ∃ es',Eds al N (i+1) 0 es' ∧ Qda (fun (k25:Int×List Qd→Option (List Int×List Qd)) ((k23,a24):Int×(List Qd))=>(((if (k23 < (al.length:Int)) then some (decide (k23 < 5)) else some false)).bind fun (x27:Bool)=>(if x27 then ((((inO 5 (i:Int)).bind fun _=>((inO 5 k23).bind fun _=>((rowO L (Int.toNat (i:Int) * 5+Int.toNat k23 * 1)).bind fun x31=>((remO .i64 (IntKind.wrap .i64 x31) (IntKind.wrap .i64 (N+2))).bind fun s33=>(if (s33 < N) then ((getO al k23).bind fun x36=>((appO a24 [(Qd.mk (i:Int) x36 s33)]).bind fun x38=>some x38)) else some a24)))))).bind fun (a40:List Qd)=>k25 ((IntKind.wrap .i64 (k23+1)),a40)) else some (ms,a24)))) fuel (0,es)=some (ms,es'):=by
 have hl:=hal.len
 have:=Qhc (F:=fun (k25:Int×List Qd→Option (List Int×List Qd)) ((k23,a24):Int×(List Qd))=>(((if (k23 < (al.length:Int)) then some (decide (k23 < 5)) else some false)).bind fun (x27:Bool)=>(if x27 then ((((inO 5 (i:Int)).bind fun _=>((inO 5 k23).bind fun _=>((rowO L (Int.toNat (i:Int) * 5+Int.toNat k23 * 1)).bind fun x31=>((remO .i64 (IntKind.wrap .i64 x31) (IntKind.wrap .i64 (N+2))).bind fun s33=>(if (s33 < N) then ((getO al k23).bind fun x36=>((appO a24 [(Qd.mk (i:Int) x36 s33)]).bind fun x38=>some x38)) else some a24)))))).bind fun (a40:List Qd)=>k25 ((IntKind.wrap .i64 (k23+1)),a40)) else some (ms,a24))))
  (fun x=>∃ k:Nat,x.1=(k:Int)∧k≤al.length∧Eds al N i k x.2) (fun x=>al.length - x.1.toNat) (fun _ r=>∃ es',r=some (ms,es')∧Eds al N (i+1) 0 es') (by
   rintro kk ⟨k,es⟩ ⟨k,rfl,hk,he⟩ ih
   replace he:Eds al N i k es:=he
   replace hk:k≤al.length:=hk
   dsimp only
   by_cases hlt:k < al.length
   ·rw [if_pos (by omega)]
    simp only [Option.bind_some,show decide ((k:Int) < 5)=true from by simp; omega,if_true]
    rw [show inO 5 (i:Int)=some () from by unfold inO; rw [if_pos (by omega)],show inO 5 (k:Int)=some () from by unfold inO; rw [if_pos (by omega)]]
    simp only [Option.bind_some,Int.toNat_natCast]
    have hidx:i * 5+k * 1 < L.length:=by omega
    have hx:=hL2 _ (List.getElem_mem hidx)
    rw [show rowO L (i * 5+k * 1)=some L[i * 5+k * 1] from by unfold rowO; exact List.getElem?_eq_getElem hidx]
    simp only [Option.bind_some]
    rw [Qzp (x:=L[i * 5+k * 1]) (by omega) (by omega),Qzp (x:=N+2) (by omega) (by omega),show remO .i64 L[i * 5+k * 1] (N+2)=some (L[i * 5+k * 1].tmod (N+2)) from by unfold remO; rw [if_neg (by omega)]]
    simp only [Option.bind_some]
    have hmod:0≤L[i * 5+k * 1].tmod (N+2):=Int.tmod_nonneg _ hx.1
    have hln:=he.ln
    by_cases hm:L[i * 5+k * 1].tmod (N+2) < N
    ·rw [if_pos hm,Qb6 hlt]
     simp only [Option.bind_some]
     rw [Qeh (by simp only [List.length_cons,List.length_nil]; unfold lim; omega)]
     simp only [Option.bind_some]
     rw [Qcf (by omega)]
     exact ih _ ⟨k+1,rfl,hlt,he.add hal hlt ⟨hmod,hm⟩⟩ (by simp only; omega)
    ·rw [if_neg hm]
     simp only [Option.bind_some]
     rw [Qcf (by omega)]
     exact ih _ ⟨k+1,rfl,hlt,he.up⟩ (by simp only; omega)
   ·rw [if_neg (by omega)]
    exact ⟨es,rfl,he.next (by omega)⟩) fuel (0,es) ⟨0,rfl,Nat.zero_le _,hes⟩ (by simp only; omega)
 obtain ⟨es',h1,h2⟩:=this
 exact ⟨es',h2,h1⟩
theorem Qbd1 {al:List Int} (hal:Evs al):Right ⟨al,0,[],[]⟩ :=
 ⟨fun x hx=>by have:=hal.rg x hx; omega,hal.so,⟨by simp,by simp⟩,by simp,.nil,by simp,.nil⟩
theorem Qbku {al:List Int} (hal:Evs al) {g:Qf} (hg:Q9g g):∃ m,Right m∧m.zA=al∧Qde al g=some (Q5e m)∧m.zD≤5:=by
 have hl:=hal.len
 obtain ⟨hst,hto⟩:=hg
 unfold Qde Qb1
 obtain ⟨fuel,hfu,hge⟩ : ∃ f,Qb7=f∧1099511627776≤f:=⟨_,rfl,Nat.le_refl _⟩
 rw [hfu,Qbe4 (by unfold lim; omega)]
 simp only [Option.bind_some]
 by_cases h250:g.zD≥250
 ·rw [if_pos h250]
  exact ⟨⟨al,0,[],[]⟩,Qbd1 hal,rfl,rfl,by simp⟩
 rw [if_neg h250]
 have hL:[g.To.1.1,g.To.1.2.1,g.To.1.2.2.1,g.To.1.2.2.2.1,g.To.1.2.2.2.2,g.To.2.1.1,g.To.2.1.2.1,g.To.2.1.2.2.1,g.To.2.1.2.2.2.1,g.To.2.1.2.2.2.2,g.To.2.2.1.1,g.To.2.2.1.2.1,g.To.2.2.1.2.2.1,g.To.2.2.1.2.2.2.1,g.To.2.2.1.2.2.2.2,g.To.2.2.2.1.1,g.To.2.2.2.1.2.1,g.To.2.2.2.1.2.2.1,g.To.2.2.2.1.2.2.2.1,g.To.2.2.2.1.2.2.2.2,g.To.2.2.2.2.1,g.To.2.2.2.2.2.1,g.To.2.2.2.2.2.2.1,g.To.2.2.2.2.2.2.2.1,g.To.2.2.2.2.2.2.2.2].length=25:=rfl
 generalize [g.To.1.1,g.To.1.2.1,g.To.1.2.2.1,g.To.1.2.2.2.1,g.To.1.2.2.2.2,g.To.2.1.1,g.To.2.1.2.1,g.To.2.1.2.2.1,g.To.2.1.2.2.2.1,g.To.2.1.2.2.2.2,g.To.2.2.1.1,g.To.2.2.1.2.1,g.To.2.2.1.2.2.1,g.To.2.2.1.2.2.2.1,g.To.2.2.1.2.2.2.2,g.To.2.2.2.1.1,g.To.2.2.2.1.2.1,g.To.2.2.2.1.2.2.1,g.To.2.2.2.1.2.2.2.1,g.To.2.2.2.1.2.2.2.2,g.To.2.2.2.2.1,g.To.2.2.2.2.2.1,g.To.2.2.2.2.2.2.1,g.To.2.2.2.2.2.2.2.1,g.To.2.2.2.2.2.2.2.2]=L at hto hL ⊢
 have hmod:0≤g.zD.tmod 5∧g.zD.tmod 5 < 5:=⟨Int.tmod_nonneg _ hst.1,Int.tmod_lt_of_pos _ (by omega)⟩
 have hN:1≤IntKind.wrap .i64 (1+(IntKind.wrap .i64 (Int.tmod g.zD 5)))∧IntKind.wrap .i64 (1+(IntKind.wrap .i64 (Int.tmod g.zD 5)))≤5:=by
  rw [Qzp (x:=g.zD.tmod 5) (by omega) (by omega),Qzp (by omega) (by omega)]; omega
 generalize IntKind.wrap .i64 (1+(IntKind.wrap .i64 (Int.tmod g.zD 5)))=N at hN ⊢
 have hloop:=Qhc (F:=(fun (k15:Int×List Int×List Int×List Qd×Int×List Int×List Qd→Option (List Int×List Int×List Qd×Int×List Int×List Qd)) ((i8,c9,c10,c11,a12,a13,a14):Int×(List Int)×(List Int)×(List Qd)×Int×(List Int)×(List Qd))=>(if (i8 < a12) then ((((((shrO .u8 g.Marks i8).bind fun s17=>(if ((andI .u8 s17 1) == 1) then ((appO a13 [i8]).bind fun x20=>some x20) else some a13))).bind fun (a22:List Int)=>Qda (fun k25 ((k23,a24):Int×(List Qd))=>(((if (k23 < (al.length:Int)) then some (decide (k23 < 5)) else some false)).bind fun (x27:Bool)=>(if x27 then ((((inO 5 i8).bind fun _=>((inO 5 k23).bind fun _=>((rowO L (Int.toNat i8 * 5+Int.toNat k23 * 1)).bind fun x31=>((remO .i64 (IntKind.wrap .i64 x31) (IntKind.wrap .i64 (a12+2))).bind fun s33=>(if (s33 < a12) then ((getO al k23).bind fun x36=>((appO a24 [(Qd.mk i8 x36 s33)]).bind fun x38=>some x38)) else some a24)))))).bind fun (a40:List Qd)=>k25 ((IntKind.wrap .i64 (k23+1)),a40)) else some (a22,a24)))) fuel (0,a14))).bind fun ((a41,a42):(List Int)×(List Qd))=>k15 ((IntKind.wrap .i64 (i8+1)),c9,c10,c11,a12,a41,a42)) else some (c9,c10,c11,a12,a13,a14))))
  (fun x=>∃ (i:Nat) (ms:List Int) (es:List Qd),x=((i:Int),[],[],[],N,ms,es)∧(i:Int)≤N∧Mks i ms∧Eds al N i 0 es) (fun x=>(N - x.1).toNat)
  (fun _ r=>∃ (i:Nat) (ms:List Int) (es:List Qd),r=some ([],[],[],N,ms,es)∧(i:Int)=N∧Mks i ms∧Eds al N i 0 es) (by
   rintro k _ ⟨i,ms,es,rfl,hi,hm,he⟩ ih
   dsimp only
   by_cases hlt:(i:Int) < N
   ·rw [if_pos hlt,show shrO .u8 g.Marks (i:Int)=some (g.Marks.fdiv (2 ^ (min (Int.toNat (i:Int)) (IntKind.bits .u8)))) from by unfold shrO; rw [if_neg (by omega)]]
    simp only [Option.bind_some]
    have hml:=hm.len
    by_cases hb:(andI .u8 (g.Marks.fdiv (2 ^ (min (Int.toNat (i:Int)) (IntKind.bits .u8)))) 1 == 1)=true
    ·rw [if_pos hb,Qeh (by simp only [List.length_cons,List.length_nil]; unfold lim; omega)]
     simp only [Option.bind_some]
     obtain ⟨es',h1,h2⟩:=Qbe5 hal fuel hge hL hto hN hlt (ms:=ms ++ [(i:Int)]) he
     rw [h2]
     simp only [Option.bind_some]
     rw [Qcf (by omega)]
     exact ih _ ⟨i+1,_,_,rfl,by omega,hm.add,h1⟩ (by simp only; omega)
    ·rw [if_neg hb]
     simp only [Option.bind_some]
     obtain ⟨es',h1,h2⟩:=Qbe5 hal fuel hge hL hto hN hlt (ms:=ms) he
     rw [h2]
     simp only [Option.bind_some]
     rw [Qcf (by omega)]
     exact ih _ ⟨i+1,_,_,rfl,by omega,hm.up,h1⟩ (by simp only; omega)
   ·rw [if_neg hlt]
    exact ⟨i,ms,es,rfl,by omega,hm,he⟩) fuel (0,[],[],[],N,[],[]) ⟨0,[],[],rfl,by omega,⟨by simp,.nil⟩,⟨by simp,.nil,by simp⟩⟩ (by simp only; omega)
 obtain ⟨i,ms,es,h1,h2,h3,h4⟩:=hloop
 rw [h1]
 simp only [Option.bind_some]
 have hr:Right ⟨al,N,ms,es⟩:=⟨fun x hx=>by have:=hal.rg x hx; omega,hal.so,⟨by simp only; omega,by simp only; omega⟩,fun x hx=>by have:=h3.rg x hx; simp only; omega,h3.so,fun x hx=>by
  obtain ⟨k1,k2,k3,k4,k5⟩:=h4.rg x hx
  refine ⟨k1,?_,k2,k3,k4⟩
  rcases k5 with k5 | ⟨_,j,k6,_⟩
  ·simp only; omega
  ·omega,h4.so⟩
 rw [Q9f hr]
 exact ⟨_,hr,rfl,rfl,by simp only; omega⟩
end Go.Abs
end
section
namespace Go.Abs
open Go
def upto (n:Int):List Int:=(List.range n.toNat).map fun (i:Nat)=>(i:Int)
theorem Qbe6 {n x:Int}:x∈upto n↔0≤x∧x < n:=by
 simp only [upto,List.mem_map,List.mem_range]
 constructor
 ·rintro ⟨i,hi,rfl⟩; omega
 ·rintro ⟨h1,h2⟩; exact ⟨x.toNat,by omega,by omega⟩
theorem Qbe7 (n:Int):(upto n).length=n.toNat:=by simp [upto]
theorem Q9h {X S R α:Type} {F:(X→Option R)→X→Option R} {fuel:Nat} {l:List α} (mk:Int→S→X) (stp:S→α→S) (I:Nat→S→Prop) (K:S→Option R) (hl:l.length < big) (hf:1099511627776≤fuel)
  (step:∀ (k:X→Option R) (n:Nat) (s:S) (h:n < l.length),I n s→F k (mk n s)=k (mk (IntKind.wrap .i64 ((n:Int)+1)) (stp s l[n])))
  (keep:∀ (n:Nat) (s:S) (h:n < l.length),I n s→I (n+1) (stp s l[n]))
  (last:∀ (k:X→Option R) (s:S),I l.length s→F k (mk l.length s)=K s) {s0:S} (h0:I 0 s0):Qda F fuel (mk 0 s0)=K (l.foldl stp s0):=by
 have hb:l.length < 1000000000000:=hl
 have:=Qsk (F:=F) (len:=l.length) (fun n s=>mk n s) I (fun n s=>K ((l.drop n).foldl stp s)) (fun k n s hn hi ih=>by
  rw [step k n s hn hi,Qcf (by omega),ih _ (keep n s hn hi),List.drop_eq_getElem_cons hn,List.foldl_cons]) (fun k s hi=>by rw [last k s hi]; simp) fuel 0 s0 (Nat.zero_le _) (by omega) h0
 simpa using this
theorem Qbhz {X R α:Type} {F:(X→Option R)→X→Option R} {fuel:Nat} {l:List α} (mk:Int→X) (p:α→Bool) (hit:α→Option R) (K:Option R) (hl:l.length < big) (hf:1099511627776≤fuel)
  (step:∀ (k:X→Option R) (n:Nat) (h:n < l.length),F k (mk n)=if p l[n] then hit l[n] else k (mk (IntKind.wrap .i64 ((n:Int)+1))))
  (last:∀ (k:X→Option R),F k (mk l.length)=K):Qda F fuel (mk 0)=match l.find? p with | some x=>hit x | none=>K:=by
 have hb:l.length < 1000000000000:=hl
 have:=Qsk (F:=F) (len:=l.length) (fun n (_:Unit)=>mk n) (fun _ _=>True) (fun n _=>match (l.drop n).find? p with | some x=>hit x | none=>K) (fun k n s hn hi ih=>by
  rw [step k n hn,Qcf (by omega),ih () trivial,List.drop_eq_getElem_cons hn,List.find?_cons]
  cases p l[n] <;> simp) (fun k s hi=>by rw [last k]; simp) fuel 0 () (Nat.zero_le _) (by omega) trivial
 simpa using this
def at0 {α:Type} (d:α) (l:List α) (x:Int):α:=l.getD x.toNat d
theorem Qbl8 {α:Type} {d:α} {l:List α} {x:Int} (h0:0≤x) (h1:x < l.length):getO l x=some (at0 d l x):=by
 have h:x.toNat < l.length:=by omega
 unfold getO at0
 rw [if_pos h0,List.getD_eq_getElem?_getD,List.getElem?_eq_getElem h]; rfl
theorem Qbkv {α:Type} {l:List α} {x:Int} {y:α} (h0:0≤x) (h1:x < l.length):setO l x y=some (l.set x.toNat y):=by
 unfold setO; rw [if_pos ⟨h0,by omega⟩]
theorem Qbj0 {n:Nat} {x:Int} (h0:0≤x) (h1:x < n):inO n x=some ():=by
 unfold inO; rw [if_pos ⟨h0,h1⟩]
theorem Qbh0 {α:Type} {l:List α} {n:Nat} (h:l.length=n):lenO l n=some ():=by
 unfold lenO; rw [if_pos h]
end Go.Abs
end
section
namespace Go.Abs
open Go
theorem Qbkw (x y:Int):Qhx x y=some (decide (x < y)):=by
 unfold Qhx Qdn Qnp Qcz
 simp
theorem Qbjb (x:Int):Qgu x=some false:=by
 unfold Qgu Qb5
 simp
theorem Qbh1 {l:List Int} (h:l.Pairwise (· < ·)) (v:Int):l.Pairwise fun a b=>decide (b < v)=true→decide (a < v)=true :=
 h.imp fun h=>by simp; omega
theorem Qbh2 {l:List Int} {v:Int} (hs:l.Pairwise (· < ·)) (hl:l.length < big):∃ n,Qdp l v=some (n,decide (v∈l)):=by
 have hc:=fun n h=>Qbap (p:=fun x:Int=>decide (x < v)) (Qbh1 hs v) n h
 have hcl:(l.filter fun x=>decide (x < v)).length≤l.length:=List.length_filter_le _ _
 generalize (l.filter fun x=>decide (x < v)).length=c at hc hcl
 have hb:l.length < 1000000000000:=hl
 unfold Qdp Qba
 obtain ⟨fuel,hfu,hge⟩ : ∃ f,Qb7=f∧1099511627776≤f:=⟨_,rfl,Nat.le_refl _⟩
 rw [hfu]
 have hloop:=Qhc (F:=fun (k5:Int×Int→Option Int) ((i3,j4):Int×Int)=>(if (i3 < j4) then ((getO l (IntKind.wrap .i64 (Int.fdiv (IntKind.wrap .u64 (IntKind.wrap .i64 (i3+j4))) (2 ^ (min (Int.toNat 1) (IntKind.bits .u64)))))).bind fun x7=>((Qhx x7 v).bind fun x10=>(if x10 then k5 ((IntKind.wrap .i64 ((IntKind.wrap .i64 (Int.fdiv (IntKind.wrap .u64 (IntKind.wrap .i64 (i3+j4))) (2 ^ (min (Int.toNat 1) (IntKind.bits .u64)))))+1)),j4) else k5 (i3,(IntKind.wrap .i64 (Int.fdiv (IntKind.wrap .u64 (IntKind.wrap .i64 (i3+j4))) (2 ^ (min (Int.toNat 1) (IntKind.bits .u64))))))))) else some i3))
  (fun x=>∃ i j:Nat,x=((i:Int),(j:Int))∧i≤c∧c≤j∧j≤l.length) (fun x=>(x.2 - x.1).toNat) (fun _ r=>r=some (c:Int)) (by
   rintro k _ ⟨i,j,rfl,h1,h2,h3⟩ ih
   dsimp only
   by_cases hij:i < j
   ·rw [if_pos (by omega),Qbly (by omega) (by omega)]
    have hm:(i+j) / 2 < l.length:=by omega
    rw [Qb6 hm]
    simp only [Option.bind_some]
    rw [Qbkw]
    simp only [Option.bind_some]
    have hcm:=hc ((i+j) / 2) hm
    by_cases hlt:l[(i+j) / 2] < v
    ·rw [if_pos (by simpa using hlt),Qcf (by omega)]
     have:(i+j) / 2 < c:=hcm.1 (by simpa using hlt)
     exact ih _ ⟨_,_,rfl,by omega,h2,h3⟩ (by simp only; omega)
    ·rw [if_neg (by simpa using hlt)]
     have:¬ (i+j) / 2 < c:=fun h=>hlt (by simpa using hcm.2 h)
     exact ih _ ⟨_,_,rfl,h1,by omega,by omega⟩ (by simp only; omega)
   ·rw [if_neg (by omega)]
    have:i=c:=by omega
    rw [this]) fuel (0,(l.length:Int)) ⟨0,l.length,rfl,by omega,hcl,Nat.le_refl _⟩ (by simp only; omega)
 rw [hloop]
 simp only [Option.bind_some]
 have hmem:v∈l↔∃ h:c < l.length,l[c]=v:=by
  constructor
  ·intro hv
   obtain ⟨j,hj,rfl⟩:=List.getElem_of_mem hv
   have h1:¬ j < c:=fun h=>by have:=(hc j hj).2 h; simp at this
   have h2:c < l.length:=by omega
   refine ⟨h2,?_⟩
   have h3:¬ l[c] < l[j]:=fun h=>by have:=(hc c h2).1 (by simpa using h); omega
   rcases Nat.lt_or_ge c j with h | h
   ·have:=List.pairwise_iff_getElem.1 hs c j h2 hj h; omega
   ·have:c=j:=by omega
    subst this; rfl
  ·rintro ⟨h,rfl⟩; exact List.getElem_mem h
 by_cases hlt:c < l.length
 ·rw [if_pos (by omega),Qb6 hlt]
  simp only [Option.bind_some]
  by_cases he:l[c]=v
  ·rw [if_pos (by simpa using he)]
   exact ⟨_,by rw [decide_eq_true (hmem.2 ⟨hlt,he⟩)]⟩
  ·rw [if_neg (by simpa using he),Qbjb]
   exact ⟨_,by rw [decide_eq_false (fun h=>he (hmem.1 h).2)]; rfl⟩
 ·rw [if_neg (by omega)]
  exact ⟨_,by rw [decide_eq_false (fun h=>hlt (hmem.1 h).1)]⟩
structure Num (a:Qa) (o num:List Int):Prop where
 len:num.length=a.zD.toNat
 at1:∀ s:Nat,s < a.zD.toNat→num[s]? = some (if (s:Int)∈o then (o.idxOf (s:Int):Int) else -1)
theorem Num.get {a:Qa} {o num:List Int} (h:Num a o num) {t:Int} (ht:0≤t∧t < a.zD):getO num t=some (if t∈o then (o.idxOf t:Int) else -1):=by
 rw [Q89]
 refine ⟨ht.1,?_⟩
 have:=h.at1 t.toNat (by omega)
 rwa [show ((t.toNat:Nat):Int)=t from by omega] at this
theorem Num.set {a:Qa} {o num:List Int} (h:Num a o num) {t:Int} (ht:0≤t∧t < a.zD) (hn:t∉o):∃ num',setO num t (o.length:Int)=some num' ∧ Num a (o ++ [t]) num':=by
 refine ⟨num.set t.toNat (o.length:Int),by unfold setO; rw [if_pos ⟨ht.1,by rw [h.len]; omega⟩],by rw [List.length_set]; exact h.len,fun s hs=>?_⟩
 rw [List.getElem?_set]
 by_cases he:t.toNat=s
 ·subst he
  rw [if_pos rfl,if_pos (by rw [h.len]; omega),show ((t.toNat:Nat):Int)=t from by omega,if_pos (by simp),List.idxOf_append,if_neg hn]
  simp
 ·rw [if_neg he,h.at1 s hs]
  have hne:(s:Int)≠t:=by omega
  by_cases hm:(s:Int)∈o
  ·rw [if_pos hm,if_pos (by simp [hm]),List.idxOf_append,if_pos hm]
  ·rw [if_neg hm,if_neg (by simp [hm,hne])]
section
variable {a:Qa} (h:Right a)
include h
end
end Go.Abs
end
section
namespace Go.Abs
open Go
theorem Qkp (a b:ByteArray):(a == b)=decide (a=b):=by
 cases a; cases b
 rw [Bool.eq_iff_iff]
 simp only [decide_eq_true_eq,ByteArray.mk.injEq]
 exact beq_iff_eq (α:=Array UInt8)
theorem Qbd2 {i j:Nat} (hi:i < 10) (hj:j < 10) (h:UInt8.ofNat (48+i)=UInt8.ofNat (48+j)):i=j:=by
 have:=congrArg UInt8.toNat h
 simp only [UInt8.toNat_ofNat'] at this
 omega
theorem Qbj1 {i:Nat} (hi:i < 10) (h:UInt8.ofNat (48+i)=32):False:=by
 have:=congrArg UInt8.toNat h
 simp only [UInt8.toNat_ofNat'] at this
 have h32:(32:UInt8).toNat=32:=rfl
 omega
theorem Qbkx {x y:Nat} (hx:x < 100) (hy:y < 100) {s t:List UInt8} (h:Lib.decDigits x ++ 32 :: s=Lib.decDigits y ++ 32 :: t):x=y∧s=t:=by
 by_cases h1:x < 10 <;> by_cases h2:y < 10
 ·rw [Lib.decDigits_one h1,Lib.decDigits_one h2] at h
  simp only [List.cons_append,List.nil_append,List.cons.injEq] at h
  exact ⟨Qbd2 h1 h2 h.1,h.2.2⟩
 ·rw [Lib.decDigits_one h1,Lib.decDigits_two h2 hy] at h
  simp only [List.cons_append,List.nil_append,List.cons.injEq] at h
  exact (Qbj1 (by omega) h.2.1.symm).elim
 ·rw [Lib.decDigits_two h1 hx,Lib.decDigits_one h2] at h
  simp only [List.cons_append,List.nil_append,List.cons.injEq] at h
  exact (Qbj1 (by omega) h.2.1).elim
 ·rw [Lib.decDigits_two h1 hx,Lib.decDigits_two h2 hy] at h
  simp only [List.cons_append,List.nil_append,List.cons.injEq] at h
  have e1:=Qbd2 (by omega) (by omega) h.1
  have e2:=Qbd2 (by omega) (by omega) h.2.1
  exact ⟨by omega,h.2.2.2⟩
def Qbbq (t:List Int):Prop:=∀ x∈t,0≤x∧x < 100
theorem Qbc4:∀ {l m:List Int},Qbbq l→Qbbq m→keyL l=keyL m→l=m
 | [],[],_,_,_=>rfl
 | [],y :: m,_,_,h=>by
  have:=congrArg List.length h
  simp [keyL] at this
 | x :: l,[],_,_,h=>by
  have:=congrArg List.length h
  simp [keyL] at this
 | x :: l,y :: m,hl,hm,h=>by
  have hx:=hl x (by simp)
  have hy:=hm y (by simp)
  have h' : Lib.decDigits x.toNat ++ 32 :: keyL l=Lib.decDigits y.toNat ++ 32 :: keyL m:=by simpa [keyL] using h
  obtain ⟨h1,h2⟩:=Qbkx (by omega) (by omega) h'
  rw [Qbc4 (fun z hz=>hl z (by simp [hz])) (fun z hz=>hm z (by simp [hz])) h2,show x=y from by omega]
theorem Qbh3 {l m:List Int} (hl:Qbbq l) (hm:Qbbq m) (h:keyB l=keyB m):l=m:=by
 unfold keyB at h
 simp only [ByteArray.mk.injEq] at h
 exact Qbc4 hl hm (by simpa using congrArg Array.toList h)
theorem Qbc5 {β:Type} {v:β} {k k' : ByteArray}:∀ {m:List (ByteArray×β)},hasM (setM m k v) k' = (decide (k' = k) || hasM m k')
 | []=>by simp [setM,hasM,Qkp]
 | (q,w) :: m=>by
  by_cases h1:k=q
  ·subst h1
   simp only [setM,Qkp,decide_true,if_true,Qxr]
   cases decide (k' = k) <;> simp
  ·simp only [setM,Qkp,decide_eq_false h1,Bool.false_eq_true,if_false,Qxr,Qbc5 (m:=m)]
   cases decide (k' = q) <;> cases decide (k' = k) <;> simp
theorem Qbc6 {β:Type} {z v:β} {k k' : ByteArray}:∀ {m:List (ByteArray×β)},getM (setM m k v) k' z=if k' = k then v else getM m k' z
 | []=>by simp [setM,getM,Qkp]
 | (q,w) :: m=>by
  by_cases h1:k=q
  ·subst h1
   by_cases h2:k' = k <;> simp [setM,getM,Qkp,h2]
  ·by_cases h2:k' = q
   ·subst h2
    have h3:¬ k' = k:=fun e=>h1 e.symm
    simp [setM,getM,Qkp,h1,h3]
   ·simp [setM,getM,Qkp,h1,h2,Qbc6 (m:=m)]
def MapK (m:List (ByteArray×Int)) (st:List (List Int)):Prop:=∀ r,Qbbq r→hasM m (keyB r)=decide (r∈st)∧(r∈st→getM m (keyB r) 0=(st.idxOf r:Int))
theorem MapK.ins {m:List (ByteArray×Int)} {st:List (List Int)} (h:MapK m st) {r:List Int} (hr:r∉st) (hk:Qbbq r):MapK (setM m (keyB r) (st.length:Int)) (st ++ [r]):=by
 intro x hx
 obtain ⟨h1,h2⟩:=h x hx
 have hiff:keyB x=keyB r↔x=r:=⟨fun e=>Qbh3 hx hk e,fun e=>by rw [e]⟩
 refine ⟨?_,fun hm=>?_⟩
 ·rw [Qbc5,h1,Bool.eq_iff_iff]; simp [hiff]; exact Or.comm
 ·rw [Qbc6]
  by_cases hxr:x=r
  ·subst hxr
   rw [if_pos rfl,List.idxOf_append]
   simp [hr]
  ·rw [if_neg (fun e=>hxr (hiff.1 e))]
   have hx' : x∈st:=by
    rcases List.mem_append.1 hm with hx | hx
    ·exact hx
    ·simp at hx; exact absurd hx hxr
   rw [h2 hx',List.idxOf_append,if_pos hx']
abbrev TS:=List (List Int)×List Qd×List (ByteArray×Int)
def rowM (stp:List Int→Int→Option (List Int)) (i:Nat) (s:List Int) (p:TS) (e:Int):TS :=
 match stp s e with
 | none=>p
 | some t=>if t∈p.1 then (p.1,p.2.1 ++ [⟨(i:Int),e,(p.1.idxOf t:Int)⟩],p.2.2) else (p.1 ++ [t],p.2.1 ++ [⟨(i:Int),e,(p.1.length:Int)⟩],setM p.2.2 (keyB t) (p.1.length:Int))
def bldM (stp:List Int→Int→Option (List Int)) (mk:List Int→Bool) (al:List Int):Nat→Nat→List Int→TS→List (List Int)×List Int×List Qd
 | 0,_,ms,p=>(p.1,ms,p.2.1)
 | f+1,i,ms,p=>match p.1[i]? with
  | none=>(p.1,ms,p.2.1)
  | some s=>bldM stp mk al f (i+1) (if mk s then ms ++ [(i:Int)] else ms) (al.foldl (rowM stp i s) p)
structure DomT (stp:List Int→Int→Option (List Int)) (al:List Int) (P:List Int→Prop) (N:Nat):Prop where
 ky:∀ x,P x→Qbbq x
 cl:∀ x,P x→∀ e∈al,∀ t,stp x e=some t→P t
 bd:∀ l:List (List Int),l.Nodup→(∀ x∈l,P x)→l.length≤N
 nn:N≤4000
 so:al.Pairwise (· < ·)
 rg:∀ x∈al,0≤x∧x < 32
structure FndT (al:List Int) (P:List Int→Prop) (i:Nat) (p:TS):Prop where
 nd:p.1.Nodup
 su:∀ x∈p.1,P x
 mp:MapK p.2.2 p.1
 ed:p.2.1.Pairwise Qjo
 er:∀ x∈p.2.1,0≤x.From∧x.From < i∧0≤x.To∧x.To < p.1.length∧x.Event∈al
theorem Qbe8 {l:List Int} (h:l.Pairwise (· < ·)) (h0:∀ x∈l,0≤x∧x < 32):l.length≤32:=by
 have hr:Right ⟨l,0,[],[]⟩:={ al0:=h0,al:=h,st:=⟨Int.le_refl 0,by show (0:Int)≤4096; decide⟩,ma0:=fun x hx=>by simp at hx,ma:=List.Pairwise.nil,ed0:=fun x hx=>by simp at hx,ed:=List.Pairwise.nil }
 exact hr.small.2.1
section
variable {stp:List Int→Int→Option (List Int)} {mk:List Int→Bool} {al:List Int} {P:List Int→Prop} {N:Nat} (hd:DomT stp al P N)
structure RowT (al:List Int) (P:List Int→Prop) (i:Nat) (done:List Int) (p0 p:TS):Prop where
 nd:p.1.Nodup
 su:∀ x∈p.1,P x
 mp:MapK p.2.2 p.1
 pre:p0.1 <+: p.1
 ed:p.2.1.Pairwise Qjo
 er:∀ x∈p.2.1,0≤x.From∧x.From≤i∧0≤x.To∧x.To < p.1.length∧x.Event∈al∧(x.From=i→x.Event∈done)
 ln:p.2.1.length≤p0.2.1.length+done.length
include hd
theorem RowT.step {i:Nat} {done:List Int} {p0 p:TS} {s:List Int} {e:Int} (h:RowT al P i done p0 p) (hs:P s) (he:e∈al) (hlt:∀ x∈done,x < e):RowT al P i (done ++ [e]) p0 (rowM stp i s p e):=by
 have hln:=h.ln
 unfold rowM
 cases hst:stp s e with
 | none =>
  exact ⟨h.nd,h.su,h.mp,h.pre,h.ed,fun x hx=>by
   obtain ⟨a1,a2,a3,a4,a5,a6⟩:=h.er x hx
   exact ⟨a1,a2,a3,a4,a5,fun hf=>List.mem_append_left _ (a6 hf)⟩,by simp only [List.length_append,List.length_cons,List.length_nil]; omega⟩
 | some t =>
  have ht:=hd.cl s hs e he t hst
  have new:∀ (k:Int),0≤k→∀ (L:List (List Int)),k < L.length→(p.1 <+: L)→(p.2.1 ++ [(⟨(i:Int),e,k⟩ : Qd)]).Pairwise Qjo ∧
    ∀ x∈p.2.1 ++ [(⟨(i:Int),e,k⟩ : Qd)],0≤x.From∧x.From≤i∧0≤x.To∧x.To < L.length∧x.Event∈al∧(x.From=i→x.Event∈done ++ [e]):=by
   intro k hk L hkL hpre
   have hle:=hpre.length_le
   refine ⟨List.pairwise_append.2 ⟨h.ed,List.pairwise_singleton _ _,fun x hx y hy=>?_⟩,fun x hx=>?_⟩
   ·simp only [List.mem_singleton] at hy; subst hy
    obtain ⟨a1,a2,a3,a4,a5,a6⟩:=h.er x hx
    unfold Qjo
    dsimp only
    by_cases hf:x.From=i
    ·exact .inr ⟨hf,hlt _ (a6 hf)⟩
    ·exact .inl (by omega)
   ·rcases List.mem_append.1 hx with hx | hx
    ·obtain ⟨a1,a2,a3,a4,a5,a6⟩:=h.er x hx
     exact ⟨a1,a2,a3,by omega,a5,fun hf=>List.mem_append_left _ (a6 hf)⟩
    ·simp only [List.mem_singleton] at hx; subst hx
     exact ⟨by dsimp only; omega,Int.le_refl _,hk,hkL,he,fun _=>by simp⟩
  dsimp only
  by_cases hm:t∈p.1
  ·rw [if_pos hm]
   obtain ⟨k1,k2⟩:=new (p.1.idxOf t:Int) (by omega) p.1 (by have:=List.idxOf_lt_length_of_mem hm; omega) (List.prefix_refl _)
   exact ⟨h.nd,h.su,h.mp,h.pre,k1,k2,by simp only [List.length_append,List.length_cons,List.length_nil]; omega⟩
  ·rw [if_neg hm]
   obtain ⟨k1,k2⟩:=new (p.1.length:Int) (by omega) (p.1 ++ [t]) (by simp only [List.length_append,List.length_cons,List.length_nil]; omega) (List.prefix_append _ _)
   refine ⟨?_,fun x hx=>?_,h.mp.ins hm (hd.ky t ht),List.IsPrefix.trans h.pre (List.prefix_append _ _),k1,k2,by simp only [List.length_append,List.length_cons,List.length_nil]; omega⟩
   ·dsimp only
    rw [List.nodup_append]
    refine ⟨h.nd,by simp,fun a ha b hb=>?_⟩
    simp only [List.mem_singleton] at hb; subst hb
    rintro rfl; exact hm ha
   ·rcases List.mem_append.1 hx with hx | hx
    ·exact h.su x hx
    ·simp only [List.mem_singleton] at hx; subst hx; exact ht
theorem RowT.fold {i:Nat} {p0:TS} {s:List Int} (hs:P s):∀ {es done:List Int} {p:TS},done ++ es=al→RowT al P i done p0 p→RowT al P i al p0 (es.foldl (rowM stp i s) p)
 | [],done,p,he,h=>by rw [List.append_nil] at he; subst he; exact h
 | e :: es,done,p,he,h=>by
  rw [List.foldl_cons]
  refine RowT.fold hs (done:=done ++ [e]) (by rw [← he]; simp) (h.step hd hs (by rw [← he]; simp) fun x hx=>?_)
  have:=hd.so
  rw [← he,List.pairwise_append] at this
  exact this.2.2 x hx e (by simp)
theorem FndT.row {i:Nat} {p:TS} (h:FndT al P i p) {s:List Int} (hs:P s):FndT al P (i+1) (al.foldl (rowM stp i s) p)∧p.1 <+: (al.foldl (rowM stp i s) p).1∧(al.foldl (rowM stp i s) p).2.1.length≤p.2.1.length+al.length:=by
 have:=RowT.fold hd (i:=i) (p0:=p) (p:=p) hs (es:=al) (done:=[]) rfl ⟨h.nd,h.su,h.mp,List.prefix_refl _,h.ed,fun x hx=>by
  obtain ⟨a1,a2,a3,a4,a5⟩:=h.er x hx
  exact ⟨a1,by omega,a3,a4,a5,fun hf=>by omega⟩,by simp⟩
 exact ⟨⟨this.nd,this.su,this.mp,this.ed,fun x hx=>by
  obtain ⟨a1,a2,a3,a4,a5,_⟩:=this.er x hx
  exact ⟨a1,by omega,a3,a4,a5⟩⟩,this.pre,this.ln⟩
theorem FndT.len {i:Nat} {p:TS} (h:FndT al P i p):p.1.length≤N:=hd.bd _ h.nd h.su
structure MksT (i:Nat) (ms:List Int):Prop where
 rg:∀ x∈ms,0≤x∧x < i
 so:ms.Pairwise (· < ·)
theorem Qbau (mk:List Int→Bool):∀ {f i:Nat} {ms:List Int} {p:TS},FndT al P i p→MksT i ms→i≤p.1.length→N+1≤f+i →
  Right ⟨al,((bldM stp mk al f i ms p).1.length:Int),(bldM stp mk al f i ms p).2.1,(bldM stp mk al f i ms p).2.2⟩∧(∀ x∈(bldM stp mk al f i ms p).1,P x)∧(bldM stp mk al f i ms p).1.length≤N∧p.1 <+: (bldM stp mk al f i ms p).1
 | 0,i,ms,p,h,hm,hi,hf=>by have:=h.len hd; omega
 | f+1,i,ms,p,h,hm,hi,hf=>by
  have hN:=hd.nn
  have hl:=h.len hd
  rw [bldM]
  cases hg:p.1[i]? with
  | none =>
   have hi2:i=p.1.length:=by have:=List.getElem?_eq_none_iff.1 hg; omega
   dsimp only
   refine ⟨⟨hd.rg,hd.so,⟨by dsimp only; omega,by dsimp only; omega⟩,fun x hx=>?_,hm.so,fun x hx=>?_,h.ed⟩,h.su,hl,List.prefix_refl _⟩
   ·have:=hm.rg x hx; dsimp only; omega
   ·have:=h.er x hx; dsimp only; exact ⟨this.1,by omega,this.2.2.1,this.2.2.2.1,this.2.2.2.2⟩
  | some s =>
   have hs:=h.su s (List.mem_of_getElem? hg)
   obtain ⟨h1,h2,h3⟩:=h.row hd hs
   have hlt:i < p.1.length:=(List.getElem?_eq_some_iff.1 hg).1
   have hle:=h2.length_le
   dsimp only
   obtain ⟨k1,k2,k3,k4⟩:=Qbau mk (f:=f) (i:=i+1) (ms:=if mk s then ms ++ [(i:Int)] else ms) h1 (by
    split
    ·refine ⟨fun x hx=>?_,List.pairwise_append.2 ⟨hm.so,List.pairwise_singleton _ _,fun a ha b hb=>?_⟩⟩
     ·rcases List.mem_append.1 hx with hx | hx
      ·have:=hm.rg x hx; omega
      ·simp only [List.mem_singleton] at hx; omega
     ·simp only [List.mem_singleton] at hb; have:=hm.rg a ha; omega
    ·exact ⟨fun x hx=>by have:=hm.rg x hx; omega,hm.so⟩) (by omega) (by omega)
   exact ⟨k1,k2,k3,List.IsPrefix.trans h2 k4⟩
end
end Go.Abs
end
section
namespace Go.Abs
open Go
structure Mrg (kp:Bool→Bool→Bool) (l m a b out:List Int):Prop where
 sa:a.Pairwise (· < ·)
 sb:b.Pairwise (· < ·)
 so:out.Pairwise (· < ·)
 oa:∀ o∈out,∀ x∈a,o < x
 ob:∀ o∈out,∀ x∈b,o < x
 ln:out.length+a.length+b.length < big
 eq:∀ x,(x∈out∨kp (decide (x∈a)) (decide (x∈b))=true)↔kp (decide (x∈l)) (decide (x∈m))=true
theorem Mrg.step {kp:Bool→Bool→Bool} (h0:kp false false=false) {l m a b out a' b' : List Int} {z:Int} {p q:Bool} (h:Mrg kp l m a b out) (ha:a=if p then z :: a' else a') (hb:b=if q then z :: b' else b') (hpq:p=true∨q=true)
  (hza:∀ x∈a',z < x) (hzb:∀ x∈b',z < x):Mrg kp l m a' b' (if kp p q then out ++ [z] else out):=by
 have ma:∀ x,x∈a↔(p=true∧x=z)∨x∈a':=fun x=>by rw [ha]; cases p <;> simp
 have mb:∀ x,x∈b↔(q=true∧x=z)∨x∈b':=fun x=>by rw [hb]; cases q <;> simp
 have hoz:∀ o∈out,o < z:=fun o ho=>by
  rcases hpq with rfl | rfl
  ·exact h.oa o ho z ((ma z).2 (.inl ⟨rfl,rfl⟩))
  ·exact h.ob o ho z ((mb z).2 (.inl ⟨rfl,rfl⟩))
 have hm:∀ o,o∈(if kp p q then out ++ [z] else out)↔o∈out∨(kp p q=true∧o=z):=fun o=>by cases kp p q <;> simp
 have hza' : z∉a':=fun hx=>by have:=hza z hx; omega
 have hzb' : z∉b':=fun hx=>by have:=hzb z hx; omega
 refine ⟨?_,?_,?_,?_,?_,?_,fun x=>?_⟩
 ·have:=h.sa; rw [ha] at this; cases p
  ·exact this
  ·exact (List.pairwise_cons.1 this).2
 ·have:=h.sb; rw [hb] at this; cases q
  ·exact this
  ·exact (List.pairwise_cons.1 this).2
 ·cases kp p q
  ·exact h.so
  ·simp only [if_true]
   rw [List.pairwise_append]
   exact ⟨h.so,by simp,fun o ho y hy=>by simp at hy; subst hy; exact hoz o ho⟩
 ·intro o ho x hx
  rcases (hm o).1 ho with ho | ⟨_,rfl⟩
  ·exact h.oa o ho x ((ma x).2 (.inr hx))
  ·exact hza x hx
 ·intro o ho x hx
  rcases (hm o).1 ho with ho | ⟨_,rfl⟩
  ·exact h.ob o ho x ((mb x).2 (.inr hx))
  ·exact hzb x hx
 ·have h1:=h.ln
  have h2:a.length=a'.length+if p then 1 else 0:=by rw [ha]; cases p <;> simp
  have h3:b.length=b'.length+if q then 1 else 0:=by rw [hb]; cases q <;> simp
  have h4:(if kp p q then out ++ [z] else out).length≤out.length+1:=by split <;> simp
  rcases hpq with rfl | rfl <;> simp at h2 h3 <;> omega
 ·rw [← h.eq x,hm]
  by_cases hx:x=z
  ·subst hx
   have e1:decide (x∈a)=p:=by rw [Bool.eq_iff_iff,decide_eq_true_eq,ma]; simp [hza']
   have e2:decide (x∈b)=q:=by rw [Bool.eq_iff_iff,decide_eq_true_eq,mb]; simp [hzb']
   rw [e1,e2,decide_eq_false hza',decide_eq_false hzb',h0]
   simp
  ·have e1:decide (x∈a)=decide (x∈a'):=decide_eq_decide.2 (by rw [ma]; simp [hx])
   have e2:decide (x∈b)=decide (x∈b'):=decide_eq_decide.2 (by rw [mb]; simp [hx])
   rw [e1,e2]; simp [hx]
theorem Qbjc {kp:Bool→Bool→Bool} {keep:Bool→Bool→Option Bool} (hk:∀ p q,keep p q=some (kp p q)) (h0:kp false false=false) {l m:List Int} (hl:l.Pairwise (· < ·)) (hm:m.Pairwise (· < ·)) (hlm:l.length+m.length < big) :
  ∃ R,Qes l m keep=some R∧R.Pairwise (· < ·)∧∀ x,x∈R↔kp (decide (x∈l)) (decide (x∈m))=true:=by
 unfold Qes Qw
 obtain ⟨fuel,hfu,hge⟩ : ∃ f,Qb7=f∧1099511627776≤f:=⟨_,rfl,Nat.le_refl _⟩
 rw [hfu]
 have hg:∀ (x:Int) (l:List Int),getO (x :: l) 0=some x:=fun x l=>Qb6 (l:=x :: l) (n:=0) (by simp)
 have hd:∀ (x:Int) (l:List Int),slcO (x :: l) 1 ((x :: l).length:Int)=some l:=fun x l=>by
  have:=Qbi5 (l:=x :: l) (i:=1) (j:=(x :: l).length) (by simp) (by simp)
  rw [List.take_length] at this
  exact this
 have key:=Qhc (F:=fun (k14:List Int×List Int×List Int→Option (List Int)) ((a11,b12,out13):(List Int)×(List Int)×(List Int))=>(((if ((a11.length:Int) > 0) then some true else some (decide ((b12.length:Int) > 0)))).bind fun (x16:Bool)=>(if x16 then (((if ((a11.length:Int) > 0) then (if ((b12.length:Int) == 0) then some true else ((getO a11 0).bind fun x20=>((getO b12 0).bind fun x22=>some (decide (x20≤x22))))) else some false)).bind fun (inA24:Bool)=>(((if ((b12.length:Int) > 0) then (if ((a11.length:Int) == 0) then some true else ((getO b12 0).bind fun x27=>((getO a11 0).bind fun x29=>some (decide (x27≤x29))))) else some false)).bind fun (inB31:Bool)=>(((if inA24 then ((getO a11 0).bind fun x33=>((slcO a11 1 (a11.length:Int)).bind fun x35=>some (x35,x33))) else some (a11,0))).bind fun ((a37,x38):(List Int)×Int)=>(((if inB31 then ((getO b12 0).bind fun x40=>((slcO b12 1 (b12.length:Int)).bind fun x42=>some (x42,x40))) else some (b12,x38))).bind fun ((b44,x45):(List Int)×Int)=>((keep inA24 inB31).bind fun x47=>(if x47 then ((appO out13 [x45]).bind fun x49=>k14 (a37,b44,x49)) else k14 (a37,b44,out13))))))) else some out13)))
  (fun x:List Int×List Int×List Int=>Mrg kp l m x.1 x.2.1 x.2.2) (fun x=>x.1.length+x.2.1.length) (fun _ r=>∃ R,r=some R∧R.Pairwise (· < ·)∧∀ x,x∈R↔kp (decide (x∈l)) (decide (x∈m))=true) ?_ fuel (l,m,[]) ⟨hl,hm,by simp,by simp,by simp,by simpa using hlm,by simp⟩ (by unfold big at hlm; dsimp only; omega)
 ·obtain ⟨R,h1,h2,h3⟩:=key
  exact ⟨R,by rw [h1]; rfl,h2,h3⟩
 rintro k ⟨a,b,out⟩ h ih
 dsimp only at h ih ⊢
 have hln:=h.ln
 have happ:∀ z:Int,out.length+1≤big→appO out [z]=some (out ++ [z]):=fun z hz=>Qeh (by simp only [List.length_cons,List.length_nil]; unfold lim; unfold big at hz; omega)
 have fin:∀ (a' b' : List Int) (z:Int) (p q:Bool),out.length+1≤big→Mrg kp l m a' b' (if kp p q then out ++ [z] else out)→a'.length+b'.length < a.length+b.length →
   ∃ R,((keep p q).bind fun x47=>if x47 then ((appO out [z]).bind fun x49=>k (a',b',x49)) else k (a',b',out))=some R∧R.Pairwise (· < ·)∧∀ x,x∈R↔kp (decide (x∈l)) (decide (x∈m))=true:=by
  intro a' b' z p q hz hM hlt
  rw [hk,happ z hz]
  simp only [Option.bind_some]
  have:=ih (a',b',if kp p q then out ++ [z] else out) hM hlt
  cases hkp:kp p q <;> simp only [hkp,Bool.false_eq_true,if_false,if_true] at this ⊢ <;> exact this
 match a,b,h,fin,hln with
 | [],[],h,fin,hln =>
  refine ⟨out,by simp,h.so,fun x=>?_⟩
  rw [← h.eq x]; simp [h0]
 | [],y :: ys,h,fin,hln =>
  rw [show ((([]:List Int).length:Nat):Int)=0 from rfl]
  have hp:(((y :: ys).length:Nat):Int) > 0:=by simp only [List.length_cons]; omega
  rw [if_neg (by omega),Option.bind_some,if_pos (by simp)]
  rw [if_neg (by omega),Option.bind_some,if_pos hp,if_pos (by rfl),Option.bind_some,if_neg (by simp),Option.bind_some,if_pos rfl,hg,hd]
  simp only [Option.bind_some]
  exact fin [] ys y false true (by simp only [List.length_cons] at hln; omega) (h.step h0 (z:=y) (p:=false) (q:=true) rfl rfl (.inr rfl) (by simp) (List.pairwise_cons.1 h.sb).1) (by simp)
 | x :: xs,[],h,fin,hln =>
  rw [show ((([]:List Int).length:Nat):Int)=0 from rfl]
  have hp:(((x :: xs).length:Nat):Int) > 0:=by simp only [List.length_cons]; omega
  rw [if_pos hp,Option.bind_some,if_pos rfl,if_pos hp,if_pos (by rfl),Option.bind_some,if_neg (by omega),Option.bind_some,if_pos rfl,hg,hd]
  simp only [Option.bind_some,Bool.false_eq_true,if_false]
  exact fin xs [] x true false (by simp only [List.length_cons] at hln; omega) (h.step h0 (z:=x) (p:=true) (q:=false) rfl rfl (.inl rfl) (List.pairwise_cons.1 h.sa).1 (by simp)) (by simp)
 | x :: xs,y :: ys,h,fin,hln =>
  obtain ⟨ha1,ha2⟩:=List.pairwise_cons.1 h.sa
  obtain ⟨hb1,hb2⟩:=List.pairwise_cons.1 h.sb
  have hp:(((x :: xs).length:Nat):Int) > 0:=by simp only [List.length_cons]; omega
  have hq:(((y :: ys).length:Nat):Int) > 0:=by simp only [List.length_cons]; omega
  have hp0:((((x :: xs).length:Nat):Int) == 0)=false:=by simp only [beq_eq_false_iff_ne]; omega
  have hq0:((((y :: ys).length:Nat):Int) == 0)=false:=by simp only [beq_eq_false_iff_ne]; omega
  rw [if_pos hp,Option.bind_some,if_pos rfl,if_pos hp,if_neg (by rw [hq0]; simp),hg,hg,Option.bind_some,Option.bind_some,Option.bind_some,if_pos hq,if_neg (by rw [hp0]; simp),Option.bind_some,Option.bind_some,Option.bind_some,hd,hd]
  simp only [List.length_cons] at hln
  rcases Int.lt_trichotomy x y with hxy | rfl | hxy
  ·have e1:decide (x≤y)=true:=decide_eq_true (by omega)
   have e2:decide (y≤x)=false:=decide_eq_false (by omega)
   simp only [e1,e2,Option.bind_some,if_true,Bool.false_eq_true,if_false]
   exact fin xs (y :: ys) x true false (by omega) (h.step h0 (z:=x) (p:=true) (q:=false) rfl rfl (.inl rfl) ha1 (fun z hz=>by
    rcases List.mem_cons.1 hz with rfl | hz
    ·exact hxy
    ·have:=hb1 z hz; omega)) (by simp)
  ·have e1:decide (x≤x)=true:=decide_eq_true (by omega)
   simp only [e1,Option.bind_some,if_true]
   exact fin xs ys x true true (by omega) (h.step h0 (z:=x) (p:=true) (q:=true) rfl rfl (.inl rfl) ha1 hb1) (by simp; omega)
  ·have e1:decide (x≤y)=false:=decide_eq_false (by omega)
   have e2:decide (y≤x)=true:=decide_eq_true (by omega)
   simp only [e1,e2,Option.bind_some,if_true,Bool.false_eq_true,if_false]
   exact fin (x :: xs) ys y false true (by omega) (h.step h0 (z:=y) (p:=false) (q:=true) rfl rfl (.inr rfl) (fun z hz=>by
    rcases List.mem_cons.1 hz with rfl | hz
    ·exact hxy
    ·have:=ha1 z hz; omega) hb1) (by simp)
end Go.Abs
end
section
namespace Go.Abs
open Go
theorem Qbjd {l m:List Int} (hl:l.Pairwise (· < ·)) (hm:m.Pairwise (· < ·)) (hlm:l.length+m.length < big) :
  ∃ R,Qet l m=some R∧R.Pairwise (· < ·)∧∀ x,x∈R↔x∈l∨x∈m:=by
 unfold Qet Qbm
 obtain ⟨R,h1,h2,h3⟩:=Qbjc (kp:=fun p q=>p || q) (keep:=Qjk) (fun p q=>by cases p <;> cases q <;> rfl) rfl hl hm hlm
 exact ⟨R,by rw [h1]; rfl,h2,fun x=>by rw [h3]; simp⟩
end Go.Abs
end
section
namespace Go.Abs
open Go
theorem Qbc7 {α:Type} [DecidableEq α] {s t:List α} {ne:α→α→Bool} (hne:∀ x y,ne x y=decide (x≠y)) (hl:s.length=t.length) (h:s.length < 1000000000000) :
  Qda (fun k5 (i4:Int)=>(if (i4 < (s.length:Int)) then ((getO s i4).bind fun x7=>((getO t i4).bind fun x9=>(if ne x7 x9 then some false else k5 (IntKind.wrap .i64 (i4+1))))) else some true)) Qb7 0=some (decide (s=t)):=by
 refine Q7w (fun i:Int=>∃ n:Nat,i=n∧n≤s.length∧s.take n=t.take n) (fun i=>s.length - i.toNat) _ ⟨0,rfl,by omega,by simp⟩ (by unfold Qb7; omega) ?_
 rintro k _ ⟨n,rfl,hn,he⟩ ih
 by_cases hlt:n < s.length
 ·rw [if_pos (by omega),Qb6 hlt,Qb6 (by omega:n < t.length)]
  simp only [Option.bind_some,hne]
  by_cases hx:s[n]=t[n]
  ·rw [if_neg (by simp [hx]),Qcf (by omega)]
   exact ih _ ⟨n+1,rfl,by omega,Qbcw hlt (by omega) he hx⟩ (by omega)
  ·rw [if_pos (by simp [hx])]
   have:s≠t:=fun e=>hx (by subst e; rfl)
   simp [this]
 ·rw [if_neg (by omega)]
  have e:n=s.length:=by omega
  have:s=t:=by
   rw [e,List.take_length,hl,List.take_length] at he; exact he
  simp [this]
theorem Qbky (x y:Qd):(!((x.From == y.From) && ((x.Event == y.Event) && ((x.To == y.To) && true))))=decide (x≠y):=by
 cases x; cases y
 simp only [Qd.mk.injEq,Bool.and_true,ne_eq,decide_not]
 congr 1
 rw [Bool.eq_iff_iff]; simp
theorem Qbc8 {s t:List Int} (h:s.length < 1000000000000):Qe0 s t=some (decide (s=t)):=by
 unfold Qe0 Qy
 by_cases hl:s.length=t.length
 ·rw [if_neg (by simp [hl])]
  exact Qbc7 (ne:=fun x y=>x != y) (fun x y=>by rw [Bool.eq_iff_iff]; simp) hl h
 ·rw [if_pos (by simp; omega)]
  have:s≠t:=fun e=>hl (by rw [e])
  simp [this]
theorem Qblz {R:Type} (b:Bool) (A B:R):(if b then A else B)=if (!b) then B else A:=by cases b <;> rfl
theorem Qbfv {s t:List Qd} (h:s.length < 1000000000000):Qeg s t=some (decide (s=t)):=by
 unfold Qeg Q4
 by_cases hl:s.length=t.length
 ·rw [if_neg (by simp [hl])]
  have:=Qbc7 (ne:=fun x y=>!((x.From == y.From) && ((x.Event == y.Event) && ((x.To == y.To) && true)))) Qbky hl h
  simp only [← Qblz] at this
  exact this
 ·rw [if_pos (by simp; omega)]
  have:s≠t:=fun e=>hl (by rw [e])
  simp [this]
theorem Qbh4 {a b:Qa} (h:small a):Qfq a b=some (decide (a=b)):=by
 unfold Qfq Qcq
 rw [Qbc8 h.1,Qbc8 h.2.1,Qbfv h.2.2]
 obtain ⟨al,s,m,e⟩:=a
 obtain ⟨al',s',m',e'⟩:=b
 simp only [Option.bind_some,Qa.mk.injEq]
 by_cases h1:s=s' <;> by_cases h2:al=al' <;> by_cases h3:m=m' <;> by_cases h4:e=e' <;> simp [h1,h2,h3,h4]
end Go.Abs
end
section
namespace Go.Abs
open Go
theorem Qnv {l:List Int} {v:Int} (hs:l.Pairwise (· < ·)) (hl:l.length < big):Qdl l v=some (decide (v∈l)):=by
 unfold Qdl Qp
 obtain ⟨n,h⟩:=Qbh2 (v:=v) hs hl
 rw [h]; rfl
end Go.Abs
end
section
namespace Go.Abs
open Go
theorem Qbc9 {κ β:Type} [BEq κ] [LawfulBEq κ] [DecidableEq κ] {v:β} {k k' : κ}:∀ {m:List (κ×β)},hasM (setM m k v) k' = (decide (k' = k) || hasM m k')
 | []=>by simp only [setM,hasM,List.any_cons,List.any_nil,Bool.or_false]; rw [Bool.eq_iff_iff]; simp
 | (q,w) :: m=>by
  by_cases h1:k=q
  ·subst h1
   simp only [setM,beq_self_eq_true,if_true,Qxr]
   rw [Bool.eq_iff_iff]; simp
  ·have h1' : (k == q)=false:=by simp [h1]
   simp only [setM,h1',Bool.false_eq_true,if_false,Qxr,Qbc9 (m:=m)]
   cases (k' == q) <;> cases decide (k' = k) <;> simp
theorem Qbda {κ β:Type} [BEq κ] [LawfulBEq κ] [DecidableEq κ] {z v:β} {k k' : κ}:∀ {m:List (κ×β)},getM (setM m k v) k' z=if k' = k then v else getM m k' z
 | []=>by simp [setM,getM]
 | (q,w) :: m=>by
  by_cases h1:k=q
  ·subst h1
   by_cases h2:k' = k <;> simp [setM,getM,h2]
  ·have h1' : (k == q)=false:=by simp [h1]
   by_cases h2:k' = q
   ·subst h2
    have h3:¬ k' = k:=fun e=>h1 e.symm
    simp [setM,getM,h1',h3]
   ·have h2' : (k' == q)=false:=by simp [h2]
    simp [setM,getM,h1',h2',Qbda (m:=m)]
def edM (a:Qa):List ((Int×Int)×Int):=a.zC.foldl (fun c x=>setM c (x.From,x.Event) x.To) []
theorem Qbbr:∀ {es:List Qd} {c:List ((Int×Int)×Int)} {s e:Int},es.Pairwise Qjo →
  hasM (es.foldl (fun c x=>setM c (x.From,x.Event) x.To) c) (s,e)=((es.find? fun x=>x.From == s && x.Event == e).isSome || hasM c (s,e)) ∧
  getM (es.foldl (fun c x=>setM c (x.From,x.Event) x.To) c) (s,e) 0=match es.find? (fun x=>x.From == s && x.Event == e) with | some x=>x.To | none=>getM c (s,e) 0
 | [],c,s,e,_=>by simp
 | x :: es,c,s,e,h=>by
  obtain ⟨h1,h2⟩:=List.pairwise_cons.1 h
  obtain ⟨i1,i2⟩:=Qbbr (es:=es) (c:=setM c (x.From,x.Event) x.To) (s:=s) (e:=e) h2
  rw [List.foldl_cons,i1,i2,Qbc9,Qbda,List.find?_cons]
  by_cases hx:x.From=s∧x.Event=e
  ·obtain ⟨rfl,rfl⟩:=hx
   have hn:es.find? (fun y=>y.From == x.From && y.Event == x.Event)=none:=by
    rw [List.find?_eq_none]
    intro y hy hq
    simp only [Bool.and_eq_true,beq_iff_eq] at hq
    have:=h1 y hy
    unfold Qjo at this
    omega
   simp [hn]
  ·have hb:(x.From == s && x.Event == e)=false:=by
    rw [Bool.and_eq_false_iff]
    by_cases h3:x.From=s
    ·exact .inr (beq_eq_false_iff_ne.2 fun h4=>hx ⟨h3,h4⟩)
    ·exact .inl (beq_eq_false_iff_ne.2 h3)
   have hne:¬ ((s,e)=(x.From,x.Event)):=fun h4=>hx ⟨by injection h4 with h5 h6; exact h5.symm,by injection h4 with h5 h6; exact h6.symm⟩
   rw [hb,decide_eq_false hne,if_neg hne]
   simp
theorem Qbkz {a:Qa} (h:Right a) (s e:Int):hasM (edM a) (s,e)=decide (0≤Qf0 a s e):=by
 unfold edM Qf0
 rw [(Qbbr h.ed).1]
 cases hf:a.zC.find? fun x=>x.From == s && x.Event == e with
 | none=>simp [hasM]
 | some x =>
  have:=(h.ed0 x (List.mem_of_find?_eq_some hf)).2.2.1
  simp [this]
theorem Qbk0 {a:Qa} (h:Right a) {s e:Int} (h0:0≤Qf0 a s e):getM (edM a) (s,e) 0=Qf0 a s e:=by
 unfold edM Qf0 at *
 rw [(Qbbr h.ed).2]
 cases hf:a.zC.find? fun x=>x.From == s && x.Event == e with
 | none=>rw [hf] at h0; simp at h0
 | some x=>rfl
def InT:List Qa→List Int→Prop
 | [],[]=>True
 | a :: l,x :: t=>(0≤x∧x < a.zD)∧InT l t
 | _,_=>False
theorem InT.len:∀ {l:List Qa} {t:List Int},InT l t→t.length=l.length
 | [],[],_=>rfl
 | a :: l,x :: t,h=>by simp [InT.len h.2]
 | [],_ :: _,h=>h.elim
 | _ :: _,[],h=>h.elim
theorem InT.get:∀ {l:List Qa} {t:List Int},InT l t→∀ (i:Nat) (hi:i < l.length) (hj:i < t.length),0≤t[i]∧t[i] < l[i].zD
 | a :: l,x :: t,h,0,_,_=>h.1
 | a :: l,x :: t,h,i+1,hi,hj=>InT.get h.2 i (by simpa using hi) (by simpa using hj)
 | [],_,_,i,hi,_=>by simp at hi
 | _ :: _,[],h,_,_,_=>h.elim
def allT:List Qa→List (List Int)
 | []=>[[]]
 | a :: l=>(upto a.zD).flatMap fun x=>(allT l).map (x :: ·)
theorem Qbe9:∀ {l:List Qa} {t:List Int},InT l t→t∈allT l
 | [],[],_=>by simp [allT]
 | a :: l,x :: t,h=>by
  simp only [allT,List.mem_flatMap,List.mem_map]
  exact ⟨x,Qbe6.2 h.1,t,Qbe9 h.2,rfl⟩
 | [],_ :: _,h=>h.elim
 | _ :: _,[],h=>h.elim
theorem Qbbs:∀ {l:List Qa},(allT l).length=l.foldr (fun a n=>a.zD.toNat * n) 1
 | []=>rfl
 | a :: l=>by
  simp only [allT,List.length_flatMap,List.length_map,List.foldr_cons,← Qbbs (l:=l)]
  generalize (allT l).length=n
  have:∀ u:List Int,(u.map fun _=>n).sum=u.length * n:=fun u=>by
   induction u with
   | nil=>simp
   | cons x u ih=>simp only [List.map_cons,List.sum_cons,ih,List.length_cons,Nat.add_mul]; omega
  rw [this,Qbe7]
theorem Qbbt {τ:Type} [DecidableEq τ]:∀ {l m:List τ},l.Nodup→(∀ x∈l,x∈m)→l.length≤m.length
 | [],_,_,_=>by simp
 | x :: l,m,h,hs=>by
  obtain ⟨a1,a2⟩:=List.nodup_cons.1 h
  have hx:=hs x (by simp)
  have:=Qbbt (l:=l) (m:=m.erase x) a2 fun y hy=>(List.mem_erase_of_ne (by rintro rfl; exact a1 hy)).2 (hs y (by simp [hy]))
  rw [List.length_erase_of_mem hx] at this
  have:0 < m.length:=List.length_pos_of_mem hx
  simp only [List.length_cons]; omega
def Qbfw (a:Qa) (x e:Int):Option Int:=if e∈a.zA then (if 0≤Qf0 a x e then some (Qf0 a x e) else none) else some x
def Qzr:List Qa→List Int→Int→Option (List Int)
 | a :: l,x :: t,e=>match Qbfw a x e with
  | some y=>(Qzr l t e).map (y :: ·)
  | none=>none
 | _,_,_=>some []
def Q9r (e:Int):List Int→List (Qa×Int)→Option (List Int)
 | acc,[]=>some acc
 | acc,q :: qs=>match Qbfw q.1 q.2 e with
  | some y=>Q9r e (acc ++ [y]) qs
  | none=>none
theorem Qbfa {e:Int}:∀ {l:List Qa} {t acc:List Int},Q9r e acc (l.zip t)=(Qzr l t e).map (acc ++ ·)
 | [],t,acc=>by simp [Q9r,Qzr]
 | a :: l,[],acc=>by simp [Q9r,Qzr]
 | a :: l,x :: t,acc=>by
  rw [List.zip_cons_cons,Q9r,Qzr]
  cases Qbfw a x e with
  | none=>rfl
  | some y =>
   dsimp only
   rw [Qbfa]
   cases Qzr l t e <;> simp
theorem Qbbu:∀ {l:List Qa} {t:List Int} {e:Int} {r:List Int},(∀ a∈l,Right a)→InT l t→Qzr l t e=some r→InT l r
 | [],[],e,r,_,_,h=>by simp [Qzr] at h; subst h; trivial
 | a :: l,x :: t,e,r,hr,hi,h=>by
  rw [Qzr] at h
  cases h1:Qbfw a x e with
  | none=>rw [h1] at h; cases h
  | some y =>
   rw [h1] at h
   dsimp only at h
   obtain ⟨r',h2,rfl⟩:=Option.map_eq_some_iff.1 h
   refine ⟨?_,Qbbu (fun b hb=>hr b (by simp [hb])) hi.2 h2⟩
   unfold Qbfw at h1
   split at h1
   ·split at h1 <;> cases h1
    rename_i h3
    have:=Q9b (hr a (by simp)) x e
    omega
   ·cases h1; exact hi.1
 | [],_ :: _,_,_,_,h,_=>h.elim
 | _ :: _,[],_,_,_,h,_=>h.elim
def mkT (l:List Qa) (t:List Int):Bool:=(l.zip t).all fun q=>decide (q.2∈q.1.zB)
structure Parts (l:List Qa):Prop where
 r:∀ a∈l,Right a
 s:∀ a∈l,a.zD≤100
 n:l.length≤12
 b:(allT l).length≤4000
section
variable {l:List Qa} (h:Parts l)
include h
theorem Parts.big:l.length < Go.Abs.big:=by have:=h.n; unfold Go.Abs.big; omega
theorem Qzs:Qjl l=some 0:=by
 unfold Qjl Qdc
 have hn:=h.n
 rw [if_neg (by omega)]
 refine Qk1 (len:=l.length) (fun _=>some 0) (by unfold Qb7; omega) (fun k n hn' hk=>?_) (fun k=>?_)
 ·rw [if_pos (by omega),Qb6 hn',Option.bind_some,Q9c (h.r _ (List.getElem_mem hn')),Option.bind_some,if_neg (by simp),Qcf (by omega)]
  exact hk
 ·rw [if_neg (by omega)]
structure EvsU (l:List Qa) (R:List Int):Prop where
 so:R.Pairwise (· < ·)
 me:∀ x,x∈R↔∃ a∈l,x∈a.zA
theorem EvsU.rg {R:List Int} (hR:EvsU l R):∀ x∈R,0≤x∧x < 32:=fun x hx=>by
 obtain ⟨a,ha,hx⟩:=(hR.me x).1 hx
 exact (h.r a ha).al0 x hx
theorem Qbk1:∃ R,Qd3 l=some R∧EvsU l R:=by
 unfold Qd3 Qc1
 have hb:=h.n
 obtain ⟨R,h1,h2⟩ : ∃ R,Qda (fun k4 ((out2,x3):(List Int)×Int)=>(if (x3 < (l.length:Int)) then ((getO l x3).bind fun x6=>((Qet out2 x6.zA).bind fun x9=>k4 (x9,(IntKind.wrap .i64 (x3+1))))) else some out2)) Qb7 ([],0)=some R∧EvsU l R:=by
  refine Qhc (fun x:List Int×Int=>∃ n:Nat,x.2=n∧n≤l.length∧EvsU (l.take n) x.1) (fun x=>l.length - x.2.toNat) (fun _ r=>∃ R,r=some R∧EvsU l R) ?_ Qb7 ([],0) ⟨0,rfl,Nat.zero_le _,.nil,fun x=>by simp⟩ (by unfold Qb7; dsimp only; omega)
  rintro k ⟨out,x⟩ ⟨n,hx,hn,he⟩ ih
  dsimp only at hx he ih ⊢
  subst hx
  by_cases hlt:n < l.length
  ·have ha:=h.r _ (List.getElem_mem hlt)
   have hl1:out.length≤32:=Qbe8 he.so fun x hx=>by
    obtain ⟨a,ha,hx⟩:=(he.me x).1 hx
    exact (h.r a (List.mem_of_mem_take ha)).al0 x hx
   have hl2:=ha.small.2.1
   obtain ⟨R,k1,k2,k3⟩:=Qbjd he.so ha.al (by unfold Go.Abs.big; omega)
   rw [if_pos (by omega),Qb6 hlt,Option.bind_some,k1,Option.bind_some,Qcf (by omega)]
   refine ih (R,((n+1:Nat):Int)) ⟨n+1,rfl,hlt,k2,fun x=>?_⟩ (by dsimp only; omega)
   rw [k3,he.me]
   have htk:l.take (n+1)=l.take n ++ [l[n]]:=List.take_succ_eq_append_getElem hlt
   rw [htk]
   constructor
   ·rintro (⟨a,ha,hx⟩ | hx)
    ·exact ⟨a,List.mem_append_left _ ha,hx⟩
    ·exact ⟨l[n],List.mem_append_right _ (List.mem_singleton_self _),hx⟩
   ·rintro ⟨a,ha,hx⟩
    rcases List.mem_append.1 ha with ha | ha
    ·exact .inl ⟨a,ha,hx⟩
    ·simp only [List.mem_singleton] at ha; subst ha; exact .inr hx
  ·rw [if_neg (by omega)]
   have:n=l.length:=by omega
   subst this
   rw [List.take_length] at he
   exact ⟨out,rfl,he⟩
 rw [h1]
 exact ⟨R,rfl,h2⟩
theorem Qbfb {R:List Int} (hR:Qd3 l=some R):Qkt l=some ⟨l,R,l.map edM⟩:=by
 unfold Qkt Qdo
 obtain ⟨fuel,hfu,hge⟩ : ∃ f,Qb7=f∧1099511627776≤f:=⟨_,rfl,Nat.le_refl _⟩
 have hn:=h.n
 rw [hfu,hR,Option.bind_some]
 refine Option.bind_eq_some_iff.2 ⟨([],[],[],l.map edM),?_,rfl⟩
 refine (Q9h (l:=l) (fun i (s:List (List ((Int×Int)×Int)))=>(i,([]:List Qa),([]:List Int),([]:List (List ((Int×Int)×Int))),s)) (fun s a=>s ++ [edM a]) (fun n s=>s.length≤n) (fun s=>some ([],[],[],s)) h.big hge (fun k n s hn' hs=>?_) (fun n s _ hs=>by simp only [List.length_append,List.length_cons,List.length_nil]; omega) (fun k s hs=>?_) (s0:=[]) (by simp)).trans ?_
 ·dsimp only
  rw [if_pos (by omega),Qb6 hn',Option.bind_some]
  have ha:=(h.r _ (List.getElem_mem hn')).small
  rw [Q9h (l:=l[n].zC) (fun i (s:List ((Int×Int)×Int))=>(i,s)) (fun c x=>setM c (x.From,x.Event) x.To) (fun _ _=>True) (fun s=>some s) ha.1.2.2 hge (fun k m s hm _=>?_) (fun _ _ _ _=>trivial) (fun k s _=>?_) (s0:=[]) trivial]
  ·rw [Option.bind_some,Qeh (by simp only [List.length_cons,List.length_nil]; unfold lim; omega),Option.bind_some,Option.bind_some]
   rfl
  ·dsimp only
   rw [if_pos (by omega),Qb6 hm,Option.bind_some]
  ·dsimp only
   rw [if_neg (by omega)]
 ·dsimp only
  rw [if_neg (by omega)]
 ·have:∀ (m:List Qa) (s:List (List ((Int×Int)×Int))),m.foldl (fun s a=>s ++ [edM a]) s=s ++ m.map edM:=fun m=>by
   induction m with
   | nil=>intro s; simp
   | cons a m ih=>intro s; rw [List.foldl_cons,ih]; simp
  rw [this,List.nil_append]
variable {R:List Int} (hR:EvsU l R)
theorem Qbav:Qdr ⟨l,R,l.map edM⟩=some (if l.any (fun a=>a.zD == 0) then ([],false) else (List.replicate l.length 0,true)):=by
 unfold Qdr Qbc
 obtain ⟨fuel,hfu,hge⟩ : ∃ f,Qb7=f∧1099511627776≤f:=⟨_,rfl,Nat.le_refl _⟩
 have hn:=h.n
 rw [hfu]
 dsimp only
 have hmk:mkO ((l.length:Nat):Int) (0:Int)=some (List.replicate l.length 0):=by unfold mkO lim; rw [if_pos (by omega),Int.toNat_natCast]
 rw [Qbhz (l:=l) (fun i=>i) (fun a=>a.zD == 0) (fun _=>some ([],false)) (some (List.replicate l.length 0,true)) h.big hge (fun k n hn'=>?_) (fun k=>?_)]
 ·cases hf:l.find? fun a=>a.zD == 0 with
  | none =>
   have:l.any (fun a=>a.zD == 0)=false:=by
    rw [List.find?_eq_none] at hf
    rw [List.any_eq_false]; exact hf
   rw [this]; rfl
  | some x =>
   have:l.any (fun a=>a.zD == 0)=true:=List.any_eq_true.2 ⟨x,List.mem_of_find?_eq_some hf,List.find?_some (p:=fun a:Qa=>a.zD == 0) hf⟩
   rw [this]; rfl
 ·rw [if_pos (by omega),Qb6 hn',Option.bind_some]
 ·rw [if_neg (by omega),hmk,Option.bind_some,Qbh0 (by simp),Option.bind_some]
theorem Qbh5 {t:List Int} (ht:InT l t):Qdz ⟨l,R,l.map edM⟩ t=some (mkT l t):=by
 unfold Qdz Qbe
 obtain ⟨fuel,hfu,hge⟩ : ∃ f,Qb7=f∧1099511627776≤f:=⟨_,rfl,Nat.le_refl _⟩
 have hn:=h.n
 have hl:=ht.len
 rw [hfu]
 dsimp only
 unfold mkT
 refine Qk1 (len:=l.length) (fun n=>some (((l.zip t).drop n).all fun q=>decide (q.2∈q.1.zB))) (by omega) (fun k n hn' hk=>?_) (fun k=>?_)
 ·have ha:=h.r _ (List.getElem_mem hn')
  rw [if_pos (by omega),Qb6 hn',Option.bind_some,Qb6 (show n < t.length by omega),Option.bind_some,Qnv ha.ma ha.small.1.2.1,Option.bind_some,Qcf (by omega),hk,List.drop_eq_getElem_cons (show n < (l.zip t).length by rw [List.length_zip]; omega),List.all_cons,List.getElem_zip]
  by_cases hm:t[n]∈l[n].zB
  ·rw [decide_eq_true hm,if_pos rfl,Bool.true_and]
  ·rw [decide_eq_false hm,if_neg (by simp),Bool.false_and]
 ·rw [if_neg (by omega),List.drop_of_length_le (by rw [List.length_zip]; omega)]; rfl
theorem Qbje {t:List Int} (ht:InT l t) (hne:t≠[]) (e:Int):Qel ⟨l,R,l.map edM⟩ t e=some (match Qzr l t e with | some r=>(r,true) | none=>([],false)):=by
 unfold Qel Qbo
 obtain ⟨fuel,hfu,hge⟩ : ∃ f,Qb7=f∧1099511627776≤f:=⟨_,rfl,Nat.le_refl _⟩
 have hn:=h.n
 have hl:=ht.len
 have hc:Qey t=some t:=by
  unfold Qey Q8
  cases t with
  | nil=>exact absurd rfl hne
  | cons x t=>first | rfl | (show (appO [] (x :: t)).bind _=_; rw [Qeh (by simp only [List.length_nil]; unfold lim; simp only [List.length_cons] at hl ⊢; omega)]; simp)
 have hno:neO t=some ():=by
  cases t with
  | nil=>exact absurd rfl hne
  | cons x t=>rfl
 rw [hfu,hc,Option.bind_some,hno,Option.bind_some]
 dsimp only
 have hS:Q9r e [] (l.zip t)=Qzr l t e:=by rw [Qbfa]; cases Qzr l t e <;> simp
 rw [← hS]
 refine Q7w (fun x:Int×List Int=>∃ (n:Nat) (acc:List Int),x.1=n∧n≤l.length∧acc.length=n∧x.2=acc ++ t.drop n∧Q9r e acc ((l.zip t).drop n)=Q9r e [] (l.zip t)) (fun x=>l.length - x.1.toNat) _ ⟨0,[],rfl,Nat.zero_le _,rfl,by simp,by simp⟩ (by dsimp only; omega) ?_
 rintro k ⟨x,nx⟩ ⟨n,acc,hx,hnl,hacc,hnx,hst⟩ ih
 dsimp only at hx hnx hst ih ⊢
 subst hx hnx
 by_cases hlt:n < l.length
 ·have ha:=h.r _ (List.getElem_mem hlt)
  rw [if_pos (by omega)]
  unfold letJ
  dsimp only
  rw [Qb6 hlt,Option.bind_some,Qnv ha.al ha.small.1.1,Option.bind_some,Qcf (by omega)]
  rw [List.drop_eq_getElem_cons (show n < (l.zip t).length by rw [List.length_zip]; omega),List.getElem_zip,Q9r] at hst
  have htn:t.drop n=t[n] :: t.drop (n+1):=List.drop_eq_getElem_cons (by omega)
  unfold Qbfw at hst
  dsimp only at hst
  by_cases hm:e∈l[n].zA
  ·rw [if_pos hm] at hst
   rw [decide_eq_true hm,if_pos rfl,Qb6 (show n < (l.map edM).length by simpa using hlt),Option.bind_some,Qb6 (show n < t.length by omega),Option.bind_some,List.getElem_map,Qbkz ha]
   by_cases h0:0≤Qf0 l[n] t[n] e
   ·rw [if_pos h0] at hst
    dsimp only at hst
    rw [decide_eq_true h0,if_pos rfl,Qbj0 (by omega) (by omega),Option.bind_some,Qbk0 ha h0,Qbkv (by omega) (by simp only [List.length_append,List.length_drop]; omega),Option.bind_some]
    refine ih _ ⟨n+1,acc ++ [Qf0 l[n] t[n] e],rfl,hlt,by simp [hacc],?_,hst⟩ (by dsimp only; omega)
    dsimp only
    rw [htn,Int.toNat_natCast,List.set_append_right _ _ (by omega),hacc,Nat.sub_self,List.set_cons_zero,List.append_assoc]; rfl
   ·rw [if_neg h0] at hst
    dsimp only at hst
    rw [decide_eq_false h0,if_neg (by simp),← hst]
  ·rw [if_neg hm] at hst
   dsimp only at hst
   rw [decide_eq_false hm,if_neg (by simp)]
   refine ih _ ⟨n+1,acc ++ [t[n]],rfl,hlt,by simp [hacc],?_,hst⟩ (by dsimp only; omega)
   dsimp only
   rw [htn,List.append_assoc]
   first | done | rfl
 ·rw [if_neg (by omega)]
  have hnn:n=l.length:=by omega
  rw [List.drop_of_length_le (by rw [List.length_zip]; omega),Q9r] at hst
  rw [← hst,List.drop_of_length_le (by omega),List.append_nil,Qbh0 (by omega),Option.bind_some]
include hR in
theorem Parts.dom:DomT (Qzr l) R (InT l) 4000 where
 ky:=fun t ht x hx=>by
  obtain ⟨i,hi,rfl⟩:=List.getElem_of_mem hx
  have:=ht.get i (by rw [← ht.len]; exact hi) hi
  have:=h.s _ (List.getElem_mem (show i < l.length by rw [← ht.len]; exact hi))
  omega
 cl:=fun t ht e _ r hr=>Qbbu h.r ht hr
 bd:=fun m hm hs=>Nat.le_trans (Qbbt hm fun x hx=>Qbe9 (hs x hx)) h.b
 nn:=Nat.le_refl _
 so:=hR.so
 rg:=hR.rg h
end
end Go.Abs
end
section
namespace Go.Abs
open Go
theorem Qbd3 {l:List Qa} (h:Parts l) {t:List Int} (ht:InT l t):keyI t=some (keyB t)∧Qbbq t:=by
 have hk:Qbbq t:=fun x hx=>by
  obtain ⟨i,hi,rfl⟩:=List.getElem_of_mem hx
  have:=ht.get i (by rw [← ht.len]; exact hi) hi
  have:=h.s _ (List.getElem_mem (show i < l.length by rw [← ht.len]; exact hi))
  omega
 have hn:=h.n
 have hl:=ht.len
 refine ⟨?_,hk⟩
 unfold keyI
 rw [if_pos ⟨by unfold lim; omega,hk⟩]
theorem InT.zero:∀ {l:List Qa},(∀ a∈l,Right a)→l.any (fun a=>a.zD == 0)=false→InT l (List.replicate l.length 0)
 | [],_,_=>trivial
 | a :: l,hr,h=>by
  simp only [List.any_cons,Bool.or_eq_false_iff,beq_eq_false_iff_ne] at h
  have:=(hr a (by simp)).st
  exact ⟨⟨Int.le_refl _,by omega⟩,InT.zero (fun b hb=>hr b (by simp [hb])) h.2⟩
def bld0 (l:List Qa) (R:List Int):List (List Int)×List Int×List Qd :=
 bldM (Qzr l) (mkT l) R 4001 0 [] ([List.replicate l.length 0],[],setM ([]:List (ByteArray×Int)) (keyB (List.replicate l.length 0)) 0)
section
variable {l:List Qa} (h:Parts l) {R:List Int} (hR:EvsU l R)
include h
theorem Q9i (h0:l.any (fun a=>a.zD == 0)=false):FndT R (InT l) 0 ([List.replicate l.length 0],[],setM ([]:List (ByteArray×Int)) (keyB (List.replicate l.length 0)) 0):=by
 have hz:=InT.zero h.r h0
 refine ⟨by simp,fun x hx=>?_,?_,.nil,fun x hx=>by simp at hx⟩
 ·simp only [List.mem_singleton] at hx; subst hx; exact hz
 ·have h1:MapK ([]:List (ByteArray×Int)) []:=fun r _=>⟨by simp [hasM],fun h=>by simp at h⟩
  exact h1.ins (by simp) (Qbd3 h hz).2
include hR
theorem Qbfx (h0:l.any (fun a=>a.zD == 0)=false):Right ⟨R,((bld0 l R).1.length:Int),(bld0 l R).2.1,(bld0 l R).2.2⟩∧(∀ x∈(bld0 l R).1,InT l x)∧(bld0 l R).1.length≤4000∧[List.replicate l.length 0] <+: (bld0 l R).1 :=
 Qbau (h.dom hR) (mkT l) (Q9i h h0) ⟨fun x hx=>by simp at hx,.nil⟩ (by simp) (by omega)
theorem Qbh6 (hne:l≠[]) (h0:l.any (fun a=>a.zD == 0)=false) (hE:Qd3 l=some R):Qbt l=some (⟨R,((bld0 l R).1.length:Int),(bld0 l R).2.1,(bld0 l R).2.2⟩,(bld0 l R).1,0):=by
 unfold Qbt Qbk
 obtain ⟨fuel,hfu,hge⟩ : ∃ f,Qb7=f∧1099511627776≤f:=⟨_,rfl,Nat.le_refl _⟩
 have hz:=InT.zero h.r h0
 have hd:=h.dom hR
 have hRl:=Qbe8 hR.so (hR.rg h)
 rw [hfu,Qzs h,Option.bind_some,if_neg (by simp),Qbfb h hE,Option.bind_some,Qbav h,h0,if_neg (by simp),Option.bind_some]
 dsimp only
 rw [if_pos rfl,(Qbd3 h hz).1,Option.bind_some]
 have hlen:=hz.len
 refine Q7w (fun x:List (List Int)×Int×List Int×List Qd×List (ByteArray×Int)=>∃ i:Nat,x.2.1=i∧i≤x.1.length∧FndT R (InT l) i (x.1,x.2.2.2.1,x.2.2.2.2)∧x.2.2.1.length≤i∧x.2.2.2.1.length≤32 * i ∧
  bldM (Qzr l) (mkT l) R (4001 - i) i x.2.2.1 (x.1,x.2.2.2.1,x.2.2.2.2)=bld0 l R) (fun x=>4001 - x.2.1.toNat) _ ⟨0,rfl,by simp,Q9i h h0,by simp,by simp,rfl⟩ (by dsimp only; omega) ?_
 rintro k ⟨st,x,ms,es,c⟩ ⟨i,hx,hi,hf,hms,hes,hB⟩ ih
 dsimp only at hx hi hf hms hes hB ih ⊢
 subst hx
 have hN:st.length≤4000:=hf.len hd
 by_cases hlt:i < st.length
 ·have hs:InT l st[i]:=hf.su _ (List.getElem_mem hlt)
  have hg:st[i]? = some st[i]:=List.getElem?_eq_getElem hlt
  generalize hsd:st[i]=s at hs hg
  rw [if_pos (by omega),Qb6 hlt,Option.bind_some,hsd,Qbh5 h hs,Option.bind_some]
  obtain ⟨f,hfi⟩ : ∃ f,4001 - i=f+1:=⟨4000 - i,by omega⟩
  rw [hfi,bldM] at hB
  dsimp only at hB
  rw [hg] at hB
  dsimp only at hB
  have hm2:(if mkT l s=true then (appO ms [(i:Int)]).bind fun x25=>some x25 else some ms)=some (if mkT l s then ms ++ [(i:Int)] else ms):=by
   cases mkT l s with
   | true=>rw [if_pos rfl,if_pos rfl,Qeh (by simp only [List.length_cons,List.length_nil]; unfold lim; omega),Option.bind_some]
   | false=>rfl
  rw [hm2,Option.bind_some]
  obtain ⟨r1,r2,r3⟩:=hf.row hd (i:=i) hs
  have hml:(if mkT l s=true then ms ++ [(i:Int)] else ms).length≤i+1:=by
   split
   ·simp only [List.length_append,List.length_cons,List.length_nil]; omega
   ·omega
  generalize (if mkT l s=true then ms ++ [(i:Int)] else ms)=ms' at hB hml
  have hsne:s≠[]:=by
   intro e
   have:=hs.len
   rw [e] at this
   exact hne (List.eq_nil_of_length_eq_zero this.symm)
  have hRw:∀ (n:Nat) (p:TS),n≤R.length→RowT R (InT l) i (R.take n) (st,es,c) p→p.1.length≤4000:=fun n p _ hp=>Nat.le_trans (hd.bd _ hp.nd hp.su) (Nat.le_refl _)
  refine (Q9h (l:=R) (fun j (p:TS)=>(p.1,j,p.2.1,p.2.2)) (rowM (Qzr l) i s) (fun n p=>n≤R.length∧RowT R (InT l) i (R.take n) (st,es,c) p) (fun p=>k (p.1,(IntKind.wrap .i64 ((i:Int)+1)),ms',p.2.1,p.2.2)) (by unfold big; omega) hge (fun k2 n p hn hp=>?_) (fun n p hn hp=>?_) (fun k2 p hp=>?_) (s0:=(st,es,c)) ⟨Nat.zero_le _,hf.nd,hf.su,hf.mp,List.prefix_refl _,hf.ed,fun x hx=>by
   obtain ⟨a1,a2,a3,a4,a5⟩:=hf.er x hx
   exact ⟨a1,by omega,a3,a4,a5,fun hq=>by omega⟩,by simp⟩).trans ?_
  ·obtain ⟨hp0,hp⟩:=hp
   have hpl:=hRw n p hp0 hp
   have hpe:=hp.ln
   have htl:(R.take n).length≤32:=by rw [List.length_take]; omega
   dsimp only at hpe
   dsimp only
   rw [if_pos (by omega)]
   unfold letJ
   dsimp only
   have hgs:getO p.1 (i:Int)=some s:=by
    have:=Qz6 hp.pre hg
    rw [Qb6 (List.getElem?_eq_some_iff.1 this).1]
    exact (List.getElem?_eq_getElem _).symm.trans this
   rw [Qb6 hn,Option.bind_some,hgs,Option.bind_some,Qbje h hs hsne,Option.bind_some]
   unfold rowM
   cases hst:Qzr l s R[n] with
   | none=>rfl
   | some t =>
    have ht:=Qbbu h.r hs hst
    obtain ⟨hk1,hk2⟩:=Qbd3 h ht
    obtain ⟨hm1,hm2⟩:=hp.mp t hk2
    dsimp only
    rw [if_pos rfl,hk1,Option.bind_some,hm1]
    by_cases hmem:t∈p.1
    ·rw [decide_eq_true hmem,if_pos rfl,if_pos hmem,hm2 hmem,Qeh (by simp only [List.length_cons,List.length_nil]; unfold lim; omega),Option.bind_some]
    ·rw [decide_eq_false hmem,if_neg (by simp),if_neg hmem,if_neg (by simp only [beq_iff_eq]; omega),Option.bind_some,Qeh (by simp only [List.length_cons,List.length_nil]; unfold lim; omega),Option.bind_some,Qeh (by simp only [List.length_cons,List.length_nil]; unfold lim; omega),Option.bind_some]
  ·obtain ⟨hp0,hp⟩:=hp
   refine ⟨hn,?_⟩
   have htk:R.take (n+1)=R.take n ++ [R[n]]:=List.take_succ_eq_append_getElem hn
   rw [htk]
   refine hp.step hd hs (List.getElem_mem hn) fun x hx=>?_
   have hso:=hR.so
   obtain ⟨j,hj,rfl⟩:=List.getElem_of_mem hx
   rw [List.length_take] at hj
   rw [List.getElem_take]
   exact List.pairwise_iff_getElem.1 hso j n (by omega) hn (by omega)
  ·dsimp only
   rw [if_neg (by omega)]
  ·rw [Qcf (by omega)]
   have hle:=r2.length_le
   dsimp only at hle r3
   refine ih _ ⟨i+1,rfl,by dsimp only; omega,r1,hml,?_,?_⟩ (by dsimp only; omega)
   ·dsimp only; omega
   ·dsimp only
    rw [show 4001 - (i+1)=f from by omega]
    exact hB
 ·rw [if_neg (by omega)]
  have hg:st[i]? = none:=List.getElem?_eq_none (by omega)
  obtain ⟨f,hfi⟩ : ∃ f,4001 - i=f+1:=⟨4000 - i,by omega⟩
  rw [hfi,bldM] at hB
  dsimp only at hB
  rw [hg] at hB
  dsimp only at hB
  rw [← hB]
omit hR in
theorem Qbh7 (h0:l.any (fun a=>a.zD == 0)=true) (hE:Qd3 l=some R):Qbt l=some (⟨R,0,[],[]⟩,[],0):=by
 unfold Qbt Qbk
 rw [Qzs h,Option.bind_some,if_neg (by simp),Qbfb h hE,Option.bind_some,Qbav h,h0,if_pos rfl,Option.bind_some]
 rfl
end
end Go.Abs
end
section
namespace Go.Abs
open Go
section
variable {stp:List Int→Int→Option (List Int)} {al:List Int} {P:List Int→Prop} {N:Nat} (hd:DomT stp al P N)
include hd
theorem Qbfc {mk:List Int→Bool} (hm:∀ s,P s→mk s=true):∀ {f i:Nat} {ms:List Int} {p:TS},FndT al P i p→ms.length=i→i≤p.1.length→N+1≤f+i→(bldM stp mk al f i ms p).2.1.length=(bldM stp mk al f i ms p).1.length
 | 0,i,ms,p,h,hl,hi,hf=>by have:=h.len hd; omega
 | f+1,i,ms,p,h,hl,hi,hf=>by
  rw [bldM]
  cases hg:p.1[i]? with
  | none =>
   have hi2:i=p.1.length:=by have:=List.getElem?_eq_none_iff.1 hg; omega
   dsimp only
   omega
  | some s =>
   have hs:=h.su s (List.mem_of_getElem? hg)
   obtain ⟨h1,h2,h3⟩:=h.row hd hs
   have hlt:i < p.1.length:=(List.getElem?_eq_some_iff.1 hg).1
   have hle:=h2.length_le
   dsimp only
   rw [if_pos (hm s hs)]
   exact Qbfc hm h1 (by rw [List.length_append]; simp only [List.length_cons,List.length_nil]; omega) (by omega) (by omega)
end
theorem Right.all {a:Qa} (h:Right a) (hm:(a.zB.length:Int)=a.zD) {x:Int} (h0:0≤x) (h1:x < a.zD):x∈a.zB:=by
 refine Classical.byContradiction fun hx=>?_
 have hn:(x :: a.zB).Nodup:=List.nodup_cons.2 ⟨hx,h.ma.imp fun h=>by omega⟩
 have:=Qbbt hn (m:=upto a.zD) fun y hy=>Qbe6.2 (by
  rcases List.mem_cons.1 hy with rfl | hy
  ·exact ⟨h0,h1⟩
  ·exact h.ma0 y hy)
 rw [Qbe7,List.length_cons] at this
 omega
theorem Qbh8:∀ {l:List Qa} {t:List Int},(∀ a∈l,Right a∧(a.zB.length:Int)=a.zD)→InT l t→mkT l t=true
 | [],[],_,_=>rfl
 | a :: l,x :: t,h,ht=>by
  have h1:=h a (by simp)
  have h2:=Qbh8 (fun b hb=>h b (List.mem_cons_of_mem _ hb)) ht.2
  unfold mkT at h2 ⊢
  rw [List.zip_cons_cons,List.all_cons,h2,decide_eq_true (h1.1.all h1.2 ht.1.1 ht.1.2)]
  rfl
 | [],_ :: _,_,h=>h.elim
 | _ :: _,[],_,h=>h.elim
theorem Qbjf {l:List Qa} (h:Parts l) (hne:l≠[]):∃ A T,Qbt l=some (A,T,0)∧Right A∧A.zD≤4000∧((∀ a∈l,(a.zB.length:Int)=a.zD)→(A.zB.length:Int)=A.zD):=by
 obtain ⟨R,hE,hR⟩:=Qbk1 h
 cases h0:l.any fun a=>a.zD == 0 with
 | true=>exact ⟨_,_,Qbh7 h h0 hE,{ al0:=hR.rg h,al:=hR.so,st:=⟨Int.le_refl 0,by show (0:Int)≤4096; decide⟩,ma0:=fun x hx=>by simp at hx,ma:=List.Pairwise.nil,ed0:=fun x hx=>by simp at hx,ed:=List.Pairwise.nil },by show (0:Int)≤4000; decide,fun _=>rfl⟩
 | false =>
  obtain ⟨k1,k2,k3,k4⟩:=Qbfx h hR h0
  refine ⟨_,_,Qbh6 h hR hne h0 hE,k1,by show ((bld0 l R).1.length:Int)≤4000; omega,fun hm=>?_⟩
  have:=Qbfc (h.dom hR) (mk:=mkT l) (fun s hs=>Qbh8 (fun a ha=>⟨h.r a ha,hm a ha⟩) hs) (f:=4001) (ms:=[]) (Q9i h h0) rfl (by simp) (by omega)
  exact congrArg Nat.cast this
end Go.Abs
end
section
namespace Go.Abs
open Go
end Go.Abs
end
section
namespace Go.Abs
open Go
theorem Qbfy:Qha=some true:=by kernel_rfl
theorem Q9j {a:Qa} (h:Right a):Qcy a=some (((a.zB.length:Int) == a.zD),0):=by
 unfold Qcy Qbg
 rw [Q9c h,Option.bind_some,if_neg (by simp)]
theorem Qbaw {l:List Qa} {A:Qa} {T:List (List Int)} {e:Int} (h:Qbt l=some (A,T,e)):Qd9 l=some (A,e):=by
 unfold Qd9 Qbf
 rw [h]; rfl
theorem Qbk2 {l:List Qa} {A:Qa} {T:List (List Int)} {e:Int} (h:Qbt l=some (A,T,e)):Qbu l=some (A,e):=by
 unfold Qbu Q3
 rw [Qbaw h]; rfl
theorem Qbjg:∃ b,Qbu []=some (b,0)∧b.zD=1∧b.zB.length=1:=⟨⟨[],1,[0],[]⟩,by kernel_rfl,rfl,rfl⟩
theorem Qbk3 {s:Int} {g:Qf} (h0:0≤s) (h1:s < 256) (hg:Q9g g):∃ ev m,Qca s=some ev∧Qde ev g=some m∧Right m∧m.zD≤5:=by
 obtain ⟨ev,hE,hev⟩:=Qbhy h0 h1
 obtain ⟨m,hm,hmal,hM,hm5⟩:=Qbku hev hg
 refine ⟨ev,Q5e m,hE,hM,Qbc2 hm,?_⟩
 have:=(Q6q hm).1.len
 show ((Qoj m).length:Int)≤5
 omega
def Few3 (r:List Qa):Prop:=∀ a∈r,Right a∧a.zD≤5
theorem Qbdb:∀ {l:List Qa},Few3 l→(allT l).length≤5 ^ l.length
 | [],_=>by simp [allT]
 | a :: l,h=>by
  rw [Qbbs,List.foldr_cons,← Qbbs,List.length_cons,Nat.pow_succ]
  have ih:=Qbdb (l:=l) fun b hb=>h b (List.mem_cons_of_mem _ hb)
  have h5:=(h a (by simp)).2
  have:a.zD.toNat≤5:=by omega
  calc a.zD.toNat * (allT l).length≤5 * (allT l).length:=Nat.mul_le_mul_right _ this
   _≤5 * 5 ^ l.length:=Nat.mul_le_mul_left _ ih
   _=5 ^ l.length * 5:=Nat.mul_comm _ _
theorem Qbk4 {l:List Qa} (h:Few3 l) (hl:l.length≤3):Parts l:=by
 refine { r:=fun a ha=>(h a ha).1,s:=fun a ha=>Int.le_trans (h a ha).2 (by decide),n:=by omega,b:=Nat.le_trans (Qbdb h) ?_ }
 exact Nat.le_trans (Nat.pow_le_pow_right (by decide) hl) (by decide)
def Qbd4 (l:List Qa):Bool:=l.all fun a=>(a.zB.length:Int) == a.zD
theorem Qbh9 {l:List Qa} (h:Few3 l) (hl:l.length=3):((Qbu l).bind fun (r32,r33)=>((Qd9 l).bind fun (r35,r36)=>((Qbu []).bind fun (r38,r39)=>((Qcy r32).bind fun (r41,r42)=>(((if (r33 == 0) then (if (r36 == 0) then ((Qfq r32 r35).bind fun x46=>(if x46 then (if (r39 == 0) then (if (r38.zD == 1) then (if ((r38.zB.length:Int) == 1) then (if (r42 == 0) then (if Qbd4 l then some r41 else some true) else some false) else some false) else some false) else some false) else some false)) else some false) else some false)).bind fun (x53:Bool)=>some x53)))))=some true:=by
 obtain ⟨A,T,hS,hA,hA4,hm⟩:=Qbjf (Qbk4 h (by omega)) (by intro hc; rw [hc] at hl; simp at hl)
 obtain ⟨b,hb,hb1,hb2⟩:=Qbjg
 rw [Qbk2 hS,Option.bind_some]
 dsimp only
 rw [Qbaw hS,Option.bind_some]
 dsimp only
 rw [hb,Option.bind_some]
 dsimp only
 rw [Q9j hA,Option.bind_some]
 dsimp only
 rw [if_pos (by rfl),if_pos (by rfl),Qbh4 hA.small.1,decide_eq_true rfl,Option.bind_some,if_pos rfl,if_pos (by rfl),if_pos (by simpa using hb1),if_pos (by rw [hb2]; rfl),if_pos (by rfl)]
 cases hs:Qbd4 l with
 | false=>rfl
 | true =>
  have:(A.zB.length:Int)=A.zD:=hm fun a ha=>by
   have:=List.all_eq_true.1 hs a ha
   simpa using this
  rw [if_pos rfl,Option.bind_some]
  simpa using this
structure Qbl0 (s:Int×Int×Int):Prop where
 a:0≤s.1∧s.1 < 256
 b:0≤s.2.1∧s.2.1 < 256
 c:0≤s.2.2∧s.2.2 < 256
structure Qbia (g:Qf×Qf×Qf):Prop where
 a:Q9g g.1
 b:Q9g g.2.1
 c:Q9g g.2.2
theorem Qbd5 {s:Int×Int×Int} {g:Qf×Qf×Qf} (hs:Qbl0 s) (hg:Qbia g):Qdi s g=some true:=by
 unfold Qdi Qck
 obtain ⟨fuel,hfu,hge⟩ : ∃ f,Qb7=f∧1099511627776≤f:=⟨_,rfl,Nat.le_refl _⟩
 rw [hfu,Qbfy,Option.bind_some,if_pos rfl]
 refine Q7w (fun x:List Qa×Bool×Int=>Few3 x.1∧x.2.1=Qbd4 x.1∧x.2.2=x.1.length∧x.1.length≤3) (fun x=>3 - x.1.length) (some true) ⟨fun a ha=>by simp at ha,rfl,rfl,by simp⟩ (by simp only [List.length_nil]; omega) fun k x hx ih=>?_
 obtain ⟨l,safe,i⟩:=x
 obtain ⟨h1,h2,h3,h4⟩:=hx
 simp only at h1 h2 h3 h4
 subst h2 h3
 dsimp only
 by_cases hc:l.length < 3
 ·have key:∀ (sv:Int) (gv:Qf),rowO [s.1,s.2.1,s.2.2] (Int.toNat (l.length:Int) * 1)=some sv→getO [g.1,g.2.1,g.2.2] (l.length:Int)=some gv→0≤sv∧sv < 256→Q9g gv →
    ((inO 3 (l.length:Int)).bind fun _=>((rowO [s.1,s.2.1,s.2.2] (Int.toNat (l.length:Int) * 1)).bind fun x12=>((Qca x12).bind fun x15=>((inO 3 (l.length:Int)).bind fun _=>((getO [g.1,g.2.1,g.2.2] (l.length:Int)).bind fun x17=>((Qde x15 x17).bind fun x20=>((Qcy x20).bind fun (r22,r23)=>(((if (r23 != 0) then some true else some (!(r22 == ((x20.zB.length:Int) == x20.zD))))).bind fun (x25:Bool)=>(if x25 then some false else (((if Qbd4 l then some r22 else some false)).bind fun (safe28:Bool)=>((appO l [x20]).bind fun x29=>k (x29,safe28,(IntKind.wrap .i64 ((l.length:Int)+1))))))))))))))=some true:=by
   intro sv gv e1 e2 w1 w2
   obtain ⟨ev,m,hE,hM,hm,h5⟩:=Qbk3 w1.1 w1.2 w2
   rw [Qbj0 (by omega) (by omega),Option.bind_some,e1,Option.bind_some,hE,Option.bind_some,Option.bind_some,e2,Option.bind_some,hM,Option.bind_some,Q9j hm,Option.bind_some]
   dsimp only
   rw [if_neg (by simp),Option.bind_some,if_neg (by simp)]
   have hsf:(if Qbd4 l then some ((m.zB.length:Int) == m.zD) else some false)=some (Qbd4 (l ++ [m])):=by
    unfold Qbd4
    rw [List.all_append]
    cases l.all fun a=>(a.zB.length:Int) == a.zD <;> simp
   rw [hsf,Option.bind_some,Qeh (by simp only [List.length_cons,List.length_nil]; unfold lim; omega),Option.bind_some,Qcf (by omega)]
   have he:(l ++ [m]).length=l.length+1:=by simp
   rw [← he]
   refine ih _ ⟨fun a ha=>?_,rfl,rfl,?_⟩ ?_
   ·rcases List.mem_append.1 ha with h | h
    ·exact h1 a h
    ·simp at h; subst h; exact ⟨hm,h5⟩
   ·simp only [he]; omega
   ·simp only [he]; omega
  rw [if_pos (by omega)]
  obtain h | h | h:l.length=0∨l.length=1∨l.length=2:=by omega
  ·exact key s.1 g.1 (by rw [h]; rfl) (by rw [h]; rfl) hs.a hg.a
  ·exact key s.2.1 g.2.1 (by rw [h]; rfl) (by rw [h]; rfl) hs.b hg.b
  ·exact key s.2.2 g.2.2 (by rw [h]; rfl) (by rw [h]; rfl) hs.c hg.c
 ·rw [if_neg (by omega)]
  exact Qbh9 h1 (by omega)
end Go.Abs
end
section
namespace Go.Proofs
open Go Go.Abs
theorem Qbib {x:Int} (h:wfI .u8 x):0≤x∧x < 256:=by
 unfold wfI at h
 simp [Lit.wf,IntKind.min,IntKind.max,IntKind.bits,IntKind.signed] at h
 omega
theorem Qbbv {g:Qf} (h:W_27 g):Q9g g:=by
 unfold W_27 W_25 W_24 W_5 at h
 obtain ⟨h1,h2,⟨a1,a2,a3,a4,a5⟩,⟨b1,b2,b3,b4,b5⟩,⟨c1,c2,c3,c4,c5⟩,⟨d1,d2,d3,d4,d5⟩,⟨e1,e2,e3,e4,e5⟩⟩:=h
 refine ⟨Qbib h1,fun x hx=>?_⟩
 simp only [List.mem_cons,List.not_mem_nil,or_false] at hx
 rcases hx with rfl | rfl | rfl | rfl | rfl | rfl | rfl | rfl | rfl | rfl | rfl | rfl | rfl | rfl | rfl | rfl | rfl | rfl | rfl | rfl | rfl | rfl | rfl | rfl | rfl <;> exact Qbib (by assumption)
theorem Qbl9 {s:Int×Int×Int} (h:W_23 s):Qbl0 s:=⟨Qbib h.1,Qbib h.2.1,Qbib h.2.2⟩
theorem Qbl1 {g:Qf×Qf×Qf} (h:W_28 g):Qbia g:=⟨Qbbv h.1,Qbbv h.2.1,Qbbv h.2.2⟩
end Go.Proofs
end
section
namespace Go.Abs
open Go Go.ChangeShapes Go.WideShapes Go.ChangeAt Go.RowKit
theorem Qbic {X:World→Array Value→Prop} (hX:∀ (w w' : World) (args:Array Value),w.heap=w'.heap→X w args→X w' args) {C:Checked} {f:FuncId} {fn:Func} {s:ChangeSpec} {conds:List PathCond} {bt:TypeId} {os:Os} {H:Type} {enc:TypeId×Value→H}
  (own:ownKnob C.prog.godebug=none) (started:os.Started) (noInit:C.prog.inits.idxOf? f=none) (hfn:C.prog.funcs[f]? = some fn)
  (witness:∃ (w:World) (tape:Tape) (i:Input),w.os=os∧(w.forCall tape i).Shaped C.prog∧i.vars=[]∧Input.okWide C.prog (w.forCall tape i) .any w.heap.size f i ∧
   ((s.pre enc C.prog fn conds false (w.forCall tape i).memory i.args∧X (w.forCall tape i).memory i.args)∧sizedMet enc C.prog fn (OpenSpec.ofChange s) false (w.forCall tape i).memory i.args)∧({}:Assume).holds C.prog (lone (Frame.enter C.prog f i.args .normal) [] (w.forCall tape i)))
  (hvars:s.vars=[]) (hres:fn.resultTypes = #[bt]) (hbt:C.prog.underlying bt=some .bool)
  (hl:laidOutB C.prog=true) (hread:∀ t∈fn.params.toList,C.prog.readableRec t=true∧t < C.prog.types.size)
  (hspec:∀ ds:List (DataW H),ds.length=fn.params.size→s.fn H ds={ results:=[.lit (.bool true)],args:=ds })
  (law:Qblx C.prog f fn.params.toList) :
  ReturnsInHanded {} C os f .any (fun w args=>(s.pre enc C.prog fn conds false w args∧X w args)∧sizedMet enc C.prog fn (OpenSpec.ofChange s) false w args) (s.post enc C.prog fn false true false false):=by
 refine returnsInHanded_of_change_and hX own started noInit hfn witness ?_
 intro W base args ds gs before hval hW hcnd _ _ _
 have hW':=hW
 obtain ⟨p,q,hA,hV,hps,hfz,hnd⟩:=hW
 rw [hvars] at hV
 obtain ⟨rfl,rfl⟩ : gs=[]∧q=[]:=by
  cases gs with
  | nil=>exact ⟨rfl,hV⟩
  | cons _ _=>exact hV.elim
 obtain ⟨vs,h1,h2,h3,h4⟩:=law (fun j t u ht hu=>hval j t u (by simpa using ht) (by simpa using hu)) hA
 obtain ⟨hb,_,h5⟩:=h4 (fun _=>none) 0
 have hlv:∀ b o,live W b o→b < W.heap.size:=by
  intro b o h
  simp only [live] at h
  obtain ⟨v,hv⟩:=Option.isSome_iff_exists.1 h
  unfold World.cell? at hv
  split at hv
  ·rename_i hh; exact (Array.getElem?_eq_some_iff.1 hh).1
  ·cases hv
 have hmr:MR ⟨fun _=>0,live W,fun _=>.ext⟩ W (fun _=>none) 0:=⟨fun k b h=>(by cases h),fun b o h=>⟨hlv b o h,fun k h=>by cases h⟩⟩
 have h6:=h5 W ⟨fun _=>0,live W,fun _=>.ext⟩ args.toList hmr (fun k cs h=>by cases h) (fun b=>⟨fun t p h=>(by cases h),fun p h=>(by cases h)⟩) h1 h2 (ons_mono (fun k hk=>absurd hk (Nat.not_lt_zero k)) _ (ons_lt vs h3))
 refine Calls.mono h6 fun e W' ⟨v,g',he,_,hr,_,_,hf⟩=>?_
 subst he
 have hv:v = .bool true:=by simpa [RV,RD] using hr
 subst hv
 have hbelow:Below W.heap.size W W':=⟨hf.os,hf.tape,hf.output,hf.size,fun k hk=>(hf.old k hk trivial).2.1⟩
 have hrl:(Value.bool true).resultList fn.resultTypes.size=[.bool true]:=by rw [hres]; rfl
 have hsp:s.fn H (ds ++ [])={ results:=[.lit (.bool true)],args:=ds }:=by
  rw [List.append_nil]
  exact hspec ds (by have:=(Q87 hA).1; simpa using this)
 have hlt:∀ p∈before,p.block < W.heap.size:=fun x hx=>hW'.lt x hx
 have hst:∀ sp:Nat→Bool,(∀ p∈before,sp p.block=true)→DataW.TrodAll enc C.prog W' 0 sp true fn.params.toList args.toList ds before:=by
  intro sp hsp'
  have e:p=before:=by rw [hps,List.append_nil]
  subst e
  exact Q5d hl hread hA (fun x hx=>hbelow.same (hlt x hx)) hsp'
 refine ⟨_,rfl,ds,[],before,[],before,[],hW',?_,?_,?_,World.keptBut_mono (fun p hp=>⟨hp,.inr (.inl hp)⟩) (hbelow.frame (· ∈ before)),fun h=>by cases h⟩
 ·rw [hsp,hrl,hres]
  exact ⟨[],[],⟨1,by simp [DataW.trod,Value.cells,hbt]⟩,rfl,rfl⟩
 ·rw [hsp]
  exact hst _ fun p hp=>by simpa using hlt p hp
 ·rw [hsp,hvars]; rfl
end Go.Abs
end
