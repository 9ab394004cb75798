/-
  Part 6 of the proof: see the last text.
-/
import Derived.Test.YtddmeallinaokaaP5
import Derived.Test.YtddmeallinaokaaProg
import Derived.KernelRfl
import Derived.Sort.Statements
import Derived.Lib.SlicesCompact
import Derived.Lib.RuneBytes
import Derived.Shelf.SlSortCmp.NoneTotal
import Derived.Shelf.SlGeneric
import Derived.Ground.SlgmProg
import Derived.Shelf.SortM.Plain
import Derived.Shelf.SortM.SortNone
import Derived.Shelf.Small.Bits
import Derived.Ground.Names2Prog
import Derived.Shelf.Slices.CompactI
import Derived.WalkKit
import Derived.Shelf.Spec.SlicesGrow
import Derived.Ground.Names8Prog
import Derived.OpenShut
import Derived.ProofKit
import Derived.Carry
import GoSem.Claim
import GoSem.ClaimJoined
import Derived.JoinedTies
set_option linter.unusedVariables false
set_option linter.unusedSimpArgs false
set_option linter.unusedSectionVars false
section
namespace Go.Abs
open Go
set_option linter.unusedVariables false
set_option maxRecDepth 10000
set_option maxHeartbeats 4000000
theorem Qr4 {P : Program} {c : Nat} (hcf : Qm P c = some Qg7) (fuel : Nat) : Qg6 P c (Qb4 fuel):=by
 intro l1 n2 r h
 refine Qb1 hcf rfl fun Γ M hP hnt hM=>?_
 subst hP
 refine Tr.init [(0,(l_ l1)),(1,(i_ n2))] rfl ?_
 unfold Qb4 at h
 unfold Qg7
 refine sr ((md rfl (nt ((Tr.seq (sr ((md rfl (Rn.lenD tv rfl (md rfl (nt ((Tr.block ?_)))))))))))))
 refine Tr.loop (mk:=fun (x3 : Int)=>⟨look [(0,(l_ l1)),(1,(i_ n2)),(7,(l_ l1)),(8,(i_ (l1.length : Int))),(9,(i_ x3))],Qk Γ.n0 (bxs []) M,Γ.n0 + 35⟩) h (by exact Qi ⟨(sm rfl),(sm rfl),(sm rfl),(sm rfl),(sm rfl),tv⟩ tv rfl) (fun k4 z h=>?_)
 ·obtain ⟨x3,rfl⟩ : ∃ x,x = z:=⟨_,rfl⟩
  replace h : _ = some _:=h
  refine sr ((Rn.bin tv rfl rfl rfl (nt ((Tr.seq ?_)))))
  refine Tr.cond rfl (fun hb5=>?_) (fun hb5=>?_)
  ·replace h:=ifT hb5 h
   refine Tr.skip (toN (Tr.seq (Tr.block (sr ((md rfl ?_))))))
   obtain ⟨x6,h7,h⟩:=bnd h
   refine Rn.idxD (e:=(eI .i64)) tv rfl rfl h7 (Rn.loadC (x:=.int .i64 x6) tv rfl (md rfl (md rfl (nt ((Tr.block ?_))))))
   refine Tr.cutB (fun (x9 : Bool)=>⟨look [(0,(l_ l1)),(1,(i_ n2)),(5,(i_ x3)),(6,(i_ x6)),(7,(l_ l1)),(8,(i_ (l1.length : Int))),(9,(i_ x3)),(14,(b_ x9))],Qk Γ.n0 (bxs []) M,Γ.n0 + 35⟩) h (fun z h=>?_) (fun z h=>?_)
   ·refine Tr.rgn (md rfl (Rn.bin tv rfl rfl rfl (md rfl ?_)))
    refine Qck (decide (x6 < 0)) (fun hb8=>?_) (fun hb8=>?_)
    ·replace h:=ifT hb8 h
     refine Rn.sk (nw rfl hb8) (Rn.sk (nw rfl hb8) (Rn.sk (nw rfl hb8) (Rn.pickT (v:=(b_ true)) tv rfl hb8 rfl (md rfl (Rn.nil ?_)))))
     replace h:=si h; subst h
     exact Qg [] ⟨(sm rfl),(sm rfl),(sm rfl),(sm rfl),(sm rfl),(sm rfl),(sm rfl),(sm rfl),tv⟩ tv rfl
    ·replace h:=ifF hb8 h
     refine Rn.movD (gw rfl hb8) rfl (Rn.movD (gw rfl hb8) rfl (Rn.bin (gw rfl hb8) rfl rfl rfl (Rn.pickF (v:=(b_ (decide (x6 ≥ n2)))) tv rfl hb8 rfl (md rfl (Rn.nil ?_)))))
     replace h:=si h; subst h
     exact Qg [] ⟨(sm rfl),(sm rfl),(sm rfl),(sm rfl),(sm rfl),(sm rfl),(sm rfl),(sm rfl),tv⟩ tv rfl
   ·obtain ⟨x9,rfl⟩ : ∃ x,x = z:=⟨_,rfl⟩
    refine Tr.cond rfl (fun hb10=>?_) (fun hb10=>?_)
    ·replace h:=bT hb10 h
     refine sr ((md rfl (nt ((Tr.ret ?_)))))
     replace h:=si h; subst h
     exact ⟨.inr rfl,(i_ 2),rfl,fun _ _ _ _ h=>h,tv,fun k hk=>Qf hk⟩
    ·replace h:=bF hb10 h
     refine Tr.cutB (fun (x14 : Bool)=>⟨look [(0,(l_ l1)),(1,(i_ n2)),(7,(l_ l1)),(8,(i_ (l1.length : Int))),(9,(i_ x3)),(22,(b_ x14))],Qk Γ.n0 (bxs []) M,Γ.n0 + 35⟩) h (fun z h=>?_) (fun z h=>?_)
     ·refine Tr.rgn (md rfl (Rn.bin tv rfl rfl rfl (md rfl ?_)))
      refine Qck (decide (x3 > 0)) (fun hb11=>?_) (fun hb11=>?_)
      ·replace h:=ifT hb11 h
       refine Rn.movD (gw rfl hb11) rfl (Rn.movD (gw rfl hb11) rfl (Rn.movD (gw rfl hb11) rfl (Rn.bin (gw rfl hb11) rfl rfl rfl ?_)))
       obtain ⟨x12,h13,h⟩:=bnd h
       refine Rn.idxD (e:=(eI .i64)) (gw rfl hb11) rfl rfl h13 (Rn.loadC (x:=.int .i64 x12) (gw rfl hb11) rfl (Rn.bin (gw rfl hb11) rfl rfl rfl (Rn.pickT (v:=(b_ (decide (x6 ≤ x12)))) tv rfl hb11 rfl (md rfl (Rn.nil ?_)))))
       replace h:=si h; subst h
       exact Qg [] ⟨(sm rfl),(sm rfl),(sm rfl),(sm rfl),(sm rfl),(sm rfl),tv⟩ tv rfl
      ·replace h:=ifF hb11 h
       refine Rn.sk (nw rfl hb11) (Rn.sk (nw rfl hb11) (Rn.sk (nw rfl hb11) (Rn.sk (nw rfl hb11) (Rn.sk (nw rfl hb11) (Rn.sk (nw rfl hb11) (Rn.sk (nw rfl hb11) (Rn.pickF (v:=(b_ false)) tv rfl hb11 rfl (md rfl (Rn.nil ?_)))))))))
       replace h:=si h; subst h
       exact Qg [] ⟨(sm rfl),(sm rfl),(sm rfl),(sm rfl),(sm rfl),(sm rfl),tv⟩ tv rfl
     ·obtain ⟨x14,rfl⟩ : ∃ x,x = z:=⟨_,rfl⟩
      refine Tr.cond rfl (fun hb15=>?_) (fun hb15=>?_)
      ·replace h:=bT hb15 h
       refine sr ((md rfl (nt ((Tr.ret ?_)))))
       replace h:=si h; subst h
       exact ⟨.inr rfl,(i_ 5),rfl,fun _ _ _ _ h=>h,tv,fun k hk=>Qf hk⟩
      ·replace h:=bF hb15 h
       refine Tr.skip (toN (Tr.rgn (Rn.bin tv rfl rfl rfl (md rfl (Rn.nil ?_)))))
       exact ⟨_,h,(by exact Qi ⟨(sm rfl),(sm rfl),(sm rfl),(sm rfl),(sm rfl),tv⟩ tv rfl)⟩
  ·replace h:=ifF hb5 h
   refine Tr.exit (toN (sr ((md rfl (nt ((Tr.ret ?_)))))))
   replace h:=si h; subst h
   exact ⟨.inr rfl,(i_ 0),rfl,fun _ _ _ _ h=>h,tv,fun k hk=>Qf hk⟩
theorem Q0p {P : Program} {c : Nat} {Qv : Qa → Option Int} {Qb4 : (List Int) → Int → Option Int}
    (H_automaton_Check : Qff P 62 Qv)
    (H_projection_checkSet : Qg6 P 63 Qb4) (hcf : Qm P c = some Qkb) : Qka P c (Qci Qv Qb4):=by
 intro a1 events2 r h
 refine Qb1 hcf rfl fun Γ M hP hnt hM=>?_
 subst hP
 refine Tr.init [(0,(Qb a1)),(1,(l_ events2))] rfl ?_
 unfold Qci at h
 unfold Qkb
 refine sr ((Rn.box (v:=(Qb a1)) (cs:=(Qe a1)) tv rfl rfl rfl rfl rfl (md rfl (nt ((Tr.seq (sr ((Rn.load (v:=(Qb a1)) tv rfl (Qj rfl) rfl rfl ?_)))))))))
 obtain ⟨x4,h3,h⟩:=bnd h
 refine Rn.call (args:=[(Qb a1)]) tv rfl (H_automaton_Check _ _ h3) pc9 (md rfl (nt ((sr ((md rfl (Rn.bin tv rfl rfl rfl (Rn.nil (toN ?_)))))))))
 refine Tr.cond rfl (fun hb5=>?_) (fun hb5=>?_)
 ·replace h:=bT hb5 h
  refine sr ((md rfl (md rfl (nt ((Tr.ret ?_))))))
  replace h:=si h; subst h
  exact ⟨.inr rfl,(i_ x4),rfl,fun _ _ _ _ h=>h,tv,fun k hk=>Qf hk⟩
 ·replace h:=bF hb5 h
  refine Tr.skip (toN (sr ((md rfl ?_))))
  obtain ⟨x7,h6,h⟩:=bnd h
  refine Rn.call (args:=[(l_ events2),(i_ 32)]) tv rfl (H_projection_checkSet _ _ _ h6) pc9 (md rfl (nt ((Tr.ret ?_))))
  replace h:=si h; subst h
  exact ⟨.inr rfl,(i_ x7),rfl,fun _ _ _ _ h=>h,tv,fun k hk=>Qf hk⟩
theorem Qxu {P : Program} {c : Nat} (hcf : Qm P c = some Qi4) : Qi3 P c (Qb7):=by
 intro s1 r h
 refine Qb1 hcf rfl fun Γ M hP hnt hM=>?_
 subst hP
 refine Tr.init [(0,.d (.lst 3 (List.map Qc s1)))] rfl ?_
 unfold Qb7 at h
 unfold Qi4
 refine sr ((Rn.movTC (v:=.nils 3) tv (nt ((Tr.seq (sr ((md rfl ?_))))))))
 refine Rn.isnil (e:=Qc) tv rfl h (fun b2 h=>?_)
 refine Rn.nil (toN ?_)
 refine Tr.cond rfl (fun hb3=>?_) (fun hb3=>?_)
 ·replace h:=bT hb3 h
  refine sr ((Rn.movTC (v:=.nils 3) tv (nt ((Tr.ret ?_)))))
  replace h:=si h; subst h
  exact ⟨.inr rfl,(.nils 3),rfl,(WkV.nilsO _).rd,tv,fun k hk=>Qf hk⟩
 ·replace h:=bF hb3 h
  refine Tr.skip (toN (sr ((Rn.bslice (xs:=[]) (cs:=[]) tv rfl rfl rfl rfl (md rfl ?_)))))
  obtain ⟨x4,h5,h⟩:=bnd h
  refine Rn.app0 (e:=Qc) tv rfl rfl rfl rfl Qyn h5 rfl (Rn.movTO tv rfl (nt ((Tr.ret ?_))))
  replace h:=si h; subst h
  exact ⟨.inr rfl,(.own 3 (List.map Qc x4)),rfl,fun _ _ _ _ h=>h,tv,fun k hk=>Qf hk⟩
theorem Qxv {P : Program} {c : Nat} {f_slices_Grow_int : Int → Option ((List Int))}
    (H_slices_Grow_int : K_slices_Grow_int P 64 f_slices_Grow_int) (hcf : Qm P c = some Qi6) (fuel : Nat) : Qi5 P c (Qb8 f_slices_Grow_int fuel):=by
 intro slices1 r h
 refine Qb1 hcf rfl fun Γ M hP hnt hM=>?_
 subst hP
 refine Tr.init [(0,.d (.lst 1 (List.map (eL 1 (eI .i64)) slices1)))] rfl ?_
 unfold Qb8 at h
 unfold Qi6
 refine sr ((Rn.movTC (v:=.nils 1) tv (nt ((sr ((md rfl (Rn.nil (toN ?_)))))))))
 refine Tr.cutB (fun (size9 : Int)=>⟨look [(0,.d (.lst 1 (List.map (eL 1 (eI .i64)) slices1))),(3,(i_ size9))],Qk Γ.n0 (bxs []) M,Γ.n0 + 36⟩) h (fun z h=>?_) (fun z h=>?_)
 ·refine sr ((md rfl (Rn.lenD tv rfl (md rfl (nt ((Tr.block ?_)))))))
  refine Tr.loop (mk:=fun ((size2,x3) : Int × Int)=>⟨look [(0,.d (.lst 1 (List.map (eL 1 (eI .i64)) slices1))),(3,(i_ size2)),(9,.d (.lst 1 (List.map (eL 1 (eI .i64)) slices1))),(10,(i_ (slices1.length : Int))),(11,(i_ x3))],Qk Γ.n0 (bxs []) M,Γ.n0 + 36⟩) h (by exact Qi ⟨(sm rfl),(sm rfl),(sm rfl),(sm rfl),(sm rfl),tv⟩ tv rfl) (fun k4 z h=>?_)
  ·obtain ⟨size2,x3⟩:=z
   replace h : _ = some _:=h
   refine sr ((Rn.bin tv rfl rfl rfl (nt ((Tr.seq ?_)))))
   refine Tr.cond rfl (fun hb5=>?_) (fun hb5=>?_)
   ·replace h:=ifT hb5 h
    refine Tr.skip (toN (Tr.seq (Tr.block (Tr.seq (Tr.rgn ?_)))))
    obtain ⟨x6,h7,h⟩:=bnd h
    refine Rn.idxD (e:=(eL 1 (eI .i64))) tv rfl rfl h7 (Rn.loadC (x:=.lst 1 (List.map (eI .i64) x6)) tv rfl (Rn.movTD tv rfl (nt ((sr ((md rfl (md rfl (Rn.lenD tv rfl (Rn.bin tv rfl rfl rfl (md rfl (nt ((sr ((md rfl (Rn.bin tv rfl rfl rfl (Rn.nil (toN ?_)))))))))))))))))))
    refine Tr.cond rfl (fun hb8=>?_) (fun hb8=>?_)
    ·replace h:=ifT hb8 h
     cases h
    ·replace h:=ifF hb8 h
     refine Tr.skip (toN (Tr.rgn (Rn.bin tv rfl rfl rfl (md rfl (Rn.nil ?_)))))
     exact ⟨_,h,(by exact Qi ⟨(sm rfl),(sm rfl),(sm rfl),(sm rfl),(sm rfl),tv⟩ tv rfl)⟩
   ·replace h:=ifF hb5 h
    refine Tr.exit ?_
    replace h:=si h; subst h
    exact Qg [] ⟨(sm rfl),(sm rfl),tv⟩ tv rfl
 ·obtain ⟨size9,rfl⟩ : ∃ x,x = z:=⟨_,rfl⟩
  refine sr ((md rfl ?_))
  obtain ⟨x11,h10,h⟩:=bnd h
  refine Rn.call (args:=[.nils 1,(i_ size9)]) tv rfl (H_slices_Grow_int _ _ h10) pc9 (Rn.movTO tv rfl (Rn.nil (toN ?_)))
  refine Tr.cutB (fun (newslice20 : List Int)=>⟨look [(6,(o_ newslice20))],Qk Γ.n0 (bxs []) M,Γ.n0 + 36⟩) h (fun z h=>?_) (fun z h=>?_)
  ·refine sr ((md rfl (Rn.lenD tv rfl (md rfl (nt ((Tr.block ?_)))))))
   refine Tr.loop (mk:=fun ((newslice12,x13) : (List Int) × Int)=>⟨look [(6,(o_ newslice12)),(25,.d (.lst 1 (List.map (eL 1 (eI .i64)) slices1))),(26,(i_ (slices1.length : Int))),(27,(i_ x13))],Qk Γ.n0 (bxs []) M,Γ.n0 + 36⟩) h (by exact Qi ⟨(sm rfl),(sm rfl),(sm rfl),(sm rfl),tv⟩ tv rfl) (fun k14 z h=>?_)
   ·obtain ⟨newslice12,x13⟩:=z
    replace h : _ = some _:=h
    refine sr ((Rn.bin tv rfl rfl rfl (nt ((Tr.seq ?_)))))
    refine Tr.cond rfl (fun hb15=>?_) (fun hb15=>?_)
    ·replace h:=ifT hb15 h
     refine Tr.skip (toN (Tr.seq (Tr.block (Tr.seq (Tr.rgn ?_)))))
     obtain ⟨x16,h17,h⟩:=bnd h
     refine Rn.idxD (e:=(eL 1 (eI .i64))) tv rfl rfl h17 (Rn.loadC (x:=.lst 1 (List.map (eI .i64) x16)) tv rfl (Rn.movTD tv rfl (nt ((Tr.rgn (Rn.movTO tv rfl (md rfl ?_)))))))
     obtain ⟨x18,h19,h⟩:=bnd h
     refine Rn.app (e:=(eI .i64)) tv rfl rfl rfl Qyn h19 rfl (Rn.movTO tv rfl (nt ((Tr.rgn (Rn.bin tv rfl rfl rfl (md rfl (Rn.nil ?_)))))))
     exact ⟨_,h,(by exact Qi ⟨(sm rfl),(sm rfl),(sm rfl),(sm rfl),tv⟩ tv rfl)⟩
    ·replace h:=ifF hb15 h
     refine Tr.exit ?_
     replace h:=si h; subst h
     exact Qg [] ⟨(sm rfl),tv⟩ tv rfl
  ·obtain ⟨newslice20,rfl⟩ : ∃ x,x = z:=⟨_,rfl⟩
   refine sr ((Rn.movTO tv rfl (Rn.movTO tv rfl (nt ((Tr.ret ?_))))))
   replace h:=si h; subst h
   exact ⟨.inr rfl,(o_ newslice20),rfl,fun _ _ _ _ h=>h,tv,fun k hk=>Qf hk⟩
theorem Qpg {P : Program} {c : Nat} (hcf : Qm P c = some Qgg) : Qkk P c (Qgh):=by
 intro x1 y2 r h
 refine Qb1 hcf rfl fun Γ M hP hnt hM=>?_
 subst hP
 refine Tr.init [(0,(Qbl x1)),(1,(Qbl y2))] rfl ?_
 unfold Qgh at h
 unfold Qgg
 refine sr ((Rn.box (v:=(Qbl x1)) (cs:=(Qbk x1)) tv rfl rfl rfl rfl rfl (Rn.box (v:=(Qbl y2)) (cs:=(Qbk y2)) tv rfl rfl rfl rfl rfl (md rfl (nt ((Tr.seq (sr ((Rn.fldP (o':=0) tv rfl rfl (Rn.load (v:=(i_ x1.From)) tv rfl (Qj rfl) rfl rfl (Rn.fldP (o':=0) tv rfl rfl (Rn.load (v:=(i_ y2.From)) tv rfl (Qj rfl) rfl rfl (Rn.bin tv rfl rfl rfl (Rn.nil (toN ?_))))))))))))))))
 refine Tr.cond rfl (fun hb3=>?_) (fun hb3=>?_)
 ·replace h:=bT hb3 h
  refine sr ((Rn.fldP (o':=0) tv rfl rfl (Rn.load (v:=(i_ x1.From)) tv rfl (Qj rfl) rfl rfl (Rn.fldP (o':=0) tv rfl rfl (Rn.load (v:=(i_ y2.From)) tv rfl (Qj rfl) rfl rfl (Rn.bin tv rfl rfl rfl (md rfl (nt ((Tr.ret ?_))))))))))
  replace h:=si h; subst h
  exact ⟨.inr rfl,(i_ (IntKind.wrap .i64 (x1.From - y2.From))),rfl,fun _ _ _ _ h=>h,tv,fun k hk=>Qf hk⟩
 ·replace h:=bF hb3 h
  refine Tr.skip (toN (sr ((Rn.fldP (o':=1) tv rfl rfl (Rn.load (v:=(i_ x1.Event)) tv rfl (Qj rfl) rfl rfl (Rn.fldP (o':=1) tv rfl rfl (Rn.load (v:=(i_ y2.Event)) tv rfl (Qj rfl) rfl rfl (Rn.bin tv rfl rfl rfl (md rfl (nt ((Tr.ret ?_))))))))))))
  replace h:=si h; subst h
  exact ⟨.inr rfl,(i_ (IntKind.wrap .i64 (x1.Event - y2.Event))),rfl,fun _ _ _ _ h=>h,tv,fun k hk=>Qf hk⟩
theorem Qr5 {P : Program} {c : Nat} {Qn : (List Int) → Option ((List Int))} {Qp : (List Int) → Int → Option (Int × Bool)} {Qbn : Qa → Int → Option ((List Qd))}
    (H_slices_Clone_int : Qdw P 11 Qn)
    (H_slices_BinarySearch_int : Qdr P 56 Qp)
    (H_automaton_out : Qj6 P 60 Qbn) (hcf : Qm P c = some Qg9) (fuel : Nat) : Qg8 P c (Qbr Qn Qp Qbn fuel):=by
 intro a1 r h
 refine Qb1 hcf rfl fun Γ M hP hnt hM=>?_
 subst hP
 refine Tr.init [(0,(Qb a1))] rfl ?_
 unfold Qbr at h
 unfold Qg9
 refine sr ((Rn.box (v:=(Qb a1)) (cs:=(Qe a1)) tv rfl rfl rfl rfl rfl (Rn.alloc tv rfl (nt ((sr ((Rn.fldP (o':=0) tv rfl rfl (Rn.load (v:=(l_ a1.Alphabet)) tv rfl (Qj rfl) rfl rfl ?_)))))))))
 obtain ⟨x3,h2,h⟩:=bnd h
 refine Rn.call (args:=[(l_ a1.Alphabet)]) tv rfl (H_slices_Clone_int _ _ h2) pc9 (Rn.buildT (v:=.agg [(o_ x3),(i_ 0),.nils 1,.nils 3]) tv rfl (Rn.alloc tv rfl (Rn.storeT (v:=.agg [(o_ x3),(i_ 0),.nils 1,.nils 3]) (ds:=[(o_ x3),(i_ 0),.nils 1,.nils 3]) (cs':=[(o_ x3),(i_ 0),.nils 1,.nils 3]) tv rfl rfl rfl rfl rfl rfl rfl (nt ((Tr.seq (sr ((Rn.fldP (o':=1) tv rfl rfl (Rn.load (v:=(i_ a1.States)) tv rfl (Qj rfl) rfl rfl (Rn.bin tv rfl rfl rfl (Rn.nil (toN ?_)))))))))))))
 refine Tr.cond rfl (fun hb4=>?_) (fun hb4=>?_)
 ·replace h:=bT hb4 h
  refine sr ((Rn.load (v:=.agg [(l_ x3),(i_ 0),.nils 1,.nils 3]) tv rfl (Qj rfl) rfl rfl (Rn.storeT (v:=.agg [(l_ x3),(i_ 0),.nils 1,.nils 3]) (ds:=[(l_ x3),(i_ 0),.nils 1,.nils 3]) (cs':=[(l_ x3),(i_ 0),.nils 1,.nils 3]) tv rfl rfl rfl rfl rfl rfl rfl (nt ((Tr.ret ?_))))))
  replace h:=si h; subst h
  exact ⟨.inr rfl,(.agg [(l_ x3),(i_ 0),.nils 1,.nils 3]),Qel rfl rfl rfl rfl,(WkV.agg (.cons (.same rfl) (.cons (.same rfl) (.cons (WkV.nilsD _) (.cons (WkV.nilsD _) .nil))))).rd,⟨tv,tv,tv,tv,tv⟩,fun k hk=>Qf hk⟩
 ·replace h:=bF hb4 h
  refine Tr.skip (toN (sr ((Rn.fldP (o':=1) tv rfl rfl (Rn.load (v:=(i_ a1.States)) tv rfl (Qj rfl) rfl rfl ?_)))))
  obtain ⟨x5,h6,h⟩:=bnd h
  refine Rn.makes (g:=(fun (x : Int)=>[V.d (.int .i64 x)])) tv rfl rfl rfl rfl rfl h6 (Rn.movTF (v:=.sl 1 (Γ.n0 + 22) 0 (Int.toNat a1.States) (Int.toNat a1.States)) tv rfl rfl (Rn.nil (toN ?_)))
  refine Tr.cutB (fun (c15 : List Int)=>⟨look [(1,.ptr (Γ.n0 + 1) 0),(2,.ptr (Γ.n0 + 2) 0),(3,.ptr (Γ.n0 + 3) 0),(4,.sl 1 (Γ.n0 + 22) 0 (Int.toNat a1.States) (Int.toNat a1.States))],Qk Γ.n0 (bxs [(1,.cells ((Qe a1))),(2,.cells ([.nils 1,(i_ 0),.nils 1,.nils 3])),(3,.cells ([(o_ x3),(i_ 0),.nils 1,.nils 3])),(22,.cells (Qfk (fun (x : Int)=>[V.d (.int .i64 x)]) c15))]) M,Γ.n0 + 105⟩) h (fun z h=>?_) (fun z h=>?_)
  ·refine sr ((Rn.mov (v:=.sl 1 (Γ.n0 + 22) 0 (Int.toNat a1.States) (Int.toNat a1.States)) tv rfl (Rn.lenA tv rfl (md rfl (nt ((Tr.block ?_)))))))
   refine Tr.loop (mk:=fun ((x7,c8) : Int × (List Int))=>⟨look [(1,.ptr (Γ.n0 + 1) 0),(2,.ptr (Γ.n0 + 2) 0),(3,.ptr (Γ.n0 + 3) 0),(4,.sl 1 (Γ.n0 + 22) 0 (Int.toNat a1.States) (Int.toNat a1.States)),(24,(i_ ((Int.toNat a1.States) : Int))),(25,(i_ x7))],Qk Γ.n0 (bxs [(1,.cells ((Qe a1))),(2,.cells ([.nils 1,(i_ 0),.nils 1,.nils 3])),(3,.cells ([(o_ x3),(i_ 0),.nils 1,.nils 3])),(22,.cells (Qfk (fun (x : Int)=>[V.d (.int .i64 x)]) c8))]) M,Γ.n0 + 105⟩) h (by exact Qi ⟨(kPtr rfl),(kPtr rfl),(kPtr rfl),(kSl rfl),(sm rfl),(sm rfl),tv⟩ ⟨⟨_,rfl,rfl,(.same rfl)⟩,⟨_,rfl,rfl,(.same rfl)⟩,⟨_,rfl,rfl,(.same rfl)⟩,⟨_,rfl,rfl,(Qod fun _=>rfl)⟩,tv⟩ rfl) (fun k9 z h=>?_)
   ·obtain ⟨x7,c8⟩:=z
    replace h : _ = some _:=h
    refine sr ((Rn.bin tv rfl rfl rfl (nt ((Tr.seq ?_)))))
    refine Tr.cond rfl (fun hb10=>?_) (fun hb10=>?_)
    ·replace h:=ifT hb10 h
     refine Tr.skip (toN (Tr.seq (Tr.block (sr ((md rfl (md rfl (nt ((Tr.rgn (Rn.mov (v:=.sl 1 (Γ.n0 + 22) 0 (Int.toNat a1.States) (Int.toNat a1.States)) tv rfl (md rfl ?_))))))))))))
     obtain ⟨⟨⟩,h12,h⟩:=bnd h
     refine Rn.idxA tv rfl rfl h12 ?_
     obtain ⟨x13,h14,h⟩:=bnd h
     refine Rn.storeA (g:=(fun (x : Int)=>[V.d (.int .i64 x)])) (v:=(i_ (-1))) (fun _=>rfl) tv rfl rfl rfl rfl rfl h14 (nt ((Tr.rgn (Rn.bin tv rfl rfl rfl (md rfl (Rn.nil ?_))))))
     exact ⟨_,h,(by exact Qi ⟨(kPtr rfl),(kPtr rfl),(kPtr rfl),(kSl rfl),(sm rfl),(sm rfl),tv⟩ ⟨⟨_,rfl,rfl,(.same rfl)⟩,⟨_,rfl,rfl,(.same rfl)⟩,⟨_,rfl,rfl,(.same rfl)⟩,⟨_,rfl,rfl,(Qod fun _=>rfl)⟩,tv⟩ rfl)⟩
    ·replace h:=ifF hb10 h
     refine Tr.exit ?_
     replace h:=si h; subst h
     exact Qg [] ⟨(kPtr rfl),(kPtr rfl),(kPtr rfl),(kSl rfl),tv⟩ ⟨⟨_,rfl,rfl,(.same rfl)⟩,⟨_,rfl,rfl,(.same rfl)⟩,⟨_,rfl,rfl,(.same rfl)⟩,⟨_,rfl,rfl,(Qod fun _=>rfl)⟩,tv⟩ rfl
  ·obtain ⟨c15,rfl⟩ : ∃ x,x = z:=⟨_,rfl⟩
   refine sr ((Rn.mov (v:=.sl 1 (Γ.n0 + 22) 0 (Int.toNat a1.States) (Int.toNat a1.States)) tv rfl ?_))
   obtain ⟨⟨⟩,h17,h⟩:=bnd h
   refine Rn.idxA tv rfl rfl h17 ?_
   obtain ⟨x18,h19,h⟩:=bnd h
   refine Rn.storeA (g:=(fun (x : Int)=>[V.d (.int .i64 x)])) (v:=(i_ 0)) (fun _=>rfl) tv rfl rfl rfl rfl rfl h19 (nt ((sr ((Rn.bslice (xs:=[(i_ 0)]) (cs:=[(i_ 0)]) tv rfl rfl rfl rfl (Rn.movTF (v:=.sl 1 (Γ.n0 + 34) 0 1 1) tv rfl rfl (Rn.nil (toN ?_))))))))
   refine Tr.cutB (fun ((order74,c75,c76,c77,r78,r79,c80) : (List Int) × (List Int) × (List Int) × (List Qd) × (List Int) × (List Qd) × (List Int))=>⟨look [(2,.ptr (Γ.n0 + 2) 0),(3,.ptr (Γ.n0 + 3) 0),(6,(o_ order74))],Qk Γ.n0 (bxs [(1,.cells ((Qe a1))),(2,.cells ([(o_ c75),(i_ 0),(o_ c76),.own 3 (List.map Qc c77)])),(3,.cells ([(o_ x3),(i_ 0),(o_ r78),.own 3 (List.map Qc r79)])),(22,.cells (Qfk (fun (x : Int)=>[V.d (.int .i64 x)]) c80))]) M,Γ.n0 + 105⟩) h (fun z h=>?_) (fun z h=>?_)
   ·refine sr ((md rfl (nt ((Tr.block ?_)))))
    refine Tr.weak (by show WeakSt Γ _ ⟨look ((6,.own 1 (List.map (eI .i64) [0])) :: [(1,.ptr (Γ.n0 + 1) 0),(2,.ptr (Γ.n0 + 2) 0),(3,.ptr (Γ.n0 + 3) 0),(4,.sl 1 (Γ.n0 + 22) 0 (Int.toNat a1.States) (Int.toNat a1.States)),(7,(i_ 0)),(32,.sl 1 (Γ.n0 + 22) 0 (Int.toNat a1.States) (Int.toNat a1.States)),(33,.ptr (Γ.n0 + 22) (0 + Int.toNat 0 * 1))] ),Qk Γ.n0 (bxs [(1,.cells ((Qe a1))),(2,.cells ([.nils 1,(i_ 0),.nils 1,.nils 3])),(3,.cells ([(o_ x3),(i_ 0),.nils 1,.nils 3])),(22,.cells (Qfk (fun (x : Int)=>[V.d (.int .i64 x)]) x18))]) M,Γ.n0 + 105⟩; exact Qbdl 34 6 [.int .i64 0] rfl rfl rfl rfl rfl ⟨(kPtr rfl),(kPtr rfl),(kPtr rfl),(kSl rfl),(sm rfl),(kSl rfl),(kPtr rfl),tv⟩ ⟨⟨_,rfl,rfl,(.same rfl)⟩,⟨_,rfl,rfl,(.same rfl)⟩,⟨_,rfl,rfl,(.same rfl)⟩,⟨_,rfl,rfl,(Qod fun _=>rfl)⟩,tv⟩ rfl) ?_
    refine Tr.loop (mk:=fun ((order20,i21,c22,c23,c24,r25,r26,c27) : (List Int) × Int × (List Int) × (List Int) × (List Qd) × (List Int) × (List Qd) × (List Int))=>⟨look [(1,.ptr (Γ.n0 + 1) 0),(2,.ptr (Γ.n0 + 2) 0),(3,.ptr (Γ.n0 + 3) 0),(4,.sl 1 (Γ.n0 + 22) 0 (Int.toNat a1.States) (Int.toNat a1.States)),(6,(o_ order20)),(7,(i_ i21))],Qk Γ.n0 (bxs [(1,.cells ((Qe a1))),(2,.cells ([(o_ c22),(i_ 0),(o_ c23),.own 3 (List.map Qc c24)])),(3,.cells ([(o_ x3),(i_ 0),(o_ r25),.own 3 (List.map Qc r26)])),(22,.cells (Qfk (fun (x : Int)=>[V.d (.int .i64 x)]) c27))]) M,Γ.n0 + 105⟩) h (by exact Qi ⟨(kPtr rfl),(kPtr rfl),(kPtr rfl),(kSl rfl),(sm rfl),(sm rfl),tv⟩ ⟨⟨_,rfl,rfl,(.same rfl)⟩,⟨_,rfl,rfl,(.cons (WkV.nilsO _) (.cons (sm rfl) (.cons (WkV.nilsO _) (.cons (WkV.nilsO _) .nil))))⟩,⟨_,rfl,rfl,(.cons (sm rfl) (.cons (sm rfl) (.cons (WkV.nilsO _) (.cons (WkV.nilsO _) .nil))))⟩,⟨_,rfl,rfl,(Qod fun _=>rfl)⟩,tv⟩ rfl) (fun k28 z h=>?_)
    ·obtain ⟨order20,i21,c22,c23,c24,r25,r26,c27⟩:=z
     replace h : _ = some _:=h
     refine Tr.seq (sr ((md rfl (Rn.mov (v:=(l_ order20)) tv rfl (Rn.lenD tv rfl (Rn.bin tv rfl rfl rfl (Rn.nil (toN ?_))))))))
     refine Tr.cond rfl (fun hb29=>?_) (fun hb29=>?_)
     ·replace h:=ifT hb29 h
      refine Tr.skip (toN ?_)
      refine Tr.cutB (fun ((order70,r71,r72,c73) : (List Int) × (List Int) × (List Qd) × (List Int))=>⟨look [(1,.ptr (Γ.n0 + 1) 0),(2,.ptr (Γ.n0 + 2) 0),(3,.ptr (Γ.n0 + 3) 0),(4,.sl 1 (Γ.n0 + 22) 0 (Int.toNat a1.States) (Int.toNat a1.States)),(6,(o_ order70)),(7,(i_ i21))],Qk Γ.n0 (bxs [(1,.cells ((Qe a1))),(2,.cells ([(o_ c22),(i_ 0),(o_ c23),.own 3 (List.map Qc c24)])),(3,.cells ([(o_ x3),(i_ 0),(o_ r71),.own 3 (List.map Qc r72)])),(22,.cells (Qfk (fun (x : Int)=>[V.d (.int .i64 x)]) c73))]) M,Γ.n0 + 105⟩) h (fun z h=>?_) (fun z h=>?_)
      ·refine Tr.block ?_
       refine Tr.cutB (fun (r38 : List Int)=>⟨look [(1,.ptr (Γ.n0 + 1) 0),(2,.ptr (Γ.n0 + 2) 0),(3,.ptr (Γ.n0 + 3) 0),(4,.sl 1 (Γ.n0 + 22) 0 (Int.toNat a1.States) (Int.toNat a1.States)),(6,(o_ order20)),(7,(i_ i21))],Qk Γ.n0 (bxs [(1,.cells ((Qe a1))),(2,.cells ([(o_ c22),(i_ 0),(o_ c23),.own 3 (List.map Qc c24)])),(3,.cells ([(o_ x3),(i_ 0),(o_ r38),.own 3 (List.map Qc r26)])),(22,.cells (Qfk (fun (x : Int)=>[V.d (.int .i64 x)]) c27))]) M,Γ.n0 + 105⟩) h (fun z h=>?_) (fun z h=>?_)
       ·refine Tr.seq ?_
        refine Tr.rgnD (by decide) ?_
        refine Rn.fldP (o':=2) tv rfl rfl (Rn.load (v:=(l_ a1.Marked)) tv rfl (Qj rfl) rfl rfl (Rn.mov (v:=(l_ order20)) tv rfl (md rfl ?_)))
        obtain ⟨x30,h31,h⟩:=bnd h
        refine Rn.idxD (e:=(eI .i64)) tv rfl rfl h31 (Rn.loadC (x:=.int .i64 x30) tv rfl ?_)
        obtain ⟨⟨r33,r34⟩,h32,h⟩:=bnd h
        refine Rn.call (args:=[(l_ a1.Marked),(i_ x30)]) tv rfl (H_slices_BinarySearch_int _ _ _ h32) pc0 (Rn.mov (v:=.tup [(i_ r33),(b_ r34)]) tv rfl (Rn.ext (v:=(i_ r33)) (vs:=[(i_ r33),(b_ r34)]) tv rfl rfl rfl (Rn.ext (v:=(b_ r34)) (vs:=[(i_ r33),(b_ r34)]) tv rfl rfl rfl (md rfl (md rfl ?_)))))
        refine Rn.nil ⟨rfl,?_⟩
        refine toN (sr ((md rfl (Rn.nil (toN ?_)))))
        refine Tr.cond rfl (fun hb35=>?_) (fun hb35=>?_)
        ·replace h:=bT hb35 h
         refine Tr.rgn (Rn.fldP (o':=2) tv rfl rfl (Rn.loadT (cs':=[(o_ x3),(i_ 0),(l_ r25),.own 3 (List.map Qc r26)]) tv rfl rfl rfl rfl (md rfl (Rn.bslice (xs:=[(i_ i21)]) (cs:=[(i_ i21)]) tv rfl rfl rfl rfl ?_))))
         obtain ⟨x36,h37,h⟩:=bnd h
         refine Rn.app (e:=(eI .i64)) tv rfl rfl rfl (Qdb rfl rfl rfl) h37 rfl (Rn.fldP (o':=2) tv rfl rfl (Rn.storeO (cs':=[(o_ x3),(i_ 0),(o_ x36),.own 3 (List.map Qc r26)]) tv rfl rfl rfl rfl rfl (Rn.nil ?_)))
         replace h:=si h; subst h
         exact Qg [55] ⟨(kPtr rfl),(kPtr rfl),(kPtr rfl),(kSl rfl),(sm rfl),(sm rfl),tv⟩ ⟨⟨_,rfl,rfl,(.same rfl)⟩,⟨_,rfl,rfl,(.same rfl)⟩,⟨_,rfl,rfl,(.same rfl)⟩,⟨_,rfl,rfl,(Qod fun _=>rfl)⟩,tv⟩ rfl
        ·replace h:=bF hb35 h
         refine Tr.skip ?_
         replace h:=si h; subst h
         exact Qg [] ⟨(kPtr rfl),(kPtr rfl),(kPtr rfl),(kSl rfl),(sm rfl),(sm rfl),tv⟩ ⟨⟨_,rfl,rfl,(.same rfl)⟩,⟨_,rfl,rfl,(.same rfl)⟩,⟨_,rfl,rfl,(.same rfl)⟩,⟨_,rfl,rfl,(Qod fun _=>rfl)⟩,tv⟩ rfl
       ·obtain ⟨r38,rfl⟩ : ∃ x,x = z:=⟨_,rfl⟩
        refine Tr.seq ?_
        refine Tr.rgnD (by decide) ?_
        refine Rn.load (v:=(Qb a1)) tv rfl (Qj rfl) rfl rfl (Rn.mov (v:=(l_ order20)) tv rfl (md rfl ?_))
        obtain ⟨x39,h40,h⟩:=bnd h
        refine Rn.idxD (e:=(eI .i64)) tv rfl rfl h40 (Rn.loadC (x:=.int .i64 x39) tv rfl ?_)
        obtain ⟨x42,h41,h⟩:=bnd h
        refine Rn.call (args:=[(Qb a1),(i_ x39)]) tv rfl (H_automaton_out _ _ _ h41) pc0 (Rn.lenD tv rfl (md rfl ?_))
        refine Rn.nil ⟨rfl,?_⟩
        refine toN (Tr.block ?_)
        refine Tr.loop (mk:=fun ((order43,x44,r45,c46) : (List Int) × Int × (List Qd) × (List Int))=>⟨look [(1,.ptr (Γ.n0 + 1) 0),(2,.ptr (Γ.n0 + 2) 0),(3,.ptr (Γ.n0 + 3) 0),(4,.sl 1 (Γ.n0 + 22) 0 (Int.toNat a1.States) (Int.toNat a1.States)),(6,(o_ order43)),(7,(i_ i21)),(63,.d (.lst 3 (List.map Qc x42))),(64,(i_ (x42.length : Int))),(65,(i_ x44))],Qk Γ.n0 (bxs [(1,.cells ((Qe a1))),(2,.cells ([(o_ c22),(i_ 0),(o_ c23),.own 3 (List.map Qc c24)])),(3,.cells ([(o_ x3),(i_ 0),(o_ r38),.own 3 (List.map Qc r45)])),(22,.cells (Qfk (fun (x : Int)=>[V.d (.int .i64 x)]) c46))]) M,Γ.n0 + 105⟩) h (by exact Qi ⟨(kPtr rfl),(kPtr rfl),(kPtr rfl),(kSl rfl),(sm rfl),(sm rfl),(sm rfl),(sm rfl),(sm rfl),tv⟩ ⟨⟨_,rfl,rfl,(.same rfl)⟩,⟨_,rfl,rfl,(.same rfl)⟩,⟨_,rfl,rfl,(.same rfl)⟩,⟨_,rfl,rfl,(Qod fun _=>rfl)⟩,tv⟩ rfl) (fun k47 z h=>?_)
        ·obtain ⟨order43,x44,r45,c46⟩:=z
         replace h : _ = some _:=h
         refine sr ((Rn.bin tv rfl rfl rfl (nt ((Tr.seq ?_)))))
         refine Tr.cond rfl (fun hb48=>?_) (fun hb48=>?_)
         ·replace h:=ifT hb48 h
          refine Tr.skip (toN (Tr.seq (Tr.block (Tr.seq (Tr.rgn ?_)))))
          obtain ⟨x49,h50,h⟩:=bnd h
          refine Rn.idxD (e:=Qc) tv rfl rfl h50 (Rn.loadCA (vs:=(Qbk x49)) tv rfl rfl rfl (Rn.alloc tv rfl (Rn.store (v:=(Qbl x49)) (cs':=(Qbk x49)) tv rfl rfl rfl rfl rfl rfl (Rn.nil (toN ?_)))))
          refine Tr.cutB (fun ((order62,c63) : (List Int) × (List Int))=>⟨look [(1,.ptr (Γ.n0 + 1) 0),(2,.ptr (Γ.n0 + 2) 0),(3,.ptr (Γ.n0 + 3) 0),(4,.sl 1 (Γ.n0 + 22) 0 (Int.toNat a1.States) (Int.toNat a1.States)),(6,(o_ order62)),(7,(i_ i21)),(11,.ptr (Γ.n0 + 11) 0),(63,.d (.lst 3 (List.map Qc x42))),(64,(i_ (x42.length : Int))),(65,(i_ x44))],Qk Γ.n0 (bxs [(1,.cells ((Qe a1))),(2,.cells ([(o_ c22),(i_ 0),(o_ c23),.own 3 (List.map Qc c24)])),(3,.cells ([(o_ x3),(i_ 0),(o_ r38),.own 3 (List.map Qc r45)])),(11,.cells ((Qbk x49))),(22,.cells (Qfk (fun (x : Int)=>[V.d (.int .i64 x)]) c63))]) M,Γ.n0 + 105⟩) h (fun z h=>?_) (fun z h=>?_)
          ·refine sr ((Rn.mov (v:=.sl 1 (Γ.n0 + 22) 0 (Int.toNat a1.States) (Int.toNat a1.States)) tv rfl (Rn.fldP (o':=2) tv rfl rfl (Rn.load (v:=(i_ x49.To)) tv rfl (Qj rfl) rfl rfl ?_))))
           obtain ⟨⟨⟩,h52,h⟩:=bnd h
           refine Rn.idxA tv rfl rfl h52 ?_
           obtain ⟨x53,h54,h⟩:=bnd h
           refine Rn.loadA (g:=(fun (x : Int)=>[V.d (.int .i64 x)])) (v:=(i_ x53)) (f:=0) (fun _=>rfl) tv rfl (Qj rfl) h54 rfl rfl (Rn.bin tv rfl rfl rfl (Rn.nil (toN ?_)))
           refine Tr.cond rfl (fun hb55=>?_) (fun hb55=>?_)
           ·replace h:=ifT hb55 h
            refine sr ((Rn.mov (v:=.sl 1 (Γ.n0 + 22) 0 (Int.toNat a1.States) (Int.toNat a1.States)) tv rfl (Rn.fldP (o':=2) tv rfl rfl (Rn.load (v:=(i_ x49.To)) tv rfl (Qj rfl) rfl rfl (Rn.mov (v:=(l_ order43)) tv rfl (Rn.lenD tv rfl ?_))))))
            obtain ⟨⟨⟩,h57,h⟩:=bnd h
            refine Rn.idxA tv rfl rfl h57 ?_
            obtain ⟨x58,h59,h⟩:=bnd h
            refine Rn.storeA (g:=(fun (x : Int)=>[V.d (.int .i64 x)])) (v:=(i_ (order43.length : Int))) (fun _=>rfl) tv rfl rfl rfl rfl rfl h59 (nt ((Tr.rgn (Rn.movTO tv rfl (Rn.fldP (o':=2) tv rfl rfl (Rn.load (v:=(i_ x49.To)) tv rfl (Qj rfl) rfl rfl (Rn.bslice (xs:=[(i_ x49.To)]) (cs:=[(i_ x49.To)]) tv rfl rfl rfl rfl ?_)))))))
            obtain ⟨x60,h61,h⟩:=bnd h
            refine Rn.app (e:=(eI .i64)) tv rfl rfl rfl (Qdb rfl rfl rfl) h61 rfl (Rn.movTO tv rfl (Rn.nil ?_))
            replace h:=si h; subst h
            exact Qg [84] ⟨(kPtr rfl),(kPtr rfl),(kPtr rfl),(kSl rfl),(sm rfl),(sm rfl),(kPtr rfl),(sm rfl),(sm rfl),(sm rfl),tv⟩ ⟨⟨_,rfl,rfl,(.same rfl)⟩,⟨_,rfl,rfl,(.same rfl)⟩,⟨_,rfl,rfl,(.same rfl)⟩,⟨_,rfl,rfl,(.same rfl)⟩,⟨_,rfl,rfl,(Qod fun _=>rfl)⟩,tv⟩ rfl
           ·replace h:=ifF hb55 h
            refine Tr.skip ?_
            replace h:=si h; subst h
            exact Qg [] ⟨(kPtr rfl),(kPtr rfl),(kPtr rfl),(kSl rfl),(sm rfl),(sm rfl),(kPtr rfl),(sm rfl),(sm rfl),(sm rfl),tv⟩ ⟨⟨_,rfl,rfl,(.same rfl)⟩,⟨_,rfl,rfl,(.same rfl)⟩,⟨_,rfl,rfl,(.same rfl)⟩,⟨_,rfl,rfl,(.same rfl)⟩,⟨_,rfl,rfl,(Qod fun _=>rfl)⟩,tv⟩ rfl
          ·obtain ⟨order62,c63⟩:=z
           refine Tr.rgnD (by decide) ?_
           refine Rn.fldP (o':=3) tv rfl rfl (Rn.loadT (cs':=[(o_ x3),(i_ 0),(o_ r38),.d (.lst 3 (List.map Qc r45))]) tv rfl rfl rfl rfl (md rfl (Rn.fldP (o':=1) tv rfl rfl (Rn.load (v:=(i_ x49.Event)) tv rfl (Qj rfl) rfl rfl (Rn.mov (v:=.sl 1 (Γ.n0 + 22) 0 (Int.toNat a1.States) (Int.toNat a1.States)) tv rfl (Rn.fldP (o':=2) tv rfl rfl (Rn.load (v:=(i_ x49.To)) tv rfl (Qj rfl) rfl rfl ?_)))))))
           obtain ⟨⟨⟩,h65,h⟩:=bnd h
           refine Rn.idxA tv rfl rfl h65 ?_
           obtain ⟨x66,h67,h⟩:=bnd h
           refine Rn.loadA (g:=(fun (x : Int)=>[V.d (.int .i64 x)])) (v:=(i_ x66)) (f:=0) (fun _=>rfl) tv rfl (Qj rfl) h67 rfl rfl (Rn.build (v:=.agg [(i_ i21),(i_ x49.Event),(i_ x66)]) tv rfl (Rn.bslice (xs:=[.agg [(i_ i21),(i_ x49.Event),(i_ x66)]]) (cs:=[(i_ i21),(i_ x49.Event),(i_ x66)]) tv rfl rfl rfl rfl ?_))
           obtain ⟨x68,h69,h⟩:=bnd h
           refine Rn.app (e:=Qc) tv rfl rfl rfl (Qdb rfl rfl rfl) h69 rfl (Rn.fldP (o':=3) tv rfl rfl (Rn.storeO (cs':=[(o_ x3),(i_ 0),(o_ r38),.own 3 (List.map Qc x68)]) tv rfl rfl rfl rfl rfl ?_))
           refine Rn.nil ⟨rfl,?_⟩
           refine toN (Tr.rgn (Rn.bin tv rfl rfl rfl (md rfl (Rn.nil ?_))))
           exact ⟨_,h,(by exact Qi ⟨(kPtr rfl),(kPtr rfl),(kPtr rfl),(kSl rfl),(sm rfl),(sm rfl),(sm rfl),(sm rfl),(sm rfl),tv⟩ ⟨⟨_,rfl,rfl,(.same rfl)⟩,⟨_,rfl,rfl,(.same rfl)⟩,⟨_,rfl,rfl,(.same rfl)⟩,⟨_,rfl,rfl,(Qod fun _=>rfl)⟩,tv⟩ rfl)⟩
         ·replace h:=ifF hb48 h
          refine Tr.exit ?_
          replace h:=si h; subst h
          exact Qg [] ⟨(kPtr rfl),(kPtr rfl),(kPtr rfl),(kSl rfl),(sm rfl),(sm rfl),tv⟩ ⟨⟨_,rfl,rfl,(.same rfl)⟩,⟨_,rfl,rfl,(.same rfl)⟩,⟨_,rfl,rfl,(.same rfl)⟩,⟨_,rfl,rfl,(Qod fun _=>rfl)⟩,tv⟩ rfl
      ·obtain ⟨order70,r71,r72,c73⟩:=z
       refine Tr.rgn (md rfl (Rn.bin tv rfl rfl rfl (md rfl (Rn.nil ?_))))
       exact ⟨_,h,(by exact Qi ⟨(kPtr rfl),(kPtr rfl),(kPtr rfl),(kSl rfl),(sm rfl),(sm rfl),tv⟩ ⟨⟨_,rfl,rfl,(.same rfl)⟩,⟨_,rfl,rfl,(.same rfl)⟩,⟨_,rfl,rfl,(.same rfl)⟩,⟨_,rfl,rfl,(Qod fun _=>rfl)⟩,tv⟩ rfl)⟩
     ·replace h:=ifF hb29 h
      refine Tr.exit ?_
      replace h:=si h; subst h
      exact Qg [] ⟨(kPtr rfl),(kPtr rfl),(sm rfl),tv⟩ ⟨⟨_,rfl,rfl,(.same rfl)⟩,⟨_,rfl,rfl,(.same rfl)⟩,⟨_,rfl,rfl,(.same rfl)⟩,⟨_,rfl,rfl,(Qod fun _=>rfl)⟩,tv⟩ rfl
   ·obtain ⟨order74,c75,c76,c77,r78,r79,c80⟩:=z
    refine sr ((Rn.mov (v:=(l_ order74)) tv rfl (Rn.lenD tv rfl (Rn.fldP (o':=1) tv rfl rfl (Rn.store (v:=(i_ (order74.length : Int))) (cs':=[(o_ x3),(i_ (order74.length : Int)),(o_ r78),.own 3 (List.map Qc r79)]) tv rfl rfl rfl rfl rfl rfl (nt ((sr ((Rn.load (v:=.agg [(l_ x3),(i_ (order74.length : Int)),(l_ r78),.d (.lst 3 (List.map Qc r79))]) tv rfl (Qj rfl) rfl rfl (Rn.storeT (v:=.agg [(l_ x3),(i_ (order74.length : Int)),(l_ r78),.d (.lst 3 (List.map Qc r79))]) (ds:=[(l_ x3),(i_ (order74.length : Int)),(l_ r78),.d (.lst 3 (List.map Qc r79))]) (cs':=[(l_ x3),(i_ (order74.length : Int)),(l_ r78),.d (.lst 3 (List.map Qc r79))]) tv rfl rfl rfl rfl rfl rfl rfl (nt ((Tr.ret ?_))))))))))))))
    replace h:=si h; subst h
    exact ⟨.inr rfl,(.agg [(l_ x3),(i_ (order74.length : Int)),(l_ r78),.d (.lst 3 (List.map Qc r79))]),Qel rfl rfl rfl rfl,fun _ _ _ _ h=>h,⟨tv,tv,tv,tv,tv⟩,fun k hk=>Qf hk⟩
theorem Qr6 {P : Program} {c : Nat} {Qv : Qa → Option Int} {Qbr : Qa → Option Qa}
    (H_automaton_Check : Qff P 62 Qv)
    (H_automaton_canonical : Qg8 P 66 Qbr) (hcf : Qm P c = some Qhb) : Qha P c (Qbs Qv Qbr):=by
 intro a1 r h
 refine Qb1 hcf rfl fun Γ M hP hnt hM=>?_
 subst hP
 refine Tr.init [(0,(Qb a1))] rfl ?_
 unfold Qbs at h
 unfold Qhb
 refine sr ((Rn.box (v:=(Qb a1)) (cs:=(Qe a1)) tv rfl rfl rfl rfl rfl (Rn.alloc tv rfl (md rfl (nt ((Tr.seq (sr ((Rn.load (v:=(Qb a1)) tv rfl (Qj rfl) rfl rfl ?_))))))))))
 obtain ⟨x3,h2,h⟩:=bnd h
 refine Rn.call (args:=[(Qb a1)]) tv rfl (H_automaton_Check _ _ h2) pc9 (md rfl (nt ((sr ((md rfl (Rn.bin tv rfl rfl rfl (Rn.nil (toN ?_)))))))))
 refine Tr.cond rfl (fun hb4=>?_) (fun hb4=>?_)
 ·replace h:=bT hb4 h
  refine sr ((Rn.build (v:=.agg [.nils 1,(i_ 0),.nils 1,.nils 3]) tv rfl (md rfl (Rn.storeT (v:=.agg [.nils 1,(i_ 0),.nils 1,.nils 3]) (ds:=[.nils 1,(i_ 0),.nils 1,.nils 3]) (cs':=[.nils 1,(i_ 0),.nils 1,.nils 3]) tv rfl rfl rfl rfl rfl rfl rfl (md rfl (nt ((Tr.ret ?_))))))))
  replace h:=si h; subst h
  exact ⟨.inr rfl,.tup [.agg [.nils 1,(i_ 0),.nils 1,.nils 3],(i_ x3)],res2 (Qel rfl rfl rfl rfl) rfl,(WkV.tup (.cons (WkV.agg (.cons (WkV.nilsD _) (.cons (.same rfl) (.cons (WkV.nilsD _) (.cons (WkV.nilsD _) .nil))))) (.cons (.same rfl) .nil))).rd,⟨⟨tv,tv,tv,tv,tv⟩,tv,tv⟩,fun k hk=>Qf hk⟩
 ·replace h:=bF hb4 h
  refine Tr.skip (toN (sr ((Rn.load (v:=(Qb a1)) tv rfl (Qj rfl) rfl rfl ?_))))
  obtain ⟨x6,h5,h⟩:=bnd h
  refine Rn.call (args:=[(Qb a1)]) tv rfl (H_automaton_canonical _ _ h5) pc9 (Rn.storeT (v:=(Qb x6)) (ds:=(Qe x6)) (cs':=(Qe x6)) tv rfl rfl rfl rfl rfl rfl rfl (md rfl (nt ((Tr.ret ?_)))))
  replace h:=si h; subst h
  exact ⟨.inr rfl,.tup [(Qb x6),(i_ 0)],res2 (Qel rfl rfl rfl rfl) rfl,(WkV.tup (.cons (.same rfl) (.cons (.same rfl) .nil))).rd,⟨⟨tv,tv,tv,tv,tv⟩,tv,tv⟩,fun k hk=>Qf hk⟩
theorem Qu9 {P : Program} {c : Nat} {Ql : (List Int) → Int → Option Bool} {f_slices_Sort_int : List Int → Option (List Int)} {f_slices_Compact_int : List Int → Option (List Int)} {Qci : Qa → (List Int) → Option Int} {Qb7 : (List Qd) → Option ((List Qd))} {Qb8 : (List (List Int)) → Option ((List Int))} {f_slices_SortFunc_Edge : List Qd → Option (List Qd)} {Qbs : Qa → Option (Qa × Int)}
    (H_slices_Contains_int : Qc6 P 12 Ql)
    (H_slices_Sort_int : RowK P 24 (eI .i64) 1 [] f_slices_Sort_int)
    (H_slices_Compact_int : CompK P 25 f_slices_Compact_int)
    (H_projection_check : Qka P 45 Qci)
    (H_slices_Clone_Edge : Qi3 P 46 Qb7)
    (H_slices_Concat_int : Qi5 P 47 Qb8)
    (H_slices_SortFunc_Edge : RowK P 48 Qc 3 [.clo 49 []] f_slices_SortFunc_Edge)
    (H_automaton_Canonical : Qha P 50 Qbs) (hcf : Qm P c = some Qh2) (fuel : Nat) : Qh1 P c (Qbi Ql f_slices_Sort_int f_slices_Compact_int Qci Qb7 Qb8 f_slices_SortFunc_Edge Qbs fuel):=by
 intro a1 alphabet2 r h
 refine Qbiz hcf (args':=[.agg [(f_ a1.Alphabet),(i_ a1.States),(f_ a1.Marked),.f (.lst 3 (List.map Qc a1.Edges))],(f_ alphabet2)]) rfl rfl rfl rfl rfl rfl fun Γ M hP hnt hG hM0 hM=>?_
 subst hP
 refine Tr.init [(0,.agg [(f_ a1.Alphabet),(i_ a1.States),(f_ a1.Marked),.f (.lst 3 (List.map Qc a1.Edges))]),(1,(f_ alphabet2))] rfl ?_
 unfold Qbi at h
 unfold Qh2
 refine sr ((Rn.box (v:=.agg [(f_ a1.Alphabet),(i_ a1.States),(f_ a1.Marked),.f (.lst 3 (List.map Qc a1.Edges))]) (cs:=[(f_ a1.Alphabet),(i_ a1.States),(f_ a1.Marked),.f (.lst 3 (List.map Qc a1.Edges))]) tv rfl rfl rfl rfl rfl (Rn.alloc tv rfl (md rfl (nt ((Tr.seq (sr ((Rn.load (v:=.agg [(f_ a1.Alphabet),(i_ a1.States),(f_ a1.Marked),.f (.lst 3 (List.map Qc a1.Edges))]) tv rfl (Qj rfl) rfl rfl (Rn.mov (v:=(f_ alphabet2)) tv rfl ?_)))))))))))
 obtain ⟨x4,h3,h⟩:=bnd h
 refine Rn.call (args:=[.agg [(f_ a1.Alphabet),(i_ a1.States),(f_ a1.Marked),.f (.lst 3 (List.map Qc a1.Edges))],(f_ alphabet2)]) tv rfl (fun M2 nb2=>ACalls.weak (args':=[(Qb a1),(l_ alphabet2)]) (H_projection_check _ _ _ h3 M2 nb2) (.cons (WkV.agg (.cons fToD (.cons (sm rfl) (.cons fToD (.cons fToD .nil))))) (.cons fToD .nil)) rfl) pc9 ?_
 refine md rfl (nt ((sr ((md rfl (Rn.bin tv rfl rfl rfl (Rn.nil (toN ?_))))))))
 refine Tr.cond rfl (fun hb5=>?_) (fun hb5=>?_)
 ·replace h:=bT hb5 h
  refine sr ((Rn.build (v:=.agg [.nils 1,(i_ 0),.nils 1,.nils 3]) tv rfl (md rfl (Rn.storeT (v:=.agg [.nils 1,(i_ 0),.nils 1,.nils 3]) (ds:=[.nils 1,(i_ 0),.nils 1,.nils 3]) (cs':=[.nils 1,(i_ 0),.nils 1,.nils 3]) tv rfl rfl rfl rfl rfl rfl rfl (md rfl (nt ((Tr.ret ?_))))))))
  replace h:=si h; subst h
  exact ⟨.inr rfl,.tup [.agg [.nils 1,(i_ 0),.nils 1,.nils 3],(i_ x4)],res2 (Qel rfl rfl rfl rfl) rfl,(WkV.tup (.cons (WkV.agg (.cons (WkV.nilsD _) (.cons (.same rfl) (.cons (WkV.nilsD _) (.cons (WkV.nilsD _) .nil))))) (.cons (.same rfl) .nil))).rd,⟨⟨tv,tv,tv,tv,tv⟩,tv,tv⟩,fun k hk=>Qf hk⟩
 ·replace h:=bF hb5 h
  refine Tr.skip (toN (Tr.seq ?_))
  refine Tr.rgnD (by decide) ?_
  refine Rn.fldP (o':=1) tv rfl rfl (Rn.load (v:=(i_ a1.States)) tv rfl (Qj rfl) rfl rfl (Rn.fldP (o':=2) tv rfl rfl (Rn.load (v:=(f_ a1.Marked)) tv rfl (Qj rfl) rfl rfl (Rn.fldP (o':=3) tv rfl rfl (Rn.load (v:=.f (.lst 3 (List.map Qc a1.Edges))) tv rfl (Qj rfl) rfl rfl ?_)))))
  obtain ⟨x7,h6,h⟩:=bnd h
  refine Rn.call (args:=[.f (.lst 3 (List.map Qc a1.Edges))]) tv rfl (fun M2 nb2=>ACalls.weak (args':=[.d (.lst 3 (List.map Qc a1.Edges))]) (H_slices_Clone_Edge _ _ h6 M2 nb2) (.cons fToD .nil) rfl) (fun _=>Qbbi hM rfl) ?_
  refine Rn.buildT (v:=.agg [.nils 1,(i_ a1.States),(f_ a1.Marked),.own 3 (List.map Qc x7)]) tv rfl (Rn.alloc tv rfl (Rn.storeT (v:=.agg [.nils 1,(i_ a1.States),(f_ a1.Marked),.own 3 (List.map Qc x7)]) (ds:=[.nils 1,(i_ a1.States),(f_ a1.Marked),.own 3 (List.map Qc x7)]) (cs':=[.nils 1,(i_ a1.States),(f_ a1.Marked),.own 3 (List.map Qc x7)]) tv rfl rfl rfl rfl rfl rfl rfl ?_))
  refine Rn.nil ⟨rfl,?_⟩
  refine toN (sr ((Rn.fldP (o':=0) tv rfl rfl (Rn.load (v:=(f_ a1.Alphabet)) tv rfl (Qj rfl) rfl rfl (Rn.mov (v:=(f_ alphabet2)) tv rfl ?_)))))
  refine Rn.weak (by show WeakSt Γ _ ⟨look [(0,.agg [(f_ a1.Alphabet),(i_ a1.States),(f_ a1.Marked),.f (.lst 3 (List.map Qc a1.Edges))]),(1,(f_ alphabet2)),(2,.ptr (Γ.n0 + 2) 0),(4,.ptr (Γ.n0 + 4) 0),(5,(i_ 0)),(6,(i_ x4)),(7,.ptr (Γ.n0 + 7) 0),(11,.agg [(f_ a1.Alphabet),(i_ a1.States),(f_ a1.Marked),.f (.lst 3 (List.map Qc a1.Edges))]),(12,(f_ alphabet2)),(13,(i_ x4)),(14,(i_ x4)),(15,(b_ (x4 != 0))),(18,.ptr (Γ.n0 + 2) 1),(19,(i_ a1.States)),(20,.ptr (Γ.n0 + 2) 2),(21,(f_ a1.Marked)),(22,.ptr (Γ.n0 + 2) 3),(23,.f (.lst 3 (List.map Qc a1.Edges))),(24,.d (.lst 3 (List.map Qc x7))),(25,.agg [.nils 1,(i_ a1.States),(f_ a1.Marked),.d (.lst 3 (List.map Qc x7))]),(26,.ptr (Γ.n0 + 2) 0),(27,(l_ a1.Alphabet)),(28,(l_ alphabet2))],Qk Γ.n0 (bxs [(2,.cells ([(f_ a1.Alphabet),(i_ a1.States),(f_ a1.Marked),.f (.lst 3 (List.map Qc a1.Edges))])),(4,.cells ([.nils 1,(i_ 0),.nils 1,.nils 3])),(7,.cells ([.nils 1,(i_ a1.States),(f_ a1.Marked),.own 3 (List.map Qc x7)]))]) M,Γ.n0 + 74⟩; exact Qg [] ⟨(sm rfl),(sm rfl),(kPtr rfl),(kPtr rfl),(sm rfl),(sm rfl),(kPtr rfl),(sm rfl),(sm rfl),(sm rfl),(sm rfl),(sm rfl),(kPtr rfl),(sm rfl),(kPtr rfl),(sm rfl),(kPtr rfl),(sm rfl),(sm rfl),(sm rfl),(kPtr rfl),fToD,fToD,tv⟩ ⟨⟨_,rfl,rfl,(.same rfl)⟩,⟨_,rfl,rfl,(.same rfl)⟩,⟨_,rfl,rfl,(.same rfl)⟩,tv⟩ rfl) ?_
  refine Rn.bslice (xs:=[(l_ a1.Alphabet),(l_ alphabet2)]) (cs:=[(l_ a1.Alphabet),(l_ alphabet2)]) tv rfl rfl rfl rfl ?_
  refine Rn.weak (by show WeakSt Γ _ ⟨look [(0,.agg [(f_ a1.Alphabet),(i_ a1.States),(f_ a1.Marked),.f (.lst 3 (List.map Qc a1.Edges))]),(1,(f_ alphabet2)),(2,.ptr (Γ.n0 + 2) 0),(4,.ptr (Γ.n0 + 4) 0),(5,(i_ 0)),(6,(i_ x4)),(7,.ptr (Γ.n0 + 7) 0),(11,.agg [(f_ a1.Alphabet),(i_ a1.States),(f_ a1.Marked),.f (.lst 3 (List.map Qc a1.Edges))]),(12,(f_ alphabet2)),(13,(i_ x4)),(14,(i_ x4)),(15,(b_ (x4 != 0))),(18,.ptr (Γ.n0 + 2) 1),(19,(i_ a1.States)),(20,.ptr (Γ.n0 + 2) 2),(21,(f_ a1.Marked)),(22,.ptr (Γ.n0 + 2) 3),(23,.f (.lst 3 (List.map Qc a1.Edges))),(24,.d (.lst 3 (List.map Qc x7))),(25,.agg [.nils 1,(i_ a1.States),(f_ a1.Marked),.d (.lst 3 (List.map Qc x7))]),(26,.ptr (Γ.n0 + 2) 0),(27,(l_ a1.Alphabet)),(28,(l_ alphabet2)),(29,.d (.lst 1 (List.map (eL 1 (eI .i64)) [a1.Alphabet,alphabet2])))],Qk Γ.n0 (bxs [(2,.cells ([(f_ a1.Alphabet),(i_ a1.States),(f_ a1.Marked),.f (.lst 3 (List.map Qc a1.Edges))])),(4,.cells ([.nils 1,(i_ 0),.nils 1,.nils 3])),(7,.cells ([.nils 1,(i_ a1.States),(f_ a1.Marked),.own 3 (List.map Qc x7)]))]) M,Γ.n0 + 74⟩; exact Qgu 29 [.lst 1 (List.map (eI .i64) a1.Alphabet),.lst 1 (List.map (eI .i64) alphabet2)] rfl rfl ⟨(.same rfl),(.same rfl),(fPtr rfl),(fPtr rfl),(.same rfl),(.same rfl),(fPtr rfl),(.same rfl),(.same rfl),(.same rfl),(.same rfl),(.same rfl),(fPtr rfl),(.same rfl),(fPtr rfl),(.same rfl),(fPtr rfl),(.same rfl),(.same rfl),(.same rfl),(fPtr rfl),(.same rfl),(.same rfl),(fSl rfl rfl),tv⟩ ⟨⟨_,rfl,rfl,(.same rfl)⟩,⟨_,rfl,rfl,(.same rfl)⟩,⟨_,rfl,rfl,(.same rfl)⟩,tv⟩ rfl) ?_
  obtain ⟨x9,h8,h⟩:=bnd h
  refine Rn.call (args:=[.d (.lst 1 (List.map (eL 1 (eI .i64)) [a1.Alphabet,alphabet2]))]) tv rfl (H_slices_Concat_int _ _ h8) pc9 (Rn.fldP (o':=0) tv rfl rfl (Rn.storeO (cs':=[(o_ x9),(i_ a1.States),(f_ a1.Marked),.own 3 (List.map Qc x7)]) tv rfl rfl rfl rfl rfl (Rn.nil (toN ?_))))
  obtain ⟨row10,hs11,h⟩:=bnd h
  obtain ⟨hl12,hn13,hr14⟩:=H_slices_Sort_int _ _ hs11
  obtain ⟨row16,hs17,h⟩:=bnd h
  obtain ⟨hl18,hn19,hr20⟩:=H_slices_Compact_int _ _ hs17
  refine Tr.seqW2 ⟨look [(2,.ptr (Γ.n0 + 2) 0),(4,.ptr (Γ.n0 + 4) 0),(7,.ptr (Γ.n0 + 7) 0)],Qk Γ.n0 (bxs [(2,.cells ([(f_ a1.Alphabet),(i_ a1.States),(f_ a1.Marked),.f (.lst 3 (List.map Qc a1.Edges))])),(4,.cells ([.nils 1,(i_ 0),.nils 1,.nils 3])),(7,.cells ([(f_ row16),(i_ a1.States),(f_ a1.Marked),.own 3 (List.map Qc x7)]))]) M,Γ.n0 + 74⟩ ?_ ?_
  ·by_cases hx15 : x9 = []
   ·obtain ⟨hyx,hn13b⟩:=hn13 hx15
    replace hyx:=hyx.symm
    subst hyx
    replace hn13:=And.intro tv hn13b
    obtain ⟨hyx2,hn19b⟩:=hn19 hx15
    replace hyx2:=hyx2.symm
    subst hyx2
    replace hn19:=And.intro tv hn19b
    refine Tr.rgn (Rn.fldP (o':=0) tv rfl rfl (Rn.load (v:=(l_ x9)) tv rfl (Qj rfl) rfl rfl (Rn.call (args:=[.d (.lst 1 (List.map (eI .i64) x9))]) tv rfl (hn13.2) pc9 (nt ((Tr.rgn (Rn.fldP (o':=0) tv rfl rfl (Rn.load (v:=(l_ x9)) tv rfl (Qj rfl) rfl rfl (Rn.call (args:=[.d (.lst 1 (List.map (eI .i64) x9))]) (r:=.d (.lst 1 (List.map (eI .i64) x9))) tv rfl (hn19.2) pc9 (Rn.fldP (o':=0) tv rfl rfl (Rn.storeD (cs':=[(l_ x9),(i_ a1.States),(f_ a1.Marked),.own 3 (List.map Qc x7)]) tv rfl rfl rfl rfl rfl ?_)))))))))))
    refine Rn.nil ⟨rfl,(by exact Qg [] ⟨(kPtr rfl),(kPtr rfl),(kPtr rfl),tv⟩ ⟨⟨_,rfl,rfl,(.same rfl)⟩,⟨_,rfl,rfl,(.same rfl)⟩,⟨_,rfl,rfl,(.cons (Qbm3 hx15) (.cons (sm rfl) (.cons (sm rfl) (.cons (sm rfl) .nil))))⟩,tv⟩ rfl)⟩
   ·refine Tr.weak (by show WeakSt Γ _ ⟨look [(2,.ptr (Γ.n0 + 2) 0),(4,.ptr (Γ.n0 + 4) 0),(7,.ptr (Γ.n0 + 7) 0)],Qk Γ.n0 (bxs [(2,.cells ([(f_ a1.Alphabet),(i_ a1.States),(f_ a1.Marked),.f (.lst 3 (List.map Qc a1.Edges))])),(4,.cells ([.nils 1,(i_ 0),.nils 1,.nils 3])),(7,.cells ([(o_ x9),(i_ a1.States),(f_ a1.Marked),.own 3 (List.map Qc x7)]))]) M,Γ.n0 + 74⟩; exact Qg [] ⟨(kPtr rfl),(kPtr rfl),(kPtr rfl),tv⟩ ⟨⟨_,rfl,rfl,(.same rfl)⟩,⟨_,rfl,rfl,(.same rfl)⟩,⟨_,rfl,rfl,(.same rfl)⟩,tv⟩ rfl) ?_
    refine Qblc hG hM0 7 0 34 hx15 (fun _=>rfl) rfl rfl rfl rfl ⟨rfl,rfl,rfl,tv⟩ ⟨⟨rfl,rfl,rfl,rfl,tv⟩,⟨rfl,rfl,rfl,rfl,tv⟩,⟨rfl,rfl,rfl,(Qbci (fun _=>rfl)),tv⟩,tv⟩ (fun c21 hc22 hc23=>?_)
    refine Tr.rgn (Rn.fldP (o':=0) tv rfl rfl (Rn.load (v:=.sl 1 (Γ.n0 + 34) 0 x9.length c21) tv rfl (Qj rfl) rfl rfl ?_))
    refine Rn.callRow (t:=34) (cs:=Q6 (List.map (eI .i64) x9) ((c21 - x9.length) * 1)) (cs':=Q6 (List.map (eI .i64) row10) ((c21 - x9.length) * 1)) tv rfl rfl (fun M2 hM2=>hr14 hc23 _ _ _ _ hM2) rfl ?_
    refine nt ((Tr.rgn (Rn.fldP (o':=0) tv rfl rfl (Rn.load (v:=.sl 1 (Γ.n0 + 34) 0 x9.length c21) tv rfl (Qj rfl) rfl rfl ?_))))
    refine Rn.callRow (t:=34) (cs:=Q6 (List.map (eI .i64) row10) ((c21 - x9.length) * 1)) (cs':=Q6 (List.map (eI .i64) row16) ((c21 - row16.length) * 1)) tv rfl rfl (fun M2 hM2=>Qbf5 hr20 hl12 hc22 hM2) rfl ?_
    refine Rn.fldP (o':=0) tv rfl rfl (Rn.storeV (v:=.sl 1 (Γ.n0 + 34) 0 row16.length c21) (cs':=[.sl 1 (Γ.n0 + 34) 0 row16.length c21,(i_ a1.States),(f_ a1.Marked),.own 3 (List.map Qc x7)]) tv rfl rfl rfl rfl rfl rfl rfl rfl ?_)
    refine Rn.weak (by show WeakSt Γ _ ⟨look [(2,.ptr (Γ.n0 + 2) 0),(4,.ptr (Γ.n0 + 4) 0),(7,.ptr (Γ.n0 + 7) 0),(32,.ptr (Γ.n0 + 7) 0),(34,.tup []),(35,.ptr (Γ.n0 + 7) 0),(37,(f_ row16)),(38,.ptr (Γ.n0 + 7) 0)],Qk Γ.n0 (bxs [(2,.cells ([(f_ a1.Alphabet),(i_ a1.States),(f_ a1.Marked),.f (.lst 3 (List.map Qc a1.Edges))])),(4,.cells ([.nils 1,(i_ 0),.nils 1,.nils 3])),(7,.cells ([(f_ row16),(i_ a1.States),(f_ a1.Marked),.own 3 (List.map Qc x7)]))]) M,Γ.n0 + 74⟩; exact Qli 34 _ rfl Qbkk ⟨(fPtr rfl),(fPtr rfl),(fPtr rfl),(fPtr rfl),(.same rfl),(fPtr rfl),(Qbkj (fun _=>rfl) (fun _=>rfl) rfl (Nat.le_trans (Nat.le_trans hl18 (Nat.le_of_eq hl12)) hc22)),(fPtr rfl),tv⟩ ⟨⟨_,rfl,rfl,(.cons (.same rfl) (.cons (.same rfl) (.cons (.same rfl) (.cons (.same rfl) .nil))))⟩,⟨_,rfl,rfl,(.cons (.same rfl) (.cons (.same rfl) (.cons (.same rfl) (.cons (.same rfl) .nil))))⟩,⟨_,rfl,rfl,(.cons (Qbkj (fun _=>rfl) (fun _=>rfl) rfl (Nat.le_trans (Nat.le_trans hl18 (Nat.le_of_eq hl12)) hc22)) (.cons (.same rfl) (.cons (.same rfl) (.cons (.same rfl) .nil))))⟩,tv⟩ rfl) ?_
    refine Rn.nil ⟨rfl,(by exact Qg [] ⟨(kPtr rfl),(kPtr rfl),(kPtr rfl),tv⟩ ⟨⟨_,rfl,rfl,(.same rfl)⟩,⟨_,rfl,rfl,(.same rfl)⟩,⟨_,rfl,rfl,(.same rfl)⟩,tv⟩ rfl)⟩
  ·refine Tr.cutB (fun (r41 : List Qd)=>⟨look [(4,.ptr (Γ.n0 + 4) 0),(7,.ptr (Γ.n0 + 7) 0)],Qk Γ.n0 (bxs [(2,.cells ([(f_ a1.Alphabet),(i_ a1.States),(f_ a1.Marked),.f (.lst 3 (List.map Qc a1.Edges))])),(4,.cells ([.nils 1,(i_ 0),.nils 1,.nils 3])),(7,.cells ([(f_ row16),(i_ a1.States),(f_ a1.Marked),.own 3 (List.map Qc r41)]))]) M,Γ.n0 + 74⟩) h (fun z h=>?_) (fun z h=>?_)
   ·refine sr ((Rn.fldP (o':=1) tv rfl rfl (Rn.load (v:=(i_ a1.States)) tv rfl (Qj rfl) rfl rfl (md rfl (nt ((Tr.block ?_)))))))
    refine Tr.loop (mk:=fun ((x24,r25) : Int × (List Qd))=>⟨look [(2,.ptr (Γ.n0 + 2) 0),(4,.ptr (Γ.n0 + 4) 0),(7,.ptr (Γ.n0 + 7) 0),(40,(i_ a1.States)),(41,(i_ x24))],Qk Γ.n0 (bxs [(2,.cells ([(f_ a1.Alphabet),(i_ a1.States),(f_ a1.Marked),.f (.lst 3 (List.map Qc a1.Edges))])),(4,.cells ([.nils 1,(i_ 0),.nils 1,.nils 3])),(7,.cells ([(f_ row16),(i_ a1.States),(f_ a1.Marked),.own 3 (List.map Qc r25)]))]) M,Γ.n0 + 74⟩) h (by exact Qi ⟨(kPtr rfl),(kPtr rfl),(kPtr rfl),(sm rfl),(sm rfl),tv⟩ ⟨⟨_,rfl,rfl,(.same rfl)⟩,⟨_,rfl,rfl,(.same rfl)⟩,⟨_,rfl,rfl,(.same rfl)⟩,tv⟩ rfl) (fun k26 z h=>?_)
    ·obtain ⟨x24,r25⟩:=z
     replace h : _ = some _:=h
     refine sr ((Rn.bin tv rfl rfl rfl (nt ((Tr.seq ?_)))))
     refine Tr.cond rfl (fun hb27=>?_) (fun hb27=>?_)
     ·replace h:=ifT hb27 h
      refine Tr.skip (toN ?_)
      refine Tr.cutB (fun (r40 : List Qd)=>⟨look [(2,.ptr (Γ.n0 + 2) 0),(4,.ptr (Γ.n0 + 4) 0),(7,.ptr (Γ.n0 + 7) 0),(40,(i_ a1.States)),(41,(i_ x24))],Qk Γ.n0 (bxs [(2,.cells ([(f_ a1.Alphabet),(i_ a1.States),(f_ a1.Marked),.f (.lst 3 (List.map Qc a1.Edges))])),(4,.cells ([.nils 1,(i_ 0),.nils 1,.nils 3])),(7,.cells ([(f_ row16),(i_ a1.States),(f_ a1.Marked),.own 3 (List.map Qc r40)]))]) M,Γ.n0 + 74⟩) h (fun z h=>?_) (fun z h=>?_)
      ·refine Tr.block (sr ((md rfl (md rfl (nt ((sr ((Rn.fldP (o':=0) tv rfl rfl (Rn.load (v:=(f_ row16)) tv rfl (Qj rfl) rfl rfl ?_))))))))))
       refine Rn.weak (by show WeakSt Γ _ ⟨look [(2,.ptr (Γ.n0 + 2) 0),(4,.ptr (Γ.n0 + 4) 0),(7,.ptr (Γ.n0 + 7) 0),(8,(i_ x24)),(40,(i_ a1.States)),(41,(i_ x24)),(42,(b_ (decide (x24 < a1.States)))),(43,(i_ x24)),(44,.ptr (Γ.n0 + 7) 0),(45,(l_ row16))],Qk Γ.n0 (bxs [(2,.cells ([(f_ a1.Alphabet),(i_ a1.States),(f_ a1.Marked),.f (.lst 3 (List.map Qc a1.Edges))])),(4,.cells ([.nils 1,(i_ 0),.nils 1,.nils 3])),(7,.cells ([(f_ row16),(i_ a1.States),(f_ a1.Marked),.own 3 (List.map Qc r25)]))]) M,Γ.n0 + 74⟩; exact Qg [] ⟨(kPtr rfl),(kPtr rfl),(kPtr rfl),(sm rfl),(sm rfl),(sm rfl),(sm rfl),(sm rfl),(kPtr rfl),fToD,tv⟩ ⟨⟨_,rfl,rfl,(.same rfl)⟩,⟨_,rfl,rfl,(.same rfl)⟩,⟨_,rfl,rfl,(.same rfl)⟩,tv⟩ rfl) ?_
       refine Rn.lenD tv rfl (md rfl (nt ((Tr.block ?_))))
       refine Tr.loop (mk:=fun ((x28,r29) : Int × (List Qd))=>⟨look [(2,.ptr (Γ.n0 + 2) 0),(4,.ptr (Γ.n0 + 4) 0),(7,.ptr (Γ.n0 + 7) 0),(8,(i_ x24)),(40,(i_ a1.States)),(41,(i_ x24)),(45,(l_ row16)),(46,(i_ (row16.length : Int))),(47,(i_ x28))],Qk Γ.n0 (bxs [(2,.cells ([(f_ a1.Alphabet),(i_ a1.States),(f_ a1.Marked),.f (.lst 3 (List.map Qc a1.Edges))])),(4,.cells ([.nils 1,(i_ 0),.nils 1,.nils 3])),(7,.cells ([(f_ row16),(i_ a1.States),(f_ a1.Marked),.own 3 (List.map Qc r29)]))]) M,Γ.n0 + 74⟩) h (by exact Qi ⟨(kPtr rfl),(kPtr rfl),(kPtr rfl),(sm rfl),(sm rfl),(sm rfl),(sm rfl),(sm rfl),(sm rfl),tv⟩ ⟨⟨_,rfl,rfl,(.same rfl)⟩,⟨_,rfl,rfl,(.same rfl)⟩,⟨_,rfl,rfl,(.same rfl)⟩,tv⟩ rfl) (fun k30 z h=>?_)
       ·obtain ⟨x28,r29⟩:=z
        replace h : _ = some _:=h
        refine sr ((Rn.bin tv rfl rfl rfl (nt ((Tr.seq ?_)))))
        refine Tr.cond rfl (fun hb31=>?_) (fun hb31=>?_)
        ·replace h:=ifT hb31 h
         refine Tr.skip (toN ?_)
         refine Tr.cutB (fun (r39 : List Qd)=>⟨look [(2,.ptr (Γ.n0 + 2) 0),(4,.ptr (Γ.n0 + 4) 0),(7,.ptr (Γ.n0 + 7) 0),(8,(i_ x24)),(40,(i_ a1.States)),(41,(i_ x24)),(45,(l_ row16)),(46,(i_ (row16.length : Int))),(47,(i_ x28))],Qk Γ.n0 (bxs [(2,.cells ([(f_ a1.Alphabet),(i_ a1.States),(f_ a1.Marked),.f (.lst 3 (List.map Qc a1.Edges))])),(4,.cells ([.nils 1,(i_ 0),.nils 1,.nils 3])),(7,.cells ([(f_ row16),(i_ a1.States),(f_ a1.Marked),.own 3 (List.map Qc r39)]))]) M,Γ.n0 + 74⟩) h (fun z h=>?_) (fun z h=>?_)
         ·refine Tr.block (Tr.seq (Tr.rgn ?_))
          obtain ⟨x32,h33,h⟩:=bnd h
          refine Rn.idxD (e:=(eI .i64)) tv rfl rfl h33 (Rn.loadC (x:=.int .i64 x32) tv rfl (md rfl (nt ((sr ((Rn.fldP (o':=0) tv rfl rfl (Rn.load (v:=(f_ a1.Alphabet)) tv rfl (Qj rfl) rfl rfl (md rfl ?_)))))))))
          obtain ⟨x35,h34,h⟩:=bnd h
          refine Rn.call (args:=[(f_ a1.Alphabet),(i_ x32)]) tv rfl (fun M2 nb2=>ACalls.weak (args':=[(l_ a1.Alphabet),(i_ x32)]) (H_slices_Contains_int _ _ _ h34 M2 nb2) (.cons fToD (.cons (sm rfl) .nil)) rfl) pc9 ?_
          refine Rn.un tv rfl rfl (Rn.nil (toN ?_))
          refine Tr.cond rfl (fun hb36=>?_) (fun hb36=>?_)
          ·have hb36:=nT' hb36
           replace h:=bF hb36 h
           refine Tr.rgn (Rn.fldP (o':=3) tv rfl rfl (Rn.loadT (cs':=[(f_ row16),(i_ a1.States),(f_ a1.Marked),.d (.lst 3 (List.map Qc r29))]) tv rfl rfl rfl rfl (md rfl (md rfl (md rfl (Rn.build (v:=.agg [(i_ x24),(i_ x32),(i_ x24)]) tv rfl (Rn.bslice (xs:=[.agg [(i_ x24),(i_ x32),(i_ x24)]]) (cs:=[(i_ x24),(i_ x32),(i_ x24)]) tv rfl rfl rfl rfl ?_)))))))
           obtain ⟨x37,h38,h⟩:=bnd h
           refine Rn.app (e:=Qc) tv rfl rfl rfl (Qdb rfl rfl rfl) h38 rfl (Rn.fldP (o':=3) tv rfl rfl (Rn.storeO (cs':=[(f_ row16),(i_ a1.States),(f_ a1.Marked),.own 3 (List.map Qc x37)]) tv rfl rfl rfl rfl rfl (Rn.nil ?_)))
           replace h:=si h; subst h
           exact Qg [62] ⟨(kPtr rfl),(kPtr rfl),(kPtr rfl),(sm rfl),(sm rfl),(sm rfl),(sm rfl),(sm rfl),(sm rfl),tv⟩ ⟨⟨_,rfl,rfl,(.same rfl)⟩,⟨_,rfl,rfl,(.same rfl)⟩,⟨_,rfl,rfl,(.same rfl)⟩,tv⟩ rfl
          ·have hb36:=nF' hb36
           replace h:=bT hb36 h
           refine Tr.skip ?_
           replace h:=si h; subst h
           exact Qg [] ⟨(kPtr rfl),(kPtr rfl),(kPtr rfl),(sm rfl),(sm rfl),(sm rfl),(sm rfl),(sm rfl),(sm rfl),tv⟩ ⟨⟨_,rfl,rfl,(.same rfl)⟩,⟨_,rfl,rfl,(.same rfl)⟩,⟨_,rfl,rfl,(.same rfl)⟩,tv⟩ rfl
         ·obtain ⟨r39,rfl⟩ : ∃ x,x = z:=⟨_,rfl⟩
          refine Tr.rgn (Rn.bin tv rfl rfl rfl (md rfl (Rn.nil ?_)))
          exact ⟨_,h,(by exact Qi ⟨(kPtr rfl),(kPtr rfl),(kPtr rfl),(sm rfl),(sm rfl),(sm rfl),(sm rfl),(sm rfl),(sm rfl),tv⟩ ⟨⟨_,rfl,rfl,(.same rfl)⟩,⟨_,rfl,rfl,(.same rfl)⟩,⟨_,rfl,rfl,(.same rfl)⟩,tv⟩ rfl)⟩
        ·replace h:=ifF hb31 h
         refine Tr.exit ?_
         replace h:=si h; subst h
         exact Qg [] ⟨(kPtr rfl),(kPtr rfl),(kPtr rfl),(sm rfl),(sm rfl),tv⟩ ⟨⟨_,rfl,rfl,(.same rfl)⟩,⟨_,rfl,rfl,(.same rfl)⟩,⟨_,rfl,rfl,(.same rfl)⟩,tv⟩ rfl
      ·obtain ⟨r40,rfl⟩ : ∃ x,x = z:=⟨_,rfl⟩
       refine Tr.rgn (Rn.bin tv rfl rfl rfl (md rfl (Rn.nil ?_)))
       exact ⟨_,h,(by exact Qi ⟨(kPtr rfl),(kPtr rfl),(kPtr rfl),(sm rfl),(sm rfl),tv⟩ ⟨⟨_,rfl,rfl,(.same rfl)⟩,⟨_,rfl,rfl,(.same rfl)⟩,⟨_,rfl,rfl,(.same rfl)⟩,tv⟩ rfl)⟩
     ·replace h:=ifF hb27 h
      refine Tr.exit ?_
      replace h:=si h; subst h
      exact Qg [] ⟨(kPtr rfl),(kPtr rfl),tv⟩ ⟨⟨_,rfl,rfl,(.same rfl)⟩,⟨_,rfl,rfl,(.same rfl)⟩,⟨_,rfl,rfl,(.same rfl)⟩,tv⟩ rfl
   ·obtain ⟨r41,rfl⟩ : ∃ x,x = z:=⟨_,rfl⟩
    obtain ⟨row42,hs43,h⟩:=bnd h
    obtain ⟨hl44,hn45,hr46⟩:=H_slices_SortFunc_Edge _ _ hs43
    refine Tr.seqW ⟨look [(4,.ptr (Γ.n0 + 4) 0),(7,.ptr (Γ.n0 + 7) 0)],Qk Γ.n0 (bxs [(2,.cells ([(f_ a1.Alphabet),(i_ a1.States),(f_ a1.Marked),.f (.lst 3 (List.map Qc a1.Edges))])),(4,.cells ([.nils 1,(i_ 0),.nils 1,.nils 3])),(7,.cells ([(f_ row16),(i_ a1.States),(f_ a1.Marked),.f (.lst 3 (List.map Qc row42))]))]) M,Γ.n0 + 74⟩ ?_ ?_
    ·by_cases hx47 : r41 = []
     ·obtain ⟨hyx,hn45b⟩:=hn45 hx47
      replace hyx:=hyx.symm
      subst hyx
      replace hn45:=And.intro tv hn45b
      refine Tr.rgn (Rn.fldP (o':=3) tv rfl rfl (Rn.load (v:=.d (.lst 3 (List.map Qc r41))) tv rfl (Qj rfl) rfl rfl (Rn.call (args:=[.d (.lst 3 (List.map Qc r41)),.clo 49 []]) tv rfl (hn45.2) pc9 ?_)))
      refine Rn.nil ⟨rfl,(by exact Qg [] ⟨(kPtr rfl),(kPtr rfl),tv⟩ ⟨⟨_,rfl,rfl,(.same rfl)⟩,⟨_,rfl,rfl,(.same rfl)⟩,⟨_,rfl,rfl,(.cons (sm rfl) (.cons (sm rfl) (.cons (sm rfl) (.cons (Qbnh hx47) .nil))))⟩,tv⟩ rfl)⟩
     ·refine Tr.weak (by show WeakSt Γ _ ⟨look [(4,.ptr (Γ.n0 + 4) 0),(7,.ptr (Γ.n0 + 7) 0)],Qk Γ.n0 (bxs [(2,.cells ([(f_ a1.Alphabet),(i_ a1.States),(f_ a1.Marked),.f (.lst 3 (List.map Qc a1.Edges))])),(4,.cells ([.nils 1,(i_ 0),.nils 1,.nils 3])),(7,.cells ([(f_ row16),(i_ a1.States),(f_ a1.Marked),.own 3 (List.map Qc r41)]))]) M,Γ.n0 + 74⟩; exact Qg [] ⟨(kPtr rfl),(kPtr rfl),tv⟩ ⟨⟨_,rfl,rfl,(.same rfl)⟩,⟨_,rfl,rfl,(.same rfl)⟩,⟨_,rfl,rfl,(.same rfl)⟩,tv⟩ rfl) ?_
      refine Qblc hG hM0 7 3 69 hx47 (fun _=>rfl) rfl rfl rfl rfl ⟨rfl,rfl,tv⟩ ⟨⟨rfl,rfl,rfl,rfl,tv⟩,⟨rfl,rfl,rfl,rfl,tv⟩,⟨rfl,rfl,rfl,rfl,tv⟩,tv⟩ (fun c48 hc49 hc50=>?_)
      refine Tr.rgn (Rn.fldP (o':=3) tv rfl rfl (Rn.load (v:=.sl 3 (Γ.n0 + 69) 0 r41.length c48) tv rfl (Qj rfl) rfl rfl ?_))
      refine Rn.callRow (t:=69) (cs:=Q6 (List.map Qc r41) ((c48 - r41.length) * 3)) (cs':=Q6 (List.map Qc row42) ((c48 - r41.length) * 3)) tv rfl rfl (fun M2 hM2=>hr46 hc50 _ _ _ _ hM2) rfl ?_
      refine Rn.weak (by show WeakSt Γ _ ⟨look [(4,.ptr (Γ.n0 + 4) 0),(7,.ptr (Γ.n0 + 7) 0),(67,.ptr (Γ.n0 + 7) 3),(68,.f (.lst 3 (List.map Qc row42))),(69,.tup [])],Qk Γ.n0 (bxs [(2,.cells ([(f_ a1.Alphabet),(i_ a1.States),(f_ a1.Marked),.f (.lst 3 (List.map Qc a1.Edges))])),(4,.cells ([.nils 1,(i_ 0),.nils 1,.nils 3])),(7,.cells ([(f_ row16),(i_ a1.States),(f_ a1.Marked),.f (.lst 3 (List.map Qc row42))]))]) M,Γ.n0 + 74⟩; exact Qli 69 _ rfl Qbkk ⟨(fPtr rfl),(fPtr rfl),(fPtr rfl),(Qbkj (fun _=>rfl) (fun _=>rfl) hl44 hc49),(.same rfl),tv⟩ ⟨⟨_,rfl,rfl,(.cons (.same rfl) (.cons (.same rfl) (.cons (.same rfl) (.cons (.same rfl) .nil))))⟩,⟨_,rfl,rfl,(.cons (.same rfl) (.cons (.same rfl) (.cons (.same rfl) (.cons (.same rfl) .nil))))⟩,⟨_,rfl,rfl,(.cons (.same rfl) (.cons (.same rfl) (.cons (.same rfl) (.cons (Qbkj (fun _=>rfl) (fun _=>rfl) hl44 hc49) .nil))))⟩,tv⟩ rfl) ?_
      refine Rn.nil ⟨rfl,(by exact Qg [] ⟨(kPtr rfl),(kPtr rfl),tv⟩ ⟨⟨_,rfl,rfl,(.same rfl)⟩,⟨_,rfl,rfl,(.same rfl)⟩,⟨_,rfl,rfl,(.same rfl)⟩,tv⟩ rfl)⟩
    ·refine sr ((Rn.load (v:=.agg [(f_ row16),(i_ a1.States),(f_ a1.Marked),.f (.lst 3 (List.map Qc row42))]) tv rfl (Qj rfl) rfl rfl ?_))
     obtain ⟨⟨r52,r53⟩,h51,h⟩:=bnd h
     refine Rn.call (args:=[.agg [(f_ row16),(i_ a1.States),(f_ a1.Marked),.f (.lst 3 (List.map Qc row42))]]) tv rfl (fun M2 nb2=>ACalls.weak (args':=[.agg [(l_ row16),(i_ a1.States),(l_ a1.Marked),.d (.lst 3 (List.map Qc row42))]]) (H_automaton_Canonical _ _ h51 M2 nb2) (.cons (WkV.agg (.cons fToD (.cons (sm rfl) (.cons fToD (.cons fToD .nil))))) .nil) rfl) pc9 ?_
     refine Rn.ext (v:=(Qb r52)) (vs:=[(Qb r52),(i_ r53)]) tv rfl rfl rfl (Rn.ext (v:=(i_ r53)) (vs:=[(Qb r52),(i_ r53)]) tv rfl rfl rfl (Rn.storeT (v:=(Qb r52)) (ds:=(Qe r52)) (cs':=(Qe r52)) tv rfl rfl rfl rfl rfl rfl rfl (md rfl (nt ((Tr.ret ?_))))))
     replace h:=si h; subst h
     exact ⟨.inr rfl,.tup [(Qb r52),(i_ r53)],res2 (Qel rfl rfl rfl rfl) rfl,(WkV.tup (.cons (.same rfl) (.cons (.same rfl) .nil))).rd,⟨⟨tv,tv,tv,tv,tv⟩,tv,tv⟩,fun k hk=>Qf hk⟩
theorem Qxw {P : Program} {c : Nat} {Qbi : Qa → (List Int) → Option (Qa × Int)}
    (H_projection_Inverse : Qh1 P 23 Qbi) (hcf : Qm P c = some Qi8) : Qi7 P c (Qb9 Qbi):=by
 intro a1 events2 r h
 refine Qb1 hcf rfl fun Γ M hP hnt hM=>?_
 subst hP
 refine Tr.init [(0,(Qb a1)),(1,(l_ events2))] rfl ?_
 unfold Qb9 at h
 unfold Qi8
 refine sr ((Rn.box (v:=(Qb a1)) (cs:=(Qe a1)) tv rfl rfl rfl rfl rfl (Rn.alloc tv rfl (md rfl (nt ((sr ((Rn.load (v:=(Qb a1)) tv rfl (Qj rfl) rfl rfl (md rfl ?_))))))))))
 obtain ⟨⟨r4,r5⟩,h3,h⟩:=bnd h
 refine Rn.call (args:=[(Qb a1),(l_ events2)]) tv rfl (H_projection_Inverse _ _ _ h3) pc9 (Rn.ext (v:=(Qb r4)) (vs:=[(Qb r4),(i_ r5)]) tv rfl rfl rfl (Rn.ext (v:=(i_ r5)) (vs:=[(Qb r4),(i_ r5)]) tv rfl rfl rfl (Rn.storeT (v:=(Qb r4)) (ds:=(Qe r4)) (cs':=(Qe r4)) tv rfl rfl rfl rfl rfl rfl rfl (md rfl (nt ((Tr.ret ?_)))))))
 replace h:=si h; subst h
 exact ⟨.inr rfl,.tup [(Qb r4),(i_ r5)],res2 (Qel rfl rfl rfl rfl) rfl,(WkV.tup (.cons (.same rfl) (.cons (.same rfl) .nil))).rd,⟨⟨tv,tv,tv,tv,tv⟩,tv,tv⟩,fun k hk=>Qf hk⟩
theorem Q3c {P : Program} {c : Nat} {Qy : (List Int) → (List Int) → Option Bool} {Q3 : (List Qd) → (List Qd) → Option Bool}
    (H_slices_Equal_int : Qgo P 19 Qy)
    (H_slices_Equal_Edge : Qfp P 20 Q3) (hcf : Qm P c = some Qla) : Qk9 P c (Qca Qy Q3):=by
 intro a1 b2 r h
 refine Qb1 hcf rfl fun Γ M hP hnt hM=>?_
 subst hP
 refine Tr.init [(0,(Qb a1)),(1,(Qb b2))] rfl ?_
 unfold Qca at h
 unfold Qla
 refine sr ((Rn.box (v:=(Qb a1)) (cs:=(Qe a1)) tv rfl rfl rfl rfl rfl (Rn.box (v:=(Qb b2)) (cs:=(Qe b2)) tv rfl rfl rfl rfl rfl (md rfl (nt ((sr ((Rn.fldP (o':=1) tv rfl rfl (Rn.load (v:=(i_ a1.States)) tv rfl (Qj rfl) rfl rfl (Rn.fldP (o':=1) tv rfl rfl (Rn.load (v:=(i_ b2.States)) tv rfl (Qj rfl) rfl rfl (Rn.bin tv rfl rfl rfl (md rfl ?_))))))))))))))
 refine Qck (a1.States == b2.States) (fun hb3=>?_) (fun hb3=>?_)
 ·replace h:=bT hb3 h
  refine Rn.fldP (o':=0) (gw rfl hb3) rfl rfl (Rn.load (v:=(l_ a1.Alphabet)) (gw rfl hb3) rfl (Qj rfl) rfl rfl (Rn.fldP (o':=0) (gw rfl hb3) rfl rfl (Rn.load (v:=(l_ b2.Alphabet)) (gw rfl hb3) rfl (Qj rfl) rfl rfl ?_)))
  obtain ⟨x5,h4,h⟩:=bnd h
  refine Rn.call (args:=[(l_ a1.Alphabet),(l_ b2.Alphabet)]) (gw rfl hb3) rfl (H_slices_Equal_int _ _ _ h4) pc9 (Rn.pickT (v:=(b_ x5)) tv rfl hb3 rfl (md rfl ?_))
  refine Qck x5 (fun hb6=>?_) (fun hb6=>?_)
  ·replace h:=bT hb6 h
   refine Rn.fldP (o':=2) (gw rfl hb6) rfl rfl (Rn.load (v:=(l_ a1.Marked)) (gw rfl hb6) rfl (Qj rfl) rfl rfl (Rn.fldP (o':=2) (gw rfl hb6) rfl rfl (Rn.load (v:=(l_ b2.Marked)) (gw rfl hb6) rfl (Qj rfl) rfl rfl ?_)))
   obtain ⟨x8,h7,h⟩:=bnd h
   refine Rn.call (args:=[(l_ a1.Marked),(l_ b2.Marked)]) (gw rfl hb6) rfl (H_slices_Equal_int _ _ _ h7) pc9 (Rn.pickT (v:=(b_ x8)) tv rfl hb6 rfl (md rfl ?_))
   refine Qck x8 (fun hb9=>?_) (fun hb9=>?_)
   ·replace h:=bT hb9 h
    refine Rn.fldP (o':=3) (gw rfl hb9) rfl rfl (Rn.load (v:=.d (.lst 3 (List.map Qc a1.Edges))) (gw rfl hb9) rfl (Qj rfl) rfl rfl (Rn.fldP (o':=3) (gw rfl hb9) rfl rfl (Rn.load (v:=.d (.lst 3 (List.map Qc b2.Edges))) (gw rfl hb9) rfl (Qj rfl) rfl rfl ?_)))
    obtain ⟨x11,h10,h⟩:=bnd h
    refine Rn.call (args:=[.d (.lst 3 (List.map Qc a1.Edges)),.d (.lst 3 (List.map Qc b2.Edges))]) (gw rfl hb9) rfl (H_slices_Equal_Edge _ _ _ h10) pc9 (Rn.pickT (v:=(b_ x11)) tv rfl hb9 rfl (md rfl (nt ((Tr.ret ?_)))))
    replace h:=si h; subst h
    exact ⟨.inr rfl,(b_ x11),rfl,fun _ _ _ _ h=>h,tv,fun k hk=>Qf hk⟩
   ·replace h:=bF hb9 h
    refine Rn.sk (nw rfl hb9) (Rn.sk (nw rfl hb9) (Rn.sk (nw rfl hb9) (Rn.sk (nw rfl hb9) (Rn.sk (nw rfl hb9) (Rn.pickF (v:=(b_ false)) tv rfl hb9 rfl (md rfl (nt ((Tr.ret ?_)))))))))
    replace h:=si h; subst h
    exact ⟨.inr rfl,(b_ false),rfl,fun _ _ _ _ h=>h,tv,fun k hk=>Qf hk⟩
  ·replace h:=bF hb6 h
   refine Rn.sk (nw rfl hb6) (Rn.sk (nw rfl hb6) (Rn.sk (nw rfl hb6) (Rn.sk (nw rfl hb6) (Rn.sk (nw rfl hb6) (Rn.pickF (v:=(b_ false)) tv rfl hb6 rfl (md rfl (Rn.sk (nw (b:=false) rfl rfl) (Rn.sk (nw (b:=false) rfl rfl) (Rn.sk (nw (b:=false) rfl rfl) (Rn.sk (nw (b:=false) rfl rfl) (Rn.sk (nw (b:=false) rfl rfl) (Rn.pickF (v:=(b_ false)) tv rfl rfl rfl (md rfl (nt ((Tr.ret ?_))))))))))))))))
   replace h:=si h; subst h
   exact ⟨.inr rfl,(b_ false),rfl,fun _ _ _ _ h=>h,tv,fun k hk=>Qf hk⟩
 ·replace h:=bF hb3 h
  refine Rn.sk (nw rfl hb3) (Rn.sk (nw rfl hb3) (Rn.sk (nw rfl hb3) (Rn.sk (nw rfl hb3) (Rn.sk (nw rfl hb3) (Rn.pickF (v:=(b_ false)) tv rfl hb3 rfl (md rfl (Rn.sk (nw (b:=false) rfl rfl) (Rn.sk (nw (b:=false) rfl rfl) (Rn.sk (nw (b:=false) rfl rfl) (Rn.sk (nw (b:=false) rfl rfl) (Rn.sk (nw (b:=false) rfl rfl) (Rn.pickF (v:=(b_ false)) tv rfl rfl rfl (md rfl (Rn.sk (nw (b:=false) rfl rfl) (Rn.sk (nw (b:=false) rfl rfl) (Rn.sk (nw (b:=false) rfl rfl) (Rn.sk (nw (b:=false) rfl rfl) (Rn.sk (nw (b:=false) rfl rfl) (Rn.pickF (v:=(b_ false)) tv rfl rfl rfl (md rfl (nt ((Tr.ret ?_)))))))))))))))))))))))
  replace h:=si h; subst h
  exact ⟨.inr rfl,(b_ false),rfl,fun _ _ _ _ h=>h,tv,fun k hk=>Qf hk⟩
theorem Qph {P : Program} {c : Nat} {Qn : (List Int) → Option ((List Int))} {f_slices_Sort_int : List Int → Option (List Int)} {f_slices_Compact_int : List Int → Option (List Int)}
    (H_slices_Clone_int : Qdw P 11 Qn)
    (H_slices_Sort_int : RowK P 24 (eI .i64) 1 [] f_slices_Sort_int)
    (H_slices_Compact_int : CompK P 25 f_slices_Compact_int) (hcf : Qm P c = some Qgj) : Qgi P c (Qbg Qn f_slices_Sort_int f_slices_Compact_int):=by
 intro l1 r h
 refine Qbiz hcf (args':=[(f_ l1)]) rfl rfl rfl rfl rfl rfl fun Γ M hP hnt hG hM0 hM=>?_
 subst hP
 refine Tr.init [(0,(f_ l1))] rfl ?_
 unfold Qbg at h
 unfold Qgj
 refine sr ((Rn.movTC (v:=.nils 1) tv (nt ((sr ((Rn.mov (v:=(f_ l1)) tv rfl ?_)))))))
 obtain ⟨x3,h2,h⟩:=bnd h
 refine Rn.call (args:=[(f_ l1)]) tv rfl (fun M2 nb2=>ACalls.weak (args':=[(l_ l1)]) (H_slices_Clone_int _ _ h2 M2 nb2) (.cons fToD .nil) rfl) pc9 ?_
 refine Rn.movTO tv rfl (Rn.nil (toN ?_))
 obtain ⟨out4,hs5,h⟩:=bnd h
 obtain ⟨hl6,hn7,hr8⟩:=H_slices_Sort_int _ _ hs5
 obtain ⟨out10,hs11,h⟩:=bnd h
 obtain ⟨hl12,hn13,hr14⟩:=H_slices_Compact_int _ _ hs11
 refine Tr.seqW2 ⟨look [(2,(l_ out10))],Qk Γ.n0 (bxs []) M,Γ.n0 + 10⟩ ?_ ?_
 ·by_cases hx9 : x3 = []
  ·obtain ⟨hyx,hn7b⟩:=hn7 hx9
   replace hyx:=hyx.symm
   subst hyx
   replace hn7:=And.intro tv hn7b
   obtain ⟨hyx2,hn13b⟩:=hn13 hx9
   replace hyx2:=hyx2.symm
   subst hyx2
   replace hn13:=And.intro tv hn13b
   refine Tr.rgn (Rn.mov (v:=(l_ x3)) tv rfl (Rn.call (args:=[.d (.lst 1 (List.map (eI .i64) x3))]) tv rfl (hn7.2) pc9 (nt ((Tr.rgn (Rn.mov (v:=(l_ x3)) tv rfl (Rn.call (args:=[.d (.lst 1 (List.map (eI .i64) x3))]) (r:=.d (.lst 1 (List.map (eI .i64) x3))) tv rfl (hn13.2) pc9 (Rn.movTD tv rfl ?_))))))))
   refine Rn.nil ⟨rfl,(by exact Qg [] ⟨(sm rfl),tv⟩ tv rfl)⟩
  ·refine Tr.weak (by show WeakSt Γ _ ⟨look [(2,.nils 1),(3,(o_ x3))],Qk Γ.n0 (bxs []) M,Γ.n0 + 10⟩; exact Qg [] ⟨(sm rfl),(sm rfl),tv⟩ tv rfl) ?_
   refine Qbld hG hM0 3 7 hx9 (fun _=>rfl) rfl rfl rfl ⟨rfl,rfl,(Qbci (fun _=>rfl)),tv⟩ tv (fun c15 hc16 hc17=>?_)
   refine Tr.rgn (Rn.mov (v:=.sl 1 (Γ.n0 + 7) 0 x3.length c15) tv rfl ?_)
   refine Rn.callRow (t:=7) (cs:=Q6 (List.map (eI .i64) x3) ((c15 - x3.length) * 1)) (cs':=Q6 (List.map (eI .i64) out4) ((c15 - x3.length) * 1)) tv rfl rfl (fun M2 hM2=>hr8 hc17 _ _ _ _ hM2) rfl ?_
   refine nt ((Tr.rgn (Rn.mov (v:=.sl 1 (Γ.n0 + 7) 0 x3.length c15) tv rfl ?_)))
   refine Rn.callRow (t:=7) (cs:=Q6 (List.map (eI .i64) out4) ((c15 - x3.length) * 1)) (cs':=Q6 (List.map (eI .i64) out10) ((c15 - out10.length) * 1)) tv rfl rfl (fun M2 hM2=>Qbf5 hr14 hl6 hc16 hM2) rfl ?_
   refine Rn.movTF (v:=.sl 1 (Γ.n0 + 7) 0 out10.length c15) tv rfl rfl ?_
   refine Rn.weak (by show WeakSt Γ _ ⟨look [(2,(l_ out10)),(7,.tup []),(9,(l_ out10))],Qk Γ.n0 (bxs []) M,Γ.n0 + 10⟩; exact Qli 7 _ rfl Qbkk ⟨(fSlT (fun _=>rfl) rfl (Nat.le_trans (Nat.le_trans hl12 (Nat.le_of_eq hl6)) hc16)),(.same rfl),(fSlT (fun _=>rfl) rfl (Nat.le_trans (Nat.le_trans hl12 (Nat.le_of_eq hl6)) hc16)),tv⟩ tv rfl) ?_
   refine Rn.nil ⟨rfl,(by exact Qg [] ⟨(sm rfl),tv⟩ tv rfl)⟩
 ·refine Tr.ret ?_
  replace h:=si h; subst h
  exact ⟨.inr rfl,(l_ out10),rfl,fun _ _ _ _ h=>h,tv,fun k hk=>Qf hk⟩
theorem Qhg {P : Program} {c : Nat} (hcf : Qm P c = some Qc4) : Qc3 P c (Qq):=by
 intro y1 x2 x5 k3 k6 r h
 intro M nb hk4 hk7
 refine Q8e hcf rfl M nb fun Γ hP hnt hn0 hM=>?_
 subst hP hn0
 refine Tr.init [(0,(Qbl y1)),(1,.ptr k3 0),(2,.ptr k6 0)] rfl ?_
 unfold Qq at h
 unfold Qc4
 refine sr ((Rn.box (v:=(Qbl y1)) (cs:=(Qbk y1)) tv rfl rfl rfl rfl rfl (md rfl (nt ((sr ((Rn.fldP (o':=0) tv rfl rfl (Rn.load (v:=(i_ y1.From)) tv rfl (Qj rfl) rfl rfl (Rn.load (v:=(i_ x2)) tv rfl (Qyo hM hk4) rfl rfl (Rn.bin tv rfl rfl rfl (md rfl ?_))))))))))))
 refine Qck (y1.From == x2) (fun hb8=>?_) (fun hb8=>?_)
 ·replace h:=bT hb8 h
  refine Rn.fldP (o':=1) (gw rfl hb8) rfl rfl (Rn.load (v:=(i_ y1.Event)) (gw rfl hb8) rfl (Qj rfl) rfl rfl (Rn.load (v:=(i_ x5)) (gw rfl hb8) rfl (Qyo hM hk7) rfl rfl (Rn.bin (gw rfl hb8) rfl rfl rfl (Rn.pickT (v:=(b_ (y1.Event == x5))) tv rfl hb8 rfl (md rfl (nt ((Tr.ret ?_))))))))
  replace h:=si h; subst h
  exact ⟨.inr rfl,(b_ (y1.Event == x5)),rfl,fun _ _ _ _ h=>h,tv,fun k hk=>Qf hk⟩
 ·replace h:=bF hb8 h
  refine Rn.sk (nw rfl hb8) (Rn.sk (nw rfl hb8) (Rn.sk (nw rfl hb8) (Rn.sk (nw rfl hb8) (Rn.pickF (v:=(b_ false)) tv rfl hb8 rfl (md rfl (nt ((Tr.ret ?_))))))))
  replace h:=si h; subst h
  exact ⟨.inr rfl,(b_ false),rfl,fun _ _ _ _ h=>h,tv,fun k hk=>Qf hk⟩
theorem Qn7 {P : Program} {c : Nat} (hcf : Qm P c = some Qfs) (fuel : Nat) : Qfr P c (Qbb fuel):=by
 intro s1 f2 g3 cp4 r h
 intro M nb hc5 ho7 hf6
 refine Q8e hcf rfl M nb fun Γ hP hnt hn0 hM=>?_
 subst hP hn0
 refine Tr.init [(0,.d (.lst 3 (List.map Qc s1))),(1,.clo g3 cp4)] rfl ?_
 unfold Qbb at h
 unfold Qfs
 refine sr ((md rfl (nt ((Tr.seq (sr ((md rfl (Rn.lenD tv rfl (md rfl (nt ((Tr.block ?_)))))))))))))
 refine Tr.loop (mk:=fun (x9 : Int)=>⟨look [(0,.d (.lst 3 (List.map Qc s1))),(1,.clo g3 cp4),(7,(i_ (s1.length : Int))),(8,(i_ x9))],Qk Γ.n0 (bxs []) M,Γ.n0 + 19⟩) h (by exact Qi ⟨(sm rfl),(kFun hM ho7),(sm rfl),(sm rfl),tv⟩ tv rfl) (fun k10 z h=>?_)
 ·obtain ⟨x9,rfl⟩ : ∃ x,x = z:=⟨_,rfl⟩
  replace h : _ = some _:=h
  refine sr ((Rn.bin tv rfl rfl rfl (nt ((Tr.seq ?_)))))
  refine Tr.cond rfl (fun hb11=>?_) (fun hb11=>?_)
  ·replace h:=ifT hb11 h
   refine Tr.skip (toN (Tr.seq (Tr.block (sr ((md rfl (md rfl (nt ((sr ((Rn.mov (v:=.clo g3 cp4) tv rfl (md rfl (md rfl ?_))))))))))))))
   obtain ⟨x12,h13,h⟩:=bnd h
   refine Rn.idxD (e:=Qc) tv rfl rfl h13 (Rn.loadCA (vs:=(Qbk x12)) tv rfl rfl rfl ?_)
   obtain ⟨x15,h14,h⟩:=bnd h
   refine Rn.callvM (args:=[(Qbl x12)] ++ cp4) tv rfl (by rw [hc5]; rfl) (fun M2 nb2 hn hx=>hf6 _ _ h14 M2 nb2 (by omega) ((Q9u hM).trans hx)) rfl pc9 ?_
   refine Rn.nil (toN ?_)
   refine Tr.cond rfl (fun hb16=>?_) (fun hb16=>?_)
   ·replace h:=bT hb16 h
    refine sr ((md rfl (md rfl (nt ((Tr.ret ?_))))))
    replace h:=si h; subst h
    exact ⟨.inr rfl,(i_ x9),rfl,fun _ _ _ _ h=>h,tv,fun k hk=>Qf hk⟩
   ·replace h:=bF hb16 h
    refine Tr.skip (toN (Tr.rgn (Rn.bin tv rfl rfl rfl (md rfl (Rn.nil ?_)))))
    exact ⟨_,h,(by exact Qi ⟨(sm rfl),(kFun hM ho7),(sm rfl),(sm rfl),tv⟩ tv rfl)⟩
  ·replace h:=ifF hb11 h
   refine Tr.exit (toN (sr ((md rfl (nt ((Tr.ret ?_)))))))
   replace h:=si h; subst h
   exact ⟨.inr rfl,(i_ (-1)),rfl,fun _ _ _ _ h=>h,tv,fun k hk=>Qf hk⟩
theorem Qim {P : Program} {c : Nat} {Qbo : Option Bool} {Qby : (List Int) → Qw → Option Qa} {Qba : Int → Option ((List Int))} {Qb9 : Qa → (List Int) → Option (Qa × Int)} {Q2 : (List Int) → Int → Option Int} {Qca : Qa → Qa → Option Bool} {Qbg : (List Int) → Option ((List Int))} {Qn : (List Int) → Option ((List Int))} {Ql : (List Int) → Int → Option Bool} {Qbb : (List Qd) → (Qd → Option Bool) → Option Int} {Qq : Qd → Int → Int → Option Bool}
    (H_overseerlaw21_known : Qgz P 4 Qbo)
    (H_overseerlaw03_Make : Qhz P 5 Qby)
    (H_overseerlaw03_Set_Events : Qem P 6 Qba)
    (H_requirement_Widen : Qi7 P 7 Qb9)
    (H_alphabet_CheckSet : Qfo P 8 Q2)
    (H_automaton_Equal : Qk9 P 9 Qca)
    (H_overseerlaw21_sorted : Qgi P 10 Qbg)
    (H_slices_Clone_int : Qdw P 11 Qn)
    (H_slices_Contains_int : Qc6 P 12 Ql)
    (H_slices_IndexFunc_Edge : Qfr P 13 Qbb)
    (H_overseerlaw21_RequirementWidens_1 : Qc3 P 14 Qq) (hcf : Qm P c = some Qdc) (fuel : Nat) : Qeq P c (Qcj Qbo Qby Qba Qb9 Q2 Qca Qbg Qn Ql Qbb Qq fuel):=by
 intro s1 g2 events3 r h
 refine Qb1 hcf rfl fun Γ M hP hnt hM=>?_
 subst hP
 refine Tr.init [(0,.d (.int .u8 s1)),(1,.agg [.d (.int .u8 g2.States),.d (.int .u8 g2.Marks),.d (.int .u8 g2.To.1.1),.d (.int .u8 g2.To.1.2.1),.d (.int .u8 g2.To.1.2.2.1),.d (.int .u8 g2.To.1.2.2.2.1),.d (.int .u8 g2.To.1.2.2.2.2),.d (.int .u8 g2.To.2.1.1),.d (.int .u8 g2.To.2.1.2.1),.d (.int .u8 g2.To.2.1.2.2.1),.d (.int .u8 g2.To.2.1.2.2.2.1),.d (.int .u8 g2.To.2.1.2.2.2.2),.d (.int .u8 g2.To.2.2.1.1),.d (.int .u8 g2.To.2.2.1.2.1),.d (.int .u8 g2.To.2.2.1.2.2.1),.d (.int .u8 g2.To.2.2.1.2.2.2.1),.d (.int .u8 g2.To.2.2.1.2.2.2.2),.d (.int .u8 g2.To.2.2.2.1.1),.d (.int .u8 g2.To.2.2.2.1.2.1),.d (.int .u8 g2.To.2.2.2.1.2.2.1),.d (.int .u8 g2.To.2.2.2.1.2.2.2.1),.d (.int .u8 g2.To.2.2.2.1.2.2.2.2),.d (.int .u8 g2.To.2.2.2.2.1),.d (.int .u8 g2.To.2.2.2.2.2.1),.d (.int .u8 g2.To.2.2.2.2.2.2.1),.d (.int .u8 g2.To.2.2.2.2.2.2.2.1),.d (.int .u8 g2.To.2.2.2.2.2.2.2.2)]),(2,(l_ events3))] rfl ?_
 unfold Qcj at h
 unfold Qdc
 refine sr ((Rn.box (v:=.agg [.d (.int .u8 g2.States),.d (.int .u8 g2.Marks),.d (.int .u8 g2.To.1.1),.d (.int .u8 g2.To.1.2.1),.d (.int .u8 g2.To.1.2.2.1),.d (.int .u8 g2.To.1.2.2.2.1),.d (.int .u8 g2.To.1.2.2.2.2),.d (.int .u8 g2.To.2.1.1),.d (.int .u8 g2.To.2.1.2.1),.d (.int .u8 g2.To.2.1.2.2.1),.d (.int .u8 g2.To.2.1.2.2.2.1),.d (.int .u8 g2.To.2.1.2.2.2.2),.d (.int .u8 g2.To.2.2.1.1),.d (.int .u8 g2.To.2.2.1.2.1),.d (.int .u8 g2.To.2.2.1.2.2.1),.d (.int .u8 g2.To.2.2.1.2.2.2.1),.d (.int .u8 g2.To.2.2.1.2.2.2.2),.d (.int .u8 g2.To.2.2.2.1.1),.d (.int .u8 g2.To.2.2.2.1.2.1),.d (.int .u8 g2.To.2.2.2.1.2.2.1),.d (.int .u8 g2.To.2.2.2.1.2.2.2.1),.d (.int .u8 g2.To.2.2.2.1.2.2.2.2),.d (.int .u8 g2.To.2.2.2.2.1),.d (.int .u8 g2.To.2.2.2.2.2.1),.d (.int .u8 g2.To.2.2.2.2.2.2.1),.d (.int .u8 g2.To.2.2.2.2.2.2.2.1),.d (.int .u8 g2.To.2.2.2.2.2.2.2.2)]) (cs:=[.d (.int .u8 g2.States),.d (.int .u8 g2.Marks),.d (.int .u8 g2.To.1.1),.d (.int .u8 g2.To.1.2.1),.d (.int .u8 g2.To.1.2.2.1),.d (.int .u8 g2.To.1.2.2.2.1),.d (.int .u8 g2.To.1.2.2.2.2),.d (.int .u8 g2.To.2.1.1),.d (.int .u8 g2.To.2.1.2.1),.d (.int .u8 g2.To.2.1.2.2.1),.d (.int .u8 g2.To.2.1.2.2.2.1),.d (.int .u8 g2.To.2.1.2.2.2.2),.d (.int .u8 g2.To.2.2.1.1),.d (.int .u8 g2.To.2.2.1.2.1),.d (.int .u8 g2.To.2.2.1.2.2.1),.d (.int .u8 g2.To.2.2.1.2.2.2.1),.d (.int .u8 g2.To.2.2.1.2.2.2.2),.d (.int .u8 g2.To.2.2.2.1.1),.d (.int .u8 g2.To.2.2.2.1.2.1),.d (.int .u8 g2.To.2.2.2.1.2.2.1),.d (.int .u8 g2.To.2.2.2.1.2.2.2.1),.d (.int .u8 g2.To.2.2.2.1.2.2.2.2),.d (.int .u8 g2.To.2.2.2.2.1),.d (.int .u8 g2.To.2.2.2.2.2.1),.d (.int .u8 g2.To.2.2.2.2.2.2.1),.d (.int .u8 g2.To.2.2.2.2.2.2.2.1),.d (.int .u8 g2.To.2.2.2.2.2.2.2.2)]) tv rfl rfl rfl rfl rfl (md rfl (nt ((Tr.seq ?_))))))
 refine Tr.cutB (fun (x7 : Bool)=>⟨look [(0,.d (.int .u8 s1)),(2,(l_ events3)),(4,.ptr (Γ.n0 + 4) 0),(22,(b_ x7))],Qk Γ.n0 (bxs [(4,.cells ([.d (.int .u8 g2.States),.d (.int .u8 g2.Marks),.d (.int .u8 g2.To.1.1),.d (.int .u8 g2.To.1.2.1),.d (.int .u8 g2.To.1.2.2.1),.d (.int .u8 g2.To.1.2.2.2.1),.d (.int .u8 g2.To.1.2.2.2.2),.d (.int .u8 g2.To.2.1.1),.d (.int .u8 g2.To.2.1.2.1),.d (.int .u8 g2.To.2.1.2.2.1),.d (.int .u8 g2.To.2.1.2.2.2.1),.d (.int .u8 g2.To.2.1.2.2.2.2),.d (.int .u8 g2.To.2.2.1.1),.d (.int .u8 g2.To.2.2.1.2.1),.d (.int .u8 g2.To.2.2.1.2.2.1),.d (.int .u8 g2.To.2.2.1.2.2.2.1),.d (.int .u8 g2.To.2.2.1.2.2.2.2),.d (.int .u8 g2.To.2.2.2.1.1),.d (.int .u8 g2.To.2.2.2.1.2.1),.d (.int .u8 g2.To.2.2.2.1.2.2.1),.d (.int .u8 g2.To.2.2.2.1.2.2.2.1),.d (.int .u8 g2.To.2.2.2.1.2.2.2.2),.d (.int .u8 g2.To.2.2.2.2.1),.d (.int .u8 g2.To.2.2.2.2.2.1),.d (.int .u8 g2.To.2.2.2.2.2.2.1),.d (.int .u8 g2.To.2.2.2.2.2.2.2.1),.d (.int .u8 g2.To.2.2.2.2.2.2.2.2)]))]) M,Γ.n0 + 108⟩) h (fun z h=>?_) (fun z h=>?_)
 ·refine Tr.rgn ?_
  obtain ⟨x5,h4,h⟩:=bnd h
  refine Rn.call (args:=[]) tv rfl (H_overseerlaw21_known _ h4) pc9 (Rn.un tv rfl rfl (md rfl ?_))
  refine Qck x5 (fun hb6=>?_) (fun hb6=>?_)
  ·replace h:=bT hb6 h
   refine Rn.movD (gw rfl (nT hb6)) rfl (Rn.lenD (gw rfl (nT hb6)) rfl (Rn.bin (gw rfl (nT hb6)) rfl rfl rfl (Rn.pickF (v:=(b_ (decide ((events3.length : Int) > 8)))) tv rfl (nT hb6) rfl (Rn.nil ?_))))
   replace h:=si h; subst h
   exact Qg [] ⟨(sm rfl),(sm rfl),(kPtr rfl),(sm rfl),tv⟩ ⟨⟨_,rfl,rfl,(.same rfl)⟩,tv⟩ rfl
  ·replace h:=bF hb6 h
   refine Rn.sk (nw rfl (nF hb6)) (Rn.sk (nw rfl (nF hb6)) (Rn.sk (nw rfl (nF hb6)) (Rn.pickT (v:=(b_ true)) tv rfl (nF hb6) rfl (Rn.nil ?_))))
   replace h:=si h; subst h
   exact Qg [] ⟨(sm rfl),(sm rfl),(kPtr rfl),(sm rfl),tv⟩ ⟨⟨_,rfl,rfl,(.same rfl)⟩,tv⟩ rfl
 ·obtain ⟨x7,rfl⟩ : ∃ x,x = z:=⟨_,rfl⟩
  refine Tr.cond rfl (fun hb8=>?_) (fun hb8=>?_)
  ·replace h:=bT hb8 h
   refine Tr.seq (Tr.rgn ?_)
   obtain ⟨x10,h9,h⟩:=bnd h
   refine Rn.call (args:=[]) tv rfl (H_overseerlaw21_known _ h9) pc9 (md rfl (nt ((Tr.ret ?_))))
   replace h:=si h; subst h
   exact ⟨.inr rfl,(b_ x10),rfl,fun _ _ _ _ h=>h,tv,fun k hk=>Qf hk⟩
  ·replace h:=bF hb8 h
   refine Tr.skip (toN (Tr.seq ?_))
   refine Tr.rgnD (by decide) ?_
   refine md rfl ?_
   obtain ⟨x12,h11,h⟩:=bnd h
   refine Rn.call (args:=[.d (.int .u8 s1)]) tv rfl (H_overseerlaw03_Set_Events _ _ h11) (fun _=>Qbbi hM rfl) (Rn.load (v:=.agg [.d (.int .u8 g2.States),.d (.int .u8 g2.Marks),.d (.int .u8 g2.To.1.1),.d (.int .u8 g2.To.1.2.1),.d (.int .u8 g2.To.1.2.2.1),.d (.int .u8 g2.To.1.2.2.2.1),.d (.int .u8 g2.To.1.2.2.2.2),.d (.int .u8 g2.To.2.1.1),.d (.int .u8 g2.To.2.1.2.1),.d (.int .u8 g2.To.2.1.2.2.1),.d (.int .u8 g2.To.2.1.2.2.2.1),.d (.int .u8 g2.To.2.1.2.2.2.2),.d (.int .u8 g2.To.2.2.1.1),.d (.int .u8 g2.To.2.2.1.2.1),.d (.int .u8 g2.To.2.2.1.2.2.1),.d (.int .u8 g2.To.2.2.1.2.2.2.1),.d (.int .u8 g2.To.2.2.1.2.2.2.2),.d (.int .u8 g2.To.2.2.2.1.1),.d (.int .u8 g2.To.2.2.2.1.2.1),.d (.int .u8 g2.To.2.2.2.1.2.2.1),.d (.int .u8 g2.To.2.2.2.1.2.2.2.1),.d (.int .u8 g2.To.2.2.2.1.2.2.2.2),.d (.int .u8 g2.To.2.2.2.2.1),.d (.int .u8 g2.To.2.2.2.2.2.1),.d (.int .u8 g2.To.2.2.2.2.2.2.1),.d (.int .u8 g2.To.2.2.2.2.2.2.2.1),.d (.int .u8 g2.To.2.2.2.2.2.2.2.2)]) tv rfl (Qj rfl) rfl rfl ?_)
   obtain ⟨x14,h13,h⟩:=bnd h
   refine Rn.call (args:=[(l_ x12),.agg [.d (.int .u8 g2.States),.d (.int .u8 g2.Marks),.d (.int .u8 g2.To.1.1),.d (.int .u8 g2.To.1.2.1),.d (.int .u8 g2.To.1.2.2.1),.d (.int .u8 g2.To.1.2.2.2.1),.d (.int .u8 g2.To.1.2.2.2.2),.d (.int .u8 g2.To.2.1.1),.d (.int .u8 g2.To.2.1.2.1),.d (.int .u8 g2.To.2.1.2.2.1),.d (.int .u8 g2.To.2.1.2.2.2.1),.d (.int .u8 g2.To.2.1.2.2.2.2),.d (.int .u8 g2.To.2.2.1.1),.d (.int .u8 g2.To.2.2.1.2.1),.d (.int .u8 g2.To.2.2.1.2.2.1),.d (.int .u8 g2.To.2.2.1.2.2.2.1),.d (.int .u8 g2.To.2.2.1.2.2.2.2),.d (.int .u8 g2.To.2.2.2.1.1),.d (.int .u8 g2.To.2.2.2.1.2.1),.d (.int .u8 g2.To.2.2.2.1.2.2.1),.d (.int .u8 g2.To.2.2.2.1.2.2.2.1),.d (.int .u8 g2.To.2.2.2.1.2.2.2.2),.d (.int .u8 g2.To.2.2.2.2.1),.d (.int .u8 g2.To.2.2.2.2.2.1),.d (.int .u8 g2.To.2.2.2.2.2.2.1),.d (.int .u8 g2.To.2.2.2.2.2.2.2.1),.d (.int .u8 g2.To.2.2.2.2.2.2.2.2)]]) tv rfl (H_overseerlaw03_Make _ _ _ h13) (fun _=>Qbbi hM rfl) (Rn.alloc tv rfl (Rn.storeT (v:=(Qb x14)) (ds:=(Qe x14)) (cs':=(Qe x14)) tv rfl rfl rfl rfl rfl rfl rfl ?_))
   refine Rn.nil ⟨rfl,?_⟩
   refine toN (sr ((Rn.load (v:=(Qb x14)) tv rfl (Qj rfl) rfl rfl (md rfl ?_))))
   obtain ⟨⟨r16,r17⟩,h15,h⟩:=bnd h
   refine Rn.call (args:=[(Qb x14),(l_ events3)]) tv rfl (H_requirement_Widen _ _ _ h15) pc9 (Rn.mov (v:=.tup [(Qb r16),(i_ r17)]) tv rfl (Rn.ext (v:=(Qb r16)) (vs:=[(Qb r16),(i_ r17)]) tv rfl rfl rfl (Rn.ext (v:=(i_ r17)) (vs:=[(Qb r16),(i_ r17)]) tv rfl rfl rfl (Rn.alloc tv rfl (Rn.storeT (v:=(Qb r16)) (ds:=(Qe r16)) (cs':=(Qe r16)) tv rfl rfl rfl rfl rfl rfl rfl (md rfl (nt ((sr ((md rfl ?_)))))))))))
   obtain ⟨x19,h18,h⟩:=bnd h
   refine Rn.call (args:=[(l_ events3),(i_ 32)]) tv rfl (H_alphabet_CheckSet _ _ _ h18) pc9 (md rfl (nt ((Tr.seq (sr ((md rfl (Rn.bin tv rfl rfl rfl (Rn.nil (toN ?_))))))))))
   refine Tr.cond rfl (fun hb20=>?_) (fun hb20=>?_)
   ·replace h:=bT hb20 h
    refine sr ((md rfl (md rfl (Rn.bin tv rfl rfl rfl (md rfl ?_)))))
    refine Qck (r17 == x19) (fun hb21=>?_) (fun hb21=>?_)
    ·replace h:=bT hb21 h
     refine Rn.load (v:=(Qb r16)) (gw rfl hb21) rfl (Qj rfl) rfl rfl (Rn.build (v:=.agg [.nils 1,(i_ 0),.nils 1,.nils 3]) (gw rfl hb21) rfl ?_)
     obtain ⟨x23,h22,h⟩:=bnd h
     refine Rn.call (args:=[(Qb r16),.agg [.nils 1,(i_ 0),.nils 1,.nils 3]]) (gw rfl hb21) rfl (fun M2 nb2=>ACalls.weak (args':=[(Qb r16),.agg [(l_ []),(i_ 0),(l_ []),.d (.lst 3 (List.map Qc []))]]) (H_automaton_Equal _ _ _ h22 M2 nb2) (.cons (sm rfl) (.cons (WkV.agg (.cons (WkV.nilsD _) (.cons (sm rfl) (.cons (WkV.nilsD _) (.cons (WkV.nilsD _) .nil))))) .nil)) rfl) pc9 ?_
     refine Rn.pickT (v:=(b_ x23)) tv rfl hb21 rfl (md rfl (nt ((Tr.ret ?_))))
     replace h:=si h; subst h
     exact ⟨.inr rfl,(b_ x23),rfl,fun _ _ _ _ h=>h,tv,fun k hk=>Qf hk⟩
    ·replace h:=bF hb21 h
     refine Rn.sk (nw rfl hb21) (Rn.sk (nw rfl hb21) (Rn.sk (nw rfl hb21) (Rn.pickF (v:=(b_ false)) tv rfl hb21 rfl (md rfl (nt ((Tr.ret ?_)))))))
     replace h:=si h; subst h
     exact ⟨.inr rfl,(b_ false),rfl,fun _ _ _ _ h=>h,tv,fun k hk=>Qf hk⟩
   ·replace h:=bF hb20 h
    refine Tr.skip (toN (Tr.seq ?_))
    refine Tr.rgnD (by decide) ?_
    refine Rn.fldP (o':=0) tv rfl rfl (Rn.load (v:=(l_ x14.Alphabet)) tv rfl (Qj rfl) rfl rfl ?_)
    obtain ⟨x25,h24,h⟩:=bnd h
    refine Rn.call (args:=[(l_ x14.Alphabet)]) tv rfl (H_slices_Clone_int _ _ h24) (fun _=>Qbbi hM rfl) (md rfl ?_)
    obtain ⟨x26,h27,h⟩:=bnd h
    refine Rn.app (e:=(eI .i64)) tv rfl rfl rfl Qyn h27 rfl ?_
    obtain ⟨x29,h28,h⟩:=bnd h
    refine Rn.call (args:=[(l_ x26)]) tv rfl (H_overseerlaw21_sorted _ _ h28) (fun _=>Qbbi hM rfl) (Rn.fldP (o':=1) tv rfl rfl (Rn.load (v:=(i_ x14.States)) tv rfl (Qj rfl) rfl rfl (Rn.fldP (o':=2) tv rfl rfl (Rn.load (v:=(l_ x14.Marked)) tv rfl (Qj rfl) rfl rfl (Rn.buildT (v:=.agg [(l_ x29),(i_ x14.States),(l_ x14.Marked),.nils 3]) tv rfl (Rn.alloc tv rfl (Rn.storeT (v:=.agg [(l_ x29),(i_ x14.States),(l_ x14.Marked),.nils 3]) (ds:=[(l_ x29),(i_ x14.States),(l_ x14.Marked),.nils 3]) (cs':=[(l_ x29),(i_ x14.States),(l_ x14.Marked),.nils 3]) tv rfl rfl rfl rfl rfl rfl rfl ?_)))))))
    refine Rn.nil ⟨rfl,?_⟩
    refine toN ?_
    refine Tr.cutB (fun (w58 : List Qd)=>⟨look [(8,.ptr (Γ.n0 + 8) 0),(9,(i_ r17)),(11,.ptr (Γ.n0 + 11) 0)],Qk Γ.n0 (bxs [(4,.cells ([.d (.int .u8 g2.States),.d (.int .u8 g2.Marks),.d (.int .u8 g2.To.1.1),.d (.int .u8 g2.To.1.2.1),.d (.int .u8 g2.To.1.2.2.1),.d (.int .u8 g2.To.1.2.2.2.1),.d (.int .u8 g2.To.1.2.2.2.2),.d (.int .u8 g2.To.2.1.1),.d (.int .u8 g2.To.2.1.2.1),.d (.int .u8 g2.To.2.1.2.2.1),.d (.int .u8 g2.To.2.1.2.2.2.1),.d (.int .u8 g2.To.2.1.2.2.2.2),.d (.int .u8 g2.To.2.2.1.1),.d (.int .u8 g2.To.2.2.1.2.1),.d (.int .u8 g2.To.2.2.1.2.2.1),.d (.int .u8 g2.To.2.2.1.2.2.2.1),.d (.int .u8 g2.To.2.2.1.2.2.2.2),.d (.int .u8 g2.To.2.2.2.1.1),.d (.int .u8 g2.To.2.2.2.1.2.1),.d (.int .u8 g2.To.2.2.2.1.2.2.1),.d (.int .u8 g2.To.2.2.2.1.2.2.2.1),.d (.int .u8 g2.To.2.2.2.1.2.2.2.2),.d (.int .u8 g2.To.2.2.2.2.1),.d (.int .u8 g2.To.2.2.2.2.2.1),.d (.int .u8 g2.To.2.2.2.2.2.2.1),.d (.int .u8 g2.To.2.2.2.2.2.2.2.1),.d (.int .u8 g2.To.2.2.2.2.2.2.2.2)])),(7,.cells ((Qe x14))),(8,.cells ((Qe r16))),(11,.cells ([(l_ x29),(i_ x14.States),(l_ x14.Marked),.own 3 (List.map Qc w58)]))]) M,Γ.n0 + 108⟩) h (fun z h=>?_) (fun z h=>?_)
    ·refine sr ((Rn.fldP (o':=1) tv rfl rfl (Rn.load (v:=(i_ x14.States)) tv rfl (Qj rfl) rfl rfl (md rfl (nt ((Tr.block ?_)))))))
     refine Tr.loop (mk:=fun ((x30,w31) : Int × (List Qd))=>⟨look [(7,.ptr (Γ.n0 + 7) 0),(8,.ptr (Γ.n0 + 8) 0),(9,(i_ r17)),(11,.ptr (Γ.n0 + 11) 0),(58,(i_ x14.States)),(59,(i_ x30))],Qk Γ.n0 (bxs [(4,.cells ([.d (.int .u8 g2.States),.d (.int .u8 g2.Marks),.d (.int .u8 g2.To.1.1),.d (.int .u8 g2.To.1.2.1),.d (.int .u8 g2.To.1.2.2.1),.d (.int .u8 g2.To.1.2.2.2.1),.d (.int .u8 g2.To.1.2.2.2.2),.d (.int .u8 g2.To.2.1.1),.d (.int .u8 g2.To.2.1.2.1),.d (.int .u8 g2.To.2.1.2.2.1),.d (.int .u8 g2.To.2.1.2.2.2.1),.d (.int .u8 g2.To.2.1.2.2.2.2),.d (.int .u8 g2.To.2.2.1.1),.d (.int .u8 g2.To.2.2.1.2.1),.d (.int .u8 g2.To.2.2.1.2.2.1),.d (.int .u8 g2.To.2.2.1.2.2.2.1),.d (.int .u8 g2.To.2.2.1.2.2.2.2),.d (.int .u8 g2.To.2.2.2.1.1),.d (.int .u8 g2.To.2.2.2.1.2.1),.d (.int .u8 g2.To.2.2.2.1.2.2.1),.d (.int .u8 g2.To.2.2.2.1.2.2.2.1),.d (.int .u8 g2.To.2.2.2.1.2.2.2.2),.d (.int .u8 g2.To.2.2.2.2.1),.d (.int .u8 g2.To.2.2.2.2.2.1),.d (.int .u8 g2.To.2.2.2.2.2.2.1),.d (.int .u8 g2.To.2.2.2.2.2.2.2.1),.d (.int .u8 g2.To.2.2.2.2.2.2.2.2)])),(7,.cells ((Qe x14))),(8,.cells ((Qe r16))),(11,.cells ([(l_ x29),(i_ x14.States),(l_ x14.Marked),.own 3 (List.map Qc w31)]))]) M,Γ.n0 + 108⟩) h (by exact Qi ⟨(kPtr rfl),(kPtr rfl),(sm rfl),(kPtr rfl),(sm rfl),(sm rfl),tv⟩ ⟨⟨_,rfl,rfl,(.same rfl)⟩,⟨_,rfl,rfl,(.same rfl)⟩,⟨_,rfl,rfl,(.same rfl)⟩,⟨_,rfl,rfl,(.cons (sm rfl) (.cons (sm rfl) (.cons (sm rfl) (.cons (WkV.nilsO _) .nil))))⟩,tv⟩ rfl) (fun k32 z h=>?_)
     ·obtain ⟨x30,w31⟩:=z
      replace h : _ = some _:=h
      refine sr ((Rn.bin tv rfl rfl rfl (nt ((Tr.seq ?_)))))
      refine Tr.cond rfl (fun hb33=>?_) (fun hb33=>?_)
      ·replace h:=ifT hb33 h
       refine Tr.skip (toN ?_)
       refine Tr.cutB (fun (w57 : List Qd)=>⟨look [(7,.ptr (Γ.n0 + 7) 0),(8,.ptr (Γ.n0 + 8) 0),(9,(i_ r17)),(11,.ptr (Γ.n0 + 11) 0),(58,(i_ x14.States)),(59,(i_ x30))],Qk Γ.n0 (bxs [(4,.cells ([.d (.int .u8 g2.States),.d (.int .u8 g2.Marks),.d (.int .u8 g2.To.1.1),.d (.int .u8 g2.To.1.2.1),.d (.int .u8 g2.To.1.2.2.1),.d (.int .u8 g2.To.1.2.2.2.1),.d (.int .u8 g2.To.1.2.2.2.2),.d (.int .u8 g2.To.2.1.1),.d (.int .u8 g2.To.2.1.2.1),.d (.int .u8 g2.To.2.1.2.2.1),.d (.int .u8 g2.To.2.1.2.2.2.1),.d (.int .u8 g2.To.2.1.2.2.2.2),.d (.int .u8 g2.To.2.2.1.1),.d (.int .u8 g2.To.2.2.1.2.1),.d (.int .u8 g2.To.2.2.1.2.2.1),.d (.int .u8 g2.To.2.2.1.2.2.2.1),.d (.int .u8 g2.To.2.2.1.2.2.2.2),.d (.int .u8 g2.To.2.2.2.1.1),.d (.int .u8 g2.To.2.2.2.1.2.1),.d (.int .u8 g2.To.2.2.2.1.2.2.1),.d (.int .u8 g2.To.2.2.2.1.2.2.2.1),.d (.int .u8 g2.To.2.2.2.1.2.2.2.2),.d (.int .u8 g2.To.2.2.2.2.1),.d (.int .u8 g2.To.2.2.2.2.2.1),.d (.int .u8 g2.To.2.2.2.2.2.2.1),.d (.int .u8 g2.To.2.2.2.2.2.2.2.1),.d (.int .u8 g2.To.2.2.2.2.2.2.2.2)])),(7,.cells ((Qe x14))),(8,.cells ((Qe r16))),(11,.cells ([(l_ x29),(i_ x14.States),(l_ x14.Marked),.own 3 (List.map Qc w57)])),(12,.cells ([(i_ x30)]))]) M,Γ.n0 + 108⟩) h (fun z h=>?_) (fun z h=>?_)
       ·refine Tr.block (sr ((md rfl (Rn.alloc tv rfl (Rn.store (v:=(i_ x30)) (cs':=[(i_ x30)]) tv rfl rfl rfl rfl rfl rfl (nt ((sr ((Rn.fldP (o':=0) tv rfl rfl (Rn.load (v:=(l_ x29)) tv rfl (Qj rfl) rfl rfl (Rn.lenD tv rfl (md rfl (nt ((Tr.block ?_))))))))))))))))
        refine Tr.loop (mk:=fun ((x34,w35) : Int × (List Qd))=>⟨look [(7,.ptr (Γ.n0 + 7) 0),(8,.ptr (Γ.n0 + 8) 0),(9,(i_ r17)),(11,.ptr (Γ.n0 + 11) 0),(12,.ptr (Γ.n0 + 12) 0),(58,(i_ x14.States)),(59,(i_ x30)),(63,(l_ x29)),(64,(i_ (x29.length : Int))),(65,(i_ x34))],Qk Γ.n0 (bxs [(4,.cells ([.d (.int .u8 g2.States),.d (.int .u8 g2.Marks),.d (.int .u8 g2.To.1.1),.d (.int .u8 g2.To.1.2.1),.d (.int .u8 g2.To.1.2.2.1),.d (.int .u8 g2.To.1.2.2.2.1),.d (.int .u8 g2.To.1.2.2.2.2),.d (.int .u8 g2.To.2.1.1),.d (.int .u8 g2.To.2.1.2.1),.d (.int .u8 g2.To.2.1.2.2.1),.d (.int .u8 g2.To.2.1.2.2.2.1),.d (.int .u8 g2.To.2.1.2.2.2.2),.d (.int .u8 g2.To.2.2.1.1),.d (.int .u8 g2.To.2.2.1.2.1),.d (.int .u8 g2.To.2.2.1.2.2.1),.d (.int .u8 g2.To.2.2.1.2.2.2.1),.d (.int .u8 g2.To.2.2.1.2.2.2.2),.d (.int .u8 g2.To.2.2.2.1.1),.d (.int .u8 g2.To.2.2.2.1.2.1),.d (.int .u8 g2.To.2.2.2.1.2.2.1),.d (.int .u8 g2.To.2.2.2.1.2.2.2.1),.d (.int .u8 g2.To.2.2.2.1.2.2.2.2),.d (.int .u8 g2.To.2.2.2.2.1),.d (.int .u8 g2.To.2.2.2.2.2.1),.d (.int .u8 g2.To.2.2.2.2.2.2.1),.d (.int .u8 g2.To.2.2.2.2.2.2.2.1),.d (.int .u8 g2.To.2.2.2.2.2.2.2.2)])),(7,.cells ((Qe x14))),(8,.cells ((Qe r16))),(11,.cells ([(l_ x29),(i_ x14.States),(l_ x14.Marked),.own 3 (List.map Qc w35)])),(12,.cells ([(i_ x30)]))]) M,Γ.n0 + 108⟩) h (by exact Qi ⟨(kPtr rfl),(kPtr rfl),(sm rfl),(kPtr rfl),(kPtr rfl),(sm rfl),(sm rfl),(sm rfl),(sm rfl),(sm rfl),tv⟩ ⟨⟨_,rfl,rfl,(.same rfl)⟩,⟨_,rfl,rfl,(.same rfl)⟩,⟨_,rfl,rfl,(.same rfl)⟩,⟨_,rfl,rfl,(.same rfl)⟩,⟨_,rfl,rfl,(.same rfl)⟩,tv⟩ rfl) (fun k36 z h=>?_)
        ·obtain ⟨x34,w35⟩:=z
         replace h : _ = some _:=h
         refine sr ((Rn.bin tv rfl rfl rfl (nt ((Tr.seq ?_)))))
         refine Tr.cond rfl (fun hb37=>?_) (fun hb37=>?_)
         ·replace h:=ifT hb37 h
          refine Tr.skip (toN ?_)
          refine Tr.cutB (fun ((w55,c56) : (List Qd) × Int)=>⟨look [(7,.ptr (Γ.n0 + 7) 0),(8,.ptr (Γ.n0 + 8) 0),(9,(i_ r17)),(11,.ptr (Γ.n0 + 11) 0),(12,.ptr (Γ.n0 + 12) 0),(58,(i_ x14.States)),(59,(i_ x30)),(63,(l_ x29)),(64,(i_ (x29.length : Int))),(65,(i_ x34))],Qk Γ.n0 (bxs [(4,.cells ([.d (.int .u8 g2.States),.d (.int .u8 g2.Marks),.d (.int .u8 g2.To.1.1),.d (.int .u8 g2.To.1.2.1),.d (.int .u8 g2.To.1.2.2.1),.d (.int .u8 g2.To.1.2.2.2.1),.d (.int .u8 g2.To.1.2.2.2.2),.d (.int .u8 g2.To.2.1.1),.d (.int .u8 g2.To.2.1.2.1),.d (.int .u8 g2.To.2.1.2.2.1),.d (.int .u8 g2.To.2.1.2.2.2.1),.d (.int .u8 g2.To.2.1.2.2.2.2),.d (.int .u8 g2.To.2.2.1.1),.d (.int .u8 g2.To.2.2.1.2.1),.d (.int .u8 g2.To.2.2.1.2.2.1),.d (.int .u8 g2.To.2.2.1.2.2.2.1),.d (.int .u8 g2.To.2.2.1.2.2.2.2),.d (.int .u8 g2.To.2.2.2.1.1),.d (.int .u8 g2.To.2.2.2.1.2.1),.d (.int .u8 g2.To.2.2.2.1.2.2.1),.d (.int .u8 g2.To.2.2.2.1.2.2.2.1),.d (.int .u8 g2.To.2.2.2.1.2.2.2.2),.d (.int .u8 g2.To.2.2.2.2.1),.d (.int .u8 g2.To.2.2.2.2.2.1),.d (.int .u8 g2.To.2.2.2.2.2.2.1),.d (.int .u8 g2.To.2.2.2.2.2.2.2.1),.d (.int .u8 g2.To.2.2.2.2.2.2.2.2)])),(7,.cells ((Qe x14))),(8,.cells ((Qe r16))),(11,.cells ([(l_ x29),(i_ x14.States),(l_ x14.Marked),.own 3 (List.map Qc w55)])),(12,.cells ([(i_ x30)])),(14,.cells ([(i_ c56)]))]) M,Γ.n0 + 108⟩) h (fun z h=>?_) (fun z h=>?_)
          ·refine Tr.block (Tr.seq (Tr.rgn ?_))
           obtain ⟨x38,h39,h⟩:=bnd h
           refine Rn.idxD (e:=(eI .i64)) tv rfl rfl h39 (Rn.loadC (x:=.int .i64 x38) tv rfl (Rn.alloc tv rfl (Rn.store (v:=(i_ x38)) (cs':=[(i_ x38)]) tv rfl rfl rfl rfl rfl rfl (nt ((Tr.seq (sr ((Rn.fldP (o':=0) tv rfl rfl (Rn.load (v:=(l_ x14.Alphabet)) tv rfl (Qj rfl) rfl rfl (Rn.load (v:=(i_ x38)) tv rfl (Qj rfl) rfl rfl ?_)))))))))))
           obtain ⟨x41,h40,h⟩:=bnd h
           refine Rn.call (args:=[(l_ x14.Alphabet),(i_ x38)]) tv rfl (H_slices_Contains_int _ _ _ h40) pc9 (Rn.un tv rfl rfl (Rn.nil (toN ?_)))
           refine Tr.cond rfl (fun hb42=>?_) (fun hb42=>?_)
           ·have hb42:=nT' hb42
            replace h:=bF hb42 h
            refine sr ((Rn.fldP (o':=3) tv rfl rfl (Rn.loadT (cs':=[(l_ x29),(i_ x14.States),(l_ x14.Marked),.d (.lst 3 (List.map Qc w35))]) tv rfl rfl rfl rfl (Rn.load (v:=(i_ x30)) tv rfl (Qj rfl) rfl rfl (Rn.load (v:=(i_ x38)) tv rfl (Qj rfl) rfl rfl (Rn.load (v:=(i_ x30)) tv rfl (Qj rfl) rfl rfl (Rn.build (v:=.agg [(i_ x30),(i_ x38),(i_ x30)]) tv rfl (Rn.bslice (xs:=[.agg [(i_ x30),(i_ x38),(i_ x30)]]) (cs:=[(i_ x30),(i_ x38),(i_ x30)]) tv rfl rfl rfl rfl ?_))))))))
            obtain ⟨x43,h44,h⟩:=bnd h
            refine Rn.app (e:=Qc) tv rfl rfl rfl (Qdb rfl rfl rfl) h44 rfl (Rn.fldP (o':=3) tv rfl rfl (Rn.storeO (cs':=[(l_ x29),(i_ x14.States),(l_ x14.Marked),.own 3 (List.map Qc x43)]) tv rfl rfl rfl rfl rfl (nt ((Tr.exit ?_)))))
            replace h:=si h; subst h
            exact Qg [80] ⟨(kPtr rfl),(kPtr rfl),(sm rfl),(kPtr rfl),(kPtr rfl),(sm rfl),(sm rfl),(sm rfl),(sm rfl),(sm rfl),tv⟩ ⟨⟨_,rfl,rfl,(.same rfl)⟩,⟨_,rfl,rfl,(.same rfl)⟩,⟨_,rfl,rfl,(.same rfl)⟩,⟨_,rfl,rfl,(.same rfl)⟩,⟨_,rfl,rfl,(.same rfl)⟩,⟨_,rfl,rfl,(.same rfl)⟩,tv⟩ rfl
           ·have hb42:=nF' hb42
            replace h:=bT hb42 h
            refine Tr.skip (toN (sr ((Rn.fldP (o':=3) tv rfl rfl (Rn.load (v:=.d (.lst 3 (List.map Qc x14.Edges))) tv rfl (Qj rfl) rfl rfl (Rn.k (v:=.clo 14 [.ptr (Γ.n0 + 12) 0,.ptr (Γ.n0 + 14) 0]) tv rfl rfl rfl ?_))))))
            obtain ⟨x49,h48,h⟩:=bnd h
            refine Rn.callM (args:=[.d (.lst 3 (List.map Qc x14.Edges)),.clo 14 [.ptr (Γ.n0 + 12) 0,.ptr (Γ.n0 + 14) 0]]) tv rfl (fun M2 nb2 hn hx=>H_slices_IndexFunc_Edge _ _ 14 [.ptr (Γ.n0 + 12) 0,.ptr (Γ.n0 + 14) 0] _ h48 M2 nb2 rfl ⟨Q33 (hx _ _ (Qj rfl)),Q33 (hx _ _ (Qj rfl)),tv⟩ (fun a45 r46 h47 M3 nb3 hn3 hx3=>H_overseerlaw21_RequirementWidens_1 a45 x30 x38 (Γ.n0 + 12) (Γ.n0 + 14) r46 h47 M3 nb3 ((hx.trans hx3) _ _ (Qj rfl)) ((hx.trans hx3) _ _ (Qj rfl)))) rfl pc9 ?_
            refine md rfl (nt ((sr ((md rfl (Rn.bin tv rfl rfl rfl (Rn.nil (toN ?_))))))))
            refine Tr.cond rfl (fun hb50=>?_) (fun hb50=>?_)
            ·replace h:=ifT hb50 h
             refine Tr.rgnD (by decide) ?_
             refine Rn.fldP (o':=3) tv rfl rfl (Rn.loadT (cs':=[(l_ x29),(i_ x14.States),(l_ x14.Marked),.d (.lst 3 (List.map Qc w35))]) tv rfl rfl rfl rfl (Rn.fldP (o':=3) tv rfl rfl (Rn.load (v:=.d (.lst 3 (List.map Qc x14.Edges))) tv rfl (Qj rfl) rfl rfl (md rfl ?_))))
             obtain ⟨x51,h52,h⟩:=bnd h
             refine Rn.idxD (e:=Qc) tv rfl rfl h52 (Rn.loadCA (vs:=(Qbk x51)) tv rfl rfl rfl (Rn.bslice (xs:=[(Qbl x51)]) (cs:=(Qbk x51)) tv rfl rfl rfl rfl ?_))
             obtain ⟨x53,h54,h⟩:=bnd h
             refine Rn.app (e:=Qc) tv rfl rfl rfl (Qdb rfl rfl rfl) h54 rfl (Rn.fldP (o':=3) tv rfl rfl (Rn.storeO (cs':=[(l_ x29),(i_ x14.States),(l_ x14.Marked),.own 3 (List.map Qc x53)]) tv rfl rfl rfl rfl rfl ?_))
             refine Rn.nil ⟨rfl,?_⟩
             replace h:=si h; subst h
             exact Qg [96] ⟨(kPtr rfl),(kPtr rfl),(sm rfl),(kPtr rfl),(kPtr rfl),(sm rfl),(sm rfl),(sm rfl),(sm rfl),(sm rfl),tv⟩ ⟨⟨_,rfl,rfl,(.same rfl)⟩,⟨_,rfl,rfl,(.same rfl)⟩,⟨_,rfl,rfl,(.same rfl)⟩,⟨_,rfl,rfl,(.same rfl)⟩,⟨_,rfl,rfl,(.same rfl)⟩,⟨_,rfl,rfl,(.same rfl)⟩,tv⟩ rfl
            ·replace h:=ifF hb50 h
             refine Tr.skip ?_
             replace h:=si h; subst h
             exact Qg [] ⟨(kPtr rfl),(kPtr rfl),(sm rfl),(kPtr rfl),(kPtr rfl),(sm rfl),(sm rfl),(sm rfl),(sm rfl),(sm rfl),tv⟩ ⟨⟨_,rfl,rfl,(.same rfl)⟩,⟨_,rfl,rfl,(.same rfl)⟩,⟨_,rfl,rfl,(.same rfl)⟩,⟨_,rfl,rfl,(.same rfl)⟩,⟨_,rfl,rfl,(.same rfl)⟩,⟨_,rfl,rfl,(.same rfl)⟩,tv⟩ rfl
          ·obtain ⟨w55,c56⟩:=z
           refine Tr.rgn (Rn.bin tv rfl rfl rfl (md rfl (Rn.nil ?_)))
           exact ⟨_,h,(by exact Qi ⟨(kPtr rfl),(kPtr rfl),(sm rfl),(kPtr rfl),(kPtr rfl),(sm rfl),(sm rfl),(sm rfl),(sm rfl),(sm rfl),tv⟩ ⟨⟨_,rfl,rfl,(.same rfl)⟩,⟨_,rfl,rfl,(.same rfl)⟩,⟨_,rfl,rfl,(.same rfl)⟩,⟨_,rfl,rfl,(.same rfl)⟩,⟨_,rfl,rfl,(.same rfl)⟩,tv⟩ rfl)⟩
         ·replace h:=ifF hb37 h
          refine Tr.exit ?_
          replace h:=si h; subst h
          exact Qg [] ⟨(kPtr rfl),(kPtr rfl),(sm rfl),(kPtr rfl),(sm rfl),(sm rfl),tv⟩ ⟨⟨_,rfl,rfl,(.same rfl)⟩,⟨_,rfl,rfl,(.same rfl)⟩,⟨_,rfl,rfl,(.same rfl)⟩,⟨_,rfl,rfl,(.same rfl)⟩,⟨_,rfl,rfl,(.same rfl)⟩,tv⟩ rfl
       ·obtain ⟨w57,rfl⟩ : ∃ x,x = z:=⟨_,rfl⟩
        refine Tr.rgn (Rn.bin tv rfl rfl rfl (md rfl (Rn.nil ?_)))
        exact ⟨_,h,(by exact Qi ⟨(kPtr rfl),(kPtr rfl),(sm rfl),(kPtr rfl),(sm rfl),(sm rfl),tv⟩ ⟨⟨_,rfl,rfl,(.same rfl)⟩,⟨_,rfl,rfl,(.same rfl)⟩,⟨_,rfl,rfl,(.same rfl)⟩,⟨_,rfl,rfl,(.same rfl)⟩,tv⟩ rfl)⟩
      ·replace h:=ifF hb33 h
       refine Tr.exit ?_
       replace h:=si h; subst h
       exact Qg [] ⟨(kPtr rfl),(sm rfl),(kPtr rfl),tv⟩ ⟨⟨_,rfl,rfl,(.same rfl)⟩,⟨_,rfl,rfl,(.same rfl)⟩,⟨_,rfl,rfl,(.same rfl)⟩,⟨_,rfl,rfl,(.same rfl)⟩,tv⟩ rfl
    ·obtain ⟨w58,rfl⟩ : ∃ x,x = z:=⟨_,rfl⟩
     refine sr ((md rfl (Rn.bin tv rfl rfl rfl (md rfl ?_))))
     refine Qck (r17 == 0) (fun hb59=>?_) (fun hb59=>?_)
     ·replace h:=bT hb59 h
      refine Rn.load (v:=(Qb r16)) (gw rfl hb59) rfl (Qj rfl) rfl rfl (Rn.load (v:=.agg [(l_ x29),(i_ x14.States),(l_ x14.Marked),.d (.lst 3 (List.map Qc w58))]) (gw rfl hb59) rfl (Qj rfl) rfl rfl ?_)
      obtain ⟨x61,h60,h⟩:=bnd h
      refine Rn.call (args:=[(Qb r16),.agg [(l_ x29),(i_ x14.States),(l_ x14.Marked),.d (.lst 3 (List.map Qc w58))]]) (gw rfl hb59) rfl (H_automaton_Equal _ _ _ h60) pc9 (Rn.pickT (v:=(b_ x61)) tv rfl hb59 rfl (md rfl (nt ((Tr.ret ?_)))))
      replace h:=si h; subst h
      exact ⟨.inr rfl,(b_ x61),rfl,fun _ _ _ _ h=>h,tv,fun k hk=>Qf hk⟩
     ·replace h:=bF hb59 h
      refine Rn.sk (nw rfl hb59) (Rn.sk (nw rfl hb59) (Rn.sk (nw rfl hb59) (Rn.pickF (v:=(b_ false)) tv rfl hb59 rfl (md rfl (nt ((Tr.ret ?_)))))))
      replace h:=si h; subst h
      exact ⟨.inr rfl,(b_ false),rfl,fun _ _ _ _ h=>h,tv,fun k hk=>Qf hk⟩
end Go.Abs
end
section
namespace Go.Proofs
open Go.Abs
set_option maxRecDepth 100000
theorem Qkc : Qm Try.prog 3 = some Qdc:=by kernel_rfl
theorem Q0q : Qm Try.prog 4 = some Qg0:=by kernel_rfl
theorem Q3d : Qm Try.prog 5 = some Qh0:=by kernel_rfl
theorem Qn8 : Qm Try.prog 6 = some Qen:=by kernel_rfl
theorem Q4y : Qm Try.prog 7 = some Qi8:=by kernel_rfl
theorem Q4z : Qm Try.prog 8 = some Qiw:=by kernel_rfl
theorem Q7q : Qm Try.prog 9 = some Qla:=by kernel_rfl
theorem Qxx : Qm Try.prog 10 = some Qgj:=by kernel_rfl
theorem Q6k : Qm Try.prog 11 = some Qjv:=by kernel_rfl
theorem Q0r : Qm Try.prog 12 = some Qgv:=by kernel_rfl
theorem Qva : Qm Try.prog 13 = some Qfs:=by kernel_rfl
theorem Qjj : Qm Try.prog 14 = some Qc4:=by kernel_rfl
theorem Qvb : Qm Try.prog 15 = some Qfn:=by kernel_rfl
theorem Q3e : Qm Try.prog 16 = some Qht:=by kernel_rfl
theorem Q3f : Qm Try.prog 17 = some Qhv:=by kernel_rfl
theorem Q0s : Qm Try.prog 18 = some Qgy:=by kernel_rfl
theorem Q6l : Qm Try.prog 19 = some Qj9:=by kernel_rfl
theorem Q40 : Qm Try.prog 20 = some Qi1:=by kernel_rfl
theorem Q0t : Qm Try.prog 21 = some Qg1:=by kernel_rfl
theorem Qpi : Qm Try.prog 22 = some Qe3:=by kernel_rfl
theorem Q3g : Qm Try.prog 23 = some Qh2:=by kernel_rfl
theorem Q6m : Qm Try.prog 26 = some Qju:=by kernel_rfl
theorem Qxy : Qm Try.prog 27 = some Qf5:=by kernel_rfl
theorem Q0u : Qm Try.prog 28 = some Qgw:=by kernel_rfl
theorem Q3h : Qm Try.prog 29 = some Qhp:=by kernel_rfl
theorem Q41 : Qm Try.prog 30 = some Qiv:=by kernel_rfl
theorem Qpj : Qm Try.prog 31 = some Qe0:=by kernel_rfl
theorem Q6n : Qm Try.prog 32 = some Qjx:=by kernel_rfl
theorem Q8n : Qm Try.prog 33 = some Qls:=by kernel_rfl
theorem Qxz : Qm Try.prog 34 = some Qf9:=by kernel_rfl
theorem Q42 : Qm Try.prog 35 = some Qiy:=by kernel_rfl
theorem Q7r : Qm Try.prog 36 = some Qku:=by kernel_rfl
theorem Qx0 : Qm Try.prog 37 = some Qgb:=by kernel_rfl
theorem Q8o : Qm Try.prog 38 = some Qlu:=by kernel_rfl
theorem Q43 : Qm Try.prog 39 = some Qi0:=by kernel_rfl
theorem Q8p : Qm Try.prog 40 = some Qlw:=by kernel_rfl
theorem Q0v : Qm Try.prog 41 = some Qg3:=by kernel_rfl
theorem Q44 : Qm Try.prog 42 = some Qi2:=by kernel_rfl
theorem Q3i : Qm Try.prog 43 = some Qhy:=by kernel_rfl
theorem Q0w : Qm Try.prog 44 = some Qg5:=by kernel_rfl
theorem Q6o : Qm Try.prog 45 = some Qkb:=by kernel_rfl
theorem Q45 : Qm Try.prog 46 = some Qi4:=by kernel_rfl
theorem Q46 : Qm Try.prog 47 = some Qi6:=by kernel_rfl
theorem Qx1 : Qm Try.prog 49 = some Qgg:=by kernel_rfl
theorem Q0x : Qm Try.prog 50 = some Qhb:=by kernel_rfl
theorem Q3j : Qm Try.prog 53 = some Qhr:=by kernel_rfl
theorem Q8q : Qm Try.prog 54 = some Qlq:=by kernel_rfl
theorem Q6p : Qm Try.prog 55 = some Qjz:=by kernel_rfl
theorem Qpk : Qm Try.prog 56 = some Qe1:=by kernel_rfl
theorem Q6q : Qm Try.prog 57 = some Qj2:=by kernel_rfl
theorem Q6r : Qm Try.prog 58 = some Qj5:=by kernel_rfl
theorem Qx2 : Qm Try.prog 59 = some Qgf:=by kernel_rfl
theorem Q90 : Qm Try.prog 60 = some Qnl:=by kernel_rfl
theorem Q6s : Qm Try.prog 61 = some Qj8:=by kernel_rfl
theorem Q7s : Qm Try.prog 62 = some Qkv:=by kernel_rfl
theorem Q0y : Qm Try.prog 63 = some Qg7:=by kernel_rfl
theorem Q0z : Qm Try.prog 66 = some Qg9:=by kernel_rfl
theorem Qbar : Qm Try.prog 73 = some Qox:=by kernel_rfl
theorem Qx3 : Qm Try.prog 78 = some Qf7:=by kernel_rfl
theorem Q6t : Qm Try.prog 79 = some Qj1:=by kernel_rfl
theorem Qly : Qm Try.prog 80 = some Qdz:=by kernel_rfl
theorem Q7t : Qm Try.prog 81 = some Qk6:=by kernel_rfl
theorem Q7u : Qm Try.prog 82 = some Qk8:=by kernel_rfl
theorem Q3k : Qm Try.prog 83 = some Qhx:=by kernel_rfl
theorem Qx4 : Qm Try.prog 84 = some Qgd:=by kernel_rfl
theorem Q91 : Qm Try.prog 98 = some Qnb:=by kernel_rfl
end Go.Proofs
end
section
namespace Go.Abs
open Go Go.Sort
set_option linter.unusedVariables false
section plain
variable {β : Type}
def insB (lt : β → β → Bool) (x : β) : List β → List β
 | []=>[x]
 | y :: ys=>if lt y x then y :: insB lt x ys else x :: y :: ys
def Qhm (lt : β → β → Bool) : List β → List β
 | []=>[]
 | x :: xs=>insB lt x (Qhm lt xs)
def Q7v (lt : β → β → Bool) : List β → Bool
 | []=>true
 | x :: xs=>xs.all (fun y=>lt x y || lt y x) && Q7v lt xs
def Qbkl (ok : β → Bool) (lt : β → β → Bool) (l : List β) : Option (List β):=if l.all ok && Q7v lt l then some (Qhm lt l) else none
theorem Q92 (lt : β → β → Bool) (x : β) : ∀ l,(insB lt x l).Perm (x :: l)
 | []=>.refl _
 | y :: ys=>by
  unfold insB; split
  ·exact ((Q92 lt x ys).cons y).trans (.swap x y ys)
  ·exact .refl _
theorem Qjk (lt : β → β → Bool) : ∀ l,(Qhm lt l).Perm l
 | []=>.refl _
 | x :: xs=>(Q92 lt x _).trans ((Qjk lt xs).cons x)
theorem Qhh (lt : β → β → Bool) (l : List β) : (Qhm lt l).length = l.length:=(Qjk lt l).length_eq
theorem Q93 {lt : β → β → Bool} (h : SWO lt) (x : β) : ∀ l,l.Pairwise (fun a b=>lt b a = false) → (insB lt x l).Pairwise fun a b=>lt b a = false
 | [],_=>by simp [insB]
 | y :: ys,hl=>by
  obtain ⟨h1,h2⟩:=List.pairwise_cons.1 hl
  unfold insB; split
  ·rename_i hc
   refine List.pairwise_cons.2 ⟨fun z hz=>?_,Q93 h x ys h2⟩
   rcases List.mem_cons.1 ((Q92 lt x ys).mem_iff.1 hz) with rfl | hz
   ·cases hb : lt z y with
    | false=>rfl
    | true=>have:=h.trans _ _ _ hc hb; rw [h.irrefl] at this; cases this
   ·exact h1 z hz
  ·rename_i hc
   have hc : lt y x = false:=by cases h : lt y x <;> simp_all
   refine List.pairwise_cons.2 ⟨fun z hz=>?_,hl⟩
   rcases List.mem_cons.1 hz with rfl | hz
   ·exact hc
   ·exact h.ntrans _ _ _ (h1 z hz) hc
theorem Qkd {lt : β → β → Bool} (h : SWO lt) : ∀ l,(Qhm lt l).Pairwise fun a b=>lt b a = false
 | []=>.nil
 | x :: xs=>Q93 h x _ (Qkd h xs)
theorem Qbbm {lt : β → β → Bool} : ∀ {l : List β},Q7v lt l = true → ∀ a b,a ∈ l → b ∈ l → lt a b = false → lt b a = false → a = b
 | [],_,a,_,ha,_,_,_=>by cases ha
 | x :: xs,h,a,b,ha,hb,h1,h2=>by
  simp only [Q7v,Bool.and_eq_true,List.all_eq_true] at h
  obtain ⟨k1,k2⟩:=h
  rcases List.mem_cons.1 ha with e1 | ha' <;> rcases List.mem_cons.1 hb with e2 | hb'
  ·rw [e1,e2]
  ·subst e1; have:=k1 b hb'; simp [h1,h2] at this
  ·subst e2; have:=k1 a ha'; simp [h1,h2] at this
  ·exact Qbbm k2 a b ha' hb' h1 h2
theorem Q6u {lt : β → β → Bool} (h : SWO lt) {l m : List β} (hd : Q7v lt l = true) (hp : m.Perm l) (hs : m.Pairwise fun a b=>lt b a = false) : m = Qhm lt l:=by
 refine List.Perm.eq_of_pairwise (le:=fun a b=>lt b a = false) (fun a b ha hb h1 h2=>?_) hs (Qkd h l) (hp.trans (Qjk lt l).symm)
 exact Qbbm hd a b (hp.mem_iff.1 ha) ((Qjk lt l).mem_iff.1 hb) h2 h1
theorem Qbf6 {α : Type} (f : α → β) (lt : β → β → Bool) (x : α) : ∀ l : List α,insB lt (f x) (l.map f) = (insB (fun a b=>lt (f a) (f b)) x l).map f
 | []=>rfl
 | y :: ys=>by
  simp only [List.map_cons,insB]; split
  ·simp only [List.map_cons,Qbf6 f lt x ys]
  ·rfl
theorem Qbbn {α : Type} (f : α → β) (lt : β → β → Bool) : ∀ l : List α,Qhm lt (l.map f) = (Qhm (fun a b=>lt (f a) (f b)) l).map f
 | []=>rfl
 | x :: xs=>by simp only [List.map_cons,Qhm,Qbbn f lt xs,Qbf6]
theorem Qbds {α : Type} (f : α → β) (lt : β → β → Bool) : ∀ l : List α,Q7v lt (l.map f) = Q7v (fun a b=>lt (f a) (f b)) l
 | []=>rfl
 | x :: xs=>by simp only [List.map_cons,Q7v,Qbds f lt xs,List.all_map]; rfl
end plain
def Qeb (a b : Int) : Bool:=decide (a < b)
end Go.Abs
end
section
namespace Go.Abs
open Go Go.Sort Go.RowKit
set_option linter.unusedVariables false
theorem Q94 {P : Program} {f : FuncId} {ex : Array Value} {exV : List V} {sz nb : Nat} {M : Mem} (hb : Qgt P f = true) (hex : ∀ g w us,RFs g w exV us → us = ex.toList)
  (h : ∀ (p : Option Addr) (cap : Nat) (w : World),Calls P f (#[.slice p 0 cap] ++ ex) w fun e' w'=>e' = .returned (.tuple #[]) ∧ w' = w) :
  ACalls P f (.d (.lst sz []) :: exV) M nb (.tup []) M nb:=by
 refine ⟨hb,Nat.le_refl _,fun w g us hm hMon hfresh hus hfl hons=>?_⟩
 obtain ⟨u0,us',rfl,hu0,hus'⟩:=hus
 have h1:=hex _ _ _ hus'
 subst h1
 have h2 : ∃ p cap,u0 = .slice p 0 cap:=by
  have:=RF_d.1 hu0
  obtain ⟨a,cap,rfl,_,_⟩:=this
  exact ⟨a,cap,rfl⟩
 obtain ⟨p,cap,rfl⟩:=h2
 have e1 : (Value.slice p 0 cap :: ex.toList).toArray = #[.slice p 0 cap] ++ ex:=by apply Array.ext'; simp
 rw [e1]
 refine (h p cap w).mono ?_
 rintro e' w' ⟨rfl,rfl⟩
 exact ⟨_,g,rfl,hm,⟨[],rfl,rfl⟩,trivial,hMon,Fr.refl _ _ _⟩
theorem Qbey (l : List Int) : (l.mergeSort fun x y=>decide (x ≤ y)) = Qhm Qeb l:=by
 have hO : Go.Sort.SWO Qeb:=⟨fun x=>by simp [Qeb],fun x y z h1 h2=>by simp [Qeb] at *; omega,fun x y z h1 h2=>by simp [Qeb] at *; omega⟩
 refine List.Perm.eq_of_pairwise (le:=fun a b=>Qeb b a = false) (fun a b _ _ h1 h2=>by simp [Qeb] at *; omega) ?_ (Qkd hO l) ((List.mergeSort_perm _ _).trans (Qjk _ l).symm)
 have:=List.pairwise_mergeSort (le:=fun x y : Int=>decide (x ≤ y)) (fun a b c h1 h2=>by simp at *; omega) (fun a b=>by simp; omega) l
 exact this.imp fun h=>by simp [Qeb] at *; omega
end Go.Abs
end
section
namespace Go.Abs
def sortI (l : List Int) : Option (List Int) := if l.length ≤ lim then some (Qhm Qeb l) else none
def Q6v (l : List Int) : Option (List Int) := if l.length ≤ lim then some (Lib.compact l) else none
def okE (x : Qd) : Bool := decide (0 ≤ x.From ∧ x.From < 4611686018427387904 ∧ 0 ≤ x.Event ∧ x.Event < 4611686018427387904)
def ltE (x y : Qd) : Bool := decide (x.From < y.From ∨ (x.From = y.From ∧ x.Event < y.Event))
def Qbf7 (l : List Qd) : Option (List Qd) := if l.length ≤ 65536 then Qbkl okE ltE l else none
def Qbkm (n : Int) : Option (List Int) := if 0 ≤ n ∧ n ≤ lim then some [] else none
def keyB (l : List Int) : ByteArray := ⟨(l.flatMap fun x => Lib.encodeRune (x + 1)).toArray⟩
end Go.Abs
end
section
namespace Go.Abs
open Go Go.Abs
set_option linter.unusedVariables false
set_option maxRecDepth 10000
set_option maxHeartbeats 4000000
def Qb5 : Nat:=1099511627776
def Qer:=Q7 Qb5
def Qcn:=Ql Qer
def Qgk:=Qx Qcn Qb5
def Qdd:=Qn
def Qh5:=Q5 Qdd sortI
def Qin:=Qbc
def Qes:=Qo Qb5
def Qjl:=Q8
def Qke:=Qbm Qgk Qes Qh5 Qjl Qin
def Qec:=Q2 Qb5
def Qiq:=Q0 Qb5
def Qkl:=Qbu
def Ql0:=Qcb Qiq Qkl
def Qof:=Qct Qec Ql0 Qb5
def Qog:=Qcu
def Qvp:=Qdi Qiq Qog
def Qnw:=Qcx
def Qio:=Qdq Qnw
def Qgp:=Qb2
def Qbt:=Qp Qio Qgp Qb5
def Qnx:=Qcl Qbt
def Qkm:=Qbv Qnx
def Ql1:=Qcc Qes Qjl Qof Qvp Qkm
def Q6w:=Qj3
def Qoh:=Qcv
def Qvq:=Qdj Qoh
def Qkn:=Qbw Qer Qvq
def Qr7:=Qc7
def Ql2:=Qcd Qgk Qes Qh5 Qr7 Qkn Qb5
def Qe9:=Qbh Qb5
def Qeh:=Qbf Qcn Qb5
def Qdp:=Qv Qe9 Qeh
def Qko:=Qbx Qdp
def Qc0:=Qt Qb5
def Qhi:=Qcq
def Qhj:=Qcr
def Qed:=Qbn Qc0 Qhi Qhj
def Qny:=Qcm Qko Qed Qb5
def Qoi:=Qcw
def Qvr:=Qdk Qiq Qoi
def Qlk:=Qb3 Qny Qvr
def Qet:=Qy Qb5
def Qee:=Q3 Qb5
def Qhc:=Qbo Qke Ql1 Ql2 Qlk Qet Qee
def Qdm:=Qba Qb5
def Qdu:=Qs
def Qbz:=Qz Qb5
def Qco:=Q4 Qb5
def Qeu:=Qbp Qco Qbz Qb5
def Qdv:=Qbq Qb5
def Qds:=Q9 Qdu Qeu Qco Qbz Qdv Qb5
def Qfa:=Qby Qdu Qds Qb5
def Qhd:=Qb4 Qb5
def Qev:=Qci Qdp Qhd
def Qft:=Qb7
def Qfu:=Qb8 Qbkm Qb5
def Qx5:=Qgh
def Qew:=Qbr Qdd Qbt Qed Qb5
def Qex:=Qbs Qdp Qew
def Qdh:=Qbi Qcn sortI Q6v Qev Qft Qfu Qbf7 Qex Qb5
def Qjm:=Qb9 Qdh
def Qhk:=Qca Qet Qee
def Qei:=Qbg Qdd sortI Q6v
def Qc5:=Qq
def Qd4:=Qbb Qb5
def Qde:=Qcj Qhc Qfa Qdm Qjm Qec Qhk Qei Qdd Qcn Qd4 Qc5 Qb5
end Go.Abs
end
section
namespace Go.Abs
open Go Go.Sort Go.Shelf Go.RowKit Go.Lib Go.Proofs
set_option linter.unusedVariables false
set_option linter.unusedSectionVars false
theorem Qbdt {α : Type} [Inhabited α] {enc : α → List Value} {k : Nat} (hk : ∀ x,(enc x).length = k) (h0 : 0 < k) : ∀ (l : List α) (t : Nat),t < l.length * k → (l.map enc).flatten[t]? = some (enc l[t / k]!)[t % k]!
 | [],t,h=>by simp at h
 | x :: xs,t,h=>by
  rw [List.map_cons,List.flatten_cons]
  by_cases hl : t < k
  ·rw [List.getElem?_append_left (by rw [hk]; exact hl),Nat.div_eq_of_lt hl,Nat.mod_eq_of_lt hl]
   have : t < (enc x).length:=by rw [hk]; exact hl
   simp [this]
  ·have hge : k ≤ t:=by omega
   have h2 : t - k < xs.length * k:=by simp only [List.length_cons,Nat.add_mul,Nat.one_mul] at h; omega
   rw [List.getElem?_append_right (by rw [hk]; exact hge),hk,Qbdt hk h0 xs (t - k) h2]
   have e1 : t / k = (t - k) / k + 1:=by rw [← Nat.add_div_right _ h0,Nat.sub_add_cancel hge]
   have e2 : t % k = (t - k) % k:=by rw [Nat.mod_eq_sub_mod hge]
   rw [e1,e2]; simp
theorem Qbdu {α : Type} [Inhabited α] {enc : α → List Value} {k : Nat} (hk : ∀ x,(enc x).length = k) (h0 : 0 < k) (l : List α) : flatK enc k l.toArray = (l.map enc).flatten.toArray:=by
 have hs : (l.map enc).flatten.length = l.length * k:=by
  induction l with
  | nil=>simp
  | cons x xs ih=>rw [List.map_cons,List.flatten_cons,List.length_append,ih,hk]; simp [Nat.add_mul]; omega
 refine ext_get! (by simp [hs]) fun t ht=>?_
 have ht' : t < l.length * k:=by simpa using ht
 rw [get_flatK _ _ _ _ (by simpa using ht')]
 have:=Qbdt hk h0 l t ht'
 obtain ⟨h1,h2⟩:=List.getElem?_eq_some_iff.1 this
 rw [getElem!_pos _ t (by simpa using h1)]
 simp only [List.getElem_toArray,h2]
 simp
theorem Qbdv {α : Type} (e : α → List D) (xs : List α) : rowV e xs = (xs.map fun x=>(e x).map D.val).flatten:=by
 unfold rowV; rw [List.map_flatten,List.map_map]; rfl
theorem Qbas {P : Program} {ρ : Ren} {α : Type} [Inhabited α] (L : SlLaysF0.n6 P ρ) {k : Nat} (aE : ∀ w,(isAgg (ρ.t 24)).run P w = .ok true w) (zE : ∀ w,(Go.sizeOf (ρ.t 24)).run P w = .ok k w) (e : α → List D) (hk : ∀ x,(e x).length = k) (h0 : 0 < k) (hsc : ∀ x,(e x).all D.scalar = true)
  (cf : α → α → Int) (hO : SWO (ltOf cf)) (g : Nat) (cb : Array Value) (eg : ∀ args w,(callFunc g args).run P w = .ok (.enter g args) w)
  (hcmp : ∀ (x y : α) (W : World),Calls P g (#[.agg ((e x).map D.val).toArray,.agg ((e y).map D.val).toArray] ++ cb) W fun r w'=>r = .returned (.int .i64 (cf x y)) ∧ ∃ q os',w' = grow (W.drewN q) os') :
  Qbix P (ρ.f 6) e #[.func (.func g) #[] cb] (fun xs=>(pdq (ltOf cf) xs.toArray 0 xs.length (Lib.bitLen xs.length) true true).toList):=by
 intro blk cap xs w hc hblk hsz
 have henc : ∀ x,((fun x=>(e x).map D.val) x).length = k:=fun x=>by simp [hk]
 have h1 : ∀ x : α,∀ v ∈ (e x).map D.val,v.oneCell' = true:=by
  intro x v hv
  obtain ⟨d,hd,rfl⟩:=List.mem_map.1 hv
  exact Qbex (List.all_eq_true.1 (hsc x) d hd)
 have hH : HoldsK (fun x=>(e x).map D.val) k w blk 0 xs.toArray:=by
  unfold HoldsK
  rw [Qbdu henc h0,← Qbdv]
  intro j hj
  have hj' : j < (rowV e xs).length:=by simpa using hj
  obtain ⟨k1,k2⟩:=hc j hj'
  rw [Nat.zero_add]
  refine ⟨k1.trans ?_,k2⟩
  rw [List.getElem?_eq_getElem hj',getElem!_pos _ j hj]; rfl
 have hcl : CmpLays P g cb (fun x=>(e x).map D.val) k cf blk 0 xs.toArray.size w:=fun _ _ _ _ x y=>hcmp x y _
 have:=AnyQ.slices_SortFunc_eq L k aE zE (fun x=>(e x).map D.val) henc h1 cf hO g cb blk 0 cap xs.toArray w eg hcl hH hblk (by simpa using hsz)
 refine this.mono ?_
 rintro r w' ⟨rfl,n,os,rfl⟩
 refine ⟨rfl,n,os,?_⟩
 unfold sortWorldK putRowK
 have hrow : flatK (fun x=>(e x).map D.val) k (pdq (ltOf cf) xs.toArray 0 xs.toArray.size (Lib.bitLen xs.toArray.size) true true) = (rowV e (pdq (ltOf cf) xs.toArray 0 xs.length (Lib.bitLen xs.length) true true).toList).toArray:=by
  rw [Qbdv,← Qbdu henc h0]; simp
 rw [hrow]
section
variable {α : Type} [Inhabited α]
theorem Qbcl {lt : α → α → Bool} (hO : SWO lt) (xs : List α) (k : Nat) : (pdq lt xs.toArray 0 xs.length k true true).toList.Perm xs ∧ (pdq lt xs.toArray 0 xs.length k true true).toList.Pairwise fun a b=>lt b a = false:=by
 obtain ⟨⟨h1,_,h2⟩,h3⟩:=pdq_sorts lt hO xs.toArray 0 xs.length k true true (Nat.zero_le _) (by simp) (Or.inl rfl)
 generalize pdq lt xs.toArray 0 xs.length k true true = d at *
 have hs : d.size = xs.length:=by simpa using h1
 refine ⟨?_,?_⟩
 ·have e1 : d.extract 0 xs.length = d:=by rw [← hs]; exact Array.extract_size
  have e2 : xs.toArray.extract 0 xs.length = xs.toArray:=by
   have : xs.length = xs.toArray.size:=by simp
   rw [this]; exact Array.extract_size
  rw [e1,e2] at h2
  simpa using h2
 ·rw [List.pairwise_iff_getElem]
  intro i j hi hj hij
  have hi' : i < d.size:=by simpa using hi
  have hj' : j < d.size:=by simpa using hj
  have:=h3 i j (Nat.zero_le _) hij (by omega)
  rw [getElem!_pos d i hi',getElem!_pos d j hj'] at this
  simpa using this
theorem Qbi4 {lt : α → α → Bool} (hO : SWO lt) (xs : List α) (k : Nat) (hd : Q7v lt xs = true) : (pdq lt xs.toArray 0 xs.length k true true).toList = Qhm lt xs :=
 Q6u hO hd (Qbcl hO xs k).1 (Qbcl hO xs k).2
end
theorem Qbi5 {β : Type} {P : Program} {c : Nat} {e : β → List D} {sz N : Nat} {ok : β → Bool} {lt : β → β → Bool} [Inhabited {x : β // ok x = true}] {lt' : {x : β // ok x = true} → {x : β // ok x = true} → Bool}
  (hN : N < 4611686018427387904) (hk : ∀ x,(e x).length = sz) (hsc : ∀ x,(e x).all D.scalar = true) (hO : SWO lt') (hlt : ∀ x y,lt' x y = lt x.1 y.1) (hb : Qgt P c = true) {ex : Array Value} {exV : List V} (hex : ∀ g w us,RFs g w exV us → us = ex.toList)
  (hrow : Qbix P c (fun x : {x : β // ok x = true}=>e x.1) ex (fun xs=>(pdq lt' xs.toArray 0 xs.length (Lib.bitLen xs.length) true true).toList))
  (hnone : ∀ (p : Option Addr) (cap : Nat) (w : World),Calls P c (#[.slice p 0 cap] ++ ex) w fun e' w'=>e' = .returned (.tuple #[]) ∧ w' = w) :
  RowK P c e sz exV (fun l=>if l.length ≤ N then Qbkl ok lt l else none):=by
 intro xs ys h
 dsimp only at h
 split at h <;> try (cases h; done)
 rename_i hlN
 unfold Qbkl at h
 split at h <;> cases h
 rename_i hok
 simp only [Bool.and_eq_true,List.all_eq_true] at hok
 obtain ⟨ho,hd⟩:=hok
 obtain ⟨zs,rfl⟩ : ∃ zs : List {x : β // ok x = true},xs = zs.map Subtype.val:=⟨xs.pmap Subtype.mk ho,by rw [List.map_pmap]; simp⟩
 have hd' : Q7v lt' zs = true:=by
  rw [Qbds] at hd
  rw [show lt' = fun a b=>lt a.1 b.1 from funext fun a=>funext fun b=>hlt a b]; exact hd
 have e1 : Qhm lt (zs.map Subtype.val) = (Qhm lt' zs).map Subtype.val:=by
  rw [Qbbn,show lt' = fun a b=>lt a.1 b.1 from funext fun a=>funext fun b=>hlt a b]
 refine ⟨Qhh _ _,fun h0=>?_,fun hl cap k0 M nb hM=>?_⟩
 ·simp only [List.map_eq_nil_iff] at h0
  subst h0
  exact ⟨rfl,fun M nb=>Q94 hb hex hnone⟩
 ·have hM' : M k0 = some (.cells (Q6 (zs.map fun x=>e x.1) ((cap - zs.length) * sz))):=by
   rw [hM,List.map_map,List.length_map]; rfl
  have:=Qbbk (fun x=>hk x.1) (fun x=>hsc x.1) (fun xs=>(Qbcl hO xs _).1.length_eq) hex hb hrow zs cap k0 M nb hM' (by rw [List.length_map] at hlN; omega)
  rw [Qbi4 hO zs _ hd'] at this
  rw [e1,List.map_map,List.length_map]
  exact this
end Go.Abs
end
section
namespace Go.Abs
open Go Go.RowKit
set_option linter.unusedVariables false
end Go.Abs
end
section
namespace Go.Abs
open Go Go.Sort Go.RowKit
set_option linter.unusedVariables false
theorem Q95 (xs : List Int) : rowV (eI .i64) xs = xs.map (Value.int .i64):=by
 unfold rowV
 induction xs with
 | nil=>rfl
 | cons x xs ih=>simp only [List.map_cons,List.flatten_cons,List.map_append,ih]; rfl
theorem Qbi6 {P : Program} {c : Nat} (hb : Qgt P c = true)
  (hs : ∀ (blk off cap : Nat) (zs : List Int) (w : World),Holds (Value.int .i64) w blk off zs.toArray → blk < w.heap.size → zs.length < 4611686018427387904 →
   Calls P c #[.slice (some ⟨blk,off,none⟩) zs.length cap] w fun e w'=>e = .returned (.tuple #[]) ∧ ∃ n os,w' = grow (putRow (Value.int .i64) (Sort.ahead w n) blk off (zs.mergeSort fun x y=>decide (x ≤ y)).toArray) os)
  (hnone : ∀ (p : Option Addr) (cap : Nat) (w : World),Calls P c (#[.slice p 0 cap] ++ #[]) w fun e' w'=>e' = .returned (.tuple #[]) ∧ w' = w) :
  RowK P c (eI .i64) 1 [] (fun l=>if l.length ≤ lim then some (Qhm Qeb l) else none):=by
 have hrow : Qbix P c (eI .i64) #[] (fun xs=>Qhm Qeb xs):=by
  intro blk cap xs w hcell hblk hsz
  refine Calls.mono (hs blk 0 cap xs w ?_ hblk hsz) ?_
  ·intro j hj
   have hj' : j < xs.length:=by simpa using hj
   have:=hcell j (by rw [Q95]; simpa using hj')
   rw [Q95] at this
   rw [Nat.zero_add]
   refine ⟨?_,this.2⟩
   rw [this.1,getElem!_pos xs.toArray j hj]
   simp [hj']
  ·rintro e w' ⟨rfl,n,os,rfl⟩
   refine ⟨rfl,n,os,?_⟩
   rw [Qbey,Q95]
   congr 1
   unfold putRow
   congr 1
   funext c
   unfold putCells
   congr 1
   funext k x
   simp only [List.size_toArray,List.length_map]
   split
   ·rename_i h
    simp only [id]
    rw [getElem!_pos _ _ (by simp; omega),getElem!_pos _ _ (by simp; omega)]
    simp
   ·rfl
 intro xs ys h
 dsimp only at h
 split at h <;> cases h
 rename_i hl
 refine ⟨Qhh _ _,fun h0=>?_,fun hl2 cap k0 M nb hM=>?_⟩
 ·subst h0
  exact ⟨rfl,fun M nb=>Q94 (ex:=#[]) (exV:=[]) hb (fun _ _ _ h=>h) hnone⟩
 ·exact Qbbk (e:=eI .i64) (fun _=>rfl) (fun _=>rfl) (fun xs=>Qhh _ _) (ex:=#[]) (exV:=[]) (fun _ _ _ h=>h) hb hrow xs cap k0 M nb hM (by unfold lim at hl; omega)
end Go.Abs
end
section
namespace Go.Abs
open Go Go.Sort Go.RowKit Go.Lib
set_option linter.unusedVariables false
theorem Q96 (zs : List Int) : (Lib.compact zs).length ≤ zs.length:=by
 unfold Lib.compact Lib.compactUpTo
 rw [List.length_map]
 exact Nat.le_trans (List.length_filter_le _ _) (by simp)
theorem Qbl5 (l : List Int) : (l.map (eI .i64)).flatten = l.map (D.int .i64):=by
 induction l with
 | nil=>rfl
 | cons x l ih=>simp only [List.map_cons,List.flatten_cons,ih]; rfl
theorem Qbgx {P : Program} {c : Nat} (hb : Qgt P c = true)
  (hs : ∀ (blk off cap : Nat) (zs : List Int) (w : World),Holds (Value.int .i64) w blk off zs.toArray → zs.length ≤ 9223372036854775807 → zs.length ≤ cap →
   Calls P c #[.slice (some ⟨blk,off,none⟩) zs.length cap] w fun e w'=>e = .returned (.slice (some ⟨blk,off,none⟩) (Lib.compact zs).length cap) ∧ ∃ n,w' = putRow (Value.int .i64) (Sort.ahead w n) blk off (Lib.compact zs ++ List.replicate (zs.length - (Lib.compact zs).length) 0).toArray)
  (hnone : ∀ (p : Option Addr) (cap : Nat) (w : World),Calls P c #[.slice p 0 cap] w fun e' w'=>e' = .returned (.slice p 0 cap) ∧ w' = w) :
  CompK P c (fun l=>if l.length ≤ lim then some (Lib.compact l) else none):=by
 intro xs ys hf
 dsimp only at hf
 split at hf <;> cases hf
 rename_i hl
 refine ⟨Q96 xs,fun h0=>?_,fun cap k0 M nb hcap hM=>?_⟩
 ·subst h0
  refine ⟨rfl,fun M nb=>⟨hb,Nat.le_refl _,fun w g us hm hMon hfresh hus hfl hons=>?_⟩⟩
  obtain ⟨u0,us',rfl,hu0,rfl⟩:=hus
  have h2:=RF_d.1 hu0
  obtain ⟨a,cp,rfl,_,_⟩:=id h2
  refine (hnone a cp w).mono ?_
  rintro e' w' ⟨rfl,rfl⟩
  exact ⟨_,g,rfl,hm,hu0 _,trivial,hMon,Fr.refl _ _ _⟩
 refine ⟨hb,Nat.le_refl _,fun w g us hm hMon hfresh hus hfl hons=>?_⟩
 obtain ⟨u0,us',rfl,hu0,rfl⟩:=hus
 have h0:=Qbao.1 hu0
 subst h0
 obtain ⟨hk0,hown,vals,et,hh,hrv,hone⟩:=hm.box k0 _ hM
 have hlt : g.box k0 < w.heap.size:=(Array.getElem?_eq_some_iff.1 hh).1
 obtain ⟨hvl,hvr⟩:=(Qb6 _ _ _ _).1 hrv
 simp only [Q6,Qbl5,List.map_map,List.length_append,List.length_map,List.length_replicate,Nat.mul_one] at hvl hvr
 have hcell : ∀ (j : Nat) (x : Int),xs[j]? = some x → vals[j]? = some (.int .i64 x):=by
  intro j x hx
  have hj:=(List.getElem?_eq_some_iff.1 hx).1
  have hjv : j < vals.length:=by omega
  have hc : (List.map (V.d ∘ D.int .i64) xs ++ List.replicate (cap - xs.length) V.und)[j]? = some (.d (.int .i64 x)):=by
   rw [List.getElem?_append_left (by rw [List.length_map]; exact hj),List.getElem?_map,hx]; rfl
  have:=hvr j _ _ hc (List.getElem?_eq_getElem hjv)
  have h2 : vals[j] = .int .i64 x:=this
  rw [List.getElem?_eq_getElem hjv,h2]
 have hH : Holds (Value.int .i64) w (g.box k0) 0 xs.toArray:=by
  intro j hj
  have hj' : j < xs.length:=by simpa using hj
  have:=hcell j xs[j] (List.getElem?_eq_getElem hj')
  rw [Nat.zero_add]
  refine ⟨?_,by simp [World.frozen?,hh]⟩
  rw [getElem!_pos xs.toArray j hj]
  simp [World.cell?,hh,this]
 refine (hs (g.box k0) 0 cap xs w hH (by unfold lim at hl; omega) hcap).mono ?_
 rintro e' w' ⟨rfl,n,rfl⟩
 have hyl:=Q96 xs
 generalize Lib.compact xs = ys at hyl ⊢
 generalize hF : (ys ++ List.replicate (xs.length - ys.length) 0).toArray = F
 have hFs : F.size = xs.length:=by rw [← hF]; simp; omega
 have hput : putRow (Value.int .i64) (Sort.ahead w n) (g.box k0) 0 F = grow (putRow id (Sort.ahead w n) (g.box k0) 0 (F.map (Value.int .i64))) #[]:=by
  have e1 : ∀ W : World,grow W #[] = W:=fun W=>by unfold grow; simp
  rw [e1]
  unfold putRow
  congr 1
  funext c
  unfold putCells
  congr 1
  funext k x
  simp only [Array.size_map]
  split
  ·rename_i h
   simp only [id]
   rw [getElem!_pos _ _ (by omega),getElem!_pos _ _ (by simp; omega)]
   simp
  ·rfl
 rw [hput]
 generalize hF' : F.map (Value.int .i64) = F'
 have hFs' : F'.size = xs.length:=by rw [← hF',Array.size_map,hFs]
 have hFv : ∀ j (h : j < ys.length),F'[j]'(by omega) = Value.int .i64 ys[j]:=by
  intro j h
  subst hF'
  subst hF
  simp only [List.getElem_toArray,Array.getElem_map]
  rw [List.getElem_append_left h]
 have hFi : ∀ j (h : j < F'.size),∃ z : Int,F'[j] = Value.int .i64 z:=by
  intro j h
  subst hF'
  exact ⟨_,Array.getElem_map ..⟩
 have hblk:=Q9w w n (g.box k0) F' #[] hh
 have hoth : ∀ b,b ≠ g.box k0 → b < w.heap.size → (grow (putRow id (Sort.ahead w n) (g.box k0) 0 F') #[]).heap[b]? = w.heap[b]?:=fun b hb hlt=>Qpo w n _ F' #[] hb hlt
 have hsize : w.heap.size ≤ (grow (putRow id (Sort.ahead w n) (g.box k0) 0 F') #[]).heap.size:=by
  simp [putRow,mapBlock,Sort.ahead]
 generalize hw' : grow (putRow id (Sort.ahead w n) (g.box k0) 0 F') #[] = w' at hblk hoth hsize
 have himm : Imm g.imm g.imm w w':=by
  refine ⟨fun _ _ h=>h,fun b o h=>?_⟩
  obtain ⟨k1,k2⟩:=hm.imm b o h
  have hne : b ≠ g.box k0:=by rintro rfl; exact k2 k0 hown
  simp only [World.cell?,hoth b hne k1]
 have hkept : Kept g w g w' (There M) (fun o=>o ≠ .box k0):=⟨himm,fun _ _=>rfl,fun b hb hl=>⟨rfl,hoth b (by rintro rfl; exact hb hown) hl,fun _=>Iff.rfl⟩⟩
 have hsub : ∀ (o : Owner) i,o ≠ .box k0 → o.sub i ≠ .box k0:=by intro o i _; cases o <;> simp [Owner.sub]
 have hnew : ∀ p : Nat → Prop,V.ons p (Q6 (ys.map (eI .i64)) ((cap - ys.length) * 1)):=by
  intro p
  rw [Qfj]
  intro v hv
  simp only [Q6,List.mem_append,List.mem_map,List.mem_replicate] at hv
  rcases hv with ⟨x,_,rfl⟩ | ⟨_,rfl⟩ <;> trivial
 have hth : There (M.put k0 (.cells (Q6 (ys.map (eI .i64)) ((cap - ys.length) * 1)))) k0:=by simp [There,Mem.put]
 refine ⟨_,g,rfl,⟨fun k b hk=>?_,fun b o h=>⟨Nat.lt_of_lt_of_le (hm.imm b o h).1 hsize,(hm.imm b o h).2⟩⟩,by simp [RV],hth,fun k cs hk=>?_,?_⟩
 ·by_cases hkk : k = k0
  ·subst hkk
   rw [Qe6] at hk; cases hk
   refine ⟨hk0,hown,(putCells id 0 F' vals.toArray).toList,et,by simpa using hblk,(Qb6 _ _ _ _).2 ⟨?_,fun j cc x hc hx=>?_⟩,fun x hx=>?_⟩
   ·simp only [Q6,Qbl5,List.map_map,List.length_append,List.length_map,List.length_replicate,Nat.mul_one]
    simp [putCells]
    omega
   ·have hx' : (putCells id 0 F' vals.toArray)[j]? = some x:=by simpa using hx
    simp only [putCells,Array.getElem?_mapIdx,List.getElem?_toArray,Option.map_eq_some_iff] at hx'
    obtain ⟨y,hy,rfl⟩:=hx'
    simp only [Q6,Qbl5,List.map_map,Nat.mul_one] at hc
    by_cases hj : j < ys.length
    ·rw [List.getElem?_append_left (by rw [List.length_map]; exact hj),List.getElem?_map,List.getElem?_eq_getElem hj,Option.map_some,Option.some.injEq] at hc
     subst hc
     rw [if_pos ⟨Nat.zero_le _,by omega⟩]
     simp only [Nat.sub_zero,id]
     rw [getElem!_pos F' j (by omega),hFv j hj]
     simp [RV,RD]
    ·rw [List.getElem?_append_right (by rw [List.length_map]; omega)] at hc
     have : cc = .und:=(List.mem_replicate.1 (List.mem_of_getElem? hc)).2
     subst this; simp [RV]
   ·obtain ⟨j,hj⟩:=List.getElem?_of_mem hx
    have hx' : (putCells id 0 F' vals.toArray)[j]? = some x:=by simpa using hj
    simp only [putCells,Array.getElem?_mapIdx,List.getElem?_toArray,Option.map_eq_some_iff] at hx'
    obtain ⟨y,hy,rfl⟩:=hx'
    split
    ·rename_i hr
     simp only [id]
     rw [getElem!_pos F' _ (by omega)]
     obtain ⟨z,hz⟩:=hFi (j - 0) (by omega)
     rw [hz]
     exact Qbex (x:=.int .i64 z) rfl
    ·exact hone y (List.mem_of_getElem? hy)
  ·rw [Qcg _ _ hkk] at hk
   obtain ⟨k1,k2,k3⟩:=hm.box k b hk
   cases b with
   | mp es c =>
    obtain ⟨ents,q1,q2⟩:=k3
    have hne : g.box k ≠ g.box k0:=by
     intro h; rw [h,hown] at k2; cases k2; exact hkk rfl
    exact ⟨k1,k2,ents,(hoth _ hne (Array.getElem?_eq_some_iff.1 q1).1).trans q1,Qm2 (g:=g) (g':=g) hkept.imm q2⟩
   | cells cs =>
    obtain ⟨vals2,e2,q1,q2,q3⟩:=k3
    have hne : g.box k ≠ g.box k0:=by
     intro h; rw [h,hown] at k2; cases k2; exact hkk rfl
    refine ⟨k1,k2,vals2,e2,(hoth _ hne (Array.getElem?_eq_some_iff.1 q1).1).trans q1,?_,q3⟩
    exact RVs_mono hkept hsub (by simp) cs (.box k) 0 vals2 (by simpa using hkk) (hMon k cs hk) q2
 ·by_cases hkk : k = k0
  ·subst hkk
   rw [Qe6] at hk; cases hk
   exact hnew _
  ·rw [Qcg _ _ hkk] at hk
   exact ons_mono (fun j hj=>There.put hj) _ (hMon k cs hk)
 ·refine ⟨by rw [← hw']; rfl,by rw [← hw']; rfl,by rw [← hw']; rfl,hsize,himm,fun _ _=>rfl,fun b hb ho=>⟨rfl,hoth b ?_ hb,fun _=>Iff.rfl⟩⟩
  rintro rfl
  rw [hown] at ho
  exact ho
end Go.Abs
end
section
namespace Go.Proofs
open Go.Shelf
def Try.sortI_ren : Go.Shelf.Ren:=⟨fun | 5=>24 | 8=>52 | 7=>51 | 19=>76 | 20=>77 | 10=>67 | 11=>68 | 12=>69 | 13=>70 | 14=>71 | 15=>72 | 16=>73 | 17=>74 | 18=>75 | 30=>93 | 31=>94 | 32=>95 | 33=>96 | 34=>97 | 35=>98 | 40=>102 | n=>n,fun | 23=>27 | 25=>3 | 3=>3 | 32=>68 | 22=>27 | 0=>0 | 44=>85 | 46=>87 | 4=>4 | 36=>96 | 35=>95 | 41=>79 | 5=>5 | 9=>9 | 53=>109 | 57=>113 | 63=>117 | 64=>118 | n=>n,fun | n=>n⟩
theorem Try.sortI : Go.Proofs.SlLaysM.n5 Try.prog Try.sortI_ren:={
 mixed:=by kernel_rfl
 f5:=⟨Try.f24.name,by decide,Try.func24.trans (congrArg some (by kernel_rfl))⟩
 f7:=⟨Try.f51.name,by decide,Try.func51.trans (congrArg some (by kernel_rfl))⟩
 f8:=Try.func52.trans (congrArg some (by kernel_rfl))
 f10:=⟨Try.f67.name,by decide,Try.func67.trans (congrArg some (by kernel_rfl))⟩
 f11:=⟨Try.f68.name,by decide,Try.func68.trans (congrArg some (by kernel_rfl))⟩
 f12:=⟨Try.f69.name,by decide,Try.func69.trans (congrArg some (by kernel_rfl))⟩
 f13:=⟨Try.f70.name,by decide,Try.func70.trans (congrArg some (by kernel_rfl))⟩
 f14:=⟨Try.f71.name,by decide,Try.func71.trans (congrArg some (by kernel_rfl))⟩
 f15:=⟨Try.f72.name,by decide,Try.func72.trans (congrArg some (by kernel_rfl))⟩
 f16:=⟨Try.f73.name,by decide,Try.func73.trans (congrArg some (by kernel_rfl))⟩
 f17:=⟨Try.f74.name,by decide,Try.func74.trans (congrArg some (by kernel_rfl))⟩
 f18:=⟨Try.f75.name,by decide,Try.func75.trans (congrArg some (by kernel_rfl))⟩
 f19:=Try.func76.trans (congrArg some (by kernel_rfl))
 f20:=Try.func77.trans (congrArg some (by kernel_rfl))
 f30:=⟨Try.f93.name,by decide,Try.func93.trans (congrArg some (by kernel_rfl))⟩
 f31:=Try.func94.trans (congrArg some (by kernel_rfl))
 f32:=Try.func95.trans (congrArg some (by kernel_rfl))
 f33:=⟨Try.f96.name,by decide,Try.func96.trans (congrArg some (by kernel_rfl))⟩
 f34:=⟨Try.f97.name,by decide,Try.func97.trans (congrArg some (by kernel_rfl))⟩
 f35:=⟨Try.f98.name,by decide,Try.func98.trans (congrArg some (by kernel_rfl))⟩
 f40:=⟨Try.f102.name,by decide,Try.func102.trans (congrArg some (by kernel_rfl))⟩
 t0:=Try.underlying0
 a0:=Try.isAgg0
 z0:=Try.sizeOf0
 v0:=Try.zeroValue0
 t3:=Try.underlying3
 a3:=Try.isAgg3
 z3:=Try.sizeOf3
 v3:=Try.zeroValue3
 t4:=Try.underlying4
 a4:=Try.isAgg4
 z4:=Try.sizeOf4
 v4:=Try.zeroValue4
 t5:=Try.underlying5
 a5:=Try.isAgg5
 z5:=Try.sizeOf5
 v5:=Try.zeroValue5
 t9:=Try.underlying9
 a9:=Try.isAgg9
 z9:=Try.sizeOf9
 v9:=Try.zeroValue9
 t22:=Try.underlying27
 a22:=Try.isAgg27
 z22:=Try.sizeOf27
 v22:=Try.zeroValue27
 t23:=Try.underlying27
 a23:=Try.isAgg27
 z23:=Try.sizeOf27
 v23:=Try.zeroValue27
 t25:=Try.underlying3
 a25:=Try.isAgg3
 z25:=Try.sizeOf3
 v25:=Try.zeroValue3
 t32:=Try.underlying68
 a32:=Try.isAgg68
 z32:=Try.sizeOf68
 v32:=Try.zeroValue68
 t35:=Try.underlying95
 a35:=Try.isAgg95
 z35:=Try.sizeOf95
 v35:=Try.zeroValue95
 t36:=Try.underlying96
 a36:=Try.isAgg96
 z36:=Try.sizeOf96
 v36:=Try.zeroValue96
 t41:=Try.underlying79
 a41:=Try.isAgg79
 z41:=Try.sizeOf79
 v41:=Try.zeroValue79
 t44:=Try.underlying85
 a44:=Try.isAgg85
 z44:=Try.sizeOf85
 v44:=Try.zeroValue85
 t46:=Try.underlying87
 a46:=Try.isAgg87
 z46:=Try.sizeOf87
 v46:=Try.zeroValue87
 t53:=Try.underlying109
 a53:=Try.isAgg109
 z53:=Try.sizeOf109
 v53:=Try.zeroValue109
 t57:=Try.underlying113
 a57:=Try.isAgg113
 z57:=Try.sizeOf113
 v57:=Try.zeroValue113
 t63:=Try.underlying117
 a63:=Try.isAgg117
 z63:=Try.sizeOf117
 v63:=Try.zeroValue117
 t64:=Try.underlying118
 a64:=Try.isAgg118
 z64:=Try.sizeOf118
 v64:=Try.zeroValue118 }
def Try.sortE_ren : Go.Shelf.Ren:=⟨fun | 6=>48 | 15=>52 | 14=>65 | 28=>76 | 29=>77 | 20=>85 | 21=>86 | 22=>87 | 23=>88 | 24=>89 | 25=>90 | 26=>91 | 27=>92 | 46=>99 | 47=>94 | 48=>95 | 49=>100 | 50=>101 | 57=>103 | n=>n,fun | 22=>29 | 24=>43 | 25=>75 | 3=>3 | 39=>68 | 0=>0 | 53=>85 | 55=>87 | 4=>4 | 46=>96 | 45=>95 | 50=>79 | 5=>5 | 9=>9 | 66=>109 | 70=>113 | 76=>117 | 77=>118 | n=>n,fun | n=>n⟩
theorem Try.sortE : Go.Proofs.SlLaysF0.n6 Try.prog Try.sortE_ren:={
 mixed:=by kernel_rfl
 f6:=⟨Try.f48.name,by decide,Try.func48.trans (congrArg some (by kernel_rfl))⟩
 f14:=⟨Try.f65.name,by decide,Try.func65.trans (congrArg some (by kernel_rfl))⟩
 f15:=Try.func52.trans (congrArg some (by kernel_rfl))
 f20:=⟨Try.f85.name,by decide,Try.func85.trans (congrArg some (by kernel_rfl))⟩
 f21:=⟨Try.f86.name,by decide,Try.func86.trans (congrArg some (by kernel_rfl))⟩
 f22:=⟨Try.f87.name,by decide,Try.func87.trans (congrArg some (by kernel_rfl))⟩
 f23:=⟨Try.f88.name,by decide,Try.func88.trans (congrArg some (by kernel_rfl))⟩
 f24:=⟨Try.f89.name,by decide,Try.func89.trans (congrArg some (by kernel_rfl))⟩
 f25:=⟨Try.f90.name,by decide,Try.func90.trans (congrArg some (by kernel_rfl))⟩
 f26:=⟨Try.f91.name,by decide,Try.func91.trans (congrArg some (by kernel_rfl))⟩
 f27:=⟨Try.f92.name,by decide,Try.func92.trans (congrArg some (by kernel_rfl))⟩
 f28:=Try.func76.trans (congrArg some (by kernel_rfl))
 f29:=Try.func77.trans (congrArg some (by kernel_rfl))
 f46:=⟨Try.f99.name,by decide,Try.func99.trans (congrArg some (by kernel_rfl))⟩
 f47:=Try.func94.trans (congrArg some (by kernel_rfl))
 f48:=Try.func95.trans (congrArg some (by kernel_rfl))
 f49:=⟨Try.f100.name,by decide,Try.func100.trans (congrArg some (by kernel_rfl))⟩
 f50:=⟨Try.f101.name,by decide,Try.func101.trans (congrArg some (by kernel_rfl))⟩
 f57:=⟨Try.f103.name,by decide,Try.func103.trans (congrArg some (by kernel_rfl))⟩
 t0:=Try.underlying0
 a0:=Try.isAgg0
 z0:=Try.sizeOf0
 v0:=Try.zeroValue0
 t3:=Try.underlying3
 a3:=Try.isAgg3
 z3:=Try.sizeOf3
 v3:=Try.zeroValue3
 t4:=Try.underlying4
 a4:=Try.isAgg4
 z4:=Try.sizeOf4
 v4:=Try.zeroValue4
 t5:=Try.underlying5
 a5:=Try.isAgg5
 z5:=Try.sizeOf5
 v5:=Try.zeroValue5
 t9:=Try.underlying9
 a9:=Try.isAgg9
 z9:=Try.sizeOf9
 v9:=Try.zeroValue9
 t22:=Try.underlying29
 a22:=Try.isAgg29
 z22:=Try.sizeOf29
 v22:=Try.zeroValue29
 t25:=Try.underlying75
 a25:=Try.isAgg75
 z25:=Try.sizeOf75
 v25:=Try.zeroValue75
 t39:=Try.underlying68
 a39:=Try.isAgg68
 z39:=Try.sizeOf68
 v39:=Try.zeroValue68
 t45:=Try.underlying95
 a45:=Try.isAgg95
 z45:=Try.sizeOf95
 v45:=Try.zeroValue95
 t46:=Try.underlying96
 a46:=Try.isAgg96
 z46:=Try.sizeOf96
 v46:=Try.zeroValue96
 t50:=Try.underlying79
 a50:=Try.isAgg79
 z50:=Try.sizeOf79
 v50:=Try.zeroValue79
 t53:=Try.underlying85
 a53:=Try.isAgg85
 z53:=Try.sizeOf85
 v53:=Try.zeroValue85
 t55:=Try.underlying87
 a55:=Try.isAgg87
 z55:=Try.sizeOf87
 v55:=Try.zeroValue87
 t66:=Try.underlying109
 a66:=Try.isAgg109
 z66:=Try.sizeOf109
 v66:=Try.zeroValue109
 t70:=Try.underlying113
 a70:=Try.isAgg113
 z70:=Try.sizeOf113
 v70:=Try.zeroValue113
 t76:=Try.underlying117
 a76:=Try.isAgg117
 z76:=Try.sizeOf117
 v76:=Try.zeroValue117
 t77:=Try.underlying118
 a77:=Try.isAgg118
 z77:=Try.sizeOf118
 v77:=Try.zeroValue118 }
def Try.laysC_ren : Go.Shelf.Ren:=⟨fun | 20=>25 | n=>n,fun | 22=>27 | 3=>3 | 4=>4 | 0=>0 | n=>n,fun | n=>n⟩
theorem Try.laysC : Go.Proofs.Lays2.n20 Try.prog Try.laysC_ren:={
 mixed:=by kernel_rfl
 f20:=Try.func25.trans (congrArg some (by kernel_rfl))
 t0:=Try.underlying0
 a0:=Try.isAgg0
 z0:=Try.sizeOf0
 v0:=Try.zeroValue0
 t3:=Try.underlying3
 a3:=Try.isAgg3
 z3:=Try.sizeOf3
 v3:=Try.zeroValue3
 t4:=Try.underlying4
 a4:=Try.isAgg4
 z4:=Try.sizeOf4
 v4:=Try.zeroValue4
 t22:=Try.underlying27
 a22:=Try.isAgg27
 z22:=Try.sizeOf27
 v22:=Try.zeroValue27
 i3:=by kernel_rfl }
open Go.RowKit Go.Sort in
theorem Try.slices_Sort_int (blk off cap : Nat) (zs : List Int) (w : World) (hH : Holds (Value.int .i64) w blk off zs.toArray) (hblk : blk < w.heap.size) (hsz : zs.length < 4611686018427387904) :
  Calls Try.prog 24 #[.slice (some ⟨blk,off,none⟩) zs.length cap] w fun e w' =>
   e = .returned (.tuple #[]) ∧ ∃ n os,w' = grow (putRow (Value.int .i64) (Sort.ahead w n) blk off (zs.mergeSort fun x y=>decide (x ≤ y)).toArray) os:=AnyM.slices_Sort_int Try.sortI blk off cap zs w hH hblk hsz
open Go.RowKit Go.Sort in
theorem Try.slices_Sort_int_none (p : Option Addr) (cap : Nat) (w : World) :
  Calls Try.prog 24 #[.slice p 0 cap] w fun e w'=>e = .returned (.tuple #[]) ∧ w' = w:=AnyM.slices_Sort_int_none Try.sortI p cap w
open Go.RowKit Go.Lib Go.Sort in
theorem Try.slices_Compact_int (blk off cap : Nat) (zs : List Int) (w : World) (hH : Holds (Value.int .i64) w blk off zs.toArray) (hsz : zs.length ≤ 9223372036854775807) (hcap : zs.length ≤ cap) :
  Calls Try.prog 25 #[.slice (some ⟨blk,off,none⟩) zs.length cap] w fun e w'=>e = .returned (.slice (some ⟨blk,off,none⟩) (Lib.compact zs).length cap) ∧ ∃ q,w' = putRow (Value.int .i64) (Sort.ahead w q) blk off (Lib.compact zs ++ List.replicate (zs.length - (Lib.compact zs).length) 0).toArray:=Any.slices_Compact_int Try.laysC blk off cap zs w hH hsz hcap
open Go.RowKit Go.Lib Go.Sort in
theorem Try.slices_Compact_int_empty (a : Option Addr) (cap : Nat) (w : World) :
  Calls Try.prog 25 #[.slice a 0 cap] w fun e w'=>e = .returned (.slice a 0 cap) ∧ w' = w:=Any.slices_Compact_int_empty Try.laysC a cap w
end Go.Proofs
end
section
namespace Go.Proofs
open Go.Shelf Go.RowKit Go.Lib Go.Sort Go.Abs
abbrev Qbbo:={x : Qd // okE x = true}
instance : Inhabited Qbbo:=⟨⟨⟨0,0,0⟩,rfl⟩⟩
def cfE (x y : Qbbo) : Int:=if x.1.From = y.1.From then x.1.Event - y.1.Event else x.1.From - y.1.From
theorem Q80 (x y : Qbbo) : ltOf cfE x y = ltE x.1 y.1:=by
 unfold ltOf cfE ltE
 apply decide_eq_decide.2
 split <;> omega
theorem swoE : SWO (ltOf cfE):={
 irrefl x:=by rw [Q80]; simp [ltE]
 trans x y z h1 h2:=by rw [Q80] at *; simp only [ltE,decide_eq_true_eq] at *; omega
 ntrans x y z h1 h2:=by rw [Q80] at *; simp only [ltE,decide_eq_false_iff_not] at *; omega }
set_option maxHeartbeats 1000000 in
theorem Try.edges37 (x y : Qbbo) (W : World) : Calls Try.prog 49 #[.agg ((Qc x.1).map D.val).toArray,.agg ((Qc y.1).map D.val).toArray] W fun e w'=>e = .returned (.int .i64 (cfE x y)) ∧ ∃ q os',w' = grow (W.drewN q) os':=by
 obtain ⟨⟨a,b,c⟩,hx0⟩:=x
 obtain ⟨⟨a',b',c'⟩,hy0⟩:=y
 have hx:=hx0
 have hy:=hy0
 simp only [okE,decide_eq_true_eq] at hx hy
 have w1 : IntKind.i64.wrap (a - a') = a - a':=by simp [IntKind.wrap,IntKind.bits,IntKind.signed]; omega
 have w2 : IntKind.i64.wrap (b - b') = b - b':=by simp [IntKind.wrap,IntKind.bits,IntKind.signed]; omega
 have hr : cfE ⟨⟨a,b,c⟩,hx0⟩ ⟨⟨a',b',c'⟩,hy0⟩ = if a = a' then b - b' else a - a':=rfl
 generalize cfE ⟨⟨a,b,c⟩,hx0⟩ ⟨⟨a',b',c'⟩,hy0⟩ = r at hr ⊢
 simp only [Qc,List.map_cons,List.map_nil,D.val]
 go_enter Try.func49,Try.ntmps49
 go_wp2
 ·rename_i h
  have h : a ≠ a':=by simpa using h
  go_ret
  exact ⟨by rw [hr,if_neg h]; rfl,0,_,by rw [alloc_eq_grow,alloc_eq_grow,grow_grow]; rfl⟩
 ·rename_i h
  have h : a = a':=by simpa using h
  go_ret
  exact ⟨by rw [hr,if_pos h]; rfl,0,_,by rw [alloc_eq_grow,alloc_eq_grow,grow_grow]; rfl⟩
set_option maxHeartbeats 1000000 in
theorem Try.row36 : Qbix Try.prog 48 (fun x : Qbbo=>Qc x.1) #[.func (.func 49) #[] #[]] (fun xs=>(pdq (ltOf cfE) xs.toArray 0 xs.length (Lib.bitLen xs.length) true true).toList) :=
 Qbas Try.sortE Try.isAgg43 Try.sizeOf43 (fun x : Qbbo=>Qc x.1) (fun _=>rfl) (by decide) (fun _=>rfl) cfE swoE 49 #[] (enters_of Try.func49 (by kernel_rfl) rfl) (fun x y W=>Try.edges37 x y W)
set_option maxHeartbeats 1000000 in
theorem Try.none36 (p : Option Addr) (cap : Nat) (w : World) : Calls Try.prog 48 (#[.slice p 0 cap] ++ #[.func (.func 49) #[] #[]]) w fun e' w'=>e' = .returned (.tuple #[]) ∧ w' = w :=
 AnyF.slices_SortFunc_none Try.sortE p cap (.func (.func 49) #[] #[]) w
theorem Try.rowK36 : Go.Abs.RowK Try.prog 48 Qc 3 [.clo 49 []] Qbf7 :=
 Qbi5 (e:=Qc) (sz:=3) (N:=65536) (by decide) (fun _=>rfl) (fun _=>rfl) swoE Q80 (by kernel_rfl) (ex:=#[.func (.func 49) #[] #[]]) (exV:=[.clo 49 []]) (fun g w us h=>by
  obtain ⟨u,us',rfl,hu,hus⟩:=h
  simp only [RFs] at hus
  subst hus
  have:=hu .free
  simp only [RV] at this
  obtain ⟨vs,rfl,hv⟩:=this
  simp only [RVs] at hv
  subst hv
  rfl) Try.row36 Try.none36
theorem Try.rowK33 : Go.Abs.RowK Try.prog 24 (eI .i64) 1 [] Go.Abs.sortI :=
 Qbi6 (by kernel_rfl) Try.slices_Sort_int Try.slices_Sort_int_none
theorem Try.compK34 : Go.Abs.CompK Try.prog 25 Q6v :=
 Qbgx (by kernel_rfl) Try.slices_Compact_int Try.slices_Compact_int_empty
end Go.Proofs
end
section
namespace Go.Proofs
open Go.Shelf
def Try.laysGrow_ren : Go.Shelf.Ren:=⟨fun | 4=>64 | n=>n,fun | 22=>27 | 25=>3 | 3=>3 | 4=>4 | 9=>9 | 20=>20 | 0=>0 | n=>n,fun | n=>n⟩
theorem Try.laysGrow : Go.Proofs.Lays8.n4 Try.prog Try.laysGrow_ren:={
 mixed:=by kernel_rfl
 f4:=⟨Try.f64.name,by decide,Try.func64.trans (congrArg some (by kernel_rfl))⟩
 t0:=Try.underlying0
 a0:=Try.isAgg0
 z0:=Try.sizeOf0
 v0:=Try.zeroValue0
 t3:=Try.underlying3
 a3:=Try.isAgg3
 z3:=Try.sizeOf3
 v3:=Try.zeroValue3
 t4:=Try.underlying4
 a4:=Try.isAgg4
 z4:=Try.sizeOf4
 v4:=Try.zeroValue4
 t9:=Try.underlying9
 a9:=Try.isAgg9
 z9:=Try.sizeOf9
 v9:=Try.zeroValue9
 t20:=Try.underlying20
 a20:=Try.isAgg20
 z20:=Try.sizeOf20
 v20:=Try.zeroValue20
 t22:=Try.underlying27
 a22:=Try.isAgg27
 z22:=Try.sizeOf27
 v22:=Try.zeroValue27 }
end Go.Proofs
end
section
namespace Go.Abs
open Go Go.RowKit
set_option linter.unusedVariables false
set_option linter.unusedSimpArgs false
theorem Qbez {P : Program} {f : FuncId} {args : List V} {sz : Nat} (hb : Qgt P f = true)
  (h : ∀ (w : World) (g : G) (us : List Value),RFs g w args us → Calls P f us.toArray w fun e w'=>(∃ a,e = .returned (.slice a 0 0) ∧ w' = w) ∨
   ∃ cap row t,e = .returned (.slice (some ⟨w.heap.size,0,none⟩) 0 cap) ∧ w' = w.drew.alloc (.cells row t) ∧ row.size = cap * sz ∧ cap ≤ maxLen ∧ ∀ u ∈ row.toList,u.oneCell' = true) (M : Mem) (nb : Nat) : ACalls P f args M nb (.own sz []) M nb:=by
 refine ⟨hb,Nat.le_refl _,fun w g us hm hMon hfresh hus hfl hons=>?_⟩
 refine Calls.mono (h w g us hus) ?_
 rintro e w' (⟨a,rfl,rfl⟩ | ⟨cap,row,t,rfl,rfl,hrow,hcap,hone⟩)
 ·exact ⟨_,g,rfl,hm,by simp only [RV]; exact .inl ⟨⟨a,rfl⟩,trivial⟩,trivial,hMon,Fr.refl _ _ _⟩
 ·let g' : G:={ box:=g.box,imm:=g.imm,own:=fun b=>if b = w.heap.size then .res [] else g.own b }
  have hold : ∀ b,b < w.heap.size → (w.drew.alloc (.cells row t)).heap[b]? = w.heap[b]?:=fun b hlt=>RowKit.Below.heap_alloc w.drew _ b (by simpa using hlt)
  have hown : ∀ b,b < w.heap.size → g'.own b = g.own b:=fun b hlt=>by simp only [g']; rw [if_neg (by omega)]
  have hI : Imm g.imm g'.imm w (w.drew.alloc (.cells row t)):=⟨fun _ _ h=>h,fun b o hi=>by
   have hlt:=(hm.imm b o hi).1
   simp only [World.cell?]
   rw [hold b hlt]⟩
  have hk : Kept g w g' (w.drew.alloc (.cells row t)) (There M) (fun _=>True):=⟨hI,fun _ _=>rfl,fun b _ hlt=>⟨hown b hlt,hold b hlt,fun _=>Iff.rfl⟩⟩
  refine ⟨_,g',rfl,hm.kept hk hMon (fun _ _ _=>trivial) trivial (fun _ _=>trivial) (fun b o hi=>?_),?_,trivial,hMon,?_⟩
  ·obtain ⟨h1,h2⟩:=hm.imm b o hi
   refine ⟨by simp; omega,fun k=>?_⟩
   rw [hown b h1]; exact h2 k
  ·simp only [RV]
   refine .inr ⟨w.heap.size,cap,row,t,rfl,by simp [g'],heap_alloc_new w.drew _,Nat.zero_le _,hcap,⟨hrow,hone⟩,fun o=>?_,by simp [RDL]⟩
   constructor
   ·intro hi; have:=(hm.imm _ _ hi).1; omega
   ·intro hi; simp at hi
  ·exact ⟨rfl,rfl,rfl,by simp,hI,fun _ _=>rfl,fun b hb _=>⟨hown b hb,hold b hb,fun _=>Iff.rfl⟩⟩
end Go.Abs
end
section
namespace Go.Proofs
open Go.RowKit Go.Abs
theorem Try.growK : Go.Abs.K_slices_Grow_int Try.prog 64 Qbkm:=by
 intro n r h
 unfold Qbkm at h
 split at h <;> cases h
 rename_i hc
 have hlim : n ≤ 1099511627776:=hc.2
 intro M nb
 refine Qbez (by kernel_rfl) (fun w g us hus=>?_) M nb
 obtain ⟨u,us',rfl,hu,u2,us2,rfl,hu2,hus'⟩:=hus
 simp only [RFs] at hus'
 subst hus'
 have hu:=hu .free
 simp only [RV] at hu
 obtain ⟨a,rfl⟩:=hu
 have h2:=Qma hu2
 subst h2
 by_cases h0 : n = 0
 ·subst h0
  refine (Any8.slices_Grow_room Try.laysGrow a 0 0 0 w (by omega) (by omega) (by omega) (by omega)).mono ?_
  rintro e w' ⟨rfl,rfl⟩
  exact .inl ⟨a,rfl,rfl⟩
 ·obtain ⟨m,rfl⟩ : ∃ m : Nat,n = m:=⟨n.toNat,by omega⟩
  obtain ⟨i,zv,hi,hzv,hcz,_⟩:=Qjt Try.prog (t:=3) (z:=[.d (.int .i64 0)]) (by kernel_rfl)
  have hsz : i.size = 1:=(Qdo Try.prog hi).symm.trans (by kernel_rfl)
  have hby : i.bytes = 8:=by
   have : Try.prog.bytesOf 3 = 8:=by kernel_rfl
   simpa [Program.bytesOf,hi] using this
  have hzs : zv.cells.size = 1:=by have:=(hcz g w).len; simpa using this
  have hz1 : ∀ q,∀ u ∈ (Builtin.zeroCells zv.cells q).toList,u.oneCell' = true:=by
   intro q u hu
   refine (hcz g w).one u ?_
   simp only [Builtin.zeroCells] at hu
   have hu' : ∃ a,a < q * zv.cells.size ∧ zv.cells[a % zv.cells.size]! = u:=by simpa using hu
   obtain ⟨j,hj,rfl⟩:=hu'
   have hlt : j % zv.cells.size < zv.cells.size:=Nat.mod_lt _ (by omega)
   rw [getElem!_pos zv.cells _ hlt]
   simp
  have hge:=grownCap_ge w (0 + m) 0 3
  have hle:=grownCap_le_maxLen w (0 + m) 0 3 (by simp only [maxLen]; omega)
  refine (Any8.slices_Grow_grow Try.laysGrow i zv hi hzv (by omega) a 0 0 m [] w (by omega) (by omega) (by rw [hby]; omega) (by omega) (by simp) (fun _=>rfl) (fun _ _ j v hj=>by simp at hj)).mono ?_
  rintro e w' ⟨rfl,rfl⟩
  refine .inr ⟨_,_,_,rfl,rfl,?_,hle,fun u hu=>?_⟩
  ·simp only [Array.size_append,size_zeroCells,hzs,List.size_toArray,List.length_nil]
   show _ = grownCap w (0 + m) 0 3 * 1
   simp only [show (Try.laysGrow_ren.t 25) = 3 from rfl]
   omega
  ·simp only [Array.toList_append,List.mem_append,List.nil_append] at hu
   rcases hu with hu | hu
   ·exact hz1 _ u hu
   ·exact hz1 _ u hu
end Go.Proofs
end
section
namespace Go.Proofs
open Go Go.Abs
set_option linter.unusedVariables false
set_option maxRecDepth 10000
set_option maxHeartbeats 4000000
theorem Qnz : Qgn Try.prog 26 Qer:=Q0g Q6m Qb5
theorem Qej : Qc6 Try.prog 12 Qcn:=Qrx Qnz Q0r
theorem Qkf : Qeg Try.prog 27 Qgk:=Qpa Qej Qxy Qb5
theorem Qfv : Qdw Try.prog 11 Qdd:=Q0h Q6k
theorem Qll : Qe7 Try.prog 29 Qh5:=Qu2 Qfv Try.rowK33 Q3h
theorem Qn9 : Qez Try.prog 31 Qin:=Qmq Qpj
theorem Qgl : Qdt Try.prog 28 Qes:=Qry Q0u Qb5
theorem Ql3 : Qfl Try.prog 30 Qjl:=Qxo Q41
theorem Qr8 : Qfm Try.prog 15 Qke:=Qn6 Qkf Qgl Qll Ql3 Qn9 Qvb
theorem Ql4 : Qfo Try.prog 8 Qec:=Qxp Q4z Qb5
theorem Qlb : Qfy Try.prog 54 Qiq:=Q4u Q8q Qb5
theorem Qvc : Qf6 Try.prog 78 Qkl:=Qpb Qx3
theorem Q00 : Qhq Try.prog 53 Ql0:=Qu3 Qlb Qvc Q3j
theorem Q47 : Qjw Try.prog 32 Qof:=Q0i Ql4 Q00 Q6n Qb5
theorem Q48 : Qjy Try.prog 55 Qog:=Q0j Q6p
theorem Q7w : Qlr Try.prog 33 Qvp:=Q4v Qlb Q48 Q8n
theorem Q8r : Qna Try.prog 98 Qnw:=Q6i Q91
theorem Q97 : Qow Try.prog 73 Qio:=Q7p Q8r Qbar
theorem Q49 : Qj0 Try.prog 79 Qgp:=Q0k Q6t
theorem Qhn : Qdr Try.prog 56 Qbt:=Qmr Q97 Q49 Qpk Qb5
theorem Q3l : Qix Try.prog 35 Qnx:=Qxq Qhn Q42
theorem Qvd : Qf8 Try.prog 34 Qkm:=Qpc Q3l Qxz
theorem Q01 : Qhs Try.prog 16 Ql1:=Qu4 Qgl Ql3 Q47 Q7w Qvd Q3e
theorem Qbe0 : Qoe Try.prog 57 Q6w:=Q0l Q6q
theorem Q5a : Qj4 Try.prog 58 Qoh:=Q0m Q6r
theorem Q7x : Qlt Try.prog 38 Qvq:=Q4w Q5a Q8o
theorem Qve : Qga Try.prog 37 Qkn:=Qpd Qnz Q7x Qx0
theorem Q6x : Qkt Try.prog 36 Qr7:=Q28 Q7r
theorem Q02 : Qhu Try.prog 17 Ql2:=Qu5 Qkf Qgl Qll Q6x Qve Q3f Qb5
theorem Q03 : Qhw Try.prog 83 Qe9:=Qu6 Q3k Qb5
theorem Qvf : Qgc Try.prog 84 Qeh:=Qpe Qej Qx4 Qb5
theorem Qkg : Qff Try.prog 62 Qdp:=Q29 Q03 Qvf Q7s
theorem Qvg : Qge Try.prog 59 Qko:=Qpf Qkg Qx2
theorem Qlm : Qdy Try.prog 80 Qc0:=Qki Qly Qb5
theorem Q6y : Qk5 Try.prog 81 Qhi:=Q3a Q7t
theorem Q6z : Qk7 Try.prog 82 Qhj:=Q3b Q7u
theorem Qvs : Qj6 Try.prog 60 Qed:=Q6j Qlm Q6y Q6z Q90
theorem Q3m : Qiz Try.prog 39 Qny:=Qxr Qvg Qvs Q43 Qb5
theorem Q5b : Qj7 Try.prog 61 Qoi:=Q0n Q6s
theorem Q7y : Qlv Try.prog 40 Qvr:=Q4x Qlb Q5b Q8p
theorem Qx6 : Qgx Try.prog 18 Qlk:=Qrz Q3m Q7y Q0s
theorem Qn0 : Qgo Try.prog 19 Qet:=Q0o Q6l Qb5
theorem Ql5 : Qfp Try.prog 20 Qee:=Qxs Q40 Qb5
theorem Qx7 : Qgz Try.prog 4 Qhc:=Qr0 Qr8 Q01 Q02 Qx6 Qn0 Ql5 Q0q
theorem Qn1 : Qem Try.prog 6 Qdm:=Qlx Qn8 Qb5
theorem Qkp : Qep Try.prog 21 Qdu:=Qr1 Q0t
theorem Qln : Qe8 Try.prog 43 Qbz:=Qu7 Q3i Qb5
theorem Ql6 : Qfq Try.prog 42 Qco:=Qxt Q44 Qb5
theorem Qx8 : Qg2 Try.prog 41 Qeu:=Qr2 Ql6 Qln Q0v Qb5
theorem Qx9 : Qg4 Try.prog 44 Qdv:=Qr3 Q0w Qb5
theorem Qoa : Qe2 Try.prog 22 Qds:=Qms Qkp Qx8 Ql6 Qln Qx9 Qpi Qb5
theorem Q04 : Qhz Try.prog 5 Qfa:=Qu8 Qkp Qoa Q3d Qb5
theorem Qya : Qg6 Try.prog 63 Qhd:=Qr4 Q0y Qb5
theorem Q5c : Qka Try.prog 45 Qev:=Q0p Qkg Qya Q6o
theorem Q3n : Qi3 Try.prog 46 Qft:=Qxu Q45
theorem Q3o : Qi5 Try.prog 47 Qfu:=Qxv Try.growK Q46 Qb5
theorem Qbcm : Qkk Try.prog 49 Qx5:=Qpg Qx1
theorem Qyb : Qg8 Try.prog 66 Qew:=Qr5 Qfv Qhn Qvs Q0z Qb5
theorem Qyc : Qha Try.prog 50 Qex:=Qr6 Qkg Qyb Q0x
theorem Q05 : Qh1 Try.prog 23 Qdh:=Qu9 Qej Try.rowK33 Try.compK34 Q5c Q3n Q3o Try.rowK36 Qyc Q3g Qb5
theorem Q3p : Qi7 Try.prog 7 Qjm:=Qxw Q05 Q4y
theorem Q60 : Qk9 Try.prog 9 Qhk:=Q3c Qn0 Ql5 Q7q
theorem Qvh : Qgi Try.prog 10 Qei:=Qph Qfv Try.rowK33 Try.compK34 Qxx
theorem Qip : Qc3 Try.prog 14 Qc5:=Qhg Qjj
theorem Qr9 : Qfr Try.prog 13 Qd4:=Qn7 Qva Qb5
theorem Q5i : Qeq Try.prog 3 Qde:=Qim Qx7 Q04 Qn1 Q3p Ql4 Q60 Qvh Qfv Qej Qr9 Qip Qkc Qb5
end Go.Proofs
end
section
namespace Go.Abs
open Go Go.ChangeShapes Go.WideShapes Go.ChangeAt Go.RowKit
set_option linter.unusedVariables false
set_option linter.unusedSimpArgs false
def live (w : World) : Nat → Nat → Prop:=fun b o=>(w.cell? ⟨b,o,none⟩).isSome = true
def RDs (w : World) : List D → List Value → Prop
 | [],vs=>vs = []
 | x :: xs,vs=>∃ u us,vs = u :: us ∧ RD (live w) w x u ∧ RDs w xs us
theorem Qbbp {w : World} : ∀ {xs ys : List D} {us vs : List Value},RDs w xs us → RDs w ys vs → RDs w (xs ++ ys) (us ++ vs)
 | [],ys,us,vs,h,k=>by simp only [RDs] at h; subst h; simpa using k
 | x :: xs,ys,us,vs,⟨u,us',e,r,h⟩,k=>by subst e; exact ⟨u,us' ++ vs,by simp,r,Qbbp h k⟩
def RDat (w : World) (cs : List Value) (off : Nat) (xs : List D) : Prop:=RDs w xs ((cs.drop off).take xs.length)
theorem RDat.app {w : World} {cs : List Value} {off : Nat} {xs ys : List D} (h : RDat w cs off xs) {n : Nat} (hn : n = off + xs.length) (k : RDat w cs n ys) : RDat w cs off (xs ++ ys):=by
 subst hn
 have:=Qbbp h k
 unfold RDat
 rw [List.length_append,List.take_add,List.drop_drop]
 exact this
theorem RDat.nil {w : World} {cs : List Value} {off : Nat} : RDat w cs off []:=by simp [RDat,RDs]
theorem RDat.all {w : World} {cs : List Value} {xs : List D} (h : RDat w cs 0 xs) (hl : cs.length = xs.length) : RDs w xs cs:=by
 unfold RDat at h
 rw [List.drop_zero,← hl,List.take_length] at h
 exact h
theorem Qbi7 {w : World} {b : Nat} : ∀ {xs : List D} {vs : List Value} {o : Nat},RDs w xs vs → (∀ i v,vs[i]? = some v → w.cell? ⟨b,o + i,none⟩ = some v) → RDc (live w) w b xs o
 | [],vs,o,_,_=>by simp [RDc]
 | x :: xs,vs,o,⟨u,us,e,r,h⟩,hc=>by
  subst e
  have h0:=hc 0 u rfl
  rw [Nat.add_zero] at h0
  refine ⟨by simp [live,h0],⟨u,h0,r⟩,Qbi7 h fun i v hv=>?_⟩
  have:=hc (i + 1) v (by simpa using hv)
  rw [show o + 1 + i = o + (i + 1) from by omega]; exact this
def Q7z {α : Type} (P : Program) (t : TypeId) (e : α → List D) (wf : α → Prop) : Prop :=
 ∀ {H : Type} {enc : TypeId × Value → H} {w : World} {base : Nat} {spare : Nat → Bool} {held : Bool} {fuel : Nat} {cs : List Value} {x : DataW H × List MemPlace},
  DataW.trod enc P w base spare held fuel t cs = some x → ∃ a,wf a ∧ RDs w (e a) cs
def wfI (k : IntKind) (n : Int) : Prop:=(Lit.int k n).wf = true
def wfL {α : Type} (wf : α → Prop) (l : List α) : Prop:=l.length ≤ maxLen ∧ ∀ a ∈ l,wf a
variable {P : Program} {t : TypeId}
theorem Q98 {k : IntKind} (ht : P.underlying t = some (.int k)) : Q7z P t (fun n : Int=>[.int k n]) (wfI k):=by
 intro H enc w base spare held fuel cs x h
 obtain ⟨n,rfl,_,hw⟩:=DataW.trod_int ht h
 exact ⟨n,hw,_,_,rfl,by simp [RD],rfl⟩
theorem cells?_get {w : World} {base : Nat} {a : Addr} {n : Nat} {cs : List Value} (h : w.cells? base a n = some cs) : cs.length = n ∧ ∀ i v,cs[i]? = some v → w.cell? (a.add i) = some v:=by
 obtain ⟨h1,h2,h3⟩:=World.cells?_some h
 refine ⟨h2,fun i v hv=>?_⟩
 have hi:=(List.getElem?_eq_some_iff.1 hv).1
 have:=h3 i (by omega)
 rw [this]; simpa using hv
theorem Qbe1 {α : Type} {el : TypeId} {e : α → List D} {wf : α → Prop} {sz : Nat} (ht : P.underlying t = some (.slice el)) (he : Q7z P el e wf) (hsz : P.cellsOf el = sz) (hpos : 0 < sz) (hlen : ∀ a,(e a).length = sz) :
  Q7z P t (fun l : List α=>[.lst sz (l.map e)]) (wfL wf):=by
 intro H enc w base spare held fuel cs x h
 rcases DataW.trod_slice ht h with ⟨rfl,_⟩ | ⟨a,len,cap,Qhf,rest,n,_,rfl,_,hb,hl,hm,helen,hel,_,_⟩
 ·exact ⟨[],⟨by simp,by simp⟩,_,_,rfl,by simp only [RD,List.map_nil,List.length_nil]; exact ⟨none,0,rfl,Nat.le_refl _,.inl trivial⟩,rfl⟩
 ·have key : ∀ m,m ≤ len → ∃ l : List α,l.length = m ∧ (∀ x ∈ l,wf x) ∧ ∀ i y,l[i]? = some y → ∃ vs,w.cells? base (a.add (i * sz)) sz = some vs ∧ RDs w (e y) vs:=by
   intro m
   induction m with
   | zero=>exact fun _=>⟨[],rfl,by simp,by simp⟩
   | succ m ih =>
    intro hm'
    obtain ⟨l,h1,h2,h3⟩:=ih (by omega)
    have h4:=hel m (by omega)
    have h5 : Qhf[m]? = some Qhf[m]:=List.getElem?_eq_getElem (by omega)
    rw [h5,hsz,Option.bind_eq_some_iff] at h4
    obtain ⟨vs,h6,h7⟩:=h4
    obtain ⟨y,h8,h9⟩:=he h7
    refine ⟨l ++ [y],by simp [h1],?_,fun i z hz=>?_⟩
    ·intro x hx
     rcases List.mem_append.1 hx with hx | hx
     ·exact h2 x hx
     ·simp at hx; subst hx; exact h8
    ·by_cases hi : i < m
     ·rw [List.getElem?_append_left (by omega)] at hz; exact h3 i z hz
     ·have : i = m:=by
       have:=(List.getElem?_eq_some_iff.1 hz).1
       simp at this; omega
      subst this
      rw [List.getElem?_append_right (by omega),h1] at hz
      simp at hz; subst hz
      exact ⟨vs,h6,h9⟩
  obtain ⟨l,h1,h2,h3⟩:=key len (Nat.le_refl _)
  have hmax : l.length ≤ maxLen:=by omega
  refine ⟨l,⟨hmax,h2⟩,_,_,rfl,?_,rfl⟩
  simp only [RD,List.length_map,h1]
  refine ⟨some a,cap,rfl,hl,?_⟩
  cases l with
  | nil=>exact .inl rfl
  | cons y l =>
   right
   have hspot : a.spot = none:=by
    obtain ⟨vs,h4,h5⟩:=h3 0 y rfl
    obtain ⟨h6,h7⟩:=cells?_get h4
    have hv : vs[0]? = some vs[0]:=List.getElem?_eq_getElem (by omega)
    have:=h7 0 _ hv
    cases hs : a.spot with
    | none=>rfl
    | some s =>
     unfold World.cell? at this
     split at this
     ·simp [Addr.add,hs] at this
     ·cases this
   obtain ⟨b,o,sp⟩:=a
   simp only at hspot
   subst hspot
   refine ⟨b,o,rfl,?_⟩
   have row : ∀ (l : List α) (j : Nat),(∀ i y,l[i]? = some y → ∃ vs,w.cells? base ((⟨b,o,none⟩ : Addr).add ((j + i) * sz)) sz = some vs ∧ RDs w (e y) vs) → RDL (live w) w sz b (l.map e) (o + j * sz):=by
    intro l
    induction l with
    | nil=>intro j _; simp [RDL]
    | cons y l ih =>
     intro j h
     obtain ⟨vs,h4,h5⟩:=h 0 y rfl
     obtain ⟨h6,h7⟩:=cells?_get h4
     refine ⟨hlen y,Qbi7 h5 fun i v hv=>?_,?_⟩
     ·have:=h7 i v hv
      rw [Qe4,Qe4] at this
      simpa [Nat.add_assoc] using this
     ·have:=ih (j + 1) fun i y hy=>by
       have:=h (i + 1) y (by simpa using hy)
       rw [show j + 1 + i = j + (i + 1) from by omega]; exact this
      rw [show o + j * sz + sz = o + (j + 1) * sz from by rw [Nat.add_mul]; omega]
      exact this
   have:=row (y :: l) 0 fun i y hy=>by simpa using h3 i y hy
   simpa using this
theorem Qhl {α : Type} {el : TypeId} {e : α → List D} {wf : α → Prop} {sz : Nat} (he : Q7z P el e wf) (hsz : P.cellsOf el = sz) (hlen : ∀ a,(e a).length = sz)
  {H : Type} {enc : TypeId × Value → H} {w : World} {base : Nat} {spare : Nat → Bool} {held : Bool} {fuel off : Nat} {cs : List Value} {x : DataW H × List MemPlace}
  (h : DataW.trod enc P w base spare held fuel el ((cs.drop off).take (P.cellsOf el)) = some x) : ∃ a,wf a ∧ RDat w cs off (e a):=by
 obtain ⟨a,h1,h2⟩:=he h
 refine ⟨a,h1,?_⟩
 unfold RDat
 rw [hlen,← hsz]; exact h2
theorem Qbi8 {H : Type} {enc : TypeId × Value → H} {w : World} {base : Nat} {spare : Nat → Bool} {held : Bool} {fuel : Nat} {cs : List Value} {x : DataW H × List MemPlace} {fs : Array Field}
  (ht : P.underlying t = some (.struct fs)) (h : DataW.trod enc P w base spare held fuel t cs = some x) :
  cs.length = P.cellsOf t ∧ ∃ n,∀ (i : Nat) (f : Field),fs[i]? = some f → ∃ y,DataW.trod enc P w base spare held n f.type ((cs.drop f.offset).take (P.cellsOf f.type)) = some y:=by
 obtain ⟨xs,n,_,_,h1,h2,h3⟩:=DataW.trod_struct ht h
 refine ⟨h1,n,fun i f hf=>?_⟩
 have hi : i < fs.size:=(Array.getElem?_eq_some_iff.1 hf).1
 exact ⟨xs[i]'(by omega),by rw [h3 i f hf]; exact List.getElem?_eq_getElem (by omega)⟩
theorem Qbkn {H : Type} {enc : TypeId × Value → H} {w : World} {base : Nat} {spare : Nat → Bool} {held : Bool} {fuel : Nat} {cs : List Value} {x : DataW H × List MemPlace} {n : Nat} {el : TypeId}
  (ht : P.underlying t = some (.array n el)) (h : DataW.trod enc P w base spare held fuel t cs = some x) :
  cs.length = P.cellsOf t ∧ ∃ m,∀ i,i < n → ∃ y,DataW.trod enc P w base spare held m el ((cs.drop (i * P.cellsOf el)).take (P.cellsOf el)) = some y:=by
 obtain ⟨xs,m,_,_,h1,h2,h3⟩:=DataW.trod_array ht h
 exact ⟨h1,m,fun i hi=>⟨xs[i]'(by omega),by rw [h3 i hi]; exact List.getElem?_eq_getElem (by omega)⟩⟩
def Qlf {α : Type} (P : Program) (t : TypeId) (v : α → V) (wf : α → Prop) : Prop :=
 ∀ {H : Type} {enc : TypeId × Value → H} {w : World} {base b0 : Nat} {spare : Nat → Bool} {held : Bool} {u : Value} {d : DataW H} {ps : List MemPlace},
  Value.okWide P w .any b0 t u → DataW.Trod enc P w base spare held t u d ps → ∃ a,wf a ∧ RF ⟨fun _=>0,live w,fun _=>.ext⟩ w (v a) u
theorem Qbi9 {α : Type} {e : α → D} {wf : α → Prop} (he : Q7z P t (fun a=>[e a]) wf) (hone : ∀ w b0 u,Value.okWide P w .any b0 t u → u.cells = #[u]) : Qlf P t (fun a=>.d (e a)) wf:=by
 intro H enc w base b0 spare held u d ps hok hd
 obtain ⟨fuel,hf⟩:=hd
 rw [hone _ _ _ hok] at hf
 obtain ⟨a,h1,u',us,h2,h3,h4⟩:=he hf
 simp only [RDs] at h4; subst h4
 simp at h2; subst h2
 exact ⟨a,h1,fun ℓ=>by simpa [RV] using h3⟩
theorem Qbl6 {k : IntKind} (ht : P.underlying t = some (.int k)) : ∀ w b0 u,Value.okWide P w .any b0 t u → u.cells = #[u]:=by
 intro w b0 u h
 simp only [Value.okWide,ht] at h
 cases u <;> first | rfl | (simp [Cell.okWide,Cell.ok,ht] at h)
theorem Qbja {el : TypeId} (ht : P.underlying t = some (.slice el)) : ∀ w b0 u,Value.okWide P w .any b0 t u → u.cells = #[u]:=by
 intro w b0 u h
 simp only [Value.okWide,ht] at h
 cases u <;> first | rfl | (simp [Cell.okWide,Cell.ok,ht] at h)
theorem Qbm5 {imm : Nat → Nat → Prop} {w : World} {x : D} {u : Value} (h : RD imm w x u) : u.oneCell' = true:=by
 cases x with
 | int k n=>simp only [RD] at h; subst h; rfl
 | bool b=>simp only [RD] at h; subst h; rfl
 | str s=>simp only [RD] at h; subst h; rfl
 | lst sz l=>simp only [RD] at h; obtain ⟨a,cap,rfl,_⟩:=h; cases a <;> rfl
theorem Qbjb {w : World} {g : G} (hg : g.imm = live w) : ∀ {xs : List D} {us : List Value} {ℓ : Owner} {i : Nat},RDs w xs us → RVs g w (xs.map V.d) ℓ i us ∧ ∀ u ∈ us,u.oneCell' = true
 | [],us,ℓ,i,h=>by simp only [RDs] at h; subst h; simp [RVs]
 | x :: xs,us,ℓ,i,⟨u,us',e,r,h⟩=>by
  subst e
  obtain ⟨h1,h2⟩:=Qbjb hg (ℓ:=ℓ) (i:=i + 1) h
  refine ⟨⟨u,us',rfl,by simpa [RV,hg] using r,h1⟩,fun v hv=>?_⟩
  rcases List.mem_cons.1 hv with rfl | hv
  ·exact Qbm5 r
  ·exact h2 v hv
theorem Qbl7 {α : Type} {e : α → List D} {wf : α → Prop} (he : Q7z P t e wf) (hagg : (∃ fs,P.underlying t = some (.struct fs)) ∨ ∃ n el,P.underlying t = some (.array n el)) : Qlf P t (fun a=>.agg ((e a).map V.d)) wf:=by
 intro H enc w base b0 spare held u d ps hok hd
 obtain ⟨cs,rfl⟩ : ∃ cs,u = .agg cs:=by
  rcases hagg with ⟨fs,ht⟩ | ⟨n,el,ht⟩
  ·simp only [Value.okWide,ht] at hok; obtain ⟨cs,rfl,_⟩:=hok; exact ⟨cs,rfl⟩
  ·simp only [Value.okWide,ht] at hok; obtain ⟨cs,rfl,_⟩:=hok; exact ⟨cs,rfl⟩
 obtain ⟨fuel,hf⟩:=hd
 obtain ⟨a,h1,h2⟩:=he hf
 refine ⟨a,h1,fun ℓ=>?_⟩
 simp only [RV]
 obtain ⟨h3,h4⟩:=Qbjb (g:=⟨fun _=>0,live w,fun _=>.ext⟩) rfl (ℓ:=ℓ) (i:=0) h2
 exact ⟨cs.toList,by simp,h3,h4⟩
def Qbl8 (P : Program) (f : FuncId) (ts : List TypeId) : Prop :=
 ∀ {H : Type} {enc : TypeId × Value → H} {w : World} {b0 : Nat} {us : List Value} {ds : List (DataW H)} {ps : List MemPlace},
  (∀ (j : Nat) t u,ts[j]? = some t → us[j]? = some u → Value.okWide P w .any b0 t u) → DataW.TrodAll enc P w 0 (fun _=>true) true ts us ds ps →
  ∃ vs,RFs ⟨fun _=>0,live w,fun _=>.ext⟩ w vs us ∧ (∀ x ∈ vs,Flat x) ∧ V.lt.go 0 vs = true ∧ ∀ M nb,ACalls P f vs M nb (.d (.bool true)) M nb
theorem Q61 (hl : laidOutB P = true) {W W' : World} {sp : Nat → Bool} {H : Type} {enc : TypeId × Value → H} : ∀ {ts : List TypeId} {us : List Value} {ds : List (DataW H)} {ps : List MemPlace},
  (∀ t ∈ ts,P.readableRec t = true ∧ t < P.types.size) → DataW.TrodAll enc P W 0 (fun _=>true) true ts us ds ps → (∀ p ∈ ps,W.sameAt W' p) → (∀ p ∈ ps,sp p.block = true) → DataW.TrodAll enc P W' 0 sp true ts us ds ps
 | [],[],[],ps,_,h,_,_=>h
 | t :: ts,u :: us,d :: ds,ps,hr,⟨p,q,h1,h2,e⟩,hs,hp=>by
  subst e
  obtain ⟨r1,r2⟩:=hr t (by simp)
  exact ⟨p,q,WideElems.Trod_stays hl r1 r2 h1 (fun x hx=>hs x (by simp [hx])) (fun x hx=>hp x (by simp [hx])),Q61 hl (fun t ht=>hr t (by simp [ht])) h2 (fun x hx=>hs x (by simp [hx])) (fun x hx=>hp x (by simp [hx])),rfl⟩
 | [],[],_ :: _,_,_,h,_,_=>h.elim
 | [],_ :: _,_,_,_,h,_,_=>h.elim
 | _ :: _,[],_,_,_,h,_,_=>h.elim
 | _ :: _,_ :: _,[],_,_,h,_,_=>h.elim
theorem Q99 {W : World} {sp : Nat → Bool} {held : Bool} {base : Nat} {H : Type} {enc : TypeId × Value → H} : ∀ {ts : List TypeId} {us : List Value} {ds : List (DataW H)} {ps : List MemPlace},
  DataW.TrodAll enc P W base sp held ts us ds ps → ds.length = ts.length ∧ us.length = ts.length
 | [],[],[],ps,h=>⟨rfl,rfl⟩
 | t :: ts,u :: us,d :: ds,ps,⟨p,q,h1,h2,e⟩=>by have:=Q99 h2; simp [this.1,this.2]
 | [],[],_ :: _,_,h=>h.elim
 | [],_ :: _,_,_,h=>h.elim
 | _ :: _,[],_,_,h=>h.elim
 | _ :: _,_ :: _,[],_,h=>h.elim
theorem Qbl9 {C : Checked} {f : FuncId} {fn : Func} {s : ChangeSpec} {conds : List PathCond} {bt : TypeId} {os : Os} {H : Type} {enc : TypeId × Value → H}
  (own : ownKnob C.prog.godebug = none) (started : os.Started) (noInit : C.prog.inits.idxOf? f = none) (hfn : C.prog.funcs[f]? = some fn)
  (witness : ∃ (w : World) (tape : Tape) (i : Input),w.os = os ∧ (w.forCall tape i).Shaped C.prog ∧ i.vars = [] ∧ Input.okWide C.prog (w.forCall tape i) .any w.heap.size f i ∧
   s.pre6 enc C.prog fn conds false (w.forCall tape i).memory i.args ∧ ({} : Assume).holds C.prog (lone (Frame.enter C.prog f i.args .normal) [] (w.forCall tape i)))
  (hvars : s.vars = []) (hres : fn.resultTypes = #[bt]) (hbt : C.prog.underlying bt = some .bool)
  (hl : laidOutB C.prog = true) (hread : ∀ t ∈ fn.params.toList,C.prog.readableRec t = true ∧ t < C.prog.types.size)
  (hspec : ∀ ds : List (DataW H),ds.length = fn.params.size → s.fn H ds = { results:=[.lit (.bool true)],args:=ds })
  (law : Qbl8 C.prog f fn.params.toList) :
  ReturnsInHanded {} C os f .any (s.pre6 enc C.prog fn conds false) (s.post enc C.prog fn false true false false):=by
 refine returnsInHanded_of_change own started noInit hfn witness ?_
 intro W base args ds gs before hval hW hcnd _
 have hW':=hW
 obtain ⟨p,q,hA,hV,hps,hfz,hnd⟩:=hW
 rw [hvars] at hV
 obtain ⟨rfl,rfl⟩ : gs = [] ∧ q = []:=by
  cases gs with
  | nil=>exact ⟨rfl,hV⟩
  | cons _ _=>exact hV.elim
 obtain ⟨vs,h1,h2,h3,h4⟩:=law (fun j t u ht hu=>hval j t u (by simpa using ht) (by simpa using hu)) hA
 obtain ⟨hb,_,h5⟩:=h4 (fun _=>none) 0
 have hlv : ∀ b o,live W b o → b < W.heap.size:=by
  intro b o h
  simp only [live] at h
  obtain ⟨v,hv⟩:=Option.isSome_iff_exists.1 h
  unfold World.cell? at hv
  split at hv
  ·rename_i hh; exact (Array.getElem?_eq_some_iff.1 hh).1
  ·cases hv
 have hmr : MR ⟨fun _=>0,live W,fun _=>.ext⟩ W (fun _=>none) 0:=⟨fun k b h=>(by cases h),fun b o h=>⟨hlv b o h,fun k h=>by cases h⟩⟩
 have h6:=h5 W ⟨fun _=>0,live W,fun _=>.ext⟩ args.toList hmr (fun k cs h=>by cases h) (fun b=>⟨fun t p h=>(by cases h),fun p h=>(by cases h)⟩) h1 h2 (ons_mono (fun k hk=>absurd hk (Nat.not_lt_zero k)) _ (ons_lt vs h3))
 refine Calls.mono h6 fun e W' ⟨v,g',he,_,hr,_,_,hf⟩=>?_
 subst he
 have hv : v = .bool true:=by simpa [RV,RD] using hr
 subst hv
 have hbelow : Below W.heap.size W W':=⟨hf.os,hf.tape,hf.output,hf.size,fun k hk=>(hf.old k hk trivial).2.1⟩
 have hrl : (Value.bool true).resultList fn.resultTypes.size = [.bool true]:=by rw [hres]; rfl
 have hsp : s.fn H (ds ++ []) = { results:=[.lit (.bool true)],args:=ds }:=by
  rw [List.append_nil]
  exact hspec ds (by have:=(Q99 hA).1; simpa using this)
 have hlt : ∀ p ∈ before,p.block < W.heap.size:=fun x hx=>hW'.lt x hx
 have hst : ∀ sp : Nat → Bool,(∀ p ∈ before,sp p.block = true) → DataW.TrodAll enc C.prog W' 0 sp true fn.params.toList args.toList ds before:=by
  intro sp hsp'
  have e : p = before:=by rw [hps,List.append_nil]
  subst e
  exact Q61 hl hread hA (fun x hx=>hbelow.same (hlt x hx)) hsp'
 refine ⟨_,rfl,ds,[],before,[],before,[],hW',?_,?_,?_,World.keptBut_mono (fun p hp=>⟨hp,.inr (.inl hp)⟩) (hbelow.frame (· ∈ before)),fun h=>by cases h⟩
 ·rw [hsp,hrl,hres]
  exact ⟨[],[],⟨1,by simp [DataW.trod,Value.cells,hbt]⟩,rfl,rfl⟩
 ·rw [hsp]
  exact hst _ fun p hp=>by simpa using hlt p hp
 ·rw [hsp,hvars]; rfl
section
variable {α β γ δ : Type} {f : FuncId} {ta tb tc td : TypeId} {va : α → V} {vb : β → V} {vc : γ → V} {vd : δ → V} {wa : α → Prop} {wb : β → Prop} {wc : γ → Prop} {wd : δ → Prop}
theorem Qn2 {H : Type} {enc : TypeId × Value → H} {w : World} {base : Nat} {sp : Nat → Bool} {held : Bool} {t : TypeId} {ts : List TypeId} {us : List Value} {ds : List (DataW H)} {ps : List MemPlace} (h : DataW.TrodAll enc P w base sp held (t :: ts) us ds ps) :
  ∃ u us' d ds' p q,us = u :: us' ∧ ds = d :: ds' ∧ DataW.Trod enc P w base sp held t u d p ∧ DataW.TrodAll enc P w base sp held ts us' ds' q:=by
 match us,ds,h with
 | u :: us',d :: ds',⟨p,q,h1,h2,_⟩=>exact ⟨u,us',d,ds',p,q,rfl,rfl,h1,h2⟩
 | [],[],h=>exact h.elim
 | [],_ :: _,h=>exact h.elim
 | _ :: _,[],h=>exact h.elim
theorem Qbaa {H : Type} {enc : TypeId × Value → H} {w : World} {base : Nat} {sp : Nat → Bool} {held : Bool} {us : List Value} {ds : List (DataW H)} {ps : List MemPlace} (h : DataW.TrodAll enc P w base sp held [] us ds ps) : us = []:=by
 match us,ds,h with
 | [],[],_=>rfl
 | [],_ :: _,h=>exact h.elim
 | _ :: _,[],h=>exact h.elim
 | _ :: _,_ :: _,h=>exact h.elim
theorem Qbnm (ra : Qlf P ta va wa) (fa : ∀ a,(va a).dem = va a) (la : ∀ a,(va a).lt 0 = true) (rb : Qlf P tb vb wb) (fb : ∀ a,(vb a).dem = vb a) (lb : ∀ a,(vb a).lt 0 = true)
  (law : ∀ a b,wa a → wb b → ∀ M nb,ACalls P f [va a,vb b] M nb (.d (.bool true)) M nb) : Qbl8 P f [ta,tb]:=by
 intro H enc w b0 us ds ps hok hT
 obtain ⟨u,us',d,ds',p,q,rfl,rfl,h1,hT⟩:=Qn2 hT
 obtain ⟨u2,us',d2,ds',p2,q2,rfl,rfl,h2,hT⟩:=Qn2 hT
 obtain rfl:=Qbaa hT
 obtain ⟨a,ha,hra⟩:=ra (hok 0 _ _ rfl rfl) h1
 obtain ⟨b,hb,hrb⟩:=rb (hok 1 _ _ rfl rfl) h2
 refine ⟨[va a,vb b],⟨u,_,rfl,hra,u2,_,rfl,hrb,rfl⟩,?_,by simp [V.lt.go,la,lb],law a b ha hb⟩
 intro x hx
 simp only [List.mem_cons,List.not_mem_nil,or_false] at hx
 rcases hx with rfl | rfl
 ·exact fa a
 ·exact fb b
theorem Qbnn (ra : Qlf P ta va wa) (fa : ∀ a,(va a).dem = va a) (la : ∀ a,(va a).lt 0 = true) (rb : Qlf P tb vb wb) (fb : ∀ a,(vb a).dem = vb a) (lb : ∀ a,(vb a).lt 0 = true)
  (rc : Qlf P tc vc wc) (fc : ∀ a,(vc a).dem = vc a) (lc : ∀ a,(vc a).lt 0 = true)
  (law : ∀ a b c,wa a → wb b → wc c → ∀ M nb,ACalls P f [va a,vb b,vc c] M nb (.d (.bool true)) M nb) : Qbl8 P f [ta,tb,tc]:=by
 intro H enc w b0 us ds ps hok hT
 obtain ⟨u,us',d,ds',p,q,rfl,rfl,h1,hT⟩:=Qn2 hT
 obtain ⟨u2,us',d2,ds',p2,q2,rfl,rfl,h2,hT⟩:=Qn2 hT
 obtain ⟨u3,us',d3,ds',p3,q3,rfl,rfl,h3,hT⟩:=Qn2 hT
 obtain rfl:=Qbaa hT
 obtain ⟨a,ha,hra⟩:=ra (hok 0 _ _ rfl rfl) h1
 obtain ⟨b,hb,hrb⟩:=rb (hok 1 _ _ rfl rfl) h2
 obtain ⟨c,hc,hrc⟩:=rc (hok 2 _ _ rfl rfl) h3
 refine ⟨[va a,vb b,vc c],⟨u,_,rfl,hra,u2,_,rfl,hrb,u3,_,rfl,hrc,rfl⟩,?_,by simp [V.lt.go,la,lb,lc],law a b c ha hb hc⟩
 intro x hx
 simp only [List.mem_cons,List.not_mem_nil,or_false] at hx
 rcases hx with rfl | rfl | rfl
 ·exact fa a
 ·exact fb b
 ·exact fc c
end
theorem Qble {H : Type} {enc : TypeId × Value → H} {w : World} {base : Nat} {spare : Nat → Bool} {held : Bool} {fuel : Nat} {cs : List Value} {x : DataW H × List MemPlace} {n sz : Nat} {el : TypeId}
  (ht : P.underlying t = some (.array n el)) (hsz : P.cellsOf el = sz) (h : DataW.trod enc P w base spare held fuel t cs = some x) :
  cs.length = P.cellsOf t ∧ ∃ m,∀ i,i < n → ∃ y,DataW.trod enc P w base spare held m el ((cs.drop (i * sz)).take (P.cellsOf el)) = some y:=by
 obtain ⟨h1,m,h2⟩:=Qbkn ht h
 exact ⟨h1,m,fun i hi=>by have:=h2 i hi; rwa [show i * P.cellsOf el = i * sz from by rw [hsz]] at this⟩
end Go.Abs
end
section
namespace Go.Proofs
open Go Go.Abs
set_option linter.unusedVariables false
set_option maxRecDepth 100000
def W_22 (x : Int) : Prop:=wfI .u8 x
theorem R_22 : Q7z Try.prog 22 (eI .u8) W_22:=Q98 Try.underlying22
theorem A_22 : Qlf Try.prog 22 (fun (a : Int)=>.d (.int .u8 a)) W_22:=Qbi9 R_22 (Qbl6 Try.underlying22)
def W_5 (x : Int) : Prop:=wfI .u8 x
theorem R_5 : Q7z Try.prog 5 (eI .u8) W_5:=Q98 Try.underlying5
def W_23 (x : Int × Int × Int × Int × Int) : Prop:=W_5 x.1 ∧ W_5 x.2.1 ∧ W_5 x.2.2.1 ∧ W_5 x.2.2.2.1 ∧ W_5 x.2.2.2.2
theorem R_23 : Q7z Try.prog 23 (fun p : Int × Int × Int × Int × Int=>[.int .u8 p.1,.int .u8 p.2.1,.int .u8 p.2.2.1,.int .u8 p.2.2.2.1,.int .u8 p.2.2.2.2]) W_23:=by
  intro H enc w base spare held fuel cs x h
  obtain ⟨hl,n,hf⟩:=Qble (sz:=1) Try.underlying23 (by kernel_rfl) h
  obtain ⟨y0,h0⟩:=hf 0 (by decide)
  obtain ⟨a0,w0,r0⟩:=Qhl (off:=0 * 1) (sz:=1) R_5 (by kernel_rfl) (fun _=>rfl) h0
  obtain ⟨y1,h1⟩:=hf 1 (by decide)
  obtain ⟨a1,w1,r1⟩:=Qhl (off:=1 * 1) (sz:=1) R_5 (by kernel_rfl) (fun _=>rfl) h1
  obtain ⟨y2,h2⟩:=hf 2 (by decide)
  obtain ⟨a2,w2,r2⟩:=Qhl (off:=2 * 1) (sz:=1) R_5 (by kernel_rfl) (fun _=>rfl) h2
  obtain ⟨y3,h3⟩:=hf 3 (by decide)
  obtain ⟨a3,w3,r3⟩:=Qhl (off:=3 * 1) (sz:=1) R_5 (by kernel_rfl) (fun _=>rfl) h3
  obtain ⟨y4,h4⟩:=hf 4 (by decide)
  obtain ⟨a4,w4,r4⟩:=Qhl (off:=4 * 1) (sz:=1) R_5 (by kernel_rfl) (fun _=>rfl) h4
  exact ⟨(a0,a1,a2,a3,a4),⟨w0,w1,w2,w3,w4⟩,RDat.all (xs:=(fun p : Int × Int × Int × Int × Int=>[.int .u8 p.1,.int .u8 p.2.1,.int .u8 p.2.2.1,.int .u8 p.2.2.2.1,.int .u8 p.2.2.2.2]) (a0,a1,a2,a3,a4)) (RDat.app r0 rfl (RDat.app r1 rfl (RDat.app r2 rfl (RDat.app r3 rfl r4)))) (hl.trans (by kernel_rfl))⟩
def W_24 (x : (Int × Int × Int × Int × Int) × (Int × Int × Int × Int × Int) × (Int × Int × Int × Int × Int) × (Int × Int × Int × Int × Int) × (Int × Int × Int × Int × Int)) : Prop:=W_23 x.1 ∧ W_23 x.2.1 ∧ W_23 x.2.2.1 ∧ W_23 x.2.2.2.1 ∧ W_23 x.2.2.2.2
theorem R_24 : Q7z Try.prog 24 (fun p : (Int × Int × Int × Int × Int) × (Int × Int × Int × Int × Int) × (Int × Int × Int × Int × Int) × (Int × Int × Int × Int × Int) × (Int × Int × Int × Int × Int)=>[.int .u8 p.1.1,.int .u8 p.1.2.1,.int .u8 p.1.2.2.1,.int .u8 p.1.2.2.2.1,.int .u8 p.1.2.2.2.2,.int .u8 p.2.1.1,.int .u8 p.2.1.2.1,.int .u8 p.2.1.2.2.1,.int .u8 p.2.1.2.2.2.1,.int .u8 p.2.1.2.2.2.2,.int .u8 p.2.2.1.1,.int .u8 p.2.2.1.2.1,.int .u8 p.2.2.1.2.2.1,.int .u8 p.2.2.1.2.2.2.1,.int .u8 p.2.2.1.2.2.2.2,.int .u8 p.2.2.2.1.1,.int .u8 p.2.2.2.1.2.1,.int .u8 p.2.2.2.1.2.2.1,.int .u8 p.2.2.2.1.2.2.2.1,.int .u8 p.2.2.2.1.2.2.2.2,.int .u8 p.2.2.2.2.1,.int .u8 p.2.2.2.2.2.1,.int .u8 p.2.2.2.2.2.2.1,.int .u8 p.2.2.2.2.2.2.2.1,.int .u8 p.2.2.2.2.2.2.2.2]) W_24:=by
  intro H enc w base spare held fuel cs x h
  obtain ⟨hl,n,hf⟩:=Qble (sz:=5) Try.underlying24 (by kernel_rfl) h
  obtain ⟨y0,h0⟩:=hf 0 (by decide)
  obtain ⟨a0,w0,r0⟩:=Qhl (off:=0 * 5) (sz:=5) R_23 (by kernel_rfl) (fun _=>rfl) h0
  obtain ⟨y1,h1⟩:=hf 1 (by decide)
  obtain ⟨a1,w1,r1⟩:=Qhl (off:=1 * 5) (sz:=5) R_23 (by kernel_rfl) (fun _=>rfl) h1
  obtain ⟨y2,h2⟩:=hf 2 (by decide)
  obtain ⟨a2,w2,r2⟩:=Qhl (off:=2 * 5) (sz:=5) R_23 (by kernel_rfl) (fun _=>rfl) h2
  obtain ⟨y3,h3⟩:=hf 3 (by decide)
  obtain ⟨a3,w3,r3⟩:=Qhl (off:=3 * 5) (sz:=5) R_23 (by kernel_rfl) (fun _=>rfl) h3
  obtain ⟨y4,h4⟩:=hf 4 (by decide)
  obtain ⟨a4,w4,r4⟩:=Qhl (off:=4 * 5) (sz:=5) R_23 (by kernel_rfl) (fun _=>rfl) h4
  exact ⟨(a0,a1,a2,a3,a4),⟨w0,w1,w2,w3,w4⟩,RDat.all (xs:=(fun p : (Int × Int × Int × Int × Int) × (Int × Int × Int × Int × Int) × (Int × Int × Int × Int × Int) × (Int × Int × Int × Int × Int) × (Int × Int × Int × Int × Int)=>[.int .u8 p.1.1,.int .u8 p.1.2.1,.int .u8 p.1.2.2.1,.int .u8 p.1.2.2.2.1,.int .u8 p.1.2.2.2.2,.int .u8 p.2.1.1,.int .u8 p.2.1.2.1,.int .u8 p.2.1.2.2.1,.int .u8 p.2.1.2.2.2.1,.int .u8 p.2.1.2.2.2.2,.int .u8 p.2.2.1.1,.int .u8 p.2.2.1.2.1,.int .u8 p.2.2.1.2.2.1,.int .u8 p.2.2.1.2.2.2.1,.int .u8 p.2.2.1.2.2.2.2,.int .u8 p.2.2.2.1.1,.int .u8 p.2.2.2.1.2.1,.int .u8 p.2.2.2.1.2.2.1,.int .u8 p.2.2.2.1.2.2.2.1,.int .u8 p.2.2.2.1.2.2.2.2,.int .u8 p.2.2.2.2.1,.int .u8 p.2.2.2.2.2.1,.int .u8 p.2.2.2.2.2.2.1,.int .u8 p.2.2.2.2.2.2.2.1,.int .u8 p.2.2.2.2.2.2.2.2]) (a0,a1,a2,a3,a4)) (RDat.app r0 rfl (RDat.app r1 rfl (RDat.app r2 rfl (RDat.app r3 rfl r4)))) (hl.trans (by kernel_rfl))⟩
def W_26 (x : Qw) : Prop:=W_5 x.States ∧ W_5 x.Marks ∧ W_24 x.To
theorem R_26 : Q7z Try.prog 26 Qlj W_26:=by
  intro H enc w base spare held fuel cs x h
  obtain ⟨hl,n,hf⟩:=Qbi8 Try.underlying26 h
  obtain ⟨y0,h0⟩:=hf 0 _ rfl
  obtain ⟨a0,w0,r0⟩:=Qhl (off:=0) (sz:=1) R_5 (by kernel_rfl) (fun _=>rfl) h0
  obtain ⟨y1,h1⟩:=hf 1 _ rfl
  obtain ⟨a1,w1,r1⟩:=Qhl (off:=1) (sz:=1) R_5 (by kernel_rfl) (fun _=>rfl) h1
  obtain ⟨y2,h2⟩:=hf 2 _ rfl
  obtain ⟨a2,w2,r2⟩:=Qhl (off:=2) (sz:=25) R_24 (by kernel_rfl) (fun _=>rfl) h2
  exact ⟨⟨a0,a1,a2⟩,⟨w0,w1,w2⟩,RDat.all (xs:=Qlj ⟨a0,a1,a2⟩) (RDat.app r0 rfl (RDat.app r1 rfl r2)) (hl.trans (by kernel_rfl))⟩
theorem A_26 : Qlf Try.prog 26 (fun (a : Qw)=>.agg [.d (.int .u8 a.States),.d (.int .u8 a.Marks),.d (.int .u8 a.To.1.1),.d (.int .u8 a.To.1.2.1),.d (.int .u8 a.To.1.2.2.1),.d (.int .u8 a.To.1.2.2.2.1),.d (.int .u8 a.To.1.2.2.2.2),.d (.int .u8 a.To.2.1.1),.d (.int .u8 a.To.2.1.2.1),.d (.int .u8 a.To.2.1.2.2.1),.d (.int .u8 a.To.2.1.2.2.2.1),.d (.int .u8 a.To.2.1.2.2.2.2),.d (.int .u8 a.To.2.2.1.1),.d (.int .u8 a.To.2.2.1.2.1),.d (.int .u8 a.To.2.2.1.2.2.1),.d (.int .u8 a.To.2.2.1.2.2.2.1),.d (.int .u8 a.To.2.2.1.2.2.2.2),.d (.int .u8 a.To.2.2.2.1.1),.d (.int .u8 a.To.2.2.2.1.2.1),.d (.int .u8 a.To.2.2.2.1.2.2.1),.d (.int .u8 a.To.2.2.2.1.2.2.2.1),.d (.int .u8 a.To.2.2.2.1.2.2.2.2),.d (.int .u8 a.To.2.2.2.2.1),.d (.int .u8 a.To.2.2.2.2.2.1),.d (.int .u8 a.To.2.2.2.2.2.2.1),.d (.int .u8 a.To.2.2.2.2.2.2.2.1),.d (.int .u8 a.To.2.2.2.2.2.2.2.2)]) W_26:=Qbl7 R_26 (.inl ⟨_,Try.underlying26⟩)
def W_3 (x : Int) : Prop:=wfI .i64 x
theorem R_3 : Q7z Try.prog 3 (eI .i64) W_3:=Q98 Try.underlying3
def W_27 (x : List Int) : Prop:=wfL W_3 x
theorem R_27 : Q7z Try.prog 27 (eL 1 (eI .i64)) W_27:=Qbe1 Try.underlying27 R_3 (by kernel_rfl) (by decide) (fun _=>rfl)
theorem A_27 : Qlf Try.prog 27 (fun (a : List Int)=>.d (.lst 1 (List.map (eI .i64) a))) W_27:=Qbi9 R_27 (Qbja Try.underlying27)
end Go.Proofs
end
section
namespace Go.Abs
open Go
theorem Qf3 {X R : Type} {F : (X → Option R) → X → Option R} (I : X → Prop) (m : X → Nat) (Q : X → Option R → Prop)
  (step : ∀ (k : X → Option R) (x : X),I x → (∀ y,I y → m y < m x → Q y (k y)) → Q x (F k x)) : ∀ (fuel : Nat) (x : X),I x → m x < fuel → Q x (Qcy F fuel x)
 | 0,x,_,h=>absurd h (Nat.not_lt_zero _)
 | fuel + 1,x,hi,h=>step _ x hi fun y hy hm=>Qf3 I m Q step fuel y hy (by omega)
theorem Qbko {X R : Type} {F : (X → Option R) → X → Option R} {fuel : Nat} {x : X} (I : X → Prop) (m : X → Nat) (q : Option R) (hi : I x) (hm : m x < fuel)
  (step : ∀ (k : X → Option R) (x : X),I x → (∀ y,I y → m y < m x → k y = q) → F k x = q) : Qcy F fuel x = q :=
 Qf3 I m (fun _ r=>r = q) step fuel x hi hm
theorem Qlz {x : Int} (h1 : -9223372036854775808 ≤ x) (h2 : x ≤ 9223372036854775807) : IntKind.wrap .i64 x = x:=by
 simp [IntKind.wrap,IntKind.bits,IntKind.signed]; omega
theorem Qbj {n : Nat} (h : n < 9223372036854775807) : IntKind.wrap .i64 ((n : Int) + 1) = ((n + 1 : Nat) : Int):=by
 rw [Qlz (by omega) (by omega)]; omega
theorem Qcs {α : Type} {l : List α} {n : Nat} (h : n < l.length) : getO l (n : Int) = some l[n]:=by
 simp [getO,h]
theorem Q62 {α : Type} {l : List α} {i : Int} {x : α} : getO l i = some x ↔ 0 ≤ i ∧ l[i.toNat]? = some x:=by
 unfold getO; split
 ·rename_i h; simp [h]
 ·rename_i h; simp only [reduceCtorEq,false_iff,not_and]; exact fun h'=>absurd h' h
theorem Qdf {α : Type} {l m : List α} (h : l.length + m.length ≤ lim) : appO l m = some (l ++ m):=by
 unfold appO; rw [if_pos h]
theorem Qbdw {α : Type} {s t : List α} {k : Nat} (hs : k < s.length) (ht : k < t.length) (h : s.take k = t.take k) (he : s[k] = t[k]) : s.take (k + 1) = t.take (k + 1):=by
 rw [List.take_add_one,List.take_add_one,h,List.getElem?_eq_getElem hs,List.getElem?_eq_getElem ht,he]
theorem Qlo {R : Type} {F : (Int → Option R) → Int → Option R} {len fuel : Nat} (G : Nat → Option R) (hf : len < fuel)
  (step : ∀ (k : Int → Option R) (n : Nat),n < len → k ((n + 1 : Nat) : Int) = G (n + 1) → F k (n : Int) = G n) (last : ∀ k : Int → Option R,F k (len : Int) = G len) : Qcy F fuel 0 = G 0:=by
 have:=Qf3 (F:=F) (fun x=>∃ n : Nat,x = (n : Int) ∧ n ≤ len) (fun x=>len - x.toNat) (fun x r=>∀ n : Nat,x = (n : Int) → r = G n) (fun k x hx ih=>by
  obtain ⟨n,rfl,hn⟩:=hx
  intro m hm
  obtain rfl : n = m:=by omega
  by_cases h : n < len
  ·exact step k n h (ih _ ⟨n + 1,rfl,by omega⟩ (by omega) (n + 1) rfl)
  ·obtain rfl : n = len:=by omega
   exact last k) fuel 0 ⟨0,rfl,by omega⟩ (by simpa using hf)
 exact this 0 rfl
theorem Qbab {n : Nat} (h0 : 0 < n) (h : n < 9223372036854775807) : IntKind.wrap .i64 ((n : Int) - 1) = ((n - 1 : Nat) : Int):=by
 rw [Qlz (by omega) (by omega)]; omega
theorem Qbkp {X S R : Type} {F : (X → Option R) → X → Option R} {len : Nat} (mk : Nat → S → X) (G : Nat → S → Option R)
  (step : ∀ (k : X → Option R) (n : Nat) (s : S),n < len → (∀ s',k (mk (n + 1) s') = G (n + 1) s') → F k (mk n s) = G n s) (last : ∀ (k : X → Option R) (s : S),F k (mk len s) = G len s) :
  ∀ (fuel n : Nat) (s : S),n ≤ len → len - n < fuel → Qcy F fuel (mk n s) = G n s
 | 0,n,s,_,h=>by omega
 | fuel + 1,n,s,hn,h=>by
  show F (Qcy F fuel) (mk n s) = _
  by_cases hlt : n < len
  ·exact step _ n s hlt fun s'=>Qbkp mk G step last fuel (n + 1) s' (by omega) (by omega)
  ·obtain rfl : n = len:=by omega
   exact last _ s
theorem Qblf {i j : Nat} (hi : i < 1000000000000) (hj : j < 1000000000000) : IntKind.wrap .i64 (Int.fdiv (IntKind.wrap .u64 (IntKind.wrap .i64 ((i : Int) + j))) (2 ^ (min (Int.toNat 1) (IntKind.bits .u64)))) = (((i + j) / 2 : Nat) : Int):=by
 have h1 : IntKind.wrap .i64 ((i : Int) + j) = ((i + j : Nat) : Int):=by rw [Qlz (by omega) (by omega)]; omega
 have h2 : IntKind.wrap .u64 ((i + j : Nat) : Int) = ((i + j : Nat) : Int):=by
  simp [IntKind.wrap,IntKind.bits,IntKind.signed]; omega
 have h3 : (2 : Int) ^ (min (Int.toNat 1) (IntKind.bits .u64)) = 2:=by decide
 rw [h1,h2,h3,Int.fdiv_eq_ediv_of_nonneg _ (by omega),show ((i + j : Nat) : Int) / 2 = (((i + j) / 2 : Nat) : Int) from by omega,Qlz (by omega) (by omega)]
theorem Qbkq {α : Type} {l : List α} {i j : Nat} (h : i ≤ j) (hj : j ≤ l.length) : slcO l (i : Int) (j : Int) = some ((l.take j).drop i):=by
 simp [slcO,h,hj]
theorem Qbgy : ∀ {l m : List Int},l.Pairwise (· < ·) → m.Pairwise (· < ·) → (∀ x,x ∈ l ↔ x ∈ m) → l = m
 | l,m,h1,h2,h=>by
  have n1 : l.Nodup:=h1.imp fun h=>by omega
  have n2 : m.Nodup:=h2.imp fun h=>by omega
  have hp : l.Perm m:=(List.perm_ext_iff_of_nodup n1 n2).2 h
  exact List.Perm.eq_of_pairwise (le:=(· < ·)) (fun a b _ _ h1 h2=>by omega) h1 h2 hp
section
variable {α : Type} {p : α → Bool}
theorem Q70 : ∀ {l : List α},l.Pairwise (fun a b=>p b = true → p a = true) → ∀ (n : Nat) (h : n < l.length),p l[n] = true ↔ n < (l.filter p).length
 | [],_,n,h=>by simp at h
 | x :: xs,hs,n,h=>by
  obtain ⟨h1,h2⟩:=List.pairwise_cons.1 hs
  cases n with
  | zero =>
   cases hx : p x with
   | true=>simp [hx]
   | false =>
    have : xs.filter p = []:=List.filter_eq_nil_iff.2 fun y hy hp=>by have:=h1 y hy hp; rw [hx] at this; cases this
    simp [hx,this]
  | succ n =>
   have ih:=Q70 h2 n (by simpa using h)
   cases hx : p x with
   | true=>simp [hx,ih]
   | false =>
    have : xs.filter p = []:=List.filter_eq_nil_iff.2 fun y hy hp=>by have:=h1 y hy hp; rw [hx] at this; cases this
    rw [this] at ih
    simp [hx,this] at ih ⊢
    exact ih
end
theorem Qkh {X S R : Type} {F : (X → Option R) → X → Option R} {len : Nat} (mk : Nat → S → X) (I : Nat → S → Prop) (G : Nat → S → Option R)
  (step : ∀ (k : X → Option R) (n : Nat) (s : S),n < len → I n s → (∀ s',I (n + 1) s' → k (mk (n + 1) s') = G (n + 1) s') → F k (mk n s) = G n s) (last : ∀ (k : X → Option R) (s : S),I len s → F k (mk len s) = G len s) :
  ∀ (fuel n : Nat) (s : S),n ≤ len → len - n < fuel → I n s → Qcy F fuel (mk n s) = G n s
 | 0,n,s,_,h,_=>by omega
 | fuel + 1,n,s,hn,h,hi=>by
  show F (Qcy F fuel) (mk n s) = _
  by_cases hlt : n < len
  ·exact step _ n s hlt hi fun s' hi'=>Qkh mk I G step last fuel (n + 1) s' (by omega) (by omega) hi'
  ·obtain rfl : n = len:=by omega
   exact last _ s hi
theorem Qfg : ∀ {l : List Int} {a b : Int},l.Pairwise (· < ·) → (∀ x ∈ l,a ≤ x ∧ x < b) → l.length ≤ (b - a).toNat
 | [],_,_,_,_=>by simp
 | x :: xs,a,b,h,hr=>by
  obtain ⟨h1,h2⟩:=List.pairwise_cons.1 h
  have:=Qfg (a:=x + 1) (b:=b) h2 fun y hy=>⟨by have:=h1 y hy; omega,(hr y (by simp [hy])).2⟩
  have:=hr x (by simp)
  simp only [List.length_cons]
  omega
end Go.Abs
end
section
namespace Go.Abs
abbrev big : Nat := 1000000000000
def small (a : Qa) : Prop := a.Alphabet.length < big ∧ a.Marked.length < big ∧ a.Edges.length < big
end Go.Abs
end
section
namespace Go.Abs
open Go
set_option linter.unusedSimpArgs false
def Qdl (n : Int) : Option Int → List Int → Int
 | _,[]=>0
 | p,x :: xs=>if x < 0 ∨ x ≥ n then 2 else if ∃ y,p = some y ∧ x ≤ y then 5 else Qdl n (some x) xs
def Qir (al : List Int) (st : Int) : Option Qd → List Qd → Int
 | _,[]=>0
 | p,x :: xs=>if x.From < 0 ∨ x.From ≥ st ∨ x.To < 0 ∨ x.To ≥ st then 2 else if x.Event ∉ al then 9 else if ∃ y,p = some y ∧ (x.From < y.From ∨ x.From = y.From ∧ x.Event ≤ y.Event) then 5 else Qir al st (some x) xs
def Qvi (a : Qa) : Int :=
 if Qdl 32 none a.Alphabet ≠ 0 then Qdl 32 none a.Alphabet else if a.States < 0 then 2 else if a.States > 4096 then 3 else
 if Qdl a.States none a.Marked ≠ 0 then Qdl a.States none a.Marked else Qir a.Alphabet a.States none a.Edges
def ahead {α : Type} (l : List α) (n : Nat) : Option α:=if n = 0 then none else l[n - 1]?
theorem Qmx {α : Type} (l : List α) : ahead l 0 = none:=rfl
theorem Qbbq {α : Type} (l : List α) {n : Nat} (h : n < l.length) : ahead l (n + 1) = some l[n]:=by simp [ahead,h]
theorem Qbac {α : Type} (l : List α) {n : Nat} (h0 : 0 < n) (h : n ≤ l.length) : ahead l n = some (l[n - 1]'(by omega)):=by
 simp [ahead,show n ≠ 0 from by omega,show n - 1 < l.length from by omega]
theorem Q8f {n : Int} {l : List Int} {k : Nat} (h : k < l.length) : Qdl n (ahead l k) (l.drop k) = if l[k] < 0 ∨ l[k] ≥ n then 2 else if ∃ y,ahead l k = some y ∧ l[k] ≤ y then 5 else Qdl n (ahead l (k + 1)) (l.drop (k + 1)):=by
 rw [List.drop_eq_getElem_cons h,Qdl,Qbbq l h]
theorem Qbcn {al : List Int} {n : Int} {l : List Qd} {k : Nat} (h : k < l.length) : Qir al n (ahead l k) (l.drop k) = if l[k].From < 0 ∨ l[k].From ≥ n ∨ l[k].To < 0 ∨ l[k].To ≥ n then 2 else if l[k].Event ∉ al then 9 else if ∃ y,ahead l k = some y ∧ (l[k].From < y.From ∨ l[k].From = y.From ∧ l[k].Event ≤ y.Event) then 5 else Qir al n (ahead l (k + 1)) (l.drop (k + 1)):=by
 rw [List.drop_eq_getElem_cons h,Qir,Qbbq l h]
theorem Q5d {l : List Int} {n : Int} (hl : l.length < big) : Qe9 l n = some (Qdl n none l):=by
 unfold Qe9 Qbh
 refine (Qlo (len:=l.length) (fun k=>some (Qdl n (ahead l k) (l.drop k))) (by unfold Qb5; unfold big at hl; omega) ?_ ?_).trans (by simp [Qmx])
 ·intro k i hi ih
  have hb : i < 1000000000000:=by unfold big at hl; omega
  rw [Q8f hi]
  try dsimp only
  rw [if_pos (by omega),Qcs hi,Qbj (by omega),ih]
  simp only [Option.bind_some]
  by_cases h1 : l[i] < 0
  ·simp [h1]
  ·by_cases h2 : l[i] ≥ n
   ·simp [h1,h2]
   ·by_cases h0 : 0 < i
    ·rw [Qbab h0 (by omega),Qcs (by omega : i - 1 < l.length),Qbac l h0 (by omega)]
     by_cases h3 : l[i] ≤ l[i - 1] <;> simp [h1,h2,h3,h0]
    ·obtain rfl : i = 0:=by omega
     simp [h1,h2,Qmx]
 ·intro k; simp [Qdl]
theorem Qbkr {l : List Int} {v : Int} (hl : l.length < big) : Qer l v = some (if v ∈ l then (l.idxOf v : Int) else -1):=by
 unfold Qer Q7
 refine (Qlo (len:=l.length) (fun k=>some (if v ∈ l.drop k then ((k + (l.drop k).idxOf v : Nat) : Int) else -1)) (by unfold Qb5; unfold big at hl; omega) ?_ ?_).trans (by simp)
 ·intro k i hi ih
  have hb : i < 1000000000000:=by unfold big at hl; omega
  try dsimp only
  rw [if_pos (by omega),Qcs hi,Qbj (by omega),ih,List.drop_eq_getElem_cons hi]
  simp only [Option.bind_some,List.mem_cons,List.idxOf_cons]
  by_cases h : v = l[i]
  ·simp [← h]
  ·have : ¬ l[i] = v:=fun e=>h e.symm
   have hbq : (l[i] == v) = false:=by simp [this]
   by_cases h2 : v ∈ l.drop (i + 1) <;> simp [h,h2,hbq]
   omega
 ·intro k; simp
theorem Q5e {l : List Int} {v : Int} (hl : l.length < big) : Qcn l v = some (decide (v ∈ l)):=by
 unfold Qcn Ql
 rw [Qbkr hl]
 simp only [Option.bind_some,Option.some.injEq]
 by_cases h : v ∈ l <;> simp [h]
theorem Qblg {l : List Int} {v : Int} (hl : l.length < big) : Qco l v = some (decide (v ∈ l)):=by
 unfold Qco Q4
 refine (Qlo (len:=l.length) (fun k=>some (decide (v ∈ l.drop k))) (by unfold Qb5; unfold big at hl; omega) ?_ ?_).trans (by simp)
 ·intro k i hi ih
  have hb : i < 1000000000000:=by unfold big at hl; omega
  try dsimp only
  rw [if_pos (by omega),Qcs hi,Qbj (by omega),ih,List.drop_eq_getElem_cons hi]
  simp only [Option.bind_some,List.mem_cons]
  by_cases h : l[i] = v
  ·simp [h]
  ·have : ¬ v = l[i]:=fun e=>h e.symm
   simp [h,this]
 ·intro k; simp
theorem Qbco {a : Qa} (h : small a) : Qeh a = some (Qir a.Alphabet a.States none a.Edges):=by
 obtain ⟨hal,_,hl⟩:=h
 unfold Qeh Qbf
 refine (Qlo (len:=a.Edges.length) (fun k=>some (Qir a.Alphabet a.States (ahead a.Edges k) (a.Edges.drop k))) (by unfold Qb5; unfold big at hl; omega) ?_ ?_).trans (by simp [Qmx])
 ·intro k i hi ih
  have hb : i < 1000000000000:=by unfold big at hl; omega
  rw [Qbcn hi]
  unfold letJ
  try dsimp only
  rw [if_pos (by omega),Qcs hi,Qbj (by omega),ih]
  simp only [Option.bind_some,Q5e hal]
  generalize a.Edges[i] = x
  by_cases h1 : x.From < 0
  ·simp [h1]
  by_cases h2 : x.From ≥ a.States
  ·simp [h1,h2]
  by_cases h3 : x.To < 0
  ·simp [h1,h2,h3]
  by_cases h4 : x.To ≥ a.States
  ·simp [h1,h2,h3,h4]
  by_cases h5 : x.Event ∈ a.Alphabet
  ·by_cases h0 : 0 < i
   ·rw [Qbab h0 (by omega),Qcs (by omega : i - 1 < a.Edges.length),Qbac a.Edges h0 (by omega)]
    generalize a.Edges[i - 1] = y
    have hi0 : i ≠ 0:=by omega
    by_cases h6 : x.From < y.From
    ·simp [h1,h2,h3,h4,h5,h6,hi0]
    by_cases h7 : y.From = x.From
    ·by_cases h8 : x.Event ≤ y.Event <;> simp [h1,h2,h3,h4,h5,h6,h7,h8,hi0]
    ·have h7' : ¬ x.From = y.From:=fun e=>h7 e.symm
     simp [h1,h2,h3,h4,h5,h6,h7,hi0,h7']
   ·obtain rfl : i = 0:=by omega
    simp [h1,h2,h3,h4,h5,Qmx]
  ·simp [h1,h2,h3,h4,h5]
 ·intro k; unfold letJ; simp [Qir]
theorem Qbf8 {a : Qa} (h : small a) : Qdp a = some (Qvi a):=by
 unfold Qdp Qv Qvi
 rw [Q5d h.1,Q5d h.2.1,Qbco h]
 simp only [Option.bind_some]
 by_cases h1 : Qdl 32 none a.Alphabet = 0
 ·by_cases h2 : a.States < 0
  ·simp [h1,h2]
  by_cases h3 : a.States > 4096
  ·simp [h1,h2,h3]
  by_cases h4 : Qdl a.States none a.Marked = 0 <;> simp [h1,h2,h3,h4]
 ·simp [h1]
end Go.Abs
end
section
namespace Go.Abs
open Go
set_option linter.unusedSimpArgs false
set_option linter.unusedVariables false
def Qd0 (x y : Qd) : Prop:=x.From < y.From ∨ x.From = y.From ∧ x.Event < y.Event
instance (x y : Qd) : Decidable (Qd0 x y):=by unfold Qd0; infer_instance
structure Right (a : Qa) : Prop where
 al0 : ∀ x ∈ a.Alphabet,0 ≤ x ∧ x < 32
 al : a.Alphabet.Pairwise (· < ·)
 st : 0 ≤ a.States ∧ a.States ≤ 4096
 ma0 : ∀ x ∈ a.Marked,0 ≤ x ∧ x < a.States
 ma : a.Marked.Pairwise (· < ·)
 ed0 : ∀ x ∈ a.Edges,0 ≤ x.From ∧ x.From < a.States ∧ 0 ≤ x.To ∧ x.To < a.States ∧ x.Event ∈ a.Alphabet
 ed : a.Edges.Pairwise Qd0
theorem Qhe {n : Int} : ∀ {l : List Int} {p : Option Int},Qdl n p l = 0 ↔ (∀ x ∈ l,0 ≤ x ∧ x < n) ∧ l.Pairwise (· < ·) ∧ ∀ y,p = some y → ∀ x ∈ l,y < x
 | [],p=>by simp [Qdl]
 | x :: xs,p=>by
  rw [Qdl]
  split
  ·rename_i h
   refine ⟨fun h=>by omega,fun hh=>?_⟩
   have:=hh.1 x (by simp); omega
  ·rename_i h
   split
   ·rename_i h2
    obtain ⟨y,hy,hxy⟩:=h2
    refine ⟨fun h=>by omega,fun hh=>?_⟩
    have:=hh.2.2 y hy x (by simp); omega
   ·rename_i h2
    rw [Qhe]
    constructor
    ·rintro ⟨k1,k2,k3⟩
     refine ⟨fun z hz=>?_,List.pairwise_cons.2 ⟨fun z hz=>k3 x rfl z hz,k2⟩,fun y hy z hz=>?_⟩
     ·rcases List.mem_cons.1 hz with rfl | hz
      ·omega
      ·exact k1 z hz
     ·have hyx : y < x:=by
       rcases Int.lt_or_le y x with h | h
       ·exact h
       ·exact absurd ⟨y,hy,h⟩ h2
      rcases List.mem_cons.1 hz with rfl | hz
      ·exact hyx
      ·have:=k3 x rfl z hz; omega
    ·rintro ⟨k1,k2,k3⟩
     obtain ⟨k4,k5⟩:=List.pairwise_cons.1 k2
     exact ⟨fun z hz=>k1 z (by simp [hz]),k5,fun y hy z hz=>by cases hy; exact k4 z hz⟩
theorem Qvj {al : List Int} {n : Int} : ∀ {l : List Qd} {p : Option Qd},Qir al n p l = 0 ↔ (∀ x ∈ l,0 ≤ x.From ∧ x.From < n ∧ 0 ≤ x.To ∧ x.To < n ∧ x.Event ∈ al) ∧ l.Pairwise Qd0 ∧ ∀ y,p = some y → ∀ x ∈ l,Qd0 y x
 | [],p=>by simp [Qir]
 | x :: xs,p=>by
  have tr : ∀ a b c : Qd,Qd0 a b → Qd0 b c → Qd0 a c:=fun a b c h k=>by unfold Qd0 at *; omega
  rw [Qir]
  split
  ·rename_i h
   refine ⟨fun h=>by omega,fun hh=>?_⟩
   have:=hh.1 x (by simp); omega
  ·rename_i h
   split
   ·rename_i h2
    refine ⟨fun h=>by omega,fun hh=>?_⟩
    exact absurd (hh.1 x (by simp)).2.2.2.2 h2
   ·rename_i hal
    split
    ·rename_i h2
     obtain ⟨y,hy,hxy⟩:=h2
     refine ⟨fun h=>by omega,fun hh=>?_⟩
     have:=hh.2.2 y hy x (by simp)
     unfold Qd0 at this; omega
    ·rename_i h2
     rw [Qvj]
     constructor
     ·rintro ⟨k1,k2,k3⟩
      refine ⟨fun z hz=>?_,List.pairwise_cons.2 ⟨fun z hz=>k3 x rfl z hz,k2⟩,fun y hy z hz=>?_⟩
      ·rcases List.mem_cons.1 hz with rfl | hz
       ·exact ⟨by omega,by omega,by omega,by omega,Decidable.not_not.1 hal⟩
       ·exact k1 z hz
      ·have hyx : Qd0 y x:=by
        apply Decidable.byContradiction
        intro h
        exact h2 ⟨y,hy,by unfold Qd0 at h; omega⟩
       rcases List.mem_cons.1 hz with rfl | hz
       ·exact hyx
       ·exact tr _ _ _ hyx (k3 x rfl z hz)
     ·rintro ⟨k1,k2,k3⟩
      obtain ⟨k4,k5⟩:=List.pairwise_cons.1 k2
      exact ⟨fun z hz=>k1 z (by simp [hz]),k5,fun y hy z hz=>by cases hy; exact k4 z hz⟩
theorem Qbdx {a : Qa} : Qvi a = 0 ↔ Right a:=by
 unfold Qvi
 constructor
 ·intro h
  split at h
  ·rename_i h1; exact absurd h h1
  rename_i h1
  split at h
  ·omega
  split at h
  ·omega
  split at h
  ·rename_i h4; exact absurd h h4
  rename_i h4
  have q1:=Qhe.1 (Decidable.not_not.1 h1)
  have q2:=Qhe.1 (Decidable.not_not.1 h4)
  have q3:=Qvj.1 h
  exact ⟨q1.1,q1.2.1,⟨by omega,by omega⟩,q2.1,q2.2.1,q3.1,q3.2.1⟩
 ·intro h
  have q1 : Qdl 32 none a.Alphabet = 0:=Qhe.2 ⟨h.al0,h.al,fun y hy=>by cases hy⟩
  have q2 : Qdl a.States none a.Marked = 0:=Qhe.2 ⟨h.ma0,h.ma,fun y hy=>by cases hy⟩
  have q3 : Qir a.Alphabet a.States none a.Edges = 0:=Qvj.2 ⟨h.ed0,h.ed,fun y hy=>by cases hy⟩
  have:=h.st
  rw [if_neg (by simp [q1]),if_neg (by omega),if_neg (by omega),if_neg (by simp [q2]),q3]
def outP (a : Qa) (s : Int) : List Qd:=a.Edges.filter fun x=>x.From == s
def Qd6 (a : Qa) (s e : Int) : Int:=match a.Edges.find? fun x=>x.From == s && x.Event == e with
 | some x=>x.To
 | none=>-1
theorem Qbjc {l : List Qd} (h : l.Pairwise Qd0) (s : Int) : l.Pairwise fun a b=>decide (b.From < s) = true → decide (a.From < s) = true :=
 h.imp fun h=>by unfold Qd0 at h; simp; omega
theorem Qblh {l : List Qd} {s : Int} {cmp : Qd → Int → Option Int} (hcmp : ∀ x ∈ l,cmp x s = some (x.From - s)) (hs : l.Pairwise Qd0) (hl : l.length < big) :
  ∃ b,Qc0 l s cmp = some (((l.filter fun x=>decide (x.From < s)).length : Int),b):=by
 have hc:=fun n h=>Q70 (p:=fun x : Qd=>decide (x.From < s)) (Qbjc hs s) n h
 have hcl : (l.filter fun x=>decide (x.From < s)).length ≤ l.length:=List.length_filter_le _ _
 generalize (l.filter fun x=>decide (x.From < s)).length = c at hc hcl
 have hb : l.length < 1000000000000:=hl
 unfold Qc0 Qt
 have hloop:=Qf3 (F:=fun (k13 : Int × Int → Option Int) ((i11,j12) : Int × Int)=>(if (i11 < j12) then ((getO l (IntKind.wrap .i64 (Int.fdiv (IntKind.wrap .u64 (IntKind.wrap .i64 (i11 + j12))) (2 ^ (min (Int.toNat 1) (IntKind.bits .u64)))))).bind fun x15=>((cmp x15 s).bind fun x18=>(if (x18 < 0) then k13 ((IntKind.wrap .i64 ((IntKind.wrap .i64 (Int.fdiv (IntKind.wrap .u64 (IntKind.wrap .i64 (i11 + j12))) (2 ^ (min (Int.toNat 1) (IntKind.bits .u64))))) + 1)),j12) else k13 (i11,(IntKind.wrap .i64 (Int.fdiv (IntKind.wrap .u64 (IntKind.wrap .i64 (i11 + j12))) (2 ^ (min (Int.toNat 1) (IntKind.bits .u64))))))))) else some i11))
  (fun x=>∃ i j : Nat,x = ((i : Int),(j : Int)) ∧ i ≤ c ∧ c ≤ j ∧ j ≤ l.length) (fun x=>(x.2 - x.1).toNat) (fun _ r=>r = some (c : Int)) (by
   rintro k _ ⟨i,j,rfl,h1,h2,h3⟩ ih
   dsimp only
   by_cases hij : i < j
   ·rw [if_pos (by omega),Qblf (by omega) (by omega)]
    have hm : (i + j) / 2 < l.length:=by omega
    rw [Qcs hm]
    simp only [Option.bind_some]
    rw [hcmp _ (List.getElem_mem hm)]
    simp only [Option.bind_some]
    have hcm:=hc ((i + j) / 2) hm
    by_cases hlt : l[(i + j) / 2].From < s
    ·rw [if_pos (by omega),Qbj (by omega)]
     have : (i + j) / 2 < c:=hcm.1 (by simpa using hlt)
     exact ih _ ⟨_,_,rfl,by omega,h2,h3⟩ (by simp only; omega)
    ·rw [if_neg (by omega)]
     have : ¬ (i + j) / 2 < c:=fun h=>hlt (by simpa using hcm.2 h)
     exact ih _ ⟨_,_,rfl,h1,by omega,by omega⟩ (by simp only; omega)
   ·rw [if_neg (by omega)]
    have : i = c:=by omega
    rw [this]) Qb5 (0,(l.length : Int)) ⟨0,l.length,rfl,by omega,hcl,Nat.le_refl _⟩ (by unfold Qb5; simp only; omega)
 rw [hloop]
 simp only [Option.bind_some]
 by_cases hlt : c < l.length
 ·rw [if_pos (by omega),Qcs hlt]
  simp only [Option.bind_some]
  rw [hcmp _ (List.getElem_mem hlt)]
  exact ⟨_,rfl⟩
 ·rw [if_neg (by omega)]
  exact ⟨_,rfl⟩
theorem Qbdy : ∀ {l : List Qd} (s : Int),l.Pairwise Qd0 → (l.take (l.filter fun x=>decide (x.From < s + 1)).length).drop (l.filter fun x=>decide (x.From < s)).length = l.filter fun x=>x.From == s
 | [],s,_=>by simp
 | x :: xs,s,h=>by
  obtain ⟨h1,h2⟩:=List.pairwise_cons.1 h
  have ih:=Qbdy s h2
  have hge : ∀ y ∈ xs,x.From ≤ y.From:=fun y hy=>by have:=h1 y hy; unfold Qd0 at this; omega
  by_cases hx : x.From < s
  ·have e1 : decide (x.From < s) = true:=by simpa using hx
   have e2 : decide (x.From < s + 1) = true:=by simp; omega
   have e3 : (x.From == s) = false:=by simp; omega
   simp only [List.filter_cons,e1,e2,e3,if_true,List.length_cons,List.take_succ_cons,List.drop_succ_cons,Bool.false_eq_true,if_false]
   exact ih
  ·have hz : xs.filter (fun x=>decide (x.From < s)) = []:=List.filter_eq_nil_iff.2 fun y hy=>by have:=hge y hy; simp; omega
   have e1 : decide (x.From < s) = false:=by simpa using hx
   by_cases hq : x.From = s
   ·have e2 : decide (x.From < s + 1) = true:=by simp; omega
    have e3 : (x.From == s) = true:=by simp [hq]
    simp only [List.filter_cons,e1,e2,e3,if_true,List.length_cons,List.take_succ_cons,Bool.false_eq_true,if_false,hz,List.length_nil,List.drop_zero]
    rw [hz,List.length_nil,List.drop_zero] at ih
    rw [ih]
   ·have e2 : decide (x.From < s + 1) = false:=by simp; omega
    have e3 : (x.From == s) = false:=by simp [hq]
    have hz1 : xs.filter (fun x=>decide (x.From < s + 1)) = []:=List.filter_eq_nil_iff.2 fun y hy=>by have:=hge y hy; simp; omega
    have hz2 : xs.filter (fun x=>x.From == s) = []:=List.filter_eq_nil_iff.2 fun y hy=>by have:=hge y hy; simp; omega
    simp only [List.filter_cons,e1,e2,e3,Bool.false_eq_true,if_false,hz,hz1,hz2,List.length_nil,List.take_zero,List.drop_zero]
section
variable {a : Qa} (h : Right a) (hs : small a)
include h hs
theorem Qbm6 {s : Int} (h0 : -1000000000000 < s) (h1 : s < 1000000000000) : Qed a s = some (outP a s):=by
 unfold Qed Qbn
 have hst:=h.st
 have hw : ∀ t : Int,-1000000000002 < t → t < 1000000000002 → ∀ x ∈ a.Edges,IntKind.wrap .i64 (x.From - t) = x.From - t:=fun t k1 k2 x hx=>by
  have:=h.ed0 x hx; exact Qlz (by omega) (by omega)
 have e1 : IntKind.wrap .i64 (s + 1) = s + 1:=Qlz (by omega) (by omega)
 obtain ⟨b1,k1⟩:=Qblh (s:=s) (cmp:=Qhi) (fun x hx=>by unfold Qhi Qcq; rw [hw s (by omega) (by omega) x hx]) h.ed hs.2.2
 obtain ⟨b2,k2⟩:=Qblh (s:=s + 1) (cmp:=Qhj) (fun x hx=>by unfold Qhj Qcr; rw [hw (s + 1) (by omega) (by omega) x hx]) h.ed hs.2.2
 rw [k1,e1]
 simp only [Option.bind_some]
 rw [k2]
 simp only [Option.bind_some]
 have hle : (a.Edges.filter fun x=>decide (x.From < s)).length ≤ (a.Edges.filter fun x=>decide (x.From < s + 1)).length :=
  by rw [← List.countP_eq_length_filter,← List.countP_eq_length_filter]; exact List.countP_mono_left fun x _ hx=>by simp at hx ⊢; omega
 rw [Qbkq hle (List.length_filter_le _ _),Qbdy s h.ed]
 rfl
omit h in
theorem Qbbr {s e : Int} : Qbz a s e = some (Qd6 a s e):=by
 have hb : a.Edges.length < 1000000000000:=hs.2.2
 unfold Qbz Qz
 refine (Qlo (len:=a.Edges.length) (fun k=>some (match (a.Edges.drop k).find? (fun x=>x.From == s && x.Event == e) with | some x=>x.To | none=>-1)) (by unfold Qb5; omega) ?_ ?_).trans (by simp [Qd6])
 ·intro k i hi ih
  rw [if_pos (by omega),Qcs hi,Qbj (by omega),ih,List.drop_eq_getElem_cons hi]
  simp only [Option.bind_some,List.find?_cons]
  cases h1 : a.Edges[i].From == s <;> cases h2 : a.Edges[i].Event == e <;> simp [h1,h2]
 ·intro k; simp
end
theorem Qbad {a : Qa} (h : Right a) (s e : Int) : Qd6 a s e = -1 ∨ 0 ≤ Qd6 a s e ∧ Qd6 a s e < a.States ∧ 0 ≤ s ∧ s < a.States ∧ e ∈ a.Alphabet:=by
 unfold Qd6
 split
 ·rename_i x hx
  have hm:=List.mem_of_find?_eq_some hx
  have hp:=List.find?_some hx
  obtain ⟨k1,k2,k3,k4,k5⟩:=h.ed0 x hm
  simp at hp
  exact .inr ⟨k3,k4,by omega,by omega,hp.2 ▸ k5⟩
 ·exact .inl rfl
theorem Q8g {a : Qa} (h : Right a) {s e : Int} : 0 ≤ Qd6 a s e ↔ ∃ x ∈ outP a s,x.Event = e:=by
 unfold Qd6 outP
 split
 ·rename_i x hx
  have hm:=List.mem_of_find?_eq_some hx
  have hp:=List.find?_some hx
  simp at hp
  refine ⟨fun _=>⟨x,by simp [hm,hp.1],hp.2⟩,fun _=>(h.ed0 x hm).2.2.1⟩
 ·rename_i hx
  have:=List.find?_eq_none.1 hx
  refine ⟨fun h=>by omega,?_⟩
  rintro ⟨x,h1,h2⟩
  simp at h1
  exact absurd (by simp [h1.2,h2]) (this x h1.1)
theorem Q5f {a : Qa} (h : Right a) (s : Int) : (outP a s).map (·.Event) = a.Alphabet.filter fun e=>decide (0 ≤ Qd6 a s e):=by
 refine Qbgy ?_ (h.al.filter _) fun e=>?_
 ·rw [List.pairwise_map]
  have h1 : (outP a s).Pairwise Qd0:=h.ed.filter _
  have h2 : ∀ x ∈ outP a s,x.From = s:=fun x hx=>by unfold outP at hx; simp at hx; exact hx.2
  exact List.Pairwise.imp_of_mem (fun {x y} hx hy hk=>by have:=h2 x hx; have:=h2 y hy; unfold Qd0 at hk; omega) h1
 ·simp only [List.mem_map,List.mem_filter,decide_eq_true_eq,Q8g h]
  constructor
  ·rintro ⟨x,hx,rfl⟩
   refine ⟨?_,x,hx,rfl⟩
   unfold outP at hx; simp at hx; exact (h.ed0 x hx.1).2.2.2.2
  ·rintro ⟨_,x,hx,rfl⟩; exact ⟨x,hx,rfl⟩
theorem Q63 {a : Qa} (h : Right a) {s : Int} {x : Qd} (hx : x ∈ outP a s) : Qd6 a s x.Event = x.To:=by
 unfold outP at hx
 simp at hx
 unfold Qd6
 split
 ·rename_i y hy
  have hm:=List.mem_of_find?_eq_some hy
  have hp:=List.find?_some hy
  simp at hp
  have : x = y:=by
   rcases Classical.em (x = y) with e | hne
   ·exact e
   ·exfalso
    have hk : Qd0 x y ∨ Qd0 y x:=by
     have:=List.pairwise_iff_getElem.1 h.ed
     obtain ⟨i,hi,rfl⟩:=List.getElem_of_mem hx.1
     obtain ⟨j,hj,rfl⟩:=List.getElem_of_mem hm
     rcases Nat.lt_trichotomy i j with hij | hij | hij
     ·exact .inl (this i j hi hj hij)
     ·subst hij; exact absurd rfl hne
     ·exact .inr (this j i hj hi hij)
    unfold Qd0 at hk; omega
  rw [this]
 ·rename_i hn
  exact absurd (by simp [hx.2]) (List.find?_eq_none.1 hn x hx.1)
end Go.Abs
end
section
namespace Go.Abs
open Go
set_option linter.unusedSimpArgs false
set_option linter.unusedVariables false
theorem Right.small {a : Qa} (h : Right a) : small a ∧ a.Alphabet.length ≤ 32 ∧ a.Marked.length ≤ 4096 ∧ a.Edges.length ≤ 131072:=by
 have h1:=Qfg h.al h.al0
 have h2:=Qfg h.ma h.ma0
 have h3 : (a.Edges.map fun x=>x.From * 32 + x.Event).Pairwise (· < ·):=by
  rw [List.pairwise_map]
  refine List.Pairwise.imp_of_mem (fun {x y} hx hy hk=>?_) h.ed
  have:=h.al0 _ (h.ed0 x hx).2.2.2.2
  have:=h.al0 _ (h.ed0 y hy).2.2.2.2
  unfold Qd0 at hk; omega
 have h4:=Qfg (a:=0) (b:=131072) h3 (by
  intro z hz
  obtain ⟨x,hx,rfl⟩:=List.mem_map.1 hz
  have:=h.al0 _ (h.ed0 x hx).2.2.2.2
  have:=h.ed0 x hx
  have:=h.st
  omega)
 rw [List.length_map] at h4
 have:=h.st
 refine ⟨⟨?_,?_,?_⟩,?_,?_,?_⟩ <;> (try unfold big) <;> omega
theorem Qbe2 {a : Qa} (h : Right a) : Qdp a = some 0:=by rw [Qbf8 h.small.1,Qbdx.2 h]
end Go.Abs
end
section
namespace Go.Abs
open Go
set_option linter.unusedSimpArgs false
set_option linter.unusedVariables false
def ins (o : List Int) (t : Int) : List Int:=if t ∈ o then o else o ++ [t]
def Qfz (a : Qa) (s : Int) : List Int:=(outP a s).map (·.To)
def bfs (a : Qa) : Nat → Nat → List Int → List Int
 | 0,_,o=>o
 | fuel + 1,i,o=>match o[i]? with
  | some s=>bfs a fuel (i + 1) ((Qfz a s).foldl ins o)
  | none=>o
def Qce (a : Qa) : List Int:=bfs a (a.States.toNat + 1) 0 (if 0 < a.States then [0] else [])
structure Fnd (a : Qa) (o : List Int) : Prop where
 nd : o.Nodup
 rg : ∀ s ∈ o,0 ≤ s ∧ s < a.States
theorem Fnd.len {a : Qa} {o : List Int} (h : Fnd a o) : o.length ≤ a.States.toNat:=by
 have hO : Go.Sort.SWO Qeb:=⟨fun x=>by simp [Qeb],fun x y z h1 h2=>by simp [Qeb] at *; omega,fun x y z h1 h2=>by simp [Qeb] at *; omega⟩
 have hp:=Qjk Qeb o
 have hs:=Qkd hO o
 have hn : (Qhm Qeb o).Nodup:=(hp.nodup_iff).2 h.nd
 have hlt : (Qhm Qeb o).Pairwise (· < ·):=by
  have : (Qhm Qeb o).Pairwise fun x y=>Qeb y x = false ∧ x ≠ y:=hs.and hn
  exact this.imp fun ⟨h1,h2⟩=>by simp [Qeb] at h1; omega
 have:=Qfg hlt (a:=0) (b:=a.States) fun x hx=>h.rg x (hp.mem_iff.1 hx)
 rw [Qhh] at this
 simpa using this
theorem Q5g {o : List Int} {t x : Int} : x ∈ ins o t ↔ x ∈ o ∨ x = t:=by
 unfold ins; split
 ·rename_i h; constructor
  ·exact .inl
  ·rintro (h' | rfl)
   ·exact h'
   ·exact h
 ·simp
theorem Qbjd (o : List Int) (t : Int) : o <+: ins o t:=by
 unfold ins; split
 ·exact List.prefix_refl o
 ·exact List.prefix_append o [t]
theorem Fnd.ins {a : Qa} {o : List Int} (h : Fnd a o) {t : Int} (ht : 0 ≤ t ∧ t < a.States) : Fnd a (ins o t):=by
 refine ⟨?_,fun s hs=>?_⟩
 ·unfold Go.Abs.ins; split
  ·exact h.nd
  ·rename_i hn
   rw [List.nodup_append]
   exact ⟨h.nd,by simp,fun x hx y hy=>by simp at hy; subst hy; exact fun e=>hn (e ▸ hx)⟩
 ·rcases Q5g.1 hs with hs | rfl
  ·exact h.rg s hs
  ·exact ht
theorem Q06 {a : Qa} : ∀ {ts o : List Int},Fnd a o → (∀ t ∈ ts,0 ≤ t ∧ t < a.States) → Fnd a (ts.foldl ins o) ∧ o <+: ts.foldl ins o ∧ (∀ t ∈ ts,t ∈ ts.foldl ins o) ∧ ∀ x ∈ ts.foldl ins o,x ∈ o ∨ x ∈ ts
 | [],o,h,_=>⟨h,List.prefix_refl o,by simp,fun x hx=>.inl hx⟩
 | t :: ts,o,h,ht=>by
  obtain ⟨h1,h2,h3,h4⟩:=Q06 (ts:=ts) (h.ins (ht t (by simp))) fun t ht'=>ht t (by simp [ht'])
  refine ⟨h1,(Qbjd o t).trans h2,fun x hx=>?_,fun x hx=>?_⟩
  ·rcases List.mem_cons.1 hx with rfl | hx
   ·exact h2.subset (Q5g.2 (.inr rfl))
   ·exact h3 x hx
  ·rcases h4 x hx with h5 | h5
   ·rcases Q5g.1 h5 with h6 | rfl
    ·exact .inl h6
    ·exact .inr (by simp)
   ·exact .inr (by simp [h5])
theorem Qvk {a : Qa} (h : Right a) (s : Int) : ∀ t ∈ Qfz a s,0 ≤ t ∧ t < a.States:=by
 intro t ht
 unfold Qfz outP at ht
 obtain ⟨x,hx,rfl⟩:=List.mem_map.1 ht
 have:=h.ed0 x ((List.mem_filter.1 hx).1)
 omega
theorem Qmy {α : Type} {l m : List α} (h : l <+: m) {i : Nat} {x : α} (hx : l[i]? = some x) : m[i]? = some x:=by
 obtain ⟨t,rfl⟩:=h
 have:=(List.getElem?_eq_some_iff.1 hx).1
 rw [List.getElem?_append_left this]; exact hx
theorem Qbcp {a : Qa} (h : Right a) : ∀ (fuel i : Nat) (o : List Int),Fnd a o → i ≤ o.length → a.States.toNat + 1 ≤ fuel + i → (∀ j s,j < i → o[j]? = some s → ∀ t ∈ Qfz a s,t ∈ o) →
  Fnd a (bfs a fuel i o) ∧ o <+: bfs a fuel i o ∧ ∀ s ∈ bfs a fuel i o,∀ t ∈ Qfz a s,t ∈ bfs a fuel i o
 | 0,i,o,hf,hi,hfu,_=>by have:=hf.len; omega
 | fuel + 1,i,o,hf,hi,hfu,hc=>by
  unfold bfs
  cases hg : o[i]? with
  | none =>
   dsimp only
   refine ⟨hf,List.prefix_refl o,fun s hs t ht=>?_⟩
   obtain ⟨j,hj⟩:=List.getElem?_of_mem hs
   have hlt:=(List.getElem?_eq_some_iff.1 hj).1
   exact hc j s (by have:=List.getElem?_eq_none_iff.1 hg; omega) hj t ht
  | some s =>
   dsimp only
   obtain ⟨h1,h2,h3,_⟩:=Q06 hf (Qvk h s)
   have hlen : i < o.length:=(List.getElem?_eq_some_iff.1 hg).1
   have hle:=h2.length_le
   obtain ⟨k1,k2,k3⟩:=Qbcp h fuel (i + 1) ((Qfz a s).foldl ins o) h1 (by omega) (by omega) (fun j s' hj hs' t ht=>by
    by_cases hji : j < i
    ·have hjl : j < o.length:=by omega
     have : o[j]? = some s':=by
      have:=Qmy h2 (List.getElem?_eq_getElem hjl)
      rw [hs'] at this; rw [List.getElem?_eq_getElem hjl]; exact this.symm
     exact h2.subset (hc j s' hji this t ht)
    ·obtain rfl : j = i:=by omega
     have:=Qmy h2 hg
     rw [hs'] at this; cases this
     exact h3 t ht)
   exact ⟨k1,h2.trans k2,k3⟩
theorem Qjp {a : Qa} (h : Right a) : Fnd a (Qce a) ∧ (if 0 < a.States then [0] else []) <+: Qce a ∧ ∀ s ∈ Qce a,∀ t ∈ Qfz a s,t ∈ Qce a :=
 Qbcp h _ 0 _ ⟨by split <;> simp,fun s hs=>by split at hs <;> simp at hs; subst hs; omega⟩ (Nat.zero_le _) (by omega) fun j s hj=>by omega
def Qjq (m : List Int) : Nat → List Int → List Int
 | _,[]=>[]
 | i,s :: t=>(if s ∈ m then [(i : Int)] else []) ++ Qjq m (i + 1) t
def rowP (a : Qa) (F : List Int) (i : Nat) (s : Int) : List Qd:=(outP a s).map fun x=>⟨(i : Int),x.Event,(F.idxOf x.To : Int)⟩
def Qgq (a : Qa) (F : List Int) : Nat → List Int → List Qd
 | _,[]=>[]
 | i,s :: t=>rowP a F i s ++ Qgq a F (i + 1) t
def Qfi (a : Qa) : Qa:=⟨a.Alphabet,((Qce a).length : Int),Qjq a.Marked 0 (Qce a),Qgq a (Qce a) 0 (Qce a)⟩
theorem Q07 {m : List Int} : ∀ {l : List Int} {i : Nat},∀ x ∈ Qjq m i l,(i : Int) ≤ x ∧ x < (i + l.length : Nat)
 | [],i,x,hx=>by simp [Qjq] at hx
 | s :: t,i,x,hx=>by
  simp only [Qjq,List.mem_append] at hx
  rcases hx with hx | hx
  ·split at hx <;> simp at hx
   subst hx; simp only [List.length_cons]; omega
  ·have:=Q07 x hx; simp only [List.length_cons]; omega
theorem Qvl {m : List Int} : ∀ {l : List Int} {i : Nat},(Qjq m i l).Pairwise (· < ·)
 | [],i=>.nil
 | s :: t,i=>by
  simp only [Qjq]
  rw [List.pairwise_append]
  refine ⟨by split <;> simp,Qvl,fun x hx y hy=>?_⟩
  have:=Q07 y hy
  split at hx <;> simp at hx
  omega
theorem Qvm {a : Qa} {F : List Int} : ∀ {l : List Int} {i : Nat},∀ x ∈ Qgq a F i l,(i : Int) ≤ x.From ∧ x.From < (i + l.length : Nat) ∧ ∃ s ∈ l,∃ y ∈ outP a s,x.Event = y.Event ∧ x.To = (F.idxOf y.To : Int)
 | [],i,x,hx=>by simp [Qgq] at hx
 | s :: t,i,x,hx=>by
  simp only [Qgq,List.mem_append] at hx
  rcases hx with hx | hx
  ·obtain ⟨y,hy,rfl⟩:=List.mem_map.1 hx
   simp only [List.length_cons]
   exact ⟨by omega,by omega,s,by simp,y,hy,rfl,rfl⟩
  ·obtain ⟨h1,h2,s',h3,h4⟩:=Qvm x hx
   simp only [List.length_cons]
   exact ⟨by omega,by omega,s',by simp [h3],h4⟩
theorem Q64 {a : Qa} (h : Right a) {F : List Int} : ∀ {l : List Int} {i : Nat},(Qgq a F i l).Pairwise Qd0
 | [],i=>.nil
 | s :: t,i=>by
  simp only [Qgq]
  rw [List.pairwise_append]
  refine ⟨?_,Q64 h,fun x hx y hy=>?_⟩
  ·unfold rowP
   rw [List.pairwise_map]
   have h1 : (outP a s).Pairwise Qd0:=h.ed.filter _
   have h2 : ∀ x ∈ outP a s,x.From = s:=fun x hx=>by unfold outP at hx; simp at hx; exact hx.2
   exact List.Pairwise.imp_of_mem (fun {x y} hx hy hk=>by have:=h2 x hx; have:=h2 y hy; unfold Qd0 at hk; exact .inr ⟨rfl,by show x.Event < y.Event; omega⟩) h1
  ·obtain ⟨z,_,rfl⟩:=List.mem_map.1 hx
   have:=(Qvm y hy).1
   unfold Qd0; simp only; omega
theorem Q8h {a : Qa} (h : Right a) : Right (Qfi a):=by
 obtain ⟨h1,h2,h3⟩:=Qjp h
 have hl:=h1.len
 have hst:=h.st
 refine ⟨h.al0,h.al,⟨by simp only [Qfi]; omega,by simp only [Qfi]; omega⟩,fun x hx=>?_,Qvl,fun x hx=>?_,Q64 h⟩
 ·have:=Q07 x hx; simp only [Qfi]; omega
 ·obtain ⟨k1,k2,s,hs,y,hy,k3,k4⟩:=Qvm x hx
  have hy' : y.To ∈ Qce a:=h3 s hs y.To (List.mem_map.2 ⟨y,hy,rfl⟩)
  have:=List.idxOf_lt_length_iff.2 hy'
  simp only [Qfi]
  refine ⟨by omega,by omega,by omega,by omega,?_⟩
  rw [k3]
  unfold outP at hy
  exact (h.ed0 y ((List.mem_filter.1 hy).1)).2.2.2.2
end Go.Abs
end
section
namespace Go.Abs
open Go
set_option linter.unusedSimpArgs false
set_option linter.unusedVariables false
theorem Qbf9 {l : List Int} (hl : l.length ≤ lim) : Qdu l = some ⟨l,0,[],[]⟩:=by
 unfold Qdu Qs
 rw [Qdf (by simpa using hl)]; rfl
theorem Qbe3 {l : List Int} {v : Int} (hl : l.length < big) : Qdv l v = some (if v ∈ l then (l.idxOf v : Int) else -1):=by
 have hb : l.length < 1000000000000:=hl
 unfold Qdv Qbq
 refine (Qlo (len:=l.length) (fun k=>some (if v ∈ l.drop k then ((k + (l.drop k).idxOf v : Nat) : Int) else -1)) (by unfold Qb5; omega) ?_ ?_).trans (by simp)
 ·intro k i hi ih
  rw [if_pos (by omega),Qcs hi,Qbj (by omega),ih,List.drop_eq_getElem_cons hi]
  simp only [Option.bind_some,List.mem_cons,List.idxOf_cons]
  by_cases h : v = l[i]
  ·simp [← h]
  ·have h' : ¬ l[i] = v:=fun e=>h e.symm
   have hbq : (l[i] == v) = false:=by simp [h']
   by_cases h2 : v ∈ l.drop (i + 1) <;> simp [h,h2,hbq]
   omega
 ·intro k; simp
theorem Q08 {a : Qa} (h : Right a) (s : Int) : Qfz a s = (a.Alphabet.filter fun e=>decide (0 ≤ Qd6 a s e)).map (Qd6 a s):=by
 rw [← Q5f h,List.map_map]
 unfold Qfz
 exact List.map_congr_left fun x hx=>(Q63 h hx).symm
theorem Qbbs {a : Qa} (s : Int) : ∀ (al o : List Int),al.foldl (fun o e=>if 0 ≤ Qd6 a s e then ins o (Qd6 a s e) else o) o = ((al.filter fun e=>decide (0 ≤ Qd6 a s e)).map (Qd6 a s)).foldl ins o
 | [],o=>rfl
 | e :: al,o=>by
  by_cases hx : 0 ≤ Qd6 a s e <;> simp [List.filter_cons,hx,Qbbs s al]
theorem Qbga {a : Qa} {fuel i : Nat} {o : List Int} (hi : i < o.length) : bfs a (fuel + 1) i o = bfs a fuel (i + 1) ((Qfz a o[i]).foldl ins o):=by
 conv=>lhs; unfold bfs
 rw [List.getElem?_eq_getElem hi]
theorem Qbje {a : Qa} {fuel : Nat} {o : List Int} : bfs a fuel o.length o = o:=by
 cases fuel with
 | zero=>rfl
 | succ n=>unfold bfs; simp
section
variable {a : Qa} (h : Right a)
include h
theorem Qbgz (fuel : Nat) (hfu : 1099511627776 ≤ fuel) {s : Int} {o : List Int} {i : Nat} (hf : Fnd a o) (hi : o[i]? = some s) :
  Qcy (fun k12 ((out10,k11) : (List Int) × Int)=>(if (k11 < (a.Alphabet.length : Int)) then ((((getO out10 (i : Int)).bind fun x14=>((getO a.Alphabet k11).bind fun x16=>((Qbz a x14 x16).bind fun x19=>(((if (x19 ≥ 0) then ((Qco out10 x19).bind fun x22=>some (!x22)) else some false)).bind fun (x23 : Bool)=>(if x23 then ((appO out10 [x19]).bind fun x25=>some x25) else some out10)))))).bind fun (out27 : List Int)=>k12 (out27,(IntKind.wrap .i64 (k11 + 1)))) else some out10)) fuel (o,0) = some ((Qfz a s).foldl ins o):=by
 have hs:=h.small.1
 have hst:=h.st
 have hb : a.Alphabet.length < 1000000000000:=hs.1
 rw [Q08 h,← Qbbs]
 refine (Qkh (len:=a.Alphabet.length) (fun n (acc : List Int)=>(acc,(n : Int))) (fun n acc=>Fnd a acc ∧ acc[i]? = some s) (fun n acc=>some ((a.Alphabet.drop n).foldl (fun o e=>if 0 ≤ Qd6 a s e then ins o (Qd6 a s e) else o) acc)) ?_ ?_ fuel 0 o (Nat.zero_le _) (by omega) ⟨hf,hi⟩).trans (by simp)
 ·intro k n acc hn ⟨k1,k2⟩ ih
  have hlen:=k1.len
  have hg : getO acc (i : Int) = some s:=by rw [Q62]; exact ⟨by omega,by simpa using k2⟩
  dsimp only
  rw [if_pos (by omega),hg,Qcs hn]
  simp only [Option.bind_some]
  rw [Qbbr hs,Qbj (by omega)]
  simp only [Option.bind_some]
  rw [Qblg (by unfold big; omega),List.drop_eq_getElem_cons hn,List.foldl_cons]
  rcases Qbad h s a.Alphabet[n] with hr | hr
  ·rw [hr]; simp only [show ¬ ((-1 : Int) ≥ 0) from by omega,show ¬ ((0 : Int) ≤ -1) from by omega,if_false,Option.bind_some,Bool.false_eq_true]
   exact ih _ ⟨k1,k2⟩
  ·have hge : Qd6 a s a.Alphabet[n] ≥ 0:=hr.1
   by_cases hm : Qd6 a s a.Alphabet[n] ∈ acc
   ·simp only [hge,hm,decide_true,Bool.not_true,if_true,Option.bind_some,Bool.false_eq_true,if_false,hr.1,ins]
    exact ih _ ⟨k1,k2⟩
   ·simp only [hge,hm,decide_false,Bool.not_false,if_true,Option.bind_some,hr.1,ins,if_false]
    rw [Qdf (by simp only [List.length_cons,List.length_nil]; unfold lim; omega)]
    simp only [Option.bind_some]
    have hi':=k1.ins (t:=Qd6 a s a.Alphabet[n]) ⟨hr.1,hr.2.1⟩
    unfold ins at hi'
    rw [if_neg hm] at hi'
    exact ih _ ⟨hi',Qmy (List.prefix_append acc _) k2⟩
 ·intro k acc _
  dsimp only
  rw [if_neg (by omega)]; simp
theorem Qbe4 : Qeu a = some (Qce a):=by
 have hs:=h.small.1
 have hst:=h.st
 unfold Qeu Qbp
 obtain ⟨fuel,hfu,hge⟩ : ∃ f,Qb5 = f ∧ 1099511627776 ≤ f:=⟨_,rfl,Nat.le_refl _⟩
 rw [hfu]
 have hloop : ∀ o : List Int,Fnd a o → Qcy (fun (k8 : List Int × Int → Option (List Int)) ((out6,i7) : (List Int) × Int)=>(if (i7 < (out6.length : Int)) then ((Qcy (fun k12 ((out10,k11) : (List Int) × Int)=>(if (k11 < (a.Alphabet.length : Int)) then ((((getO out10 i7).bind fun x14=>((getO a.Alphabet k11).bind fun x16=>((Qbz a x14 x16).bind fun x19=>(((if (x19 ≥ 0) then ((Qco out10 x19).bind fun x22=>some (!x22)) else some false)).bind fun (x23 : Bool)=>(if x23 then ((appO out10 [x19]).bind fun x25=>some x25) else some out10)))))).bind fun (out27 : List Int)=>k12 (out27,(IntKind.wrap .i64 (k11 + 1)))) else some out10)) fuel (out6,0)).bind fun (out28 : List Int)=>k8 (out28,(IntKind.wrap .i64 (i7 + 1)))) else some out6)) fuel (o,0) = some (bfs a (a.States.toNat + 1) 0 o):=by
  intro o ho
  have:=Qf3 (F:=fun (k8 : List Int × Int → Option (List Int)) ((out6,i7) : (List Int) × Int)=>(if (i7 < (out6.length : Int)) then ((Qcy (fun k12 ((out10,k11) : (List Int) × Int)=>(if (k11 < (a.Alphabet.length : Int)) then ((((getO out10 i7).bind fun x14=>((getO a.Alphabet k11).bind fun x16=>((Qbz a x14 x16).bind fun x19=>(((if (x19 ≥ 0) then ((Qco out10 x19).bind fun x22=>some (!x22)) else some false)).bind fun (x23 : Bool)=>(if x23 then ((appO out10 [x19]).bind fun x25=>some x25) else some out10)))))).bind fun (out27 : List Int)=>k12 (out27,(IntKind.wrap .i64 (k11 + 1)))) else some out10)) fuel (out6,0)).bind fun (out28 : List Int)=>k8 (out28,(IntKind.wrap .i64 (i7 + 1)))) else some out6))
   (fun x=>∃ i : Nat,x.2 = (i : Int) ∧ i ≤ x.1.length ∧ Fnd a x.1) (fun x=>a.States.toNat + 1 - x.2.toNat) (fun x r=>r = some (bfs a (a.States.toNat + 1 - x.2.toNat) x.2.toNat x.1)) (by
    rintro k ⟨o,i⟩ ⟨i,rfl,hi,hf⟩ ih
    replace hi : i ≤ o.length:=hi
    replace hf : Fnd a o:=hf
    have hl:=hf.len
    dsimp only
    by_cases hlt : i < o.length
    ·rw [if_pos (by omega),Qbgz h fuel hge hf (List.getElem?_eq_getElem hlt),Option.bind_some,Qbj (by omega)]
     obtain ⟨q1,q2,_,_⟩:=Q06 hf (Qvk h o[i])
     have hle:=q2.length_le
     rw [ih _ ⟨i + 1,rfl,by simp only; omega,q1⟩ (by simp only; omega)]
     simp only [Int.toNat_natCast]
     rw [show a.States.toNat + 1 - i = (a.States.toNat + 1 - (i + 1)) + 1 from by omega,Qbga hlt]
    ·rw [if_neg (by omega)]
     obtain rfl : i = o.length:=by omega
     simp only [Int.toNat_natCast,Qbje]) fuel (o,0) ⟨0,rfl,Nat.zero_le _,ho⟩ (by simp only; omega)
  simpa using this
 by_cases h0 : 0 < a.States
 ·rw [if_pos (by omega),Qdf (by simp only [List.length_cons,List.length_nil]; unfold lim; omega)]
  simp only [Option.bind_some]
  rw [show ([] ++ [0] : List Int) = [0] from rfl,hloop [0] ⟨by simp,fun s hs=>by simp at hs; subst hs; omega⟩]
  simp only [Option.bind_some,Qce,if_pos h0]
 ·rw [if_neg (by omega)]
  simp only [Option.bind_some]
  rw [hloop [] ⟨by simp,fun s hs=>by simp at hs⟩]
  simp only [Option.bind_some,Qce,if_neg h0]
theorem Qbbt (fuel : Nat) (hfu : 1099511627776 ≤ fuel) {F : List Int} (hF : Fnd a F) (hcl : ∀ s ∈ F,∀ t ∈ Qfz a s,t ∈ F) {s : Int} {i : Nat} (hi : F[i]? = some s) (ms : List Int) (es : List Qd) (hes : es.length ≤ 200000) :
  Qcy (fun (k24 : Int × List Qd → Option (List Int × List Qd)) ((k22,out23) : Int × (List Qd))=>(if (k22 < (a.Alphabet.length : Int)) then ((((getO F (i : Int)).bind fun x26=>((getO a.Alphabet k22).bind fun x28=>((Qbz a x26 x28).bind fun x31=>(if (x31 ≥ 0) then ((getO a.Alphabet k22).bind fun x33=>((Qdv F x31).bind fun x36=>((appO out23 [(Qd.mk (i : Int) x33 x36)]).bind fun x37=>some x37))) else some out23))))).bind fun (out39 : List Qd)=>k24 ((IntKind.wrap .i64 (k22 + 1)),out39)) else some (ms,out23))) fuel (0,es) = some (ms,es ++ rowP a F i s):=by
 have hs:=h.small.1
 have hst:=h.st
 have hal:=h.small.2.1
 have hb : a.Alphabet.length < 1000000000000:=hs.1
 have hFl:=hF.len
 have hrow : rowP a F i s = (a.Alphabet.filter fun e=>decide (0 ≤ Qd6 a s e)).map fun e=>⟨(i : Int),e,(F.idxOf (Qd6 a s e) : Int)⟩:=by
  rw [← Q5f h,List.map_map]
  unfold rowP
  exact List.map_congr_left fun x hx=>by simp only [Function.comp]; rw [Q63 h hx]
 rw [hrow]
 refine (Qkh (len:=a.Alphabet.length) (fun n (acc : List Qd)=>((n : Int),acc)) (fun n acc=>acc.length ≤ 200000 + n) (fun n acc=>some (ms,acc ++ ((a.Alphabet.drop n).filter fun e=>decide (0 ≤ Qd6 a s e)).map fun e=>⟨(i : Int),e,(F.idxOf (Qd6 a s e) : Int)⟩)) ?_ ?_ fuel 0 es (Nat.zero_le _) (by omega) (by omega)).trans (by simp)
 ·intro k n acc hn k1 ih
  have hg : getO F (i : Int) = some s:=by rw [Q62]; exact ⟨by omega,by simpa using hi⟩
  dsimp only
  rw [if_pos (by omega),hg,Qcs hn]
  simp only [Option.bind_some]
  rw [Qbbr hs,Qbj (by omega)]
  simp only [Option.bind_some]
  rw [List.drop_eq_getElem_cons hn,List.filter_cons]
  by_cases hr : 0 ≤ Qd6 a s a.Alphabet[n]
  ·have hm : Qd6 a s a.Alphabet[n] ∈ F:=hcl s (List.mem_of_getElem? hi) _ (by rw [Q08 h]; exact List.mem_map.2 ⟨_,List.mem_filter.2 ⟨List.getElem_mem hn,by simpa using hr⟩,rfl⟩)
   rw [if_pos hr,Qbe3 (by unfold big; omega),if_pos hm]
   simp only [Option.bind_some]
   rw [Qdf (by simp only [List.length_cons,List.length_nil]; unfold lim; omega)]
   simp only [Option.bind_some]
   rw [ih _ (by simp only [List.length_append,List.length_cons,List.length_nil]; omega)]
   simp only [hr,decide_true,if_true,List.map_cons,List.append_assoc,List.cons_append,List.nil_append]
  ·rw [if_neg (by omega)]
   simp only [Option.bind_some]
   rw [ih _ (by omega)]
   simp only [hr,decide_false,Bool.false_eq_true,if_false]
 ·intro k acc _
  dsimp only
  rw [if_neg (by omega)]; simp
theorem Qbgb {F : List Int} {i : Nat} {s : Int} : (rowP a F i s).length ≤ 32:=by
 have:=h.small.2.1
 have h1 : (rowP a F i s).length = ((outP a s).map (·.Event)).length:=by simp [rowP]
 rw [h1,Q5f h]
 exact Nat.le_trans (List.length_filter_le _ _) this
theorem Qbae : Qds a = some (Qfi a):=by
 have hs:=h.small.1
 have hst:=h.st
 have hal:=h.small.2.1
 have hb : a.Alphabet.length < 1000000000000:=hs.1
 obtain ⟨hF,_,hcl⟩:=Qjp h
 have hFl:=hF.len
 unfold Qds Q9
 obtain ⟨fuel,hfu,hge⟩ : ∃ f,Qb5 = f ∧ 1099511627776 ≤ f:=⟨_,rfl,Nat.le_refl _⟩
 rw [hfu,Qbe4 h,Option.bind_some,Qbf9 (by unfold lim; omega),Option.bind_some]
 unfold Qfi
 generalize Qce a = F at hF hcl hFl
 show Option.bind (Qcy _ fuel (((0 : Nat) : Int),[],[],[],[],[])) _ = _
 rw [Qkh (len:=F.length) (R:=List Int × List Int × List Qd × List Int × List Qd) (fun n (acc : List Int × List Qd)=>((n : Int),([] : List Int),([] : List Int),([] : List Qd),acc.1,acc.2)) (fun n acc=>acc.1.length ≤ n ∧ acc.2.length ≤ 32 * n)
  (fun n acc=>some (([] : List Int),([] : List Int),([] : List Qd),acc.1 ++ Qjq a.Marked n (F.drop n),acc.2 ++ Qgq a F n (F.drop n))) ?_ ?_ fuel 0 ([],[]) (Nat.zero_le _) (by omega) ⟨Nat.zero_le _,Nat.zero_le _⟩]
 ·simp
 ·rintro k n ⟨ms,es⟩ hn ⟨k1,k2⟩ ih
  replace k1 : ms.length ≤ n:=k1
  replace k2 : es.length ≤ 32 * n:=k2
  have hg:=List.getElem?_eq_getElem hn
  dsimp only
  rw [if_pos (by omega),Qcs hn]
  simp only [Option.bind_some]
  rw [Qblg hs.2.1]
  simp only [Option.bind_some]
  have hrl:=Qbgb h (F:=F) (i:=n) (s:=F[n])
  rw [List.drop_eq_getElem_cons hn]
  simp only [Qjq,Qgq]
  by_cases hm : F[n] ∈ a.Marked
  ·simp only [hm,decide_true,if_true]
   rw [Qdf (by simp only [List.length_cons,List.length_nil]; unfold lim; omega)]
   simp only [Option.bind_some]
   have:=Qbbt h fuel hge hF hcl hg (ms ++ [(n : Int)]) es (by omega)
   rw [Qcs hn] at this
   simp only [Option.bind_some] at this
   rw [this]
   simp only [Option.bind_some]
   rw [Qbj (by omega),ih (ms ++ [(n : Int)],es ++ rowP a F n F[n]) ⟨by simp only [List.length_append,List.length_cons,List.length_nil]; omega,by simp only [List.length_append]; omega⟩]
   simp only [List.append_assoc]
  ·simp only [hm,decide_false,Bool.false_eq_true,if_false,Option.bind_some]
   have:=Qbbt h fuel hge hF hcl hg ms es (by omega)
   rw [Qcs hn] at this
   simp only [Option.bind_some] at this
   rw [this]
   simp only [Option.bind_some]
   rw [Qbj (by omega),ih (ms,es ++ rowP a F n F[n]) ⟨by simp only; omega,by simp only [List.length_append]; omega⟩]
   simp only [List.append_assoc,List.nil_append]
 ·rintro k ⟨ms,es⟩ _
  dsimp only
  rw [if_neg (by omega)]
  simp [Qjq,Qgq]
end
end Go.Abs
end
section
namespace Go.Abs
open Go
set_option linter.unusedSimpArgs false
set_option linter.unusedVariables false
structure Evs (l : List Int) : Prop where
 rg : ∀ x ∈ l,0 ≤ x ∧ x < 5
 so : l.Pairwise (· < ·)
theorem Evs.len {l : List Int} (h : Evs l) : l.length ≤ 5:=by have:=Qfg h.so h.rg; simpa using this
def Qbks : List Int → Bool
 | []=>true
 | x :: xs=>xs.all (fun y=>decide (x < y)) && Qbks xs
theorem Qbdz : ∀ {l : List Int},Qbks l = true → l.Pairwise (· < ·)
 | [],_=>.nil
 | x :: xs,h=>by
  simp only [Qbks,Bool.and_eq_true,List.all_eq_true,decide_eq_true_eq] at h
  exact List.pairwise_cons.2 ⟨h.1,Qbdz h.2⟩
def evB (s : Nat) : Bool:=match Qdm (s : Int) with
 | some l=>Qbks l && l.all fun x=>decide (0 ≤ x) && decide (x < 5)
 | none=>false
theorem Qbma : (List.range 256).all evB = true:=by kernel_rfl
theorem Qbjf {s : Int} (h0 : 0 ≤ s) (h1 : s < 256) : ∃ l,Qdm s = some l ∧ Evs l:=by
 have:=List.all_eq_true.1 Qbma s.toNat (List.mem_range.2 (by omega))
 unfold evB at this
 rw [show ((s.toNat : Nat) : Int) = s from by omega] at this
 split at this
 ·rename_i l hl
  simp only [Bool.and_eq_true,List.all_eq_true,decide_eq_true_eq] at this
  exact ⟨l,hl,fun x hx=>this.2 x hx,Qbdz this.1⟩
 ·cases this
structure Mks (n : Nat) (ms : List Int) : Prop where
 rg : ∀ x ∈ ms,0 ≤ x ∧ x < n
 so : ms.Pairwise (· < ·)
structure Eds (al : List Int) (N : Int) (i k : Nat) (es : List Qd) : Prop where
 rg : ∀ x ∈ es,0 ≤ x.From ∧ 0 ≤ x.To ∧ x.To < N ∧ x.Event ∈ al ∧ (x.From < i ∨ x.From = i ∧ ∃ j : Nat,j < k ∧ al[j]? = some x.Event)
 so : es.Pairwise Qd0
 ln : es.length ≤ 5 * i + k
theorem Mks.up {n : Nat} {ms : List Int} (h : Mks n ms) : Mks (n + 1) ms:=⟨fun x hx=>by have:=h.rg x hx; omega,h.so⟩
theorem Mks.add {n : Nat} {ms : List Int} (h : Mks n ms) : Mks (n + 1) (ms ++ [(n : Int)]):=by
 refine ⟨fun x hx=>?_,?_⟩
 ·rcases List.mem_append.1 hx with hx | hx
  ·have:=h.rg x hx; omega
  ·simp at hx; omega
 ·rw [List.pairwise_append]
  exact ⟨h.so,by simp,fun x hx y hy=>by simp at hy; have:=h.rg x hx; omega⟩
theorem Mks.len {n : Nat} {ms : List Int} (h : Mks n ms) : ms.length ≤ n:=by have:=Qfg h.so h.rg; simpa using this
section
variable {al : List Int} (hal : Evs al) {N : Int} {i k : Nat} {es : List Qd}
theorem Eds.up (h : Eds al N i k es) : Eds al N i (k + 1) es:=⟨fun x hx=>by
 obtain ⟨h1,h2,h3,h4,h5⟩:=h.rg x hx
 refine ⟨h1,h2,h3,h4,?_⟩
 rcases h5 with h5 | ⟨h5,j,h6,h7⟩
 ·exact .inl h5
 ·exact .inr ⟨h5,j,by omega,h7⟩,h.so,by have:=h.ln; omega⟩
theorem Eds.next (h : Eds al N i k es) (hk : k ≤ 5) : Eds al N (i + 1) 0 es:=⟨fun x hx=>by
 obtain ⟨h1,h2,h3,h4,h5⟩:=h.rg x hx
 exact ⟨h1,h2,h3,h4,.inl (by rcases h5 with h5 | ⟨h5,_⟩ <;> omega)⟩,h.so,by have:=h.ln; omega⟩
include hal in
theorem Eds.add (h : Eds al N i k es) (hk : k < al.length) {t : Int} (ht : 0 ≤ t ∧ t < N) : Eds al N i (k + 1) (es ++ [⟨(i : Int),al[k],t⟩]):=by
 refine ⟨fun x hx=>?_,?_,by have:=h.ln; simp only [List.length_append,List.length_cons,List.length_nil]; omega⟩
 ·rcases List.mem_append.1 hx with hx | hx
  ·exact h.up.rg x hx
  ·simp at hx; subst hx
   exact ⟨by simp only; omega,ht.1,ht.2,List.getElem_mem hk,.inr ⟨rfl,k,by omega,List.getElem?_eq_getElem hk⟩⟩
 ·rw [List.pairwise_append]
  refine ⟨h.so,by simp,fun x hx y hy=>?_⟩
  simp at hy; subst hy
  obtain ⟨_,_,_,_,h5⟩:=h.rg x hx
  rcases h5 with h5 | ⟨h5,j,h6,h7⟩
  ·exact .inl h5
  ·refine .inr ⟨h5,?_⟩
   obtain ⟨h8,h9⟩:=List.getElem?_eq_some_iff.1 h7
   rw [← h9]
   exact List.pairwise_iff_getElem.1 hal.so j k h8 hk h6
end
structure Qbjg (g : Qw) : Prop where
 st : 0 ≤ g.States ∧ g.States < 256
 to : ∀ x ∈ [g.To.1.1,g.To.1.2.1,g.To.1.2.2.1,g.To.1.2.2.2.1,g.To.1.2.2.2.2,g.To.2.1.1,g.To.2.1.2.1,g.To.2.1.2.2.1,g.To.2.1.2.2.2.1,g.To.2.1.2.2.2.2,g.To.2.2.1.1,g.To.2.2.1.2.1,g.To.2.2.1.2.2.1,g.To.2.2.1.2.2.2.1,g.To.2.2.1.2.2.2.2,g.To.2.2.2.1.1,g.To.2.2.2.1.2.1,g.To.2.2.2.1.2.2.1,g.To.2.2.2.1.2.2.2.1,g.To.2.2.2.1.2.2.2.2,g.To.2.2.2.2.1,g.To.2.2.2.2.2.1,g.To.2.2.2.2.2.2.1,g.To.2.2.2.2.2.2.2.1,g.To.2.2.2.2.2.2.2.2],0 ≤ x ∧ x < 256
theorem Qbgc {al : List Int} (hal : Evs al) (fuel : Nat) (hfu : 1099511627776 ≤ fuel) {L : List Int} (hL : L.length = 25) (hL2 : ∀ x ∈ L,0 ≤ x ∧ x < 256) {N : Int} (hN : 1 ≤ N ∧ N ≤ 5) {i : Nat} (hi : (i : Int) < N) {ms : List Int} {es : List Qd} (hes : Eds al N i 0 es) :
  ∃ es',Eds al N (i + 1) 0 es' ∧ Qcy (fun (k25 : Int × List Qd → Option (List Int × List Qd)) ((k23,a24) : Int × (List Qd))=>(((if (k23 < (al.length : Int)) then some (decide (k23 < 5)) else some false)).bind fun (x27 : Bool)=>(if x27 then ((((inO 5 (i : Int)).bind fun _=>((inO 5 k23).bind fun _=>((rowO L (Int.toNat (i : Int) * 5 + Int.toNat k23 * 1)).bind fun x31=>((remO .i64 (IntKind.wrap .i64 x31) (IntKind.wrap .i64 (N + 2))).bind fun s33=>(if (s33 < N) then ((getO al k23).bind fun x36=>((appO a24 [(Qd.mk (i : Int) x36 s33)]).bind fun x38=>some x38)) else some a24)))))).bind fun (a40 : List Qd)=>k25 ((IntKind.wrap .i64 (k23 + 1)),a40)) else some (ms,a24)))) fuel (0,es) = some (ms,es'):=by
 have hl:=hal.len
 have:=Qf3 (F:=fun (k25 : Int × List Qd → Option (List Int × List Qd)) ((k23,a24) : Int × (List Qd))=>(((if (k23 < (al.length : Int)) then some (decide (k23 < 5)) else some false)).bind fun (x27 : Bool)=>(if x27 then ((((inO 5 (i : Int)).bind fun _=>((inO 5 k23).bind fun _=>((rowO L (Int.toNat (i : Int) * 5 + Int.toNat k23 * 1)).bind fun x31=>((remO .i64 (IntKind.wrap .i64 x31) (IntKind.wrap .i64 (N + 2))).bind fun s33=>(if (s33 < N) then ((getO al k23).bind fun x36=>((appO a24 [(Qd.mk (i : Int) x36 s33)]).bind fun x38=>some x38)) else some a24)))))).bind fun (a40 : List Qd)=>k25 ((IntKind.wrap .i64 (k23 + 1)),a40)) else some (ms,a24))))
  (fun x=>∃ k : Nat,x.1 = (k : Int) ∧ k ≤ al.length ∧ Eds al N i k x.2) (fun x=>al.length - x.1.toNat) (fun _ r=>∃ es',r = some (ms,es') ∧ Eds al N (i + 1) 0 es') (by
   rintro kk ⟨k,es⟩ ⟨k,rfl,hk,he⟩ ih
   replace he : Eds al N i k es:=he
   replace hk : k ≤ al.length:=hk
   dsimp only
   by_cases hlt : k < al.length
   ·rw [if_pos (by omega)]
    simp only [Option.bind_some,show decide ((k : Int) < 5) = true from by simp; omega,if_true]
    rw [show inO 5 (i : Int) = some () from by unfold inO; rw [if_pos (by omega)],show inO 5 (k : Int) = some () from by unfold inO; rw [if_pos (by omega)]]
    simp only [Option.bind_some,Int.toNat_natCast]
    have hidx : i * 5 + k * 1 < L.length:=by omega
    have hx:=hL2 _ (List.getElem_mem hidx)
    rw [show rowO L (i * 5 + k * 1) = some L[i * 5 + k * 1] from by unfold rowO; exact List.getElem?_eq_getElem hidx]
    simp only [Option.bind_some]
    rw [Qlz (x:=L[i * 5 + k * 1]) (by omega) (by omega),Qlz (x:=N + 2) (by omega) (by omega),show remO .i64 L[i * 5 + k * 1] (N + 2) = some (L[i * 5 + k * 1].tmod (N + 2)) from by unfold remO; rw [if_neg (by omega)]]
    simp only [Option.bind_some]
    have hmod : 0 ≤ L[i * 5 + k * 1].tmod (N + 2):=Int.tmod_nonneg _ hx.1
    have hln:=he.ln
    by_cases hm : L[i * 5 + k * 1].tmod (N + 2) < N
    ·rw [if_pos hm,Qcs hlt]
     simp only [Option.bind_some]
     rw [Qdf (by simp only [List.length_cons,List.length_nil]; unfold lim; omega)]
     simp only [Option.bind_some]
     rw [Qbj (by omega)]
     exact ih _ ⟨k + 1,rfl,hlt,he.add hal hlt ⟨hmod,hm⟩⟩ (by simp only; omega)
    ·rw [if_neg hm]
     simp only [Option.bind_some]
     rw [Qbj (by omega)]
     exact ih _ ⟨k + 1,rfl,hlt,he.up⟩ (by simp only; omega)
   ·rw [if_neg (by omega)]
    exact ⟨es,rfl,he.next (by omega)⟩) fuel (0,es) ⟨0,rfl,Nat.zero_le _,hes⟩ (by simp only; omega)
 obtain ⟨es',h1,h2⟩:=this
 exact ⟨es',h2,h1⟩
theorem Qbe5 {al : List Int} (hal : Evs al) : Right ⟨al,0,[],[]⟩ :=
 ⟨fun x hx=>by have:=hal.rg x hx; omega,hal.so,⟨by simp,by simp⟩,by simp,.nil,by simp,.nil⟩
theorem Qbmb {al : List Int} (hal : Evs al) {g : Qw} (hg : Qbjg g) : ∃ m,Right m ∧ m.Alphabet = al ∧ Qfa al g = some (Qfi m) ∧ m.States ≤ 5:=by
 have hl:=hal.len
 obtain ⟨hst,hto⟩:=hg
 unfold Qfa Qby
 obtain ⟨fuel,hfu,hge⟩ : ∃ f,Qb5 = f ∧ 1099511627776 ≤ f:=⟨_,rfl,Nat.le_refl _⟩
 rw [hfu,Qbf9 (by unfold lim; omega)]
 simp only [Option.bind_some]
 by_cases h250 : g.States ≥ 250
 ·rw [if_pos h250]
  exact ⟨⟨al,0,[],[]⟩,Qbe5 hal,rfl,rfl,by simp⟩
 rw [if_neg h250]
 have hL : [g.To.1.1,g.To.1.2.1,g.To.1.2.2.1,g.To.1.2.2.2.1,g.To.1.2.2.2.2,g.To.2.1.1,g.To.2.1.2.1,g.To.2.1.2.2.1,g.To.2.1.2.2.2.1,g.To.2.1.2.2.2.2,g.To.2.2.1.1,g.To.2.2.1.2.1,g.To.2.2.1.2.2.1,g.To.2.2.1.2.2.2.1,g.To.2.2.1.2.2.2.2,g.To.2.2.2.1.1,g.To.2.2.2.1.2.1,g.To.2.2.2.1.2.2.1,g.To.2.2.2.1.2.2.2.1,g.To.2.2.2.1.2.2.2.2,g.To.2.2.2.2.1,g.To.2.2.2.2.2.1,g.To.2.2.2.2.2.2.1,g.To.2.2.2.2.2.2.2.1,g.To.2.2.2.2.2.2.2.2].length = 25:=rfl
 generalize [g.To.1.1,g.To.1.2.1,g.To.1.2.2.1,g.To.1.2.2.2.1,g.To.1.2.2.2.2,g.To.2.1.1,g.To.2.1.2.1,g.To.2.1.2.2.1,g.To.2.1.2.2.2.1,g.To.2.1.2.2.2.2,g.To.2.2.1.1,g.To.2.2.1.2.1,g.To.2.2.1.2.2.1,g.To.2.2.1.2.2.2.1,g.To.2.2.1.2.2.2.2,g.To.2.2.2.1.1,g.To.2.2.2.1.2.1,g.To.2.2.2.1.2.2.1,g.To.2.2.2.1.2.2.2.1,g.To.2.2.2.1.2.2.2.2,g.To.2.2.2.2.1,g.To.2.2.2.2.2.1,g.To.2.2.2.2.2.2.1,g.To.2.2.2.2.2.2.2.1,g.To.2.2.2.2.2.2.2.2] = L at hto hL ⊢
 have hmod : 0 ≤ g.States.tmod 5 ∧ g.States.tmod 5 < 5:=⟨Int.tmod_nonneg _ hst.1,Int.tmod_lt_of_pos _ (by omega)⟩
 have hN : 1 ≤ IntKind.wrap .i64 (1 + (IntKind.wrap .i64 (Int.tmod g.States 5))) ∧ IntKind.wrap .i64 (1 + (IntKind.wrap .i64 (Int.tmod g.States 5))) ≤ 5:=by
  rw [Qlz (x:=g.States.tmod 5) (by omega) (by omega),Qlz (by omega) (by omega)]; omega
 generalize IntKind.wrap .i64 (1 + (IntKind.wrap .i64 (Int.tmod g.States 5))) = N at hN ⊢
 have hloop:=Qf3 (F:=(fun (k15 : Int × List Int × List Int × List Qd × Int × List Int × List Qd → Option (List Int × List Int × List Qd × Int × List Int × List Qd)) ((i8,c9,c10,c11,a12,a13,a14) : Int × (List Int) × (List Int) × (List Qd) × Int × (List Int) × (List Qd))=>(if (i8 < a12) then ((((((shrO .u8 g.Marks i8).bind fun s17=>(if ((andI .u8 s17 1) == 1) then ((appO a13 [i8]).bind fun x20=>some x20) else some a13))).bind fun (a22 : List Int)=>Qcy (fun k25 ((k23,a24) : Int × (List Qd))=>(((if (k23 < (al.length : Int)) then some (decide (k23 < 5)) else some false)).bind fun (x27 : Bool)=>(if x27 then ((((inO 5 i8).bind fun _=>((inO 5 k23).bind fun _=>((rowO L (Int.toNat i8 * 5 + Int.toNat k23 * 1)).bind fun x31=>((remO .i64 (IntKind.wrap .i64 x31) (IntKind.wrap .i64 (a12 + 2))).bind fun s33=>(if (s33 < a12) then ((getO al k23).bind fun x36=>((appO a24 [(Qd.mk i8 x36 s33)]).bind fun x38=>some x38)) else some a24)))))).bind fun (a40 : List Qd)=>k25 ((IntKind.wrap .i64 (k23 + 1)),a40)) else some (a22,a24)))) fuel (0,a14))).bind fun ((a41,a42) : (List Int) × (List Qd))=>k15 ((IntKind.wrap .i64 (i8 + 1)),c9,c10,c11,a12,a41,a42)) else some (c9,c10,c11,a12,a13,a14))))
  (fun x=>∃ (i : Nat) (ms : List Int) (es : List Qd),x = ((i : Int),[],[],[],N,ms,es) ∧ (i : Int) ≤ N ∧ Mks i ms ∧ Eds al N i 0 es) (fun x=>(N - x.1).toNat)
  (fun _ r=>∃ (i : Nat) (ms : List Int) (es : List Qd),r = some ([],[],[],N,ms,es) ∧ (i : Int) = N ∧ Mks i ms ∧ Eds al N i 0 es) (by
   rintro k _ ⟨i,ms,es,rfl,hi,hm,he⟩ ih
   dsimp only
   by_cases hlt : (i : Int) < N
   ·rw [if_pos hlt,show shrO .u8 g.Marks (i : Int) = some (g.Marks.fdiv (2 ^ (min (Int.toNat (i : Int)) (IntKind.bits .u8)))) from by unfold shrO; rw [if_neg (by omega)]]
    simp only [Option.bind_some]
    have hml:=hm.len
    by_cases hb : (andI .u8 (g.Marks.fdiv (2 ^ (min (Int.toNat (i : Int)) (IntKind.bits .u8)))) 1 == 1) = true
    ·rw [if_pos hb,Qdf (by simp only [List.length_cons,List.length_nil]; unfold lim; omega)]
     simp only [Option.bind_some]
     obtain ⟨es',h1,h2⟩:=Qbgc hal fuel hge hL hto hN hlt (ms:=ms ++ [(i : Int)]) he
     rw [h2]
     simp only [Option.bind_some]
     rw [Qbj (by omega)]
     exact ih _ ⟨i + 1,_,_,rfl,by omega,hm.add,h1⟩ (by simp only; omega)
    ·rw [if_neg hb]
     simp only [Option.bind_some]
     obtain ⟨es',h1,h2⟩:=Qbgc hal fuel hge hL hto hN hlt (ms:=ms) he
     rw [h2]
     simp only [Option.bind_some]
     rw [Qbj (by omega)]
     exact ih _ ⟨i + 1,_,_,rfl,by omega,hm.up,h1⟩ (by simp only; omega)
   ·rw [if_neg hlt]
    exact ⟨i,ms,es,rfl,by omega,hm,he⟩) fuel (0,[],[],[],N,[],[]) ⟨0,[],[],rfl,by omega,⟨by simp,.nil⟩,⟨by simp,.nil,by simp⟩⟩ (by simp only; omega)
 obtain ⟨i,ms,es,h1,h2,h3,h4⟩:=hloop
 rw [h1]
 simp only [Option.bind_some]
 have hr : Right ⟨al,N,ms,es⟩:=⟨fun x hx=>by have:=hal.rg x hx; omega,hal.so,⟨by simp only; omega,by simp only; omega⟩,fun x hx=>by have:=h3.rg x hx; simp only; omega,h3.so,fun x hx=>by
  obtain ⟨k1,k2,k3,k4,k5⟩:=h4.rg x hx
  refine ⟨k1,?_,k2,k3,k4⟩
  rcases k5 with k5 | ⟨_,j,k6,_⟩
  ·simp only; omega
  ·omega,h4.so⟩
 rw [Qbae hr]
 exact ⟨_,hr,rfl,rfl,by simp only; omega⟩
end Go.Abs
end
section
namespace Go.Proofs
open Go Go.Abs
theorem Qbm7 {x : Int} (h : wfI .u8 x) : 0 ≤ x ∧ x < 256:=by
 unfold wfI at h
 simp [Lit.wf,IntKind.min,IntKind.max,IntKind.bits,IntKind.signed] at h
 omega
theorem Qbnb {g : Qw} (h : W_26 g) : Qbjg g:=by
 unfold W_26 W_24 W_23 W_5 at h
 obtain ⟨h1,h2,⟨a1,a2,a3,a4,a5⟩,⟨b1,b2,b3,b4,b5⟩,⟨c1,c2,c3,c4,c5⟩,⟨d1,d2,d3,d4,d5⟩,⟨e1,e2,e3,e4,e5⟩⟩:=h
 refine ⟨Qbm7 h1,fun x hx=>?_⟩
 simp only [List.mem_cons,List.not_mem_nil,or_false] at hx
 rcases hx with rfl | rfl | rfl | rfl | rfl | rfl | rfl | rfl | rfl | rfl | rfl | rfl | rfl | rfl | rfl | rfl | rfl | rfl | rfl | rfl | rfl | rfl | rfl | rfl | rfl <;> exact Qbm7 (by assumption)
end Go.Proofs
end
section
namespace Go.Abs
open Go
theorem Qbd0 {α : Type} [DecidableEq α] {s t : List α} {ne : α → α → Bool} (hne : ∀ x y,ne x y = decide (x ≠ y)) (hl : s.length = t.length) (h : s.length < 1000000000000) :
  Qcy (fun k5 (i4 : Int)=>(if (i4 < (s.length : Int)) then ((getO s i4).bind fun x7=>((getO t i4).bind fun x9=>(if ne x7 x9 then some false else k5 (IntKind.wrap .i64 (i4 + 1))))) else some true)) Qb5 0 = some (decide (s = t)):=by
 refine Qbko (fun i : Int=>∃ n : Nat,i = n ∧ n ≤ s.length ∧ s.take n = t.take n) (fun i=>s.length - i.toNat) _ ⟨0,rfl,by omega,by simp⟩ (by unfold Qb5; omega) ?_
 rintro k _ ⟨n,rfl,hn,he⟩ ih
 by_cases hlt : n < s.length
 ·rw [if_pos (by omega),Qcs hlt,Qcs (by omega : n < t.length)]
  simp only [Option.bind_some,hne]
  by_cases hx : s[n] = t[n]
  ·rw [if_neg (by simp [hx]),Qbj (by omega)]
   exact ih _ ⟨n + 1,rfl,by omega,Qbdw hlt (by omega) he hx⟩ (by omega)
  ·rw [if_pos (by simp [hx])]
   have : s ≠ t:=fun e=>hx (by subst e; rfl)
   simp [this]
 ·rw [if_neg (by omega)]
  have e : n = s.length:=by omega
  have : s = t:=by
   rw [e,List.take_length,hl,List.take_length] at he; exact he
  simp [this]
theorem Qbmc (x y : Qd) : (!((x.From == y.From) && ((x.Event == y.Event) && ((x.To == y.To) && true)))) = decide (x ≠ y):=by
 cases x; cases y
 simp only [Qd.mk.injEq,Bool.and_true,ne_eq,decide_not]
 congr 1
 rw [Bool.eq_iff_iff]; simp
theorem Qbd1 {s t : List Int} (h : s.length < 1000000000000) : Qet s t = some (decide (s = t)):=by
 unfold Qet Qy
 by_cases hl : s.length = t.length
 ·rw [if_neg (by simp [hl])]
  exact Qbd0 (ne:=fun x y=>x != y) (fun x y=>by rw [Bool.eq_iff_iff]; simp) hl h
 ·rw [if_pos (by simp; omega)]
  have : s ≠ t:=fun e=>hl (by rw [e])
  simp [this]
theorem Qbm8 {R : Type} (b : Bool) (A B : R) : (if b then A else B) = if (!b) then B else A:=by cases b <;> rfl
theorem Qbg0 {s t : List Qd} (h : s.length < 1000000000000) : Qee s t = some (decide (s = t)):=by
 unfold Qee Q3
 by_cases hl : s.length = t.length
 ·rw [if_neg (by simp [hl])]
  have:=Qbd0 (ne:=fun x y=>!((x.From == y.From) && ((x.Event == y.Event) && ((x.To == y.To) && true)))) Qbmc hl h
  simp only [← Qbm8] at this
  exact this
 ·rw [if_pos (by simp; omega)]
  have : s ≠ t:=fun e=>hl (by rw [e])
  simp [this]
theorem Qbd2 {a b : Qa} (h : small a) : Qhk a b = some (decide (a = b)):=by
 unfold Qhk Qca
 rw [Qbd1 h.1,Qbd1 h.2.1,Qbg0 h.2.2]
 obtain ⟨al,s,m,e⟩:=a
 obtain ⟨al',s',m',e'⟩:=b
 simp only [Option.bind_some,Qa.mk.injEq]
 by_cases h1 : s = s' <;> by_cases h2 : al = al' <;> by_cases h3 : m = m' <;> by_cases h4 : e = e' <;> simp [h1,h2,h3,h4]
end Go.Abs
end
section
namespace Go.Abs
open Go
end Go.Abs
end
section
namespace Go.Abs
open Go
set_option linter.unusedSimpArgs false
set_option linter.unusedVariables false
theorem Qbmd (x y : Int) : Qio x y = some (decide (x < y)):=by
 unfold Qio Qdq Qnw Qcx
 simp
theorem Qbkt (x : Int) : Qgp x = some false:=by
 unfold Qgp Qb2
 simp
theorem Qbjh {l : List Int} (h : l.Pairwise (· < ·)) (v : Int) : l.Pairwise fun a b=>decide (b < v) = true → decide (a < v) = true :=
 h.imp fun h=>by simp; omega
theorem Qbji {l : List Int} {v : Int} (hs : l.Pairwise (· < ·)) (hl : l.length < big) : ∃ n,Qbt l v = some (n,decide (v ∈ l)):=by
 have hc:=fun n h=>Q70 (p:=fun x : Int=>decide (x < v)) (Qbjh hs v) n h
 have hcl : (l.filter fun x=>decide (x < v)).length ≤ l.length:=List.length_filter_le _ _
 generalize (l.filter fun x=>decide (x < v)).length = c at hc hcl
 have hb : l.length < 1000000000000:=hl
 unfold Qbt Qp
 obtain ⟨fuel,hfu,hge⟩ : ∃ f,Qb5 = f ∧ 1099511627776 ≤ f:=⟨_,rfl,Nat.le_refl _⟩
 rw [hfu]
 have hloop:=Qf3 (F:=fun (k5 : Int × Int → Option Int) ((i3,j4) : Int × Int)=>(if (i3 < j4) then ((getO l (IntKind.wrap .i64 (Int.fdiv (IntKind.wrap .u64 (IntKind.wrap .i64 (i3 + j4))) (2 ^ (min (Int.toNat 1) (IntKind.bits .u64)))))).bind fun x7=>((Qio x7 v).bind fun x10=>(if x10 then k5 ((IntKind.wrap .i64 ((IntKind.wrap .i64 (Int.fdiv (IntKind.wrap .u64 (IntKind.wrap .i64 (i3 + j4))) (2 ^ (min (Int.toNat 1) (IntKind.bits .u64))))) + 1)),j4) else k5 (i3,(IntKind.wrap .i64 (Int.fdiv (IntKind.wrap .u64 (IntKind.wrap .i64 (i3 + j4))) (2 ^ (min (Int.toNat 1) (IntKind.bits .u64))))))))) else some i3))
  (fun x=>∃ i j : Nat,x = ((i : Int),(j : Int)) ∧ i ≤ c ∧ c ≤ j ∧ j ≤ l.length) (fun x=>(x.2 - x.1).toNat) (fun _ r=>r = some (c : Int)) (by
   rintro k _ ⟨i,j,rfl,h1,h2,h3⟩ ih
   dsimp only
   by_cases hij : i < j
   ·rw [if_pos (by omega),Qblf (by omega) (by omega)]
    have hm : (i + j) / 2 < l.length:=by omega
    rw [Qcs hm]
    simp only [Option.bind_some]
    rw [Qbmd]
    simp only [Option.bind_some]
    have hcm:=hc ((i + j) / 2) hm
    by_cases hlt : l[(i + j) / 2] < v
    ·rw [if_pos (by simpa using hlt),Qbj (by omega)]
     have : (i + j) / 2 < c:=hcm.1 (by simpa using hlt)
     exact ih _ ⟨_,_,rfl,by omega,h2,h3⟩ (by simp only; omega)
    ·rw [if_neg (by simpa using hlt)]
     have : ¬ (i + j) / 2 < c:=fun h=>hlt (by simpa using hcm.2 h)
     exact ih _ ⟨_,_,rfl,h1,by omega,by omega⟩ (by simp only; omega)
   ·rw [if_neg (by omega)]
    have : i = c:=by omega
    rw [this]) fuel (0,(l.length : Int)) ⟨0,l.length,rfl,by omega,hcl,Nat.le_refl _⟩ (by simp only; omega)
 rw [hloop]
 simp only [Option.bind_some]
 have hmem : v ∈ l ↔ ∃ h : c < l.length,l[c] = v:=by
  constructor
  ·intro hv
   obtain ⟨j,hj,rfl⟩:=List.getElem_of_mem hv
   have h1 : ¬ j < c:=fun h=>by have:=(hc j hj).2 h; simp at this
   have h2 : c < l.length:=by omega
   refine ⟨h2,?_⟩
   have h3 : ¬ l[c] < l[j]:=fun h=>by have:=(hc c h2).1 (by simpa using h); omega
   rcases Nat.lt_or_ge c j with h | h
   ·have:=List.pairwise_iff_getElem.1 hs c j h2 hj h; omega
   ·have : c = j:=by omega
    subst this; rfl
  ·rintro ⟨h,rfl⟩; exact List.getElem_mem h
 by_cases hlt : c < l.length
 ·rw [if_pos (by omega),Qcs hlt]
  simp only [Option.bind_some]
  by_cases he : l[c] = v
  ·rw [if_pos (by simpa using he)]
   exact ⟨_,by rw [decide_eq_true (hmem.2 ⟨hlt,he⟩)]⟩
  ·rw [if_neg (by simpa using he),Qbkt]
   exact ⟨_,by rw [decide_eq_false (fun h=>he (hmem.1 h).2)]; rfl⟩
 ·rw [if_neg (by omega)]
  exact ⟨_,by rw [decide_eq_false (fun h=>hlt (hmem.1 h).1)]⟩
theorem Qbcq {l : List Int} (hl : l.length ≤ lim) : Qdd l = some l:=by
 unfold Qdd Qn
 rw [Qdf (by simpa using hl)]
 cases l <;> simp [nilO]
structure Num (a : Qa) (o num : List Int) : Prop where
 len : num.length = a.States.toNat
 at1 : ∀ s : Nat,s < a.States.toNat → num[s]? = some (if (s : Int) ∈ o then (o.idxOf (s : Int) : Int) else -1)
theorem Qbaf {o F : List Int} (h : o <+: F) {t : Int} (ht : t ∈ o) : F.idxOf t = o.idxOf t:=by
 obtain ⟨r,rfl⟩:=h
 rw [List.idxOf_append,if_pos ht]
theorem Num.get {a : Qa} {o num : List Int} (h : Num a o num) {t : Int} (ht : 0 ≤ t ∧ t < a.States) : getO num t = some (if t ∈ o then (o.idxOf t : Int) else -1):=by
 rw [Q62]
 refine ⟨ht.1,?_⟩
 have:=h.at1 t.toNat (by omega)
 rwa [show ((t.toNat : Nat) : Int) = t from by omega] at this
theorem Num.set {a : Qa} {o num : List Int} (h : Num a o num) {t : Int} (ht : 0 ≤ t ∧ t < a.States) (hn : t ∉ o) : ∃ num',setO num t (o.length : Int) = some num' ∧ Num a (o ++ [t]) num':=by
 refine ⟨num.set t.toNat (o.length : Int),by unfold setO; rw [if_pos ⟨ht.1,by rw [h.len]; omega⟩],by rw [List.length_set]; exact h.len,fun s hs=>?_⟩
 rw [List.getElem?_set]
 by_cases he : t.toNat = s
 ·subst he
  rw [if_pos rfl,if_pos (by rw [h.len]; omega),show ((t.toNat : Nat) : Int) = t from by omega,if_pos (by simp),List.idxOf_append,if_neg hn]
  simp
 ·rw [if_neg he,h.at1 s hs]
  have hne : (s : Int) ≠ t:=by omega
  by_cases hm : (s : Int) ∈ o
  ·rw [if_pos hm,if_pos (by simp [hm]),List.idxOf_append,if_pos hm]
  ·rw [if_neg hm,if_neg (by simp [hm,hne])]
section
variable {a : Qa} (h : Right a)
include h
theorem Qbjj (fuel : Nat) (hfu : 1099511627776 ≤ fuel) {l : List Qd} (hl : l.length ≤ 200000) (hto : ∀ x ∈ l,0 ≤ x.To ∧ x.To < a.States) {i : Nat} {ms o : List Int} {es : List Qd} {num : List Int} (ho : Fnd a o) (hn : Num a o num) (hes : es.length ≤ 200000) :
  ∃ num',Num a ((l.map (·.To)).foldl ins o) num' ∧ Qcy (fun (k47 : List Int × Int × List Qd × List Int → Option (List Int × List Int × List Qd × List Int)) ((order43,x44,r45,c46) : (List Int) × Int × (List Qd) × (List Int))=>(if (x44 < (l.length : Int)) then ((getO l x44).bind fun x49=>((((inO (Int.toNat a.States) x49.To).bind fun u51=>((getO c46 x49.To).bind fun x53=>(if (x53 < 0) then ((inO (Int.toNat a.States) x49.To).bind fun u56=>((setO c46 x49.To (order43.length : Int)).bind fun x58=>((appO order43 [x49.To]).bind fun x60=>some (x60,x58)))) else some (order43,c46))))).bind fun ((order62,c63) : (List Int) × (List Int))=>((inO (Int.toNat a.States) x49.To).bind fun u64=>((getO c63 x49.To).bind fun x66=>((appO r45 [(Qd.mk (i : Int) x49.Event x66)]).bind fun x68=>k47 (order62,(IntKind.wrap .i64 (x44 + 1)),x68,c63)))))) else some (order43,ms,r45,c46))) fuel (o,0,es,num) = some ((l.map (·.To)).foldl ins o,ms,es ++ l.map (fun x=>⟨(i : Int),x.Event,(((l.map (·.To)).foldl ins o).idxOf x.To : Int)⟩),num'):=by
 have hst:=h.st
 have key:=Qf3 (F:=(fun (k47 : List Int × Int × List Qd × List Int → Option (List Int × List Int × List Qd × List Int)) ((order43,x44,r45,c46) : (List Int) × Int × (List Qd) × (List Int))=>(if (x44 < (l.length : Int)) then ((getO l x44).bind fun x49=>((((inO (Int.toNat a.States) x49.To).bind fun u51=>((getO c46 x49.To).bind fun x53=>(if (x53 < 0) then ((inO (Int.toNat a.States) x49.To).bind fun u56=>((setO c46 x49.To (order43.length : Int)).bind fun x58=>((appO order43 [x49.To]).bind fun x60=>some (x60,x58)))) else some (order43,c46))))).bind fun ((order62,c63) : (List Int) × (List Int))=>((inO (Int.toNat a.States) x49.To).bind fun u64=>((getO c63 x49.To).bind fun x66=>((appO r45 [(Qd.mk (i : Int) x49.Event x66)]).bind fun x68=>k47 (order62,(IntKind.wrap .i64 (x44 + 1)),x68,c63)))))) else some (order43,ms,r45,c46))))
  (fun x=>∃ (j : Nat) (o : List Int) (es : List Qd) (num : List Int),x = (o,(j : Int),es,num) ∧ j ≤ l.length ∧ Fnd a o ∧ Num a o num ∧ es.length ≤ 200000 + j) (fun x=>l.length - x.2.1.toNat)
  (fun x r=>∀ (j : Nat) (o : List Int) (es : List Qd) (num : List Int),x = (o,(j : Int),es,num) → ∃ num',Num a (((l.drop j).map (·.To)).foldl ins o) num' ∧ r = some (((l.drop j).map (·.To)).foldl ins o,ms,es ++ (l.drop j).map (fun x=>⟨(i : Int),x.Event,((((l.drop j).map (·.To)).foldl ins o).idxOf x.To : Int)⟩),num')) (by
   rintro k _ ⟨j,o,es,num,rfl,hj,hf,hnm,hel⟩ ih j' o' es' num' he
   obtain ⟨rfl,he2⟩:=Prod.mk.inj he
   obtain ⟨hjj,he3⟩:=Prod.mk.inj he2
   obtain ⟨rfl,rfl⟩:=Prod.mk.inj he3
   obtain rfl : j = j':=by omega
   have hfl:=hf.len
   dsimp only
   by_cases hlt : j < l.length
   ·have ht:=hto _ (List.getElem_mem hlt)
    rw [if_pos (by omega),Qcs hlt]
    simp only [Option.bind_some]
    rw [show inO (Int.toNat a.States) l[j].To = some () from by unfold inO; rw [if_pos (by omega)]]
    simp only [Option.bind_some]
    rw [hnm.get ht]
    simp only [Option.bind_some]
    have hfi:=hf.ins ht
    have hmem : l[j].To ∈ ins o l[j].To:=Q5g.2 (.inr rfl)
    have hpre : ins o l[j].To <+: ((l.drop (j + 1)).map (·.To)).foldl ins (ins o l[j].To) :=
     (Q06 hfi fun t ht'=>by obtain ⟨x,hx,rfl⟩:=List.mem_map.1 ht'; exact hto x (List.mem_of_mem_drop hx)).2.1
    rw [List.drop_eq_getElem_cons hlt]
    simp only [List.map_cons,List.foldl_cons]
    by_cases hm : l[j].To ∈ o
    ·have e1 : ins o l[j].To = o:=by unfold ins; rw [if_pos hm]
     rw [if_pos hm,if_neg (by omega)]
     simp only [Option.bind_some]
     rw [hnm.get ht,if_pos hm]
     simp only [Option.bind_some]
     rw [Qdf (by simp only [List.length_cons,List.length_nil]; unfold lim; omega)]
     simp only [Option.bind_some]
     rw [Qbj (by omega)]
     rw [e1] at hpre ⊢
     obtain ⟨num',q1,q2⟩:=ih _ ⟨j + 1,o,es ++ [⟨(i : Int),l[j].Event,(o.idxOf l[j].To : Int)⟩],num,rfl,by omega,hf,hnm,by simp only [List.length_append,List.length_cons,List.length_nil]; omega⟩ (by simp only; omega) (j + 1) _ _ _ rfl
     refine ⟨num',q1,?_⟩
     rw [q2,Qbaf hpre hm]
     simp only [List.append_assoc,List.cons_append,List.nil_append]
    ·have e1 : ins o l[j].To = o ++ [l[j].To]:=by unfold ins; rw [if_neg hm]
     rw [if_neg hm,if_pos (by omega)]
     obtain ⟨num1,w1,w2⟩:=hnm.set ht hm
     rw [w1]
     simp only [Option.bind_some]
     rw [Qdf (by simp only [List.length_cons,List.length_nil]; unfold lim; omega)]
     simp only [Option.bind_some]
     rw [w2.get ht,if_pos (by simp)]
     simp only [Option.bind_some]
     rw [Qdf (by simp only [List.length_cons,List.length_nil]; unfold lim; omega)]
     simp only [Option.bind_some]
     rw [Qbj (by omega)]
     rw [e1] at hpre hfi hmem ⊢
     obtain ⟨num',q1,q2⟩:=ih _ ⟨j + 1,o ++ [l[j].To],es ++ [⟨(i : Int),l[j].Event,((o ++ [l[j].To]).idxOf l[j].To : Int)⟩],num1,rfl,by omega,hfi,w2,by simp only [List.length_append,List.length_cons,List.length_nil]; omega⟩ (by simp only; omega) (j + 1) _ _ _ rfl
     refine ⟨num',q1,?_⟩
     rw [q2,Qbaf hpre hmem]
     simp only [List.append_assoc,List.cons_append,List.nil_append]
   ·rw [if_neg (by omega)]
    obtain rfl : j = l.length:=by omega
    exact ⟨num,by simpa using hnm,by simp⟩) fuel (o,0,es,num) ⟨0,o,es,num,rfl,Nat.zero_le _,ho,hn,by omega⟩ (by simp only; omega) 0 o es num rfl
 obtain ⟨num',q1,q2⟩:=key
 exact ⟨num',by simpa using q1,by simpa using q2⟩
theorem Qbg1 (fuel : Nat) (hfu : 1099511627776 ≤ fuel) {num : List Int} (h0 : 0 < a.States) (hn : Num a [0] num) :
  ∃ num',Qcy (fun (k28 : List Int × Int × List Int × List Int × List Qd × List Int × List Qd × List Int → Option (List Int × List Int × List Int × List Qd × List Int × List Qd × List Int)) ((order20,i21,c22,c23,c24,r25,r26,c27) : (List Int) × Int × (List Int) × (List Int) × (List Qd) × (List Int) × (List Qd) × (List Int))=>(if (i21 < (order20.length : Int)) then ((((((getO order20 i21).bind fun x30=>((Qbt a.Marked x30).bind fun (r33,r34)=>(if r34 then ((appO r25 [i21]).bind fun x36=>some x36) else some r25)))).bind fun (r38 : List Int)=>((getO order20 i21).bind fun x39=>((Qed a x39).bind fun x42=>Qcy (fun k47 ((order43,x44,r45,c46) : (List Int) × Int × (List Qd) × (List Int))=>(if (x44 < (x42.length : Int)) then ((getO x42 x44).bind fun x49=>((((inO (Int.toNat a.States) x49.To).bind fun u51=>((getO c46 x49.To).bind fun x53=>(if (x53 < 0) then ((inO (Int.toNat a.States) x49.To).bind fun u56=>((setO c46 x49.To (order43.length : Int)).bind fun x58=>((appO order43 [x49.To]).bind fun x60=>some (x60,x58)))) else some (order43,c46))))).bind fun ((order62,c63) : (List Int) × (List Int))=>((inO (Int.toNat a.States) x49.To).bind fun u64=>((getO c63 x49.To).bind fun x66=>((appO r45 [(Qd.mk i21 x49.Event x66)]).bind fun x68=>k47 (order62,(IntKind.wrap .i64 (x44 + 1)),x68,c63)))))) else some (order43,r38,r45,c46))) fuel (order20,0,r26,c27))))).bind fun ((order70,r71,r72,c73) : (List Int) × (List Int) × (List Qd) × (List Int))=>k28 (order70,(IntKind.wrap .i64 (i21 + 1)),c22,c23,c24,r71,r72,c73)) else some (order20,c22,c23,c24,r25,r26,c27))) fuel ([0],0,[],[],[],[],[],num) = some (Qce a,[],[],[],Qjq a.Marked 0 (Qce a),Qgq a (Qce a) 0 (Qce a),num'):=by
 have hst:=h.st
 have hs:=h.small.1
 have hsb:=h.small.2
 have key:=Qf3 (F:=(fun (k28 : List Int × Int × List Int × List Int × List Qd × List Int × List Qd × List Int → Option (List Int × List Int × List Int × List Qd × List Int × List Qd × List Int)) ((order20,i21,c22,c23,c24,r25,r26,c27) : (List Int) × Int × (List Int) × (List Int) × (List Qd) × (List Int) × (List Qd) × (List Int))=>(if (i21 < (order20.length : Int)) then ((((((getO order20 i21).bind fun x30=>((Qbt a.Marked x30).bind fun (r33,r34)=>(if r34 then ((appO r25 [i21]).bind fun x36=>some x36) else some r25)))).bind fun (r38 : List Int)=>((getO order20 i21).bind fun x39=>((Qed a x39).bind fun x42=>Qcy (fun k47 ((order43,x44,r45,c46) : (List Int) × Int × (List Qd) × (List Int))=>(if (x44 < (x42.length : Int)) then ((getO x42 x44).bind fun x49=>((((inO (Int.toNat a.States) x49.To).bind fun u51=>((getO c46 x49.To).bind fun x53=>(if (x53 < 0) then ((inO (Int.toNat a.States) x49.To).bind fun u56=>((setO c46 x49.To (order43.length : Int)).bind fun x58=>((appO order43 [x49.To]).bind fun x60=>some (x60,x58)))) else some (order43,c46))))).bind fun ((order62,c63) : (List Int) × (List Int))=>((inO (Int.toNat a.States) x49.To).bind fun u64=>((getO c63 x49.To).bind fun x66=>((appO r45 [(Qd.mk i21 x49.Event x66)]).bind fun x68=>k47 (order62,(IntKind.wrap .i64 (x44 + 1)),x68,c63)))))) else some (order43,r38,r45,c46))) fuel (order20,0,r26,c27))))).bind fun ((order70,r71,r72,c73) : (List Int) × (List Int) × (List Qd) × (List Int))=>k28 (order70,(IntKind.wrap .i64 (i21 + 1)),c22,c23,c24,r71,r72,c73)) else some (order20,c22,c23,c24,r25,r26,c27))))
  (fun x=>∃ (i : Nat) (o ms : List Int) (es : List Qd) (num : List Int),x = (o,(i : Int),[],[],[],ms,es,num) ∧ i ≤ o.length ∧ Fnd a o ∧ Num a o num ∧ ms.length ≤ i ∧ es.length ≤ 32 * i ∧ (∀ j s,j < i → o[j]? = some s → ∀ t ∈ Qfz a s,t ∈ o)) (fun x=>a.States.toNat + 1 - x.2.1.toNat)
  (fun x r=>∀ (i : Nat) (o ms : List Int) (es : List Qd) (num : List Int),x = (o,(i : Int),[],[],[],ms,es,num) → ∃ num',r = some (bfs a (a.States.toNat + 1 - i) i o,[],[],[],ms ++ Qjq a.Marked i ((bfs a (a.States.toNat + 1 - i) i o).drop i),es ++ Qgq a (bfs a (a.States.toNat + 1 - i) i o) i ((bfs a (a.States.toNat + 1 - i) i o).drop i),num')) (by
   rintro k _ ⟨i,o,ms,es,num,rfl,hi,hf,hnm,hml,hel,hcl⟩ ih i' o' ms' es' num' he
   obtain ⟨rfl,he2⟩:=Prod.mk.inj he
   obtain ⟨hii,he3⟩:=Prod.mk.inj he2
   obtain ⟨_,he4⟩:=Prod.mk.inj he3
   obtain ⟨_,he5⟩:=Prod.mk.inj he4
   obtain ⟨_,he6⟩:=Prod.mk.inj he5
   obtain ⟨rfl,he7⟩:=Prod.mk.inj he6
   obtain ⟨rfl,rfl⟩:=Prod.mk.inj he7
   obtain rfl : i = i':=by omega
   have hfl:=hf.len
   dsimp only
   by_cases hlt : i < o.length
   ·have hrg:=hf.rg _ (List.getElem_mem hlt)
    rw [if_pos (by omega),Qcs hlt]
    simp only [Option.bind_some]
    obtain ⟨n,hsr⟩:=Qbji (v:=o[i]) h.ma hs.2.1
    rw [hsr]
    simp only [Option.bind_some]
    rw [Qbm6 h hs (by omega) (by omega)]
    have hto : ∀ x ∈ outP a o[i],0 ≤ x.To ∧ x.To < a.States:=fun x hx=>by
     unfold outP at hx
     have:=h.ed0 x (List.mem_filter.1 hx).1; omega
    have hol : (outP a o[i]).length ≤ 200000:=Nat.le_trans (List.length_filter_le _ _) (by omega)
    have hrow:=Qbgb h (F:=o) (i:=i) (s:=o[i])
    have hrl : (outP a o[i]).length ≤ 32:=by simpa [rowP] using hrow
    obtain ⟨q1,q2,q3,_⟩:=Q06 hf (Qvk h o[i])
    have hle:=q2.length_le
    have hcl' : ∀ j s,j < i + 1 → ((Qfz a o[i]).foldl ins o)[j]? = some s → ∀ t ∈ Qfz a s,t ∈ (Qfz a o[i]).foldl ins o:=by
     intro j s hj hs' t ht
     by_cases hji : j < i
     ·have hjl : j < o.length:=by omega
      have : o[j]? = some s:=by
       have:=Qmy q2 (List.getElem?_eq_getElem hjl)
       rw [hs'] at this; rw [List.getElem?_eq_getElem hjl]; exact this.symm
      exact q2.subset (hcl j s hji this t ht)
     ·obtain rfl : j = i:=by omega
      have:=Qmy q2 (List.getElem?_eq_getElem hlt)
      rw [hs'] at this; cases this
      exact q3 t ht
    have hF:=Qbcp h (a.States.toNat + 1 - (i + 1)) (i + 1) ((Qfz a o[i]).foldl ins o) q1 (by omega) (by omega) hcl'
    have hget : (bfs a (a.States.toNat + 1 - (i + 1)) (i + 1) ((Qfz a o[i]).foldl ins o))[i]? = some o[i]:=Qmy (q2.trans hF.2.1) (List.getElem?_eq_getElem hlt)
    rw [show a.States.toNat + 1 - i = (a.States.toNat + 1 - (i + 1)) + 1 from by omega,Qbga hlt]
    have hdrop : (bfs a (a.States.toNat + 1 - (i + 1)) (i + 1) ((Qfz a o[i]).foldl ins o)).drop i = o[i] :: (bfs a (a.States.toNat + 1 - (i + 1)) (i + 1) ((Qfz a o[i]).foldl ins o)).drop (i + 1):=by
     obtain ⟨w1,w2⟩:=List.getElem?_eq_some_iff.1 hget
     rw [List.drop_eq_getElem_cons w1,w2]
    rw [hdrop]
    simp only [Qjq,Qgq]
    have hidx : ∀ x ∈ outP a o[i],(bfs a (a.States.toNat + 1 - (i + 1)) (i + 1) ((Qfz a o[i]).foldl ins o)).idxOf x.To = ((Qfz a o[i]).foldl ins o).idxOf x.To:=fun x hx =>
     Qbaf hF.2.1 (q3 x.To (List.mem_map.2 ⟨x,hx,rfl⟩))
    have hrow2 : rowP a (bfs a (a.States.toNat + 1 - (i + 1)) (i + 1) ((Qfz a o[i]).foldl ins o)) i o[i] = (outP a o[i]).map fun x=>⟨(i : Int),x.Event,(((Qfz a o[i]).foldl ins o).idxOf x.To : Int)⟩ :=
     List.map_congr_left fun x hx=>by rw [hidx x hx]
    rw [hrow2]
    generalize hFe : bfs a (a.States.toNat + 1 - (i + 1)) (i + 1) ((Qfz a o[i]).foldl ins o) = F at *
    have hstep : ∀ ms1 : List Int,ms1.length ≤ i + 1 → ∃ num',(Option.bind (Qcy (fun (k47 : List Int × Int × List Qd × List Int → Option (List Int × List Int × List Qd × List Int)) ((order43,x44,r45,c46) : (List Int) × Int × (List Qd) × (List Int))=>(if (x44 < ((outP a o[i]).length : Int)) then ((getO (outP a o[i]) x44).bind fun x49=>((((inO (Int.toNat a.States) x49.To).bind fun u51=>((getO c46 x49.To).bind fun x53=>(if (x53 < 0) then ((inO (Int.toNat a.States) x49.To).bind fun u56=>((setO c46 x49.To (order43.length : Int)).bind fun x58=>((appO order43 [x49.To]).bind fun x60=>some (x60,x58)))) else some (order43,c46))))).bind fun ((order62,c63) : (List Int) × (List Int))=>((inO (Int.toNat a.States) x49.To).bind fun u64=>((getO c63 x49.To).bind fun x66=>((appO r45 [(Qd.mk (i : Int) x49.Event x66)]).bind fun x68=>k47 (order62,(IntKind.wrap .i64 (x44 + 1)),x68,c63)))))) else some (order43,ms1,r45,c46))) fuel (o,0,es,num)) fun x=>k (x.1,IntKind.wrap .i64 ((i : Int) + 1),[],[],[],x.2.1,x.2.2.1,x.2.2.2)) = some (F,[],[],[],ms1 ++ Qjq a.Marked (i + 1) (F.drop (i + 1)),(es ++ (outP a o[i]).map (fun x=>⟨(i : Int),x.Event,(((Qfz a o[i]).foldl ins o).idxOf x.To : Int)⟩)) ++ Qgq a F (i + 1) (F.drop (i + 1)),num'):=by
     intro ms1 hms1
     obtain ⟨num1,n1,n2⟩:=Qbjj h fuel hfu hol hto (ms:=ms1) (i:=i) hf hnm (es:=es) (by omega)
     rw [n2]
     simp only [Option.bind_some]
     rw [Qbj (by omega)]
     have hel2 : (es ++ (outP a o[i]).map (fun x=>(⟨(i : Int),x.Event,(((Qfz a o[i]).foldl ins o).idxOf x.To : Int)⟩ : Qd))).length ≤ 32 * (i + 1):=by simp only [List.length_append,List.length_map]; omega
     have hfin:=ih _ ⟨i + 1,(Qfz a o[i]).foldl ins o,ms1,_,num1,rfl,by omega,q1,n1,hms1,hel2,hcl'⟩ (by simp only; omega) (i + 1) _ ms1 _ num1 rfl
     rw [hFe] at hfin
     exact hfin
    by_cases hm : o[i] ∈ a.Marked
    ·simp only [hm,decide_true,if_true]
     rw [Qdf (by simp only [List.length_cons,List.length_nil]; unfold lim; omega)]
     simp only [Option.bind_some]
     obtain ⟨num1,n1⟩:=hstep (ms ++ [(i : Int)]) (by simp only [List.length_append,List.length_cons,List.length_nil]; omega)
     refine ⟨num1,Eq.trans ?_ (n1.trans ?_)⟩
     ·rfl
     ·simp only [List.append_assoc]
    ·simp only [hm,decide_false,Bool.false_eq_true,if_false,Option.bind_some]
     obtain ⟨num1,n1⟩:=hstep ms (by omega)
     refine ⟨num1,Eq.trans ?_ (n1.trans ?_)⟩
     ·rfl
     ·simp only [List.append_assoc,List.nil_append]
   ·rw [if_neg (by omega)]
    obtain rfl : i = o.length:=by omega
    rw [Qbje]
    exact ⟨num,by simp [Qjq,Qgq]⟩) fuel ([0],0,[],[],[],[],[],num) ⟨0,[0],[],[],num,rfl,by simp,⟨by simp,fun s hs=>by simp at hs; omega⟩,hn,by simp,by simp,fun j s hj=>by omega⟩ (by simp only; omega) 0 [0] [] [] num rfl
 obtain ⟨num',hk⟩:=key
 refine ⟨num',?_⟩
 rw [hk]
 simp [Qce,h0]
theorem Qbat : Qew a = some (Qfi a):=by
 have hst:=h.st
 have hsb:=h.small.2
 unfold Qew Qbr
 obtain ⟨fuel,hfu,hge⟩ : ∃ f,Qb5 = f ∧ 1099511627776 ≤ f:=⟨_,rfl,Nat.le_refl _⟩
 rw [hfu,Qbcq (by unfold lim; omega),Option.bind_some]
 by_cases h0 : a.States = 0
 ·rw [if_pos (by simpa using h0)]
  unfold Qfi Qce
  rw [if_neg (by omega)]
  rw [h0]; rfl
 ·rw [if_neg (by simpa using h0),show mkO a.States (0 : Int) = some (List.replicate a.States.toNat 0) from by unfold mkO; rw [if_pos ⟨by omega,by unfold lim; omega⟩],Option.bind_some]
  have hfill:=Qkh (len:=a.States.toNat) (F:=fun (k9 : Int × List Int → Option (List Int)) ((x7,c8) : Int × (List Int))=>(if (x7 < ((Int.toNat a.States) : Int)) then ((inO (Int.toNat a.States) x7).bind fun u11=>((setO c8 x7 (-1)).bind fun x13=>k9 ((IntKind.wrap .i64 (x7 + 1)),x13))) else some c8))
   (fun n (c : List Int)=>((n : Int),c)) (fun n c=>c.length = a.States.toNat ∧ c.take n = List.replicate n (-1)) (fun _ _=>some (List.replicate a.States.toNat (-1))) (by
    rintro k n c hn ⟨k1,k2⟩ ih
    dsimp only
    rw [if_pos (by omega),show inO (Int.toNat a.States) (n : Int) = some () from by unfold inO; rw [if_pos (by omega)],Option.bind_some,show setO c (n : Int) (-1) = some (c.set n (-1)) from by unfold setO; rw [if_pos ⟨by omega,by rw [k1]; simpa using hn⟩]; rfl,Option.bind_some,Qbj (by omega)]
    refine ih _ ⟨by rw [List.length_set]; exact k1,?_⟩
    rw [List.take_add_one,List.take_set_of_le (Nat.le_refl _),k2,List.getElem?_set_self (by omega)]
    rw [List.replicate_succ']; rfl) (by
    rintro k c ⟨k1,k2⟩
    dsimp only
    rw [if_neg (by omega)]
    rw [← k1,List.take_length,k1] at k2
    rw [k2]) fuel 0 (List.replicate a.States.toNat 0) (Nat.zero_le _) (by omega) ⟨by simp,by simp⟩
  refine (congrArg (fun w=>Option.bind w _) hfill).trans ?_
  rw [Option.bind_some,show inO (Int.toNat a.States) 0 = some () from by unfold inO; rw [if_pos (by omega)],Option.bind_some]
  have hn : Num a [0] ((List.replicate a.States.toNat (-1)).set 0 0):=⟨by simp,fun s hs=>by
   rw [List.getElem?_set]
   cases s with
   | zero=>simp; omega
   | succ s=>simp [hs]; omega⟩
  rw [show setO (List.replicate a.States.toNat (-1 : Int)) 0 0 = some ((List.replicate a.States.toNat (-1)).set 0 0) from by unfold setO; rw [if_pos ⟨by omega,by simp; omega⟩]; rfl,Option.bind_some]
  obtain ⟨num',hk⟩:=Qbg1 h fuel hge (by omega) hn
  rw [hk]
  rfl
end
end Go.Abs
end
section
namespace Go.Abs
open Go
set_option linter.unusedSimpArgs false
set_option linter.unusedVariables false
section
variable {a : Qa} (h : Right a)
include h
end
end Go.Abs
end
