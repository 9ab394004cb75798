/-
  Part 11 of the proof: see the last text.
-/
import Derived.Test.YtccapdeoaoiieaaGreatDoorP10
import Derived.Test.YtccapdeoaoiieaaGreatDoorProg
import Derived.KernelRfl
import Derived.Sort.Statements
import Derived.Shelf.SlSortCmp.NoneTotal
import Derived.Lib.ItoaNum
import Derived.Lib.RuneBytes
set_option linter.unusedVariables false
set_option linter.unusedSimpArgs false
set_option linter.unusedSectionVars false
section
namespace Go.Abs
open Go
set_option maxRecDepth 10000
set_option maxHeartbeats 4000000
theorem Qqy {P:Program} {c:Nat} {Qcn:_} {Qdt:_} {Qc3:_} {f_slices_SortFunc_Removal:_}
    (Hbf:Qgt P 138 Qcn)
    (Hbk:Qjd P 139 Qdt)
    (Hbb:Qhk P 140 Qc3)
    (Hdh:RowK P 141 Q3 4 [.clo 142 []] f_slices_SortFunc_Removal) (hcf:Qr P c=some Qlt) (fuel:Nat):Qib P c (Qdb Qcn Qdt Qc3 f_slices_SortFunc_Removal fuel):=by
 intro s1 k2 k4 k6 r h;intro M nb hk3 hk5 hk7 hv8 hv9;refine Qbfk hcf rfl M _ nb (fun hM=>Qqk hM ⟨ltB hM hk3,tv⟩) fun Γ hP hnt hM hU=>?_;subst hP;have hU0:=hU nb (Nat.le_refl _) (by omega);have hU1:=hU (nb+1) (by omega) (by omega);have:=Qh5 hU0 hk3;have:=Qh5 hU0 hk5;have:=Qh5 hU0 hk7;refine ini ?_;refine Tr.puts [(k2,.cells ([(Qj s1.Task.Events),(l_ s1.Task.Plant.zG),(i_ s1.Task.Plant.zM),(l_ s1.Task.Plant.zH),(Qc s1.Task.Plant.zJ),(l_ s1.Task.First.zG),(i_ s1.Task.First.zM),(l_ s1.Task.First.zH),(Qc s1.Task.First.zJ),(i_ s1.Task.Class),(l_ s1.Task.zC),(o_ s1.observable_),.d (.lst 1 (List.map (eL 3 Qh) s1.out_)),.own 1 (List.map eB s1.certain_),.own 1 (List.map (eL 1 (eI .i64)) s1.states_),.d (mq0 s1.diagnosed_),.d (mq0 s1.firsts_),(Qe s1.switches_),.own 1 (List.map (eL 1 (eI .i64)) s1.estimates_),.mp k4,.mp k6,.nils 1,.nils 4,(i_ s1.rounds_)]))] ⟨hk3,tv⟩ ?_;refine Z 6 0 ?_;refine Rn.load (v:=.d (.lst 1 (List.map (eL 1 (eI .i64)) s1.estimates_))) tv rfl (Qbh (ltB hM hk3) pg0) rfl rfl ?_;refine Z 1 0 ?_;obtain ⟨x10,h11,h⟩:=bnd h;refine Rn.makes (g:=(fun (x:Int)=>[V.d (.int .i64 x)])) tv rfl rfl rfl rfl rfl h11 ?_;refine Z 2 0 ?_;refine Rn.weak (by show WeakSt Γ _ ⟨look [(0,.ptr k2 0),(6,.ptr k2 0),(7,.ptr k2 0),(8,.ptr k2 0),(9,.ptr k2 18),(10,.d (.lst 1 (List.map (eL 1 (eI .i64)) s1.estimates_))),(11,(i_ (s1.estimates_.length:Int))),(12,.sl 1 nb 0 (Int.toNat (s1.estimates_.length:Int)) (Int.toNat (s1.estimates_.length:Int))),(13,.ptr k2 0),(14,.ptr k2 21)],Ql Γ.n0 (bxs []) (Mem.puts M [(nb,.cells (Qb7 (fun (x:Int)=>[V.d (.int .i64 x)]) x10)),(k2,.cells ([(Qj s1.Task.Events),(l_ s1.Task.Plant.zG),(i_ s1.Task.Plant.zM),(l_ s1.Task.Plant.zH),(Qc s1.Task.Plant.zJ),(l_ s1.Task.First.zG),(i_ s1.Task.First.zM),(l_ s1.Task.First.zH),(Qc s1.Task.First.zJ),(i_ s1.Task.Class),(l_ s1.Task.zC),(o_ s1.observable_),.d (.lst 1 (List.map (eL 3 Qh) s1.out_)),.own 1 (List.map eB s1.certain_),.own 1 (List.map (eL 1 (eI .i64)) s1.states_),.d (mq0 s1.diagnosed_),.d (mq0 s1.firsts_),(Qe s1.switches_),.own 1 (List.map (eL 1 (eI .i64)) s1.estimates_),.mp k4,.mp k6,.nils 1,.nils 4,(i_ s1.rounds_)]))]),Γ.n0+70⟩;exact Qbdn 12 hU0 ⟨(Qh5 hU0 hk3),tv⟩ rfl (Qbgl (fun _=>rfl) _) ⟨(Q7v (ltB hM hk3)),(Q7v (ltB hM hk3)),(Q7v (ltB hM hk3)),(Q7v (ltB hM hk3)),(Q7v (ltB hM hk3)),sq,sq,pSl,(Q7v (ltB hM hk3)),(Q7v (ltB hM hk3)),tv⟩ tv rfl) ?_;refine Rn.storeVB (v:=.sl 1 nb 0 (Int.toNat (s1.estimates_.length:Int)) (Int.toNat (s1.estimates_.length:Int))) (cs':=[(Qj s1.Task.Events),(l_ s1.Task.Plant.zG),(i_ s1.Task.Plant.zM),(l_ s1.Task.Plant.zH),(Qc s1.Task.Plant.zJ),(l_ s1.Task.First.zG),(i_ s1.Task.First.zM),(l_ s1.Task.First.zH),(Qc s1.Task.First.zJ),(i_ s1.Task.Class),(l_ s1.Task.zC),(o_ s1.observable_),.d (.lst 1 (List.map (eL 3 Qh) s1.out_)),.own 1 (List.map eB s1.certain_),.own 1 (List.map (eL 1 (eI .i64)) s1.states_),.d (mq0 s1.diagnosed_),.d (mq0 s1.firsts_),(Qe s1.switches_),.own 1 (List.map (eL 1 (eI .i64)) s1.estimates_),.mp k4,.mp k6,.sl 1 nb 0 (Int.toNat (s1.estimates_.length:Int)) (Int.toNat (s1.estimates_.length:Int)),.nils 4,(i_ s1.rounds_)]) tv rfl rfl rfl rfl rfl (ltSl hU0.lt) (ltB hM hk3) (pgS (Qh5 hU0 hk3) pg0) rfl rfl (psS (Qh5 hU0 hk3) ps0) ?_;refine Z 2 0 ?_;refine Tr.weak (Q6x (B:=[(nb,.cells (Qb7 (fun (x:Int)=>[V.d (.int .i64 x)]) x10)),(k2,.cells ([(Qj s1.Task.Events),(l_ s1.Task.Plant.zG),(i_ s1.Task.Plant.zM),(l_ s1.Task.Plant.zH),(Qc s1.Task.Plant.zJ),(l_ s1.Task.First.zG),(i_ s1.Task.First.zM),(l_ s1.Task.First.zH),(Qc s1.Task.First.zJ),(i_ s1.Task.Class),(l_ s1.Task.zC),(o_ s1.observable_),.d (.lst 1 (List.map (eL 3 Qh) s1.out_)),.own 1 (List.map eB s1.certain_),.own 1 (List.map (eL 1 (eI .i64)) s1.states_),.d (mq0 s1.diagnosed_),.d (mq0 s1.firsts_),(Qe s1.switches_),.own 1 (List.map (eL 1 (eI .i64)) s1.estimates_),.mp k4,.mp k6,.sl 1 nb 0 (Int.toNat (s1.estimates_.length:Int)) (Int.toNat (s1.estimates_.length:Int)),.nils 4,(i_ s1.rounds_)]))]) (B':=[(nb,.cells (Qb7 (fun (x:Int)=>[V.d (.int .i64 x)]) x10)),(k2,.cells ([(Qj s1.Task.Events),(l_ s1.Task.Plant.zG),(i_ s1.Task.Plant.zM),(l_ s1.Task.Plant.zH),(Qc s1.Task.Plant.zJ),(l_ s1.Task.First.zG),(i_ s1.Task.First.zM),(l_ s1.Task.First.zH),(Qc s1.Task.First.zJ),(i_ s1.Task.Class),(l_ s1.Task.zC),(o_ s1.observable_),.d (.lst 1 (List.map (eL 3 Qh) s1.out_)),.own 1 (List.map eB s1.certain_),.own 1 (List.map (eL 1 (eI .i64)) s1.states_),.d (mq0 s1.diagnosed_),.d (mq0 s1.firsts_),(Qe s1.switches_),.own 1 (List.map (eL 1 (eI .i64)) s1.estimates_),.mp k4,.mp k6,.sl 1 nb 0 (Int.toNat (s1.estimates_.length:Int)) (Int.toNat (s1.estimates_.length:Int)),.ownV 4 (List.map Q3 []),(i_ s1.rounds_)]))]) ⟨⟨rfl,(WkVs.refl _)⟩,⟨rfl,(cS rfl (cS rfl (cS rfl (cS rfl (cS rfl (cS rfl (cS rfl (cS rfl (cS rfl (cS rfl (cS rfl (cS rfl (cS rfl (cS rfl (cS rfl (cS rfl (cS rfl (cS rfl (cS rfl (cS rfl (cS rfl (cS rfl (.cons (WkV.nilsV _) (cS rfl .nil))))))))))))))))))))))))⟩,tv⟩ (by show WeakSt Γ _ ⟨look [(0,.ptr k2 0),(6,.ptr k2 0),(7,.ptr k2 0),(8,.ptr k2 0),(9,.ptr k2 18),(10,.d (.lst 1 (List.map (eL 1 (eI .i64)) s1.estimates_))),(11,(i_ (s1.estimates_.length:Int))),(12,.sl 1 nb 0 (Int.toNat (s1.estimates_.length:Int)) (Int.toNat (s1.estimates_.length:Int))),(13,.ptr k2 0),(14,.ptr k2 21)],Ql Γ.n0 (bxs []) (Mem.puts M [(nb,.cells (Qb7 (fun (x:Int)=>[V.d (.int .i64 x)]) x10)),(k2,.cells ([(Qj s1.Task.Events),(l_ s1.Task.Plant.zG),(i_ s1.Task.Plant.zM),(l_ s1.Task.Plant.zH),(Qc s1.Task.Plant.zJ),(l_ s1.Task.First.zG),(i_ s1.Task.First.zM),(l_ s1.Task.First.zH),(Qc s1.Task.First.zJ),(i_ s1.Task.Class),(l_ s1.Task.zC),(o_ s1.observable_),.d (.lst 1 (List.map (eL 3 Qh) s1.out_)),.own 1 (List.map eB s1.certain_),.own 1 (List.map (eL 1 (eI .i64)) s1.states_),.d (mq0 s1.diagnosed_),.d (mq0 s1.firsts_),(Qe s1.switches_),.own 1 (List.map (eL 1 (eI .i64)) s1.estimates_),.mp k4,.mp k6,.sl 1 nb 0 (Int.toNat (s1.estimates_.length:Int)) (Int.toNat (s1.estimates_.length:Int)),.ownV 4 (List.map Q3 []),(i_ s1.rounds_)]))]),Γ.n0+70⟩;exact Ql8 [] ⟨(Qys (ltB hM hk3)),(Qys (ltB hM hk3)),(Qys (ltB hM hk3)),(Qys (ltB hM hk3)),(Qys (ltB hM hk3)),sq,sq,(kSlB hU0.lt),(Qys (ltB hM hk3)),(Qys (ltB hM hk3)),tv⟩ tv rfl)) ?_;refine Z 2 0 ?_;obtain ⟨⟨⟩,hl12,h⟩:=bnd h;refine cm h (fun _ h13 M2 nb2 hn hx=>Hbf _ k2 k4 k6 nb _ h13 M2 nb2 (by (try unfold Qs);rw [Qel hl12];exact (hx _ _ (Qbh (ltB hM hk3) (pgS (Qh5 hU0 hk3) pg0)))) (hx _ _ (Qbh (ltB hM hk5) (pgS (Qh5 hU0 hk5) (pgS hv8.symm (pgE hk5))))) (hx _ _ (Qbh (ltB hM hk7) (pgS (Qh5 hU0 hk7) (pgS hv9.symm (pgE hk7))))) (hx _ _ (Qbh hU0.lt pg0))) rfl (cq fun _ h=>?_);refine Z 2 0 ?_;refine cu h (fun (c46,c47,c48)=>⟨look [(0,.ptr k2 0)],Ql Γ.n0 (bxs []) (Mem.puts M [(nb,.cells (Qb7 (fun (x:Int)=>[V.d (.int .i64 x)]) c46)),(k2,.cells ([(Qj s1.Task.Events),(l_ s1.Task.Plant.zG),(i_ s1.Task.Plant.zM),(l_ s1.Task.Plant.zH),(Qc s1.Task.Plant.zJ),(l_ s1.Task.First.zG),(i_ s1.Task.First.zM),(l_ s1.Task.First.zH),(Qc s1.Task.First.zJ),(i_ s1.Task.Class),(l_ s1.Task.zC),(o_ s1.observable_),.d (.lst 1 (List.map (eL 3 Qh) s1.out_)),.own 1 (List.map eB s1.certain_),.own 1 (List.map (eL 1 (eI .i64)) s1.states_),.d (mq0 s1.diagnosed_),.d (mq0 s1.firsts_),(Qe s1.switches_),.own 1 (List.map (eL 1 (eI .i64)) s1.estimates_),.mp k4,.mp k6,.sl 1 nb 0 (Int.toNat (s1.estimates_.length:Int)) (Int.toNat (s1.estimates_.length:Int)),.ownV 4 (List.map Q3 c47),(i_ c48)]))]),Γ.n0+70⟩) (fun _ h=>?_) (fun ⟨c46,c47,c48⟩ h=>?_)
 ·refine Z 5 0 ?_;refine lo h (fun (l15,rv16,c17,c18,c19)=>⟨look [(0,.ptr k2 0),(2,(Qcq l15)),(3,(i_ rv16))],Ql Γ.n0 (bxs []) (Mem.puts M [(nb,.cells (Qb7 (fun (x:Int)=>[V.d (.int .i64 x)]) c17)),(k2,.cells ([(Qj s1.Task.Events),(l_ s1.Task.Plant.zG),(i_ s1.Task.Plant.zM),(l_ s1.Task.Plant.zH),(Qc s1.Task.Plant.zJ),(l_ s1.Task.First.zG),(i_ s1.Task.First.zM),(l_ s1.Task.First.zH),(Qc s1.Task.First.zJ),(i_ s1.Task.Class),(l_ s1.Task.zC),(o_ s1.observable_),.d (.lst 1 (List.map (eL 3 Qh) s1.out_)),.own 1 (List.map eB s1.certain_),.own 1 (List.map (eL 1 (eI .i64)) s1.states_),.d (mq0 s1.diagnosed_),.d (mq0 s1.firsts_),(Qe s1.switches_),.own 1 (List.map (eL 1 (eI .i64)) s1.estimates_),.mp k4,.mp k6,.sl 1 nb 0 (Int.toNat (s1.estimates_.length:Int)) (Int.toNat (s1.estimates_.length:Int)),.ownV 4 (List.map Q3 c18),(i_ c19)]))]),Γ.n0+70⟩) wk (fun _ ⟨l15,rv16,c17,c18,c19⟩ h=>?_);refine Tr.seq ?_;refine cw h [0,2,3] [] (fun x22 e=>(23,(b_ x22))::e) (fun _ l=>l) ke (fun _ h=>?_) (fun x22 h=>?_)
  ·refine Z 4 0 ?_;exact bs h (fun _ h=>Y) (fun _ h=>Y)
  ·refine cd h rfl (fun h=>?_) (fun h=>Y);refine Z 2 0 ?_;refine cu h (fun (c35,c36)=>⟨look [(0,.ptr k2 0),(2,(Qcq l15)),(3,(i_ rv16))],Ql Γ.n0 (bxs []) (Mem.puts M [(nb,.cells (Qb7 (fun (x:Int)=>[V.d (.int .i64 x)]) c35)),(k2,.cells ([(Qj s1.Task.Events),(l_ s1.Task.Plant.zG),(i_ s1.Task.Plant.zM),(l_ s1.Task.Plant.zH),(Qc s1.Task.Plant.zJ),(l_ s1.Task.First.zG),(i_ s1.Task.First.zM),(l_ s1.Task.First.zH),(Qc s1.Task.First.zJ),(i_ s1.Task.Class),(l_ s1.Task.zC),(o_ s1.observable_),.d (.lst 1 (List.map (eL 3 Qh) s1.out_)),.own 1 (List.map eB s1.certain_),.own 1 (List.map (eL 1 (eI .i64)) s1.states_),.d (mq0 s1.diagnosed_),.d (mq0 s1.firsts_),(Qe s1.switches_),.own 1 (List.map (eL 1 (eI .i64)) s1.estimates_),.mp k4,.mp k6,.sl 1 nb 0 (Int.toNat (s1.estimates_.length:Int)) (Int.toNat (s1.estimates_.length:Int)),.ownV 4 (List.map Q3 c18),(i_ c36)]))]),Γ.n0+70⟩) (fun _ h=>?_) (fun ⟨c35,c36⟩ h=>?_)
   ·refine Z 7 0 ?_;refine lo h (fun (x24,c25,c26)=>⟨look [(0,.ptr k2 0),(2,(Qcq l15)),(3,(i_ rv16)),(24,(Qcp l15)),(25,(i_ (l15.length:Int))),(26,(i_ x24))],Ql Γ.n0 (bxs []) (Mem.puts M [(nb,.cells (Qb7 (fun (x:Int)=>[V.d (.int .i64 x)]) c25)),(k2,.cells ([(Qj s1.Task.Events),(l_ s1.Task.Plant.zG),(i_ s1.Task.Plant.zM),(l_ s1.Task.Plant.zH),(Qc s1.Task.Plant.zJ),(l_ s1.Task.First.zG),(i_ s1.Task.First.zM),(l_ s1.Task.First.zH),(Qc s1.Task.First.zJ),(i_ s1.Task.Class),(l_ s1.Task.zC),(o_ s1.observable_),.d (.lst 1 (List.map (eL 3 Qh) s1.out_)),.own 1 (List.map eB s1.certain_),.own 1 (List.map (eL 1 (eI .i64)) s1.states_),.d (mq0 s1.diagnosed_),.d (mq0 s1.firsts_),(Qe s1.switches_),.own 1 (List.map (eL 1 (eI .i64)) s1.estimates_),.mp k4,.mp k6,.sl 1 nb 0 (Int.toNat (s1.estimates_.length:Int)) (Int.toNat (s1.estimates_.length:Int)),.ownV 4 (List.map Q3 c18),(i_ c26)]))]),Γ.n0+70⟩) wk (fun _ ⟨x24,c25,c26⟩ h=>?_);refine Z 5 0 ?_;refine ci h rfl (fun h=>?_) (fun h=>Y);refine Z 15 1 ?_;intro x29 h;refine Rn.load (v:=.sl 1 nb 0 (Int.toNat (s1.estimates_.length:Int)) (Int.toNat (s1.estimates_.length:Int))) tv rfl (Qbh (ltB hM hk3) (pgS (Qh5 hU0 hk3) pg0)) rfl rfl ?_;refine Z 5 1 ?_;intro h;obtain ⟨c33,h34,h⟩:=bnd h;refine Rn.storeAB (g:=(fun (x:Int)=>[V.d (.int .i64 x)])) (v:=(i_ x29.Rank)) (fun _=>rfl) tv rfl rfl rfl hU0.lt rfl pg0 rfl h34 ps0 ?_;refine Z 7 0 ?_;refine Rn.storeB (v:=(i_ x29.Rank)) (cs':=[(Qj s1.Task.Events),(l_ s1.Task.Plant.zG),(i_ s1.Task.Plant.zM),(l_ s1.Task.Plant.zH),(Qc s1.Task.Plant.zJ),(l_ s1.Task.First.zG),(i_ s1.Task.First.zM),(l_ s1.Task.First.zH),(Qc s1.Task.First.zJ),(i_ s1.Task.Class),(l_ s1.Task.zC),(o_ s1.observable_),.d (.lst 1 (List.map (eL 3 Qh) s1.out_)),.own 1 (List.map eB s1.certain_),.own 1 (List.map (eL 1 (eI .i64)) s1.states_),.d (mq0 s1.diagnosed_),.d (mq0 s1.firsts_),(Qe s1.switches_),.own 1 (List.map (eL 1 (eI .i64)) s1.estimates_),.mp k4,.mp k6,.sl 1 nb 0 (Int.toNat (s1.estimates_.length:Int)) (Int.toNat (s1.estimates_.length:Int)),.ownV 4 (List.map Q3 c18),(i_ x29.Rank)]) tv rfl rfl rfl (ltB hM hk3) rfl (pgS (Qh5 hU0 hk3) pg0) rfl rfl (psS (Qh5 hU0 hk3) ps0) ?_;exact Y
   ·refine Z 6 0 ?_;refine Rn.loadTBV (cs':=[(Qj s1.Task.Events),(l_ s1.Task.Plant.zG),(i_ s1.Task.Plant.zM),(l_ s1.Task.Plant.zH),(Qc s1.Task.Plant.zJ),(l_ s1.Task.First.zG),(i_ s1.Task.First.zM),(l_ s1.Task.First.zH),(Qc s1.Task.First.zJ),(i_ s1.Task.Class),(l_ s1.Task.zC),(o_ s1.observable_),.d (.lst 1 (List.map (eL 3 Qh) s1.out_)),.own 1 (List.map eB s1.certain_),.own 1 (List.map (eL 1 (eI .i64)) s1.states_),.d (mq0 s1.diagnosed_),.d (mq0 s1.firsts_),(Qe s1.switches_),.own 1 (List.map (eL 1 (eI .i64)) s1.estimates_),.mp k4,.mp k6,.sl 1 nb 0 (Int.toNat (s1.estimates_.length:Int)) (Int.toNat (s1.estimates_.length:Int)),.und,(i_ c36)]) tv rfl (ltB hM hk3) (pgS (Qh5 hU0 hk3) pg0) rfl rfl (psS (Qh5 hU0 hk3) ps0) ?_;refine Z 1 0 ?_;obtain ⟨x37,h38,h⟩:=bnd h;refine Rn.appV (e:=Q3) (fun _=>rfl) tv rfl rfl rfl Q2q h38 rfl ?_;refine Z 2 0 ?_;refine Rn.storeOBV (cs':=[(Qj s1.Task.Events),(l_ s1.Task.Plant.zG),(i_ s1.Task.Plant.zM),(l_ s1.Task.Plant.zH),(Qc s1.Task.Plant.zJ),(l_ s1.Task.First.zG),(i_ s1.Task.First.zM),(l_ s1.Task.First.zH),(Qc s1.Task.First.zJ),(i_ s1.Task.Class),(l_ s1.Task.zC),(o_ s1.observable_),.d (.lst 1 (List.map (eL 3 Qh) s1.out_)),.own 1 (List.map eB s1.certain_),.own 1 (List.map (eL 1 (eI .i64)) s1.states_),.d (mq0 s1.diagnosed_),.d (mq0 s1.firsts_),(Qe s1.switches_),.own 1 (List.map (eL 1 (eI .i64)) s1.estimates_),.mp k4,.mp k6,.sl 1 nb 0 (Int.toNat (s1.estimates_.length:Int)) (Int.toNat (s1.estimates_.length:Int)),.ownV 4 (List.map Q3 x37),(i_ c36)]) tv rfl rfl (ltB hM hk3) (pgS (Qh5 hU0 hk3) pg0) rfl rfl (psS (Qh5 hU0 hk3) ps0) ?_;refine Z 11 0 ?_;obtain ⟨⟨⟩,hl39,h⟩:=bnd h;refine cm h (fun _ h40 M2 nb2 hn hx=>Hbk _ _ k2 k4 k6 nb _ h40 M2 nb2 (by (try unfold Qs);rw [Qel hl39];exact (hx _ _ (Qbh (ltB hM hk3) (pgS (Qh5 hU0 hk3) pg0)))) (hx _ _ (Qbh (ltB hM hk5) (pgS (Qh5 hU0 hk5) (pgS hv8.symm (pgE hk5))))) (hx _ _ (Qbh (ltB hM hk7) (pgS (Qh5 hU0 hk7) (pgS hv9.symm (pgE hk7))))) (hx _ _ (Qbh hU0.lt pg0))) rfl (cq fun _ h=>?_);refine Z 8 0 ?_;refine cd h rfl (fun h=>?_) (fun h=>Y);refine Z 3 0 ?_;obtain ⟨⟨⟩,hl43,h⟩:=bnd h;refine cm h (fun _ h44 M2 nb2 hn hx=>Hbb _ _ k2 k4 k6 nb _ h44 M2 nb2 (by (try unfold Qs);rw [Qel hl43];exact (hx _ _ (Qbh (ltB hM hk3) (pgS (Qh5 hU0 hk3) pg0)))) (hx _ _ (Qbh (ltB hM hk5) (pgS (Qh5 hU0 hk5) (pgS hv8.symm (pgE hk5))))) (hx _ _ (Qbh (ltB hM hk7) (pgS (Qh5 hU0 hk7) (pgS hv9.symm (pgE hk7))))) (hx _ _ (Qbh hU0.lt pg0))) rfl (cq fun _ h=>?_);exact Y
 ·obtain ⟨rv49,hs50,h⟩:=bnd h;obtain ⟨hl51,hn52,hr53⟩:=Hdh _ _ hs50;obtain ⟨⟨⟩,hl58,h⟩:=bnd h;refine Tr.endW ⟨look [],Ql Γ.n0 (bxs []) (Mem.puts M [(k2,.cells ([(Qj s1.Task.Events),(l_ s1.Task.Plant.zG),(i_ s1.Task.Plant.zM),(l_ s1.Task.Plant.zH),(Qc s1.Task.Plant.zJ),(l_ s1.Task.First.zG),(i_ s1.Task.First.zM),(l_ s1.Task.First.zH),(Qc s1.Task.First.zJ),(i_ s1.Task.Class),(l_ s1.Task.zC),(o_ s1.observable_),.d (.lst 1 (List.map (eL 3 Qh) s1.out_)),.own 1 (List.map eB s1.certain_),.own 1 (List.map (eL 1 (eI .i64)) s1.states_),.d (mq0 s1.diagnosed_),.d (mq0 s1.firsts_),(Qe s1.switches_),.own 1 (List.map (eL 1 (eI .i64)) s1.estimates_),.mp k4,.mp k6,(l_ c46),(Qcp rv49),(i_ c48)]))]),Γ.n0+70⟩ ?_ ?_
  ·by_cases hx54:c47=[]
   ·obtain ⟨hyx,hn52b⟩:=hn52 hx54;replace hyx:=hyx.symm;subst hyx;replace hn52:=And.intro tv hn52b;refine Tr.weak (Q6x (B:=[(nb,.cells (Qb7 (fun (x:Int)=>[V.d (.int .i64 x)]) c46)),(k2,.cells ([(Qj s1.Task.Events),(l_ s1.Task.Plant.zG),(i_ s1.Task.Plant.zM),(l_ s1.Task.Plant.zH),(Qc s1.Task.Plant.zJ),(l_ s1.Task.First.zG),(i_ s1.Task.First.zM),(l_ s1.Task.First.zH),(Qc s1.Task.First.zJ),(i_ s1.Task.Class),(l_ s1.Task.zC),(o_ s1.observable_),.d (.lst 1 (List.map (eL 3 Qh) s1.out_)),.own 1 (List.map eB s1.certain_),.own 1 (List.map (eL 1 (eI .i64)) s1.states_),.d (mq0 s1.diagnosed_),.d (mq0 s1.firsts_),(Qe s1.switches_),.own 1 (List.map (eL 1 (eI .i64)) s1.estimates_),.mp k4,.mp k6,.sl 1 nb 0 (Int.toNat (s1.estimates_.length:Int)) (Int.toNat (s1.estimates_.length:Int)),.ownV 4 (List.map Q3 c47),(i_ c48)]))]) (B':=[(nb,.cells (Qb7 (fun (x:Int)=>[V.d (.int .i64 x)]) c46)),(k2,.cells ([(Qj s1.Task.Events),(l_ s1.Task.Plant.zG),(i_ s1.Task.Plant.zM),(l_ s1.Task.Plant.zH),(Qc s1.Task.Plant.zJ),(l_ s1.Task.First.zG),(i_ s1.Task.First.zM),(l_ s1.Task.First.zH),(Qc s1.Task.First.zJ),(i_ s1.Task.Class),(l_ s1.Task.zC),(o_ s1.observable_),.d (.lst 1 (List.map (eL 3 Qh) s1.out_)),.own 1 (List.map eB s1.certain_),.own 1 (List.map (eL 1 (eI .i64)) s1.states_),.d (mq0 s1.diagnosed_),.d (mq0 s1.firsts_),(Qe s1.switches_),.own 1 (List.map (eL 1 (eI .i64)) s1.estimates_),.mp k4,.mp k6,.sl 1 nb 0 (Int.toNat (s1.estimates_.length:Int)) (Int.toNat (s1.estimates_.length:Int)),(Qcp c47),(i_ c48)]))]) ⟨⟨rfl,(WkVs.refl _)⟩,⟨rfl,(cS rfl (cS rfl (cS rfl (cS rfl (cS rfl (cS rfl (cS rfl (cS rfl (cS rfl (cS rfl (cS rfl (cS rfl (cS rfl (cS rfl (cS rfl (cS rfl (cS rfl (cS rfl (cS rfl (cS rfl (cS rfl (cS rfl (.cons (Qbg3 hx54) (cS rfl .nil))))))))))))))))))))))))⟩,tv⟩ (by show WeakSt Γ _ ⟨look [(0,.ptr k2 0)],Ql Γ.n0 (bxs []) (Mem.puts M [(nb,.cells (Qb7 (fun (x:Int)=>[V.d (.int .i64 x)]) c46)),(k2,.cells ([(Qj s1.Task.Events),(l_ s1.Task.Plant.zG),(i_ s1.Task.Plant.zM),(l_ s1.Task.Plant.zH),(Qc s1.Task.Plant.zJ),(l_ s1.Task.First.zG),(i_ s1.Task.First.zM),(l_ s1.Task.First.zH),(Qc s1.Task.First.zJ),(i_ s1.Task.Class),(l_ s1.Task.zC),(o_ s1.observable_),.d (.lst 1 (List.map (eL 3 Qh) s1.out_)),.own 1 (List.map eB s1.certain_),.own 1 (List.map (eL 1 (eI .i64)) s1.states_),.d (mq0 s1.diagnosed_),.d (mq0 s1.firsts_),(Qe s1.switches_),.own 1 (List.map (eL 1 (eI .i64)) s1.estimates_),.mp k4,.mp k6,.sl 1 nb 0 (Int.toNat (s1.estimates_.length:Int)) (Int.toNat (s1.estimates_.length:Int)),(Qcp c47),(i_ c48)]))]),Γ.n0+70⟩;exact Ql8 [] ⟨(Qys (ltB hM hk3)),tv⟩ tv rfl)) ?_;refine Z 4 0 ?_;refine Rn.load (v:=(Qcp c47)) tv rfl (Qbh (ltB hM hk3) (pgS (Qh5 hU0 hk3) pg0)) rfl rfl (Rn.call (args:=[(Qcp c47),.clo 142 []]) tv rfl (hn52.2) pc9 ?_);refine Rn.nil ⟨rfl,(WeakSt.trans (by show WeakSt Γ _ ⟨look [],Ql Γ.n0 (bxs []) (Mem.puts M [(nb,.cells (Qb7 (fun (x:Int)=>[V.d (.int .i64 x)]) c46)),(k2,.cells ([(Qj s1.Task.Events),(l_ s1.Task.Plant.zG),(i_ s1.Task.Plant.zM),(l_ s1.Task.Plant.zH),(Qc s1.Task.Plant.zJ),(l_ s1.Task.First.zG),(i_ s1.Task.First.zM),(l_ s1.Task.First.zH),(Qc s1.Task.First.zJ),(i_ s1.Task.Class),(l_ s1.Task.zC),(o_ s1.observable_),.d (.lst 1 (List.map (eL 3 Qh) s1.out_)),.own 1 (List.map eB s1.certain_),.own 1 (List.map (eL 1 (eI .i64)) s1.states_),.d (mq0 s1.diagnosed_),.d (mq0 s1.firsts_),(Qe s1.switches_),.own 1 (List.map (eL 1 (eI .i64)) s1.estimates_),.mp k4,.mp k6,.sl 1 nb 0 (Int.toNat (s1.estimates_.length:Int)) (Int.toNat (s1.estimates_.length:Int)),(Qcp c47),(i_ c48)]))]),Γ.n0+70⟩;exact Ql8 [] tv tv rfl) (by show WeakSt Γ _ ⟨look [],Ql Γ.n0 (bxs []) (Mem.puts M [(k2,.cells ([(Qj s1.Task.Events),(l_ s1.Task.Plant.zG),(i_ s1.Task.Plant.zM),(l_ s1.Task.Plant.zH),(Qc s1.Task.Plant.zJ),(l_ s1.Task.First.zG),(i_ s1.Task.First.zM),(l_ s1.Task.First.zH),(Qc s1.Task.First.zJ),(i_ s1.Task.Class),(l_ s1.Task.zC),(o_ s1.observable_),.d (.lst 1 (List.map (eL 3 Qh) s1.out_)),.own 1 (List.map eB s1.certain_),.own 1 (List.map (eL 1 (eI .i64)) s1.states_),.d (mq0 s1.diagnosed_),.d (mq0 s1.firsts_),(Qe s1.switches_),.own 1 (List.map (eL 1 (eI .i64)) s1.estimates_),.mp k4,.mp k6,(l_ c46),(Qcp c47),(i_ c48)]))]),Γ.n0+70⟩;exact Q2y _ hU0 (.of (Qs2 (fun _=>rfl) _)) 1000 rfl tv tv rfl ⟨⟨rfl,(Qh5 hU0 hk3),(cS rfl (cS rfl (cS rfl (cS rfl (cS rfl (cS rfl (cS rfl (cS rfl (cS rfl (cS rfl (cS rfl (cS rfl (cS rfl (cS rfl (cS rfl (cS rfl (cS rfl (cS rfl (cS rfl (.cons (qMp (Qh5 hU0 hk5)) (.cons (qMp (Qh5 hU0 hk7)) (.cons (qSlT (fun _=>rfl) (Qel hl58) (Nat.le_refl _)) (cS rfl (cS rfl .nil))))))))))))))))))))))))⟩,tv⟩))⟩
   ·refine Qbgm (i:=22) (e:=Q3) (B':=fun c55=>[(nb,.cells (Qb7 (fun (x:Int)=>[V.d (.int .i64 x)]) c46)),(k2,.cells ([(Qj s1.Task.Events),(l_ s1.Task.Plant.zG),(i_ s1.Task.Plant.zM),(l_ s1.Task.Plant.zH),(Qc s1.Task.Plant.zJ),(l_ s1.Task.First.zG),(i_ s1.Task.First.zM),(l_ s1.Task.First.zH),(Qc s1.Task.First.zJ),(i_ s1.Task.Class),(l_ s1.Task.zC),(o_ s1.observable_),.d (.lst 1 (List.map (eL 3 Qh) s1.out_)),.own 1 (List.map eB s1.certain_),.own 1 (List.map (eL 1 (eI .i64)) s1.states_),.d (mq0 s1.diagnosed_),.d (mq0 s1.firsts_),(Qe s1.switches_),.own 1 (List.map (eL 1 (eI .i64)) s1.estimates_),.mp k4,.mp k6,.sl 1 nb 0 (Int.toNat (s1.estimates_.length:Int)) (Int.toNat (s1.estimates_.length:Int)),.sl 4 (nb+1) 0 c47.length c55,(i_ c48)]))]) hU1 ⟨(Nat.succ_ne_self nb).symm,(Qh5 hU1 hk3),tv⟩ (ltB hM hk3) (pgS (Qh5 hU0 hk3) pg0) rfl hx54 (fun _=>(psS (Qh5 hU0 hk3) ps0)) (fun c55 hc56 hc57=>?_);refine Z 4 0 ?_;refine Rn.load (v:=.sl 4 (nb+1) 0 c47.length c55) tv rfl (Qbh (ltB hM hk3) (pgS (Qh5 hU1 hk3) (pgS (Qh5 hU0 hk3) pg0))) rfl rfl (Rn.callW (args:=[.sl 4 (nb+1) 0 c47.length c55,.clo 142 []]) (B:=[((nb+1),.cells (Qce (List.map Q3 rv49) ((c55-c47.length)*4)))]) tv rfl (rowB Hdh hs50 hc56 hc57 (Qbh hU1.lt pg0)) (okTh tv) (Qzm hU1.lt cw0 ps0) rfl ?_);refine Rn.nil ⟨rfl,(WeakSt.trans (WeakSt.trans (by show WeakSt Γ _ ⟨look [(0,.ptr k2 0),(65,.ptr k2 0),(66,.ptr k2 0),(67,.ptr k2 22),(68,(Qcp rv49)),(69,.tup [])],Ql Γ.n0 (bxs []) (Mem.puts M [(nb,.cells (Qb7 (fun (x:Int)=>[V.d (.int .i64 x)]) c46)),(k2,.cells ([(Qj s1.Task.Events),(l_ s1.Task.Plant.zG),(i_ s1.Task.Plant.zM),(l_ s1.Task.Plant.zH),(Qc s1.Task.Plant.zJ),(l_ s1.Task.First.zG),(i_ s1.Task.First.zM),(l_ s1.Task.First.zH),(Qc s1.Task.First.zJ),(i_ s1.Task.Class),(l_ s1.Task.zC),(o_ s1.observable_),.d (.lst 1 (List.map (eL 3 Qh) s1.out_)),.own 1 (List.map eB s1.certain_),.own 1 (List.map (eL 1 (eI .i64)) s1.states_),.d (mq0 s1.diagnosed_),.d (mq0 s1.firsts_),(Qe s1.switches_),.own 1 (List.map (eL 1 (eI .i64)) s1.estimates_),.mp k4,.mp k6,.sl 1 nb 0 (Int.toNat (s1.estimates_.length:Int)) (Int.toNat (s1.estimates_.length:Int)),(Qcp rv49),(i_ c48)]))]),Γ.n0+70⟩;exact Q2y _ hU1 Qbgi 1000 rfl ⟨(qPtr (Qh5 hU1 hk3)),(qPtr (Qh5 hU1 hk3)),(qPtr (Qh5 hU1 hk3)),(qPtr (Qh5 hU1 hk3)),(qSlT (fun _=>rfl) hl51 hc56),sq,tv⟩ tv rfl ⟨⟨rfl,(Nat.succ_ne_self nb).symm,(qRow (fun _=>rfl) _)⟩,⟨rfl,(Qh5 hU1 hk3),(cS rfl (cS rfl (cS rfl (cS rfl (cS rfl (cS rfl (cS rfl (cS rfl (cS rfl (cS rfl (cS rfl (cS rfl (cS rfl (cS rfl (cS rfl (cS rfl (cS rfl (cS rfl (cS rfl (.cons (qMp (Qh5 hU1 hk5)) (.cons (qMp (Qh5 hU1 hk7)) (.cons (qSl (Nat.succ_ne_self nb).symm) (.cons (qSlT (fun _=>rfl) hl51 hc56) (cS rfl .nil))))))))))))))))))))))))⟩,tv⟩) (by show WeakSt Γ _ ⟨look [],Ql Γ.n0 (bxs []) (Mem.puts M [(nb,.cells (Qb7 (fun (x:Int)=>[V.d (.int .i64 x)]) c46)),(k2,.cells ([(Qj s1.Task.Events),(l_ s1.Task.Plant.zG),(i_ s1.Task.Plant.zM),(l_ s1.Task.Plant.zH),(Qc s1.Task.Plant.zJ),(l_ s1.Task.First.zG),(i_ s1.Task.First.zM),(l_ s1.Task.First.zH),(Qc s1.Task.First.zJ),(i_ s1.Task.Class),(l_ s1.Task.zC),(o_ s1.observable_),.d (.lst 1 (List.map (eL 3 Qh) s1.out_)),.own 1 (List.map eB s1.certain_),.own 1 (List.map (eL 1 (eI .i64)) s1.states_),.d (mq0 s1.diagnosed_),.d (mq0 s1.firsts_),(Qe s1.switches_),.own 1 (List.map (eL 1 (eI .i64)) s1.estimates_),.mp k4,.mp k6,.sl 1 nb 0 (Int.toNat (s1.estimates_.length:Int)) (Int.toNat (s1.estimates_.length:Int)),(Qcp rv49),(i_ c48)]))]),Γ.n0+70⟩;exact Ql8 [] tv tv rfl)) (by show WeakSt Γ _ ⟨look [],Ql Γ.n0 (bxs []) (Mem.puts M [(k2,.cells ([(Qj s1.Task.Events),(l_ s1.Task.Plant.zG),(i_ s1.Task.Plant.zM),(l_ s1.Task.Plant.zH),(Qc s1.Task.Plant.zJ),(l_ s1.Task.First.zG),(i_ s1.Task.First.zM),(l_ s1.Task.First.zH),(Qc s1.Task.First.zJ),(i_ s1.Task.Class),(l_ s1.Task.zC),(o_ s1.observable_),.d (.lst 1 (List.map (eL 3 Qh) s1.out_)),.own 1 (List.map eB s1.certain_),.own 1 (List.map (eL 1 (eI .i64)) s1.states_),.d (mq0 s1.diagnosed_),.d (mq0 s1.firsts_),(Qe s1.switches_),.own 1 (List.map (eL 1 (eI .i64)) s1.estimates_),.mp k4,.mp k6,(l_ c46),(Qcp rv49),(i_ c48)]))]),Γ.n0+70⟩;exact Q2y _ hU0 (.of (Qs2 (fun _=>rfl) _)) 1000 rfl tv tv rfl ⟨⟨rfl,(Qh5 hU0 hk3),(cS rfl (cS rfl (cS rfl (cS rfl (cS rfl (cS rfl (cS rfl (cS rfl (cS rfl (cS rfl (cS rfl (cS rfl (cS rfl (cS rfl (cS rfl (cS rfl (cS rfl (cS rfl (cS rfl (.cons (qMp (Qh5 hU0 hk5)) (.cons (qMp (Qh5 hU0 hk7)) (.cons (qSlT (fun _=>rfl) (Qel hl58) (Nat.le_refl _)) (cS rfl (cS rfl .nil))))))))))))))))))))))))⟩,tv⟩))⟩
  ·exact Y
theorem Qxy {P:Program} {c:Nat} {Qfp:_} {Qcx:_} {Qes:_} {Qfd:_} {Qc9:_} {Qda:_} {Qdb:_} {Qbn:_} {Qcs:_}
    (Hbv:Qnr P 10 Qfp)
    (Hao:Qld P 35 Qcx)
    (Hby:Qli P 68 Qes)
    (Haw:Qoy P 94 Qfd)
    (Hbm:Qh9 P 97 Qc9)
    (Hbp:Qia P 98 Qda)
    (Hbl:Qib P 99 Qdb)
    (Hdj:Qgg P 95 Qbn)
    (Hdb:Qg4 P 96 Qcs) (hcf:Qr P c=some Qte) (fuel:Nat):Qgn P c (Q5 Qfp Qcx Qes Qfd Qc9 Qda Qdb Qbn Qcs fuel):=by
 intro t1 r h M nb;refine Qbb4 hcf rfl M (Mem.puts M []) nb (fun hM=>hM) fun Γ hP hnt hn0 hM=>?_;subst hP hn0;refine Tr.init [(0,(Q1 t1))] rfl ?_;refine Z 10 0 ?_;refine cl (Hao _) h (cq fun x3 h=>?_);refine Z 7 0 ?_;refine cd h rfl (fun h=>?_) (fun h=>?_)
 ·refine Z 7 0 ?_;cases sj h;exact ⟨.inr rfl,.tup [.nilp,(i_ x3)],res2 rfl rfl,(WkV.tup (cS rfl (cS rfl .nil))).rd,⟨tv,tv,tv⟩,tv,fun k hk=>Q8 hk,fun _ _ h=>(by cases h),rfl⟩
 ·refine Z 7 0 ?_;refine cl (Hbv _ _) h (cq fun ⟨r6,r7⟩ h=>?_);refine Z 13 0 ?_;refine cd h rfl (fun h=>?_) (fun h=>?_)
  ·refine Z 7 0 ?_;cases sj h;exact ⟨.inr rfl,.tup [.nilp,(i_ r7)],res2 rfl rfl,(WkV.tup (cS rfl (cS rfl .nil))).rd,⟨tv,tv,tv⟩,tv,fun k hk=>Q8 hk,fun _ _ h=>(by cases h),rfl⟩
  ·refine Z 7 0 ?_;obtain ⟨x9,h10,h⟩:=bnd h;refine Rn.makes (g:=(fun (x:List Qo)=>[V.nils 3])) tv rfl rfl rfl rfl rfl h10 ?_;refine Z 2 0 ?_;refine cl (Haw _) h (cq fun x12 h=>?_);refine Z 2 0 ?_;refine cl (Haw _) h (cq fun x14 h=>?_);refine Rn.mkmap tv rfl (fun (x:ByteArray)=>(.d (.str x):V)) (fun (x:Int)=>((i_ x):V)) (Rn.mkmap tv rfl (fun (x:Qb)=>(.agg (Qn x):V)) (fun (x:Int)=>((i_ x):V)) (Rn.buildT (v:=.agg [(Qj t1.Events),(l_ t1.Plant.zG),(i_ t1.Plant.zM),(l_ t1.Plant.zH),(Qc t1.Plant.zJ),(l_ t1.First.zG),(i_ t1.First.zM),(l_ t1.First.zH),(Qc t1.First.zJ),(i_ t1.Class),(l_ t1.zC),.nils 1,.sl 1 (Γ.n0+41) 0 (Int.toNat t1.Plant.zM) (Int.toNat t1.Plant.zM),.nils 1,.nils 1,.d (mq0 x12),.d (mq0 x14),.nils 2,.nils 1,.mp (Γ.n0+48),.mp (Γ.n0+49),.nils 1,.nils 4,(i_ 0)]) tv rfl ?_));refine Z 3 0 ?_;refine cw h [1,5,7] [1,5,48,49,51] (fun _ e=>e) (fun c31 l=>(41,.cells (Qb7 (fun (x:List Qo)=>[V.own 3 (List.map Qh x)]) c31))::l) ke (fun _ h=>?_) (fun c31 h=>?_)
   ·refine Tr.seq ?_;refine Tr.weak (wS [0,1,2,3,4,5,6,7,21,22,23,24,26,27,28,29,30,31,32,33,34,35,37,38,39,40,41,42,43,44,45,46,47,48,49,50,51] [1,5,48,49,51] (fun e=>e) (fun l=>(41,.cells (Qb7 (fun (x:List Qo)=>[V.own 3 (List.map Qh x)]) x9))::l) ke wk) ?_;refine Z 8 0 ?_;refine lw h [1,5,7,54,55] [1,5,48,49,51] (fun (x15,c16) e=>(56,(i_ x15))::e) (fun (x15,c16) l=>(41,.cells (Qb7 (fun (x:List Qo)=>[V.own 3 (List.map Qh x)]) c16))::l) ke wk (fun _ ⟨x15,c16⟩ h=>?_);refine Z 5 0 ?_;refine ci h rfl (fun h=>?_) (fun h=>Y);refine Z 24 1 ?_;intro _ h;obtain ⟨x23,h24,h⟩:=bnd h;refine Rn.loadTA (e:=Qh) tv rfl rfl h24 ?_;refine Z 4 1 ?_;intro _ h;obtain ⟨x29,h30,h⟩:=bnd h;refine Rn.storeTA tv rfl rfl rfl h30 ?_;exact Y
   ·refine cw h [1,5,7] [1,5,41,48,49] (fun _ e=>e) (fun (c48,c49,c50,c51,c52) l=>(51,.cells ([(Qj t1.Events),(l_ t1.Plant.zG),(i_ t1.Plant.zM),(l_ t1.Plant.zH),(Qc t1.Plant.zJ),(l_ t1.First.zG),(i_ t1.First.zM),(l_ t1.First.zH),(Qc t1.First.zJ),(i_ t1.Class),(l_ t1.zC),(o_ c48),.sl 1 (Γ.n0+41) 0 (Int.toNat t1.Plant.zM) (Int.toNat t1.Plant.zM),.own 1 (List.map eB c49),.own 1 (List.map (eL 1 (eI .i64)) c50),.d (mq0 x12),.d (mq0 x14),(Qe c51),.own 1 (List.map (eL 1 (eI .i64)) c52),.mp (Γ.n0+48),.mp (Γ.n0+49),.nils 1,.nils 4,(i_ 0)]))::l) ke (fun _ h=>?_) (fun ⟨c48,c49,c50,c51,c52⟩ h=>?_)
    ·refine Z 9 0 ?_;refine lw h [1,5,7,81,82] [1,5,41,48,49] (fun (x32,c33,c34,c35,c36,c37) e=>(83,(i_ x32))::e) (fun (x32,c33,c34,c35,c36,c37) l=>(51,.cells ([(Qj t1.Events),(l_ t1.Plant.zG),(i_ t1.Plant.zM),(l_ t1.Plant.zH),(Qc t1.Plant.zJ),(l_ t1.First.zG),(i_ t1.First.zM),(l_ t1.First.zH),(Qc t1.First.zJ),(i_ t1.Class),(l_ t1.zC),(o_ c33),.sl 1 (Γ.n0+41) 0 (Int.toNat t1.Plant.zM) (Int.toNat t1.Plant.zM),.own 1 (List.map eB c34),.own 1 (List.map (eL 1 (eI .i64)) c35),.d (mq0 x12),.d (mq0 x14),(Qe c36),.own 1 (List.map (eL 1 (eI .i64)) c37),.mp (Γ.n0+48),.mp (Γ.n0+49),.nils 1,.nils 4,(i_ 0)]))::l) ke wk (fun _ ⟨x32,c33,c34,c35,c36,c37⟩ h=>?_);refine Z 5 0 ?_;refine ci h rfl (fun h=>?_) (fun h=>Y);refine Tr.skip ?_;refine cw h [1,5,7,81,82,83] [1,5,41,48,49] (fun _ e=>e) (fun c47 l=>(51,.cells ([(Qj t1.Events),(l_ t1.Plant.zG),(i_ t1.Plant.zM),(l_ t1.Plant.zH),(Qc t1.Plant.zJ),(l_ t1.First.zG),(i_ t1.First.zM),(l_ t1.First.zH),(Qc t1.First.zJ),(i_ t1.Class),(l_ t1.zC),(o_ c47),.sl 1 (Γ.n0+41) 0 (Int.toNat t1.Plant.zM) (Int.toNat t1.Plant.zM),.own 1 (List.map eB c34),.own 1 (List.map (eL 1 (eI .i64)) c35),.d (mq0 x12),.d (mq0 x14),(Qe c36),.own 1 (List.map (eL 1 (eI .i64)) c37),.mp (Γ.n0+48),.mp (Γ.n0+49),.nils 1,.nils 4,(i_ 0)]))::l) ke (fun _ h=>?_) (fun c47 h=>Y);refine Z 16 1 ?_;intro _ _ h;exact cd h rfl (fun h=>Y) (fun h=>Y)
    ·refine Z 9 0 ?_;refine lw h [1,7,105,106] [1,5,41,48,49] (fun (x53,c54,c55) e=>(107,(i_ x53))::e) (fun (x53,c54,c55) l=>(51,.cells ([(Qj t1.Events),(l_ t1.Plant.zG),(i_ t1.Plant.zM),(l_ t1.Plant.zH),(Qc t1.Plant.zJ),(l_ t1.First.zG),(i_ t1.First.zM),(l_ t1.First.zH),(Qc t1.First.zJ),(i_ t1.Class),(l_ t1.zC),(o_ c48),.sl 1 (Γ.n0+41) 0 (Int.toNat t1.Plant.zM) (Int.toNat t1.Plant.zM),.own 1 (List.map eB c54),.own 1 (List.map (eL 1 (eI .i64)) c55),.d (mq0 x12),.d (mq0 x14),(Qe c51),.own 1 (List.map (eL 1 (eI .i64)) c52),.mp (Γ.n0+48),.mp (Γ.n0+49),.nils 1,.nils 4,(i_ 0)]))::l) ke wk (fun _ ⟨x53,c54,c55⟩ h=>?_);refine Z 5 0 ?_;refine ci h rfl (fun h=>?_) (fun h=>?_)
     ·refine Z 14 1 ?_;intro _ h;refine cl (Hby _ _) h (cq fun ⟨_,r62⟩ h=>?_);refine Z 12 0 ?_;refine cd h rfl (fun h=>?_) (fun h=>?_)
      ·refine Z 7 0 ?_;cases sj h;exact ⟨.inr rfl,.tup [.nilp,(i_ r62)],res2 rfl rfl,(WkV.tup (cS rfl (cS rfl .nil))).rd,⟨tv,tv,tv⟩,tv,fun k hk=>Q8 hk,fun _ _ h=>(by cases h),rfl⟩
      ·refine Z 5 0 ?_;refine cw h [1,7,14,105,106,107] [1,5,41,48,49,51] (fun xv72 e=>(16,(o_ xv72))::e) (fun _ l=>l) ke (fun _ h=>?_) (fun xv72 h=>?_)
       ·refine Z 7 0 ?_;refine lw h [1,7,14,105,106,107,121,122] [1,5,41,48,49,51] (fun (xv64,x65) e=>(16,(o_ xv64))::(123,(i_ x65))::e) (fun _ l=>l) ke wk (fun _ ⟨xv64,x65⟩ h=>?_);refine Z 5 0 ?_;exact ci h rfl (fun h=>Y) (fun h=>Y)
       ·refine Z 3 0 ?_;refine cl (Hdj _) h (cq fun _ h=>?_);refine Z 23 1 ?_;intro _ h;refine cl (Hdb _) h (cq fun _ h=>?_);exact Y
     ·refine Z 5 0 ?_;obtain ⟨⟨⟩,hl81,h⟩:=bnd h;refine Rn.weak (by show WeakSt Γ _ ⟨look [(1,.ptr (Γ.n0+1) 0),(7,.ptr (Γ.n0+51) 0),(105,.d (.lst 1 (List.map (eL 2 Qcr) r6.Estimates))),(106,(i_ (r6.Estimates.length:Int))),(107,(i_ x53)),(108,(b_ (decide (x53<(r6.Estimates.length:Int))))),(158,.ptr (Γ.n0+51) 0)],Ql Γ.n0 (bxs [(1,.cells ((Qe5 t1))),(5,.cells ((Qn8 r6))),(48,.mp (mapE (fun (x:ByteArray)=>(.d (.str x):V)) (fun (x:Int)=>((i_ x):V)) 0 []) (([]:List (ByteArray×Int))).length),(49,.mp (mapE (fun (x:Qb)=>(.agg (Qn x):V)) (fun (x:Int)=>((i_ x):V)) 0 []) (([]:List (Qb×Int))).length),(51,.cells ([(Qj t1.Events),(l_ t1.Plant.zG),(i_ t1.Plant.zM),(l_ t1.Plant.zH),(Qc t1.Plant.zJ),(l_ t1.First.zG),(i_ t1.First.zM),(l_ t1.First.zH),(Qc t1.First.zJ),(i_ t1.Class),(l_ t1.zC),(o_ c48),.d (.lst 1 (List.map (eL 3 Qh) c31)),.own 1 (List.map eB c54),.own 1 (List.map (eL 1 (eI .i64)) c55),.d (mq0 x12),.d (mq0 x14),(Qe c51),.own 1 (List.map (eL 1 (eI .i64)) c52),.mp (Γ.n0+48),.mp (Γ.n0+49),.nils 1,.nils 4,(i_ 0)]))]) M,Γ.n0+171⟩;exact Qeo 41 _ rfl (Qs2 (fun _=>rfl) _) ⟨(fPtr rfl),(fPtr rfl),sq,sq,sq,sq,(fPtr rfl),tv⟩ ⟨bS rfl rfl rfl,bS rfl rfl rfl,⟨rfl,rfl⟩,⟨rfl,rfl⟩,⟨_,rfl,rfl,(cS rfl (cS rfl (cS rfl (cS rfl (cS rfl (cS rfl (cS rfl (cS rfl (cS rfl (cS rfl (cS rfl (cS rfl (.cons (fSlA (fun _=>rfl) (Qel hl81)) (cS rfl (cS rfl (cS rfl (cS rfl (cS rfl (cS rfl (.cons (fMp rfl) (.cons (fMp rfl) (cS rfl (cS rfl (cS rfl .nil))))))))))))))))))))))))⟩,tv⟩ rfl) ?_;obtain ⟨⟨r82,c83⟩,h84,h⟩:=bnd h;refine Rn.callW (args:=[.ptr (Γ.n0+51) 0]) (B:=[((Γ.n0+51),.cells ([(Qj c83.Task.Events),(l_ c83.Task.Plant.zG),(i_ c83.Task.Plant.zM),(l_ c83.Task.Plant.zH),(Qc c83.Task.Plant.zJ),(l_ c83.Task.First.zG),(i_ c83.Task.First.zM),(l_ c83.Task.First.zH),(Qc c83.Task.First.zJ),(i_ c83.Task.Class),(l_ c83.Task.zC),(o_ c83.observable_),.d (.lst 1 (List.map (eL 3 Qh) c83.out_)),.own 1 (List.map eB c83.certain_),.own 1 (List.map (eL 1 (eI .i64)) c83.states_),.d (mq0 c83.diagnosed_),.d (mq0 c83.firsts_),(Qe c83.switches_),.own 1 (List.map (eL 1 (eI .i64)) c83.estimates_),.mp (Γ.n0+48),.mp (Γ.n0+49),.nils 1,.nils 4,(i_ c83.rounds_)])),((Γ.n0+48),.mp (mapE (fun (x:ByteArray)=>(.d (.str x):V)) (fun (x:Int)=>((i_ x):V)) 0 c83.number_) (c83.number_).length)]) tv rfl (Hbm _ (Γ.n0+51) (Γ.n0+48) (Γ.n0+49) _ h84 _ _ (Qbf rfl) (Qbf rfl) (Qbf rfl) (Qs3 rfl) (Qs3 rfl) (Qs3 rfl)) ⟨(.inl (Nat.le_add_right _ _)),tv⟩ (Qzl (Qzl cw0)) rfl ?_;refine Z 7 0 ?_;refine cd h rfl (fun h=>?_) (fun h=>?_)
      ·refine Z 7 0 ?_;cases sj h;exact ⟨.inr rfl,.tup [.nilp,(i_ r82)],res2 rfl rfl,(WkV.tup (cS rfl (cS rfl .nil))).rd,⟨tv,tv,tv⟩,tv,fun k hk=>Q8 hk,fun _ _ h=>(by cases h),rfl⟩
      ·refine Z 5 0 ?_;obtain ⟨⟨r86,c87⟩,h88,h⟩:=bnd h;refine Rn.callW (args:=[.ptr (Γ.n0+51) 0]) (B:=[((Γ.n0+51),.cells ([(Qj c87.Task.Events),(l_ c87.Task.Plant.zG),(i_ c87.Task.Plant.zM),(l_ c87.Task.Plant.zH),(Qc c87.Task.Plant.zJ),(l_ c87.Task.First.zG),(i_ c87.Task.First.zM),(l_ c87.Task.First.zH),(Qc c87.Task.First.zJ),(i_ c87.Task.Class),(l_ c87.Task.zC),(o_ c87.observable_),.d (.lst 1 (List.map (eL 3 Qh) c87.out_)),.own 1 (List.map eB c87.certain_),.own 1 (List.map (eL 1 (eI .i64)) c87.states_),.d (mq0 c87.diagnosed_),.d (mq0 c87.firsts_),(Qe c87.switches_),.own 1 (List.map (eL 1 (eI .i64)) c87.estimates_),.mp (Γ.n0+48),.mp (Γ.n0+49),.nils 1,.nils 4,(i_ c87.rounds_)])),((Γ.n0+48),.mp (mapE (fun (x:ByteArray)=>(.d (.str x):V)) (fun (x:Int)=>((i_ x):V)) 0 c87.number_) (c87.number_).length),((Γ.n0+49),.mp (mapE (fun (x:Qb)=>(.agg (Qn x):V)) (fun (x:Int)=>((i_ x):V)) 0 c87.next_) (c87.next_).length)]) tv rfl (Hbp _ (Γ.n0+51) (Γ.n0+48) (Γ.n0+49) _ h88 _ _ (Qbf rfl) (Qbf rfl) (Qbf rfl) (Qs3 rfl) (Qs3 rfl) (Qs3 rfl)) ⟨(.inl (Nat.le_add_right _ _)),tv⟩ (Qzl (Qzl (Qzl cw0))) rfl ?_;refine Z 7 0 ?_;refine cd h rfl (fun h=>?_) (fun h=>?_)
       ·refine Z 7 0 ?_;cases sj h;exact ⟨.inr rfl,.tup [.nilp,(i_ r86)],res2 rfl rfl,(WkV.tup (cS rfl (cS rfl .nil))).rd,⟨tv,tv,tv⟩,tv,fun k hk=>Q8 hk,fun _ _ h=>(by cases h),rfl⟩
       ·refine Z 4 0 ?_;obtain ⟨c90,h91,h⟩:=bnd h;refine Rn.callW (args:=[.ptr (Γ.n0+51) 0]) (B:=[((Γ.n0+51),.cells (Qs c90 (Γ.n0+48) (Γ.n0+49)))]) tv rfl (Hbl _ (Γ.n0+51) (Γ.n0+48) (Γ.n0+49) _ h91 _ _ (Qbf rfl) (Qbf rfl) (Qbf rfl) (Qs3 rfl) (Qs3 rfl)) ⟨(.inl (Nat.le_add_right _ _)),tv⟩ (Qzl cw0) rfl ?_;refine Z 8 0 ?_;cases sj h;exact ⟨.inr rfl,.tup [.ptr (Γ.n0+51) 0,(i_ 0)],res2 rfl rfl,(WkV.tup (cS rfl (cS rfl .nil))).rd,⟨(show There _ _ from thN rfl),tv,tv⟩,⟨⟨tv,tv,tv,tv,tv,tv,tv,tv,tv,tv,tv,tv,tv,tv,tv,tv,tv,tv,tv,(show There _ _ from thN rfl),(show There _ _ from thN rfl),tv,tv,tv,tv⟩,tv⟩,fun k hk=>Q8 hk,lrAt ⟨(by show Ql Γ.n0 _ _ (Γ.n0+51)=some (.cells (Qs c90 (Γ.n0+48) (Γ.n0+49)));exact Qbf rfl),Qbf rfl,Qbf rfl,tv⟩,rfl⟩
theorem Qti {P:Program} {c:Nat} {Q5:_}
    (Hax:Qgn P 62 Q5) (hcf:Qr P c=some Qoc) (fuel:Nat):Qhd P c (Qbr Q5 fuel):=by
 intro t1 r h;refine Qde hcf rfl fun Γ M hP hnt hM=>?_;subst hP;refine ini ?_;refine Z 9 0 ?_;obtain ⟨⟨r2,ok3,r6⟩,h4,h⟩:=bnd h;refine bs h (fun hb5 h=>?_) (fun hb5 h=>?_)
 ·refine Rn.callNW (m:=55) (args:=[(Q1 t1)]) (r':=.tup [.ptr (Γ.n0+106) 0,(i_ r6)]) (B:=[]) (L':=[(106,.cells (Qs r2 (Γ.n0+103) (Γ.n0+104))),(103,.mp (mapE (fun (x:ByteArray)=>(.d (.str x):V)) (fun (x:Int)=>((i_ x):V)) 0 r2.number_) (r2.number_).length),(104,.mp (mapE (fun (x:Qb)=>(.agg (Qn x):V)) (fun (x:Int)=>((i_ x):V)) 0 r2.next_) (r2.next_).length)]) tv rfl (fun M2 hx0=>have hx:=Q1e hx0;nwT hb5 (Hax _ _ h4 M2 _ )) rfl tv tv hM cw0 rfl rfl rfl rfl ?_;refine Z 12 0 ?_;refine cd h rfl (fun h=>Y) (fun h=>?_);refine Z 19 0 ?_;refine Rn.buildT (v:=.agg [(Qbc r2.switches_),.d (.lst 1 (List.map (eL 1 (eI .i64)) r2.estimates_)),.nils 1,(Qcp r2.removals_),(i_ r2.rounds_)]) tv rfl ?_;refine Z 3 0 ?_;refine cw h [2,6] [1,103,104,106] (fun _ e=>e) (fun (c22,c23,c24,c25,r26) l=>(2,.cells ([(Qe c22),.own 1 (List.map (eL 1 (eI .i64)) c23),(o_ c24),(Qcq c25),(i_ 0)]))::(6,.cells ([(Qbc r2.switches_),.d (.lst 1 (List.map (eL 1 (eI .i64)) r2.estimates_)),(o_ r26),(Qcp r2.removals_),(i_ r2.rounds_)]))::l) ke (fun _ h=>?_) (fun ⟨c22,c23,c24,c25,r26⟩ h=>Y);refine Z 10 0 ?_;refine lw h [2,6,38,39] [1,103,104,106] (fun (x8,c9,c10,c11,c12,r13) e=>(40,(i_ x8))::e) (fun (x8,c9,c10,c11,c12,r13) l=>(2,.cells ([(Qe c9),.own 1 (List.map (eL 1 (eI .i64)) c10),(o_ c11),(Qcq c12),(i_ 0)]))::(6,.cells ([(Qbc r2.switches_),.d (.lst 1 (List.map (eL 1 (eI .i64)) r2.estimates_)),(o_ r13),(Qcp r2.removals_),(i_ r2.rounds_)]))::l) ke wk (fun _ ⟨x8,c9,c10,c11,c12,r13⟩ h=>?_);refine Z 5 0 ?_;refine ci h rfl (fun h=>?_) (fun h=>Y);refine Tr.skip ?_;refine cw h [2,6,38,39,40] [1,2,103,104,106] (fun _ e=>e) (fun r21 l=>(6,.cells ([(Qbc r2.switches_),.d (.lst 1 (List.map (eL 1 (eI .i64)) r2.estimates_)),(o_ r21),(Qcp r2.removals_),(i_ r2.rounds_)]))::l) ke (fun _ h=>?_) (fun r21 h=>Y);refine Z 14 1 ?_;intro _ h;exact cd h rfl (fun h=>Y) (fun h=>Y)
 ·refine Rn.callNW (m:=55) (args:=[(Q1 t1)]) (r':=.tup [.nilp,(i_ r6)]) (B:=[]) (L':=[]) tv rfl (fun M2 hx0=>have hx:=Q1e hx0;nwF hb5 (Hax _ _ h4 M2 _ )) rfl tv tv hM cw0 rfl rfl rfl rfl ?_;refine Z 12 0 ?_;refine cd h rfl (fun h=>Y) (fun h=>?_);refine Z 4 0 ?_;cases h
theorem Qo2 {P:Program} {c:Nat} {f_degraded_key:_}
    (Hav:K_degraded_key P 92 f_degraded_key) (hcf:Qr P c=some Qkh):Qg7 P c (Qcu f_degraded_key):=by
 intro x1 x2 k3 k5 k7 k9 r h;intro M nb hk4 hk6 hk8 hk10;refine Qkw hcf rfl M nb fun Γ hP hnt hn0 hM=>?_;subst hP hn0;refine ini ?_;refine Z 17 0 ?_;refine cl (Hav _) h (cq fun x12 h=>?_);refine Rn.lookupB (ek:=(fun (x:ByteArray)=>(.d (.str x):V))) (ev:=(fun (x:Int)=>((i_ x):V))) (m:=x2.number_) (k:=x12) (fun _ _=>rfl) (fun _=>rfl) (fun _=>rfl) 0 rfl tv rfl rfl (Qfm hM hk8) ?_;exact Y
theorem Qpq {P:Program} {c:Nat} (hcf:Qr P c=some Qk1) (fuel:Nat):Qhl P c (Qc4 fuel):=by
 intro s1 f2 g3 cp4 r h;intro M nb hc5 ho7 hf6;refine Qkw hcf rfl M nb fun Γ hP hnt hn0 hM=>?_;subst hP hn0;refine ini ?_;refine Z 12 0 ?_;refine lw h [0,1,7] [] (fun x9 e=>(8,(i_ x9))::e) (fun _ l=>l) ke wk (fun _ x9 h=>?_);refine Z 5 0 ?_;refine ci h rfl (fun h=>?_) (fun h=>Y);refine Z 15 1 ?_;intro x12 h;obtain ⟨x15,h14,h⟩:=bnd h;refine Rn.callvM (args:=[(Qz x12)]++cp4) tv rfl (by (try unfold Qs);rw [hc5];rfl) (fun M2 nb2 hn hx=>hf6 _ _ h14 M2 nb2 (by omega) ((Q4a hM).trans hx)) rfl pc9 ?_;refine Z 1 0 ?_;exact cd h rfl (fun h=>Y) (fun h=>Y)
theorem Qqz {P:Program} {c:Nat} {Qc4:_} {Qcu:_}
    (Hde:Qhl P 100 Qc4)
    (Hbt:Qg7 P 101 Qcu) (hcf:Qr P c=some Qlu):Qf6 P c (Qbi Qc4 Qcu):=by
 intro s1 k2 k4 k6 r h;intro M nb hk3 hk5 hk7;refine Qkw hcf rfl M nb fun Γ hP hnt hn0 hM=>?_;subst hP hn0;refine ini ?_;refine Z 11 0 ?_;refine Rn.k (v:=.clo 101 [.ptr (Γ.n0+1) 0]) tv rfl rfl rfl ?_;refine cm h (fun _ h11 M2 nb2 hn hx=>Hde _ _ 101 [.ptr (Γ.n0+1) 0] _ h11 M2 nb2 rfl ⟨Qyt (hx _ _ (Qbf rfl)),tv⟩ (fun a8 r9 h10 M3 nb3 hn3 hx3=>Hbt a8 s1 (Γ.n0+1) k2 k4 k6 r9 h10 M3 nb3 ((hx.trans hx3) _ _ (Qbf rfl)) ((hx.trans hx3) _ _ (Qfm hM hk3)) ((hx.trans hx3) _ _ (Qfm hM hk5)) ((hx.trans hx3) _ _ (Qfm hM hk7)))) rfl (cq fun _ h=>?_);exact Y
theorem Qnu {P:Program} {c:Nat} (hcf:Qr P c=some Qjl):Qe0 P c (Q6):=by
 intro  r h;refine Qde hcf rfl fun Γ M hP hnt hM=>?_;subst hP;refine ini ?_;refine Z 8 0 ?_;cases h
theorem Qzr {P:Program} {c:Nat} {Q5:_} {Qbi:_} {Q6:_}
    (Hax:Qgn P 62 Q5)
    (Hbs:Qf6 P 63 Qbi)
    (Hbu:Qe0 P 63 Q6) (hcf:Qr P c=some Qwr):Qmk P c (Qdc Q5 Qbi Q6):=by
 intro t1 r h M nb;refine Qbb4 hcf rfl M (Mem.puts M []) nb (fun hM=>hM) fun Γ hP hnt hn0 hM=>?_;subst hP hn0;refine Tr.init [(0,(Q1 t1))] rfl ?_;refine Z 9 0 ?_;obtain ⟨⟨r2,ok3,r6⟩,h4,h⟩:=bnd h;refine bs h (fun hb5 h=>?_) (fun hb5 h=>?_)
 ·refine Rn.callNW (m:=18) (args:=[(Q1 t1)]) (r':=.tup [.ptr (Γ.n0+69) 0,(i_ r6)]) (B:=[]) (L':=[(69,.cells (Qs r2 (Γ.n0+66) (Γ.n0+67))),(66,.mp (mapE (fun (x:ByteArray)=>(.d (.str x):V)) (fun (x:Int)=>((i_ x):V)) 0 r2.number_) (r2.number_).length),(67,.mp (mapE (fun (x:Qb)=>(.agg (Qn x):V)) (fun (x:Int)=>((i_ x):V)) 0 r2.next_) (r2.next_).length)]) tv rfl (fun M2 hx0=>have hx:=Q1e hx0;nwT hb5 (Hax _ _ h4 M2 _ )) rfl tv tv hM cw0 rfl rfl rfl rfl ?_;refine Z 12 0 ?_;refine cd h rfl (fun h=>?_) (fun h=>?_)
  ·refine Z 7 0 ?_;cases sj h;exact ⟨.inr rfl,.tup [.nilp,(i_ r6)],res2 rfl rfl,(WkV.tup (cS rfl (cS rfl .nil))).rd,⟨tv,tv,tv⟩,tv,fun k hk=>Q8 hk,fun _ _ h=>(by cases h),rfl⟩
  ·refine Z 5 0 ?_;refine cm h (fun _ h8 M2 nb2 hn hx=>Hbs _ (Γ.n0+69) (Γ.n0+66) (Γ.n0+67) _ h8 M2 nb2 (hx _ _ (Qbf rfl)) (hx _ _ (Qbf rfl)) (hx _ _ (Qbf rfl))) rfl (cq fun _ h=>?_);refine Z 2 0 ?_;refine ci h rfl (fun h=>?_) (fun h=>?_)
   ·refine Z 6 0 ?_;cases sj h;exact ⟨.inr rfl,.tup [.nilp,(i_ 19)],res2 rfl rfl,(WkV.tup (cS rfl (cS rfl .nil))).rd,⟨tv,tv,tv⟩,tv,fun k hk=>Q8 hk,fun _ _ h=>(by cases h),rfl⟩
   ·refine Z 8 0 ?_;cases sj h;exact ⟨.inr rfl,.tup [.ptr (Γ.n0+69) 0,(i_ 0)],res2 rfl rfl,(WkV.tup (cS rfl (cS rfl .nil))).rd,⟨(show There _ _ from thN rfl),tv,tv⟩,⟨⟨tv,tv,tv,tv,tv,tv,tv,tv,tv,tv,tv,tv,tv,tv,tv,tv,tv,tv,tv,(show There _ _ from thN rfl),(show There _ _ from thN rfl),tv,tv,tv,tv⟩,tv⟩,fun k hk=>Q8 hk,lrAt ⟨(by show Ql Γ.n0 _ _ (Γ.n0+69)=some (.cells (Qs r2 (Γ.n0+66) (Γ.n0+67)));exact Qbf rfl),Qbf rfl,Qbf rfl,tv⟩,rfl⟩
 ·refine Rn.callNW (m:=18) (args:=[(Q1 t1)]) (r':=.tup [.nilp,(i_ r6)]) (B:=[]) (L':=[]) tv rfl (fun M2 hx0=>have hx:=Q1e hx0;nwF hb5 (Hax _ _ h4 M2 _ )) rfl tv tv hM cw0 rfl rfl rfl rfl ?_;refine Z 12 0 ?_;refine cd h rfl (fun h=>?_) (fun h=>?_)
  ·refine Z 7 0 ?_;cases sj h;exact ⟨.inr rfl,.tup [.nilp,(i_ r6)],res2 rfl rfl,(WkV.tup (cS rfl (cS rfl .nil))).rd,⟨tv,tv,tv⟩,tv,fun k hk=>Q8 hk,fun _ _ h=>(by cases h),rfl⟩
  ·refine Z 5 0 ?_;refine cl Hbu h (cq fun _ h=>?_);refine Z 2 0 ?_;refine ci h rfl (fun h=>?_) (fun h=>?_)
   ·refine Z 6 0 ?_;cases sj h;exact ⟨.inr rfl,.tup [.nilp,(i_ 19)],res2 rfl rfl,(WkV.tup (cS rfl (cS rfl .nil))).rd,⟨tv,tv,tv⟩,tv,fun k hk=>Q8 hk,fun _ _ h=>(by cases h),rfl⟩
   ·refine Z 8 0 ?_;cases sj h;exact ⟨.inr rfl,.tup [.nilp,(i_ 0)],res2 rfl rfl,(WkV.tup (cS rfl (cS rfl .nil))).rd,⟨tv,tv,tv⟩,tv,fun k hk=>Q8 hk,fun _ _ h=>(by cases h),rfl⟩
theorem Qsi {P:Program} {c:Nat} {f_degraded_key:_}
    (Hav:K_degraded_key P 92 f_degraded_key) (hcf:Qr P c=some Qm7):Qfk P c (Q2 f_degraded_key):=by
 intro s1 x8 k2 k4 k6 r h;intro M nb hk3 hk5 hk7;refine Qkw hcf rfl M nb fun Γ hP hnt hn0 hM=>?_;subst hP hn0;refine ini ?_;refine Z 17 1 ?_;intro _ h;refine cd h rfl (fun h=>?_) (fun h=>Y);refine Z 14 1 ?_;intro _ h;refine cl (Hav _) h (cq fun x15 h=>?_);refine Rn.lookupB (ek:=(fun (x:ByteArray)=>(.d (.str x):V))) (ev:=(fun (x:Int)=>((i_ x):V))) (m:=s1.number_) (k:=x15) (fun _ _=>rfl) (fun _=>rfl) (fun _=>rfl) 0 rfl tv rfl rfl (Qfm hM hk5) ?_;exact Y
theorem Qsj {P:Program} {c:Nat} {Q2:_} {Qds:_}
    (Hbo:Qfk P 54 Q2)
    (Hbq:Qjc P 93 Qds) (hcf:Qr P c=some Qjf):Qgy P c (Qbg Q2 Qds):=by
 intro s1 x8 ev9 k2 k4 k6 r h;intro M nb hk3 hk5 hk7;refine Qkw hcf rfl M nb fun Γ hP hnt hn0 hM=>?_;subst hP hn0;refine Tr.init [(0,.ptr k2 0),(1,(Qdk x8)),(2,(i_ ev9))] rfl ?_;unfold Qbg at h;unfold Qjf;refine sr (Rn.box (v:=(Qdk x8)) (cs:=(Qck x8)) tv rfl rfl rfl rfl rfl (Rn.alloc tv rfl (md rfl (nt (Tr.seq (sr (fP rfl (lB (v:=(i_ x8.estimate_)) rfl rfl rfl rfl (bN rfl (nO ?_))))))))));refine Tr.cond rfl (fun hb10=>?_) (fun hb10=>?_)
 ·replace h:=ifT hb10 h;refine Tr.seq ?_;refine Tr.rgnD (by decide) ?_;refine mv (.ptr k2 0) rfl (Rn.nilchkP tv rfl (fP rfl (Rn.load (v:=.mp k6) tv rfl (Qfm hM hk3) rfl rfl (fP rfl (lB (v:=(i_ x8.estimate_)) rfl rfl rfl rfl (md rfl (Rn.build (v:=.agg [(i_ x8.estimate_),(i_ ev9)]) tv rfl (Rn.lookupBC (ek:=(fun (x:Qb)=>(.agg (Qn x):V))) (ev:=(fun (x:Int)=>((i_ x):V))) (m:=s1.next_) (k:=(Qb.mk x8.estimate_ ev9)) Qdw (fun _=>rfl) (fun _=>rfl) 0 rfl tv rfl rfl (Qfm hM hk7) (mv (.tup [(i_ (getM s1.next_ (Qb.mk x8.estimate_ ev9) 0)),(b_ (hasM s1.next_ (Qb.mk x8.estimate_ ev9)))]) rfl (Rn.ext (v:=(i_ (getM s1.next_ (Qb.mk x8.estimate_ ev9) 0))) (vs:=[(i_ (getM s1.next_ (Qb.mk x8.estimate_ ev9) 0)),(b_ (hasM s1.next_ (Qb.mk x8.estimate_ ev9)))]) tv rfl rfl rfl (Rn.ext (v:=(b_ (hasM s1.next_ (Qb.mk x8.estimate_ ev9)))) (vs:=[(i_ (getM s1.next_ (Qb.mk x8.estimate_ ev9) 0)),(b_ (hasM s1.next_ (Qb.mk x8.estimate_ ev9)))]) tv rfl rfl rfl (md rfl (md rfl ?_)))))))))))));refine Rn.nil ⟨rfl,?_⟩;refine toN (Tr.seq ?_);refine Tr.rgnD (by decide) ?_;refine md rfl (Rn.build (v:=.agg [(i_ 0),(i_ 0),(i_ (getM s1.next_ (Qb.mk x8.estimate_ ev9) 0))]) tv rfl (md rfl (md rfl ?_)));refine Qbbq (hasM s1.next_ (Qb.mk x8.estimate_ ev9)) (fun hb11=>?_) (fun hb11=>?_)
  ·replace h:=bT hb11 h;refine Rn.mov (v:=.ptr k2 0) (gw rfl hb11) rfl (Rn.nilchkP (gw rfl hb11) rfl (Rn.fldP (o':=21) (gw rfl hb11) rfl rfl (Rn.load (v:=(l_ s1.rank_)) (gw rfl hb11) rfl (Qfm hM hk3) rfl rfl (Rn.movD (gw rfl hb11) rfl ?_))));obtain ⟨x12,h13,h⟩:=bnd h;refine Rn.idxD (e:=(eI .i64)) (gw rfl hb11) rfl rfl h13 (Rn.loadC (x:=.int .i64 x12) (gw rfl hb11) rfl (Rn.bin (gw rfl hb11) rfl rfl rfl (pT (b_ (x12==0)) rfl hb11 rfl (Rn.store (v:=.agg [(i_ 0),(i_ 0),(i_ (getM s1.next_ (Qb.mk x8.estimate_ ev9) 0))]) (cs':=[(i_ 0),(i_ 0),(i_ (getM s1.next_ (Qb.mk x8.estimate_ ev9) 0))]) tv rfl rfl rfl rfl rfl rfl (md rfl ?_)))));refine Rn.nil ⟨by first|rfl|(simp [Qpz,Qkv,look,Bool.cond_eq_ite,Nat.beq_eq];done),?_⟩;refine toN (Tr.ret ?_);cases sj h;exact ⟨.inr rfl,.tup [.agg [(i_ 0),(i_ 0),(i_ (getM s1.next_ (Qb.mk x8.estimate_ ev9) 0))],(b_ (x12==0))],res2 (Q0k rfl rfl rfl rfl) rfl,(WkV.tup (cS rfl (cS rfl .nil))).rd,⟨⟨tv,tv,tv,tv⟩,tv,tv⟩,mB⟩
  ·replace h:=bF hb11 h;refine sK rfl hb11 (sK rfl hb11 (sK rfl hb11 (sK rfl hb11 (sK rfl hb11 (sK rfl hb11 (sK rfl hb11 (sK rfl hb11 (pF (b_ false) rfl hb11 rfl (Rn.store (v:=.agg [(i_ 0),(i_ 0),(i_ (getM s1.next_ (Qb.mk x8.estimate_ ev9) 0))]) (cs':=[(i_ 0),(i_ 0),(i_ (getM s1.next_ (Qb.mk x8.estimate_ ev9) 0))]) tv rfl rfl rfl rfl rfl rfl (md rfl ?_))))))))));refine Rn.nil ⟨by first|rfl|(simp [Qpz,Qkv,look,Bool.cond_eq_ite,Nat.beq_eq];done),?_⟩;refine toN (Tr.ret ?_);cases sj h;exact ⟨.inr rfl,.tup [.agg [(i_ 0),(i_ 0),(i_ (getM s1.next_ (Qb.mk x8.estimate_ ev9) 0))],(b_ false)],res2 (Q0k rfl rfl rfl rfl) rfl,(WkV.tup (cS rfl (cS rfl .nil))).rd,⟨⟨tv,tv,tv,tv⟩,tv,tv⟩,mB⟩
 ·replace h:=ifF hb10 h;refine Tr.skip (toN (sr (mv (.ptr k2 0) rfl (fP rfl (lB (v:=(Qb2 x8.at_)) rfl rfl rfl rfl (md rfl ?_))))));obtain ⟨⟨r15,r16⟩,h14,h⟩:=bnd h;refine Rn.callM (args:=[.ptr k2 0,(Qb2 x8.at_),(i_ ev9)]) tv rfl (fun M2 nb2 hn hx=>Hbq _ _ _ k2 k4 k6 _ h14 M2 nb2 (hx _ _ (Qfm hM hk3)) (hx _ _ (Qfm hM hk5)) (hx _ _ (Qfm hM hk7))) rfl pc9 ?_;refine mv (.tup [(Qb2 r15),(b_ r16)]) rfl (Rn.ext (v:=(Qb2 r15)) (vs:=[(Qb2 r15),(b_ r16)]) tv rfl rfl rfl (Rn.ext (v:=(b_ r16)) (vs:=[(Qb2 r15),(b_ r16)]) tv rfl rfl rfl (Rn.alloc tv rfl (Rn.store (v:=(Qb2 r15)) (cs':=(Qc8 r15)) tv rfl rfl rfl rfl rfl rfl (md rfl (nt (sr (mv (.ptr k2 0) rfl (lB (v:=(Qb2 r15)) rfl rfl rfl rfl ?_)))))))));obtain ⟨x18,h17,h⟩:=bnd h;refine Rn.callM (args:=[.ptr k2 0,(Qb2 r15)]) tv rfl (fun M2 nb2 hn hx=>Hbo _ _ k2 k4 k6 _ h17 M2 nb2 (hx _ _ (Qfm hM hk3)) (hx _ _ (Qfm hM hk5)) (hx _ _ (Qfm hM hk7))) rfl pc9 ?_;refine md rfl (Rn.store (v:=(Qdk x18)) (cs':=(Qck x18)) tv rfl rfl rfl rfl rfl rfl (md rfl (nt (Tr.ret ?_))));cases sj h;exact ⟨.inr rfl,.tup [(Qdk x18),(b_ r16)],res2 (Q0k rfl rfl rfl rfl) rfl,(WkV.tup (cS rfl (cS rfl .nil))).rd,⟨⟨tv,tv,tv,tv⟩,tv,tv⟩,mB⟩
theorem Qum {P:Program} {c:Nat} {Qdc:_} {Qbo:_} {Q2:_} {Qbg:_}
    (Hay:Qmk P 49 Qdc)
    (Hbd:Qgh P 53 Qbo)
    (Hbo:Qfk P 54 Q2)
    (Hbi:Qgy P 55 Qbg) (hcf:Qr P c=some Qpa) (fuel:Nat):Qgc P c (Q7 Qdc Qbo Q2 Qbg fuel):=by
 intro t1 r h;refine Qde hcf rfl fun Γ M hP hnt hM=>?_;subst hP;refine ini ?_;refine Z 9 0 ?_;obtain ⟨⟨r2,ok3,r6⟩,h4,h⟩:=bnd h;refine bs h (fun hb5 h=>?_) (fun hb5 h=>?_)
 ·refine Rn.callNW (m:=110) (args:=[(Q1 t1)]) (r':=.tup [.ptr (Γ.n0+179) 0,(i_ r6)]) (B:=[]) (L':=[(179,.cells (Qs r2 (Γ.n0+176) (Γ.n0+177))),(176,.mp (mapE (fun (x:ByteArray)=>(.d (.str x):V)) (fun (x:Int)=>((i_ x):V)) 0 r2.number_) (r2.number_).length),(177,.mp (mapE (fun (x:Qb)=>(.agg (Qn x):V)) (fun (x:Int)=>((i_ x):V)) 0 r2.next_) (r2.next_).length)]) tv rfl (fun M2 hx0=>have hx:=Q1e hx0;nwT hb5 (Hay _ _ h4 M2 _ )) rfl tv tv hM cw0 rfl rfl rfl rfl ?_;refine Z 12 0 ?_;refine cd h rfl (fun h=>Y) (fun h=>?_);refine Z 7 0 ?_;refine Rn.buildT (v:=.agg [(l_ r2.observable_),(i_ 0),.nils 1,.nils 3]) tv rfl ?_;refine Z 7 0 ?_;refine cm h (fun _ h8 M2 nb2 hn hx=>Hbd _ (Γ.n0+179) (Γ.n0+176) (Γ.n0+177) _ h8 M2 nb2 (hx _ _ (Qbf rfl)) (hx _ _ (Qbf rfl)) (hx _ _ (Qbf rfl))) rfl (cq fun x9 h=>?_);refine Z 1 0 ?_;refine cd h rfl (fun h=>Y) (fun h=>?_);refine Z 5 0 ?_;refine cm h (fun _ h11 M2 nb2 hn hx=>Hbo _ _ (Γ.n0+179) (Γ.n0+176) (Γ.n0+177) _ h11 M2 nb2 (hx _ _ (Qbf rfl)) (hx _ _ (Qbf rfl)) (hx _ _ (Qbf rfl))) rfl (cq fun x12 h=>?_);refine Z 5 0 ?_;refine Rn.mkmap tv rfl (fun (x:Qu)=>(.agg (Qck x):V)) (fun (x:Int)=>((i_ x):V)) ?_;refine Z 1 0 ?_;refine Rn.k (v:=.ptr (Γ.n0+36) 0) tv rfl rfl rfl ?_;refine Z 1 0 ?_;refine Rn.mapset (ek:=(fun (x:Qu)=>(.agg (Qck x):V))) (ev:=(fun (x:Int)=>((i_ x):V))) (m:=([]:List (Qu×Int))) (k:=x12) (v:=0) Qmb (fun _=>rfl) (fun _=>rfl) tv rfl rfl rfl rfl rfl ?_;refine Z 9 0 ?_;refine Tr.weak (by show WeakSt Γ _ ⟨look ((7,.own 3 (List.map Qwo [x12]))::[(0,(Q1 t1)),(1,.ptr (Γ.n0+1) 0),(2,.ptr (Γ.n0+2) 0),(3,(i_ 0)),(4,.ptr (Γ.n0+179) 0),(5,(i_ r6)),(6,.ptr (Γ.n0+6) 0),(8,.mp (Γ.n0+37)),(9,(i_ 0)),(17,(Q1 t1)),(19,.ptr (Γ.n0+179) 0),(20,(i_ r6)),(21,(i_ r6)),(22,(b_ (r6 != 0))),(25,.ptr (Γ.n0+179) 0),(26,.ptr (Γ.n0+179) 0),(27,.ptr (Γ.n0+179) 11),(28,(l_ r2.observable_)),(29,.agg [(l_ r2.observable_),(i_ 0),.nils 1,.nils 3]),(30,.ptr (Γ.n0+179) 0),(31,(b_ x9)),(33,.ptr (Γ.n0+179) 0),(34,.agg [(i_ 0),(i_ 0)]),(35,(Qdk x12)),(37,.mp (Γ.n0+37)),(40,(Qdk x12)),(41,.mp (Γ.n0+37))] ),Ql Γ.n0 (bxs [(1,.cells ((Qe5 t1))),(2,.cells ([.nils 1,(i_ 0),.nils 1,.nils 3])),(6,.cells ([(l_ r2.observable_),(i_ 0),.nils 1,.nils 3])),(37,.mp (mapE (fun (x:Qu)=>(.agg (Qck x):V)) (fun (x:Int)=>((i_ x):V)) 0 (setM ([]:List (Qu×Int)) x12 0)) ((setM ([]:List (Qu×Int)) x12 0)).length),(176,.mp (mapE (fun (x:ByteArray)=>(.d (.str x):V)) (fun (x:Int)=>((i_ x):V)) 0 r2.number_) (r2.number_).length),(177,.mp (mapE (fun (x:Qb)=>(.agg (Qn x):V)) (fun (x:Int)=>((i_ x):V)) 0 r2.next_) (r2.next_).length),(179,.cells (Qs r2 (Γ.n0+176) (Γ.n0+177)))]) M,Γ.n0+299⟩;exact Qwg 36 7 [.int .i64 x12.at_.diagnoser_,.int .i64 x12.at_.first_,.int .i64 x12.estimate_] rfl rfl rfl rfl rfl ⟨sq,(kPtr rfl),(kPtr rfl),sq,(kPtr rfl),sq,(kPtr rfl),(kMp rfl),sq,sq,(kPtr rfl),sq,sq,sq,(kPtr rfl),(kPtr rfl),(kPtr rfl),sq,sq,(kPtr rfl),sq,(kPtr rfl),sq,sq,(kMp rfl),sq,(kMp rfl),tv⟩ ⟨bS rfl rfl rfl,bS rfl rfl rfl,bS rfl rfl rfl,⟨rfl,rfl⟩,⟨rfl,rfl⟩,⟨rfl,rfl⟩,⟨_,rfl,rfl,(cS rfl (cS rfl (cS rfl (cS rfl (cS rfl (cS rfl (cS rfl (cS rfl (cS rfl (cS rfl (cS rfl (cS rfl (cS rfl (cS rfl (cS rfl (cS rfl (cS rfl (cS rfl (cS rfl (.cons (kMp rfl) (.cons (kMp rfl) (cS rfl (cS rfl (cS rfl .nil))))))))))))))))))))))))⟩,tv⟩ rfl) ?_;refine lo h (fun (l13,i14,c15,c16,c17,a18,a19,c20)=>⟨look [(2,.ptr (Γ.n0+2) 0),(4,.ptr (Γ.n0+179) 0),(6,.ptr (Γ.n0+6) 0),(7,(Qjt l13)),(8,.mp (Γ.n0+37)),(9,(i_ i14))],Ql Γ.n0 (bxs [(1,.cells ((Qe5 t1))),(2,.cells ([(o_ c15),(i_ 0),(o_ c16),(Qb1 c17)])),(6,.cells ([(l_ r2.observable_),(i_ 0),(o_ a18),(Qb1 a19)])),(37,.mp (mapE (fun (x:Qu)=>(.agg (Qck x):V)) (fun (x:Int)=>((i_ x):V)) 0 c20) (c20).length),(176,.mp (mapE (fun (x:ByteArray)=>(.d (.str x):V)) (fun (x:Int)=>((i_ x):V)) 0 r2.number_) (r2.number_).length),(177,.mp (mapE (fun (x:Qb)=>(.agg (Qn x):V)) (fun (x:Int)=>((i_ x):V)) 0 r2.next_) (r2.next_).length),(179,.cells (Qs r2 (Γ.n0+176) (Γ.n0+177)))]) M,Γ.n0+299⟩) wk (fun _ ⟨l13,i14,c15,c16,c17,a18,a19,c20⟩ h=>?_);refine Z 8 0 ?_;refine ci h rfl (fun h=>?_) (fun h=>Y);refine Z 13 1 ?_;intro x23 h;refine cu h (fun (l53,a54,c55)=>⟨look [(2,.ptr (Γ.n0+2) 0),(4,.ptr (Γ.n0+179) 0),(6,.ptr (Γ.n0+6) 0),(7,(Qjt l53)),(8,.mp (Γ.n0+37)),(9,(i_ i14))],Ql Γ.n0 (bxs [(1,.cells ((Qe5 t1))),(2,.cells ([(o_ c15),(i_ 0),(o_ c16),(Qb1 c17)])),(6,.cells ([(l_ r2.observable_),(i_ 0),(o_ x23),(Qb1 a54)])),(37,.mp (mapE (fun (x:Qu)=>(.agg (Qck x):V)) (fun (x:Int)=>((i_ x):V)) 0 c55) (c55).length),(51,.cells ([(i_ i14)])),(176,.mp (mapE (fun (x:ByteArray)=>(.d (.str x):V)) (fun (x:Int)=>((i_ x):V)) 0 r2.number_) (r2.number_).length),(177,.mp (mapE (fun (x:Qb)=>(.agg (Qn x):V)) (fun (x:Int)=>((i_ x):V)) 0 r2.next_) (r2.next_).length),(179,.cells (Qs r2 (Γ.n0+176) (Γ.n0+177)))]) M,Γ.n0+299⟩) (fun _ h=>?_) (fun ⟨l53,a54,c55⟩ h=>?_)
  ·refine Z 10 0 ?_;refine lo h (fun (l25,x26,a27,c28)=>⟨look [(2,.ptr (Γ.n0+2) 0),(4,.ptr (Γ.n0+179) 0),(6,.ptr (Γ.n0+6) 0),(7,(Qjt l25)),(8,.mp (Γ.n0+37)),(9,(i_ i14)),(57,(l_ r2.observable_)),(58,(i_ (r2.observable_.length:Int))),(59,(i_ x26))],Ql Γ.n0 (bxs [(1,.cells ((Qe5 t1))),(2,.cells ([(o_ c15),(i_ 0),(o_ c16),(Qb1 c17)])),(6,.cells ([(l_ r2.observable_),(i_ 0),(o_ x23),(Qb1 a27)])),(37,.mp (mapE (fun (x:Qu)=>(.agg (Qck x):V)) (fun (x:Int)=>((i_ x):V)) 0 c28) (c28).length),(51,.cells ([(i_ i14)])),(176,.mp (mapE (fun (x:ByteArray)=>(.d (.str x):V)) (fun (x:Int)=>((i_ x):V)) 0 r2.number_) (r2.number_).length),(177,.mp (mapE (fun (x:Qb)=>(.agg (Qn x):V)) (fun (x:Int)=>((i_ x):V)) 0 r2.next_) (r2.next_).length),(179,.cells (Qs r2 (Γ.n0+176) (Γ.n0+177)))]) M,Γ.n0+299⟩) wk (fun _ ⟨l25,x26,a27,c28⟩ h=>?_);refine Z 5 0 ?_;refine ci h rfl (fun h=>?_) (fun h=>Y);refine Tr.skip ?_;refine cu h (fun (l47,a48,c49,c50,c51,c52)=>⟨look [(2,.ptr (Γ.n0+2) 0),(4,.ptr (Γ.n0+179) 0),(6,.ptr (Γ.n0+6) 0),(7,(Qjt l47)),(8,.mp (Γ.n0+37)),(9,(i_ i14)),(57,(l_ r2.observable_)),(58,(i_ (r2.observable_.length:Int))),(59,(i_ x26))],Ql Γ.n0 (bxs [(1,.cells ((Qe5 t1))),(2,.cells ([(o_ c15),(i_ 0),(o_ c16),(Qb1 c17)])),(6,.cells ([(l_ r2.observable_),(i_ 0),(o_ x23),(Qb1 a48)])),(12,.cells ([(i_ c50),(i_ c51),(i_ c52)])),(37,.mp (mapE (fun (x:Qu)=>(.agg (Qck x):V)) (fun (x:Int)=>((i_ x):V)) 0 c49) (c49).length),(51,.cells ([(i_ i14)])),(176,.mp (mapE (fun (x:ByteArray)=>(.d (.str x):V)) (fun (x:Int)=>((i_ x):V)) 0 r2.number_) (r2.number_).length),(177,.mp (mapE (fun (x:Qb)=>(.agg (Qn x):V)) (fun (x:Int)=>((i_ x):V)) 0 r2.next_) (r2.next_).length),(179,.cells (Qs r2 (Γ.n0+176) (Γ.n0+177)))]) M,Γ.n0+299⟩) (fun _ h=>?_) (fun ⟨l47,a48,c49,c50,c51,c52⟩ h=>Y);refine Z 15 1 ?_;intro x31 _ h;refine cm h (fun _ h35 M2 nb2 hn hx=>Hbi _ _ _ (Γ.n0+179) (Γ.n0+176) (Γ.n0+177) _ h35 M2 nb2 (hx _ _ (Qbf rfl)) (hx _ _ (Qbf rfl)) (hx _ _ (Qbf rfl))) rfl (cq fun ⟨r36,_⟩ h=>?_);refine Z 13 0 ?_;refine Tr.cond rfl (fun hb38=>?_) (fun hb38=>?_)
   ·have hb38:=nT' hb38;replace h:=bF hb38 h;exact Y
   ·have hb38:=nF' hb38;replace h:=bT hb38 h;refine Z 5 0 ?_;refine Rn.lookupC (ek:=(fun (x:Qu)=>(.agg (Qck x):V))) (ev:=(fun (x:Int)=>((i_ x):V))) (m:=c28) (k:=r36) Qmb (fun _=>rfl) (fun _=>rfl) 0 rfl tv rfl rfl rfl ?_;refine Z 6 0 ?_;refine cu h (fun (l42,to43,c44)=>⟨look [(2,.ptr (Γ.n0+2) 0),(4,.ptr (Γ.n0+179) 0),(6,.ptr (Γ.n0+6) 0),(7,(Qjt l42)),(8,.mp (Γ.n0+37)),(9,(i_ i14)),(11,(i_ x31)),(14,(i_ to43)),(57,(l_ r2.observable_)),(58,(i_ (r2.observable_.length:Int))),(59,(i_ x26))],Ql Γ.n0 (bxs [(1,.cells ((Qe5 t1))),(2,.cells ([(o_ c15),(i_ 0),(o_ c16),(Qb1 c17)])),(6,.cells ([(l_ r2.observable_),(i_ 0),(o_ x23),(Qb1 a27)])),(12,.cells ((Qck r36))),(37,.mp (mapE (fun (x:Qu)=>(.agg (Qck x):V)) (fun (x:Int)=>((i_ x):V)) 0 c44) (c44).length),(51,.cells ([(i_ i14)])),(176,.mp (mapE (fun (x:ByteArray)=>(.d (.str x):V)) (fun (x:Int)=>((i_ x):V)) 0 r2.number_) (r2.number_).length),(177,.mp (mapE (fun (x:Qb)=>(.agg (Qn x):V)) (fun (x:Int)=>((i_ x):V)) 0 r2.next_) (r2.next_).length),(179,.cells (Qs r2 (Γ.n0+176) (Γ.n0+177)))]) M,Γ.n0+299⟩) (fun _ h=>?_) (fun ⟨l42,to43,c44⟩ h=>Y);refine Z 5 0 ?_;refine Tr.cond rfl (fun hb39=>?_) (fun hb39=>?_)
    ·have hb39:=nT' hb39;replace h:=bF hb39 h;refine Z 11 0 ?_;refine Rn.mapset (ek:=(fun (x:Qu)=>(.agg (Qck x):V))) (ev:=(fun (x:Int)=>((i_ x):V))) (m:=c28) (k:=r36) (v:=(l25.length:Int)) Qmb (fun _=>rfl) (fun _=>rfl) tv rfl rfl rfl rfl rfl ?_;exact Y
    ·have hb39:=nF' hb39;replace h:=bT hb39 h;exact Y
  ·refine Z 6 0 ?_;exact ci h rfl (fun h=>Y) (fun h=>Y)
 ·refine Rn.callNW (m:=110) (args:=[(Q1 t1)]) (r':=.tup [.nilp,(i_ r6)]) (B:=[]) (L':=[]) tv rfl (fun M2 hx0=>have hx:=Q1e hx0;nwF hb5 (Hay _ _ h4 M2 _ )) rfl tv tv hM cw0 rfl rfl rfl rfl ?_;refine Z 12 0 ?_;refine cd h rfl (fun h=>Y) (fun h=>?_);refine Z 4 0 ?_;cases h
theorem Qsk {P:Program} {c:Nat} {Qf:_}
    (Hdd:Qbx P 52 Qf) (hcf:Qr P c=some Qm8):Qjg P c (Qdv Qf):=by
 intro x1 x2 k3 k5 k7 k9 r h;intro M nb hk4 hk6 hk8 hk10;refine Qkw hcf rfl M nb fun Γ hP hnt hn0 hM=>?_;subst hP hn0;refine ini ?_;refine Z 11 0 ?_;refine cl (Hdd _ _) h (cq fun _ h=>?_);exact Y
theorem Qun {P:Program} {c:Nat} {Qdc:_} {Qt:_} {Qdv:_} {Qbo:_} {Q2:_} {Qbg:_}
    (Hay:Qmk P 49 Qdc)
    (Hdc:Qdm P 50 Qt)
    (Har:Qjg P 51 Qdv)
    (Hbd:Qgh P 53 Qbo)
    (Hbo:Qfk P 54 Q2)
    (Hbi:Qgy P 55 Qbg) (hcf:Qr P c=some Qpb) (fuel:Nat):Qhu P c (Qbw Qdc Qt Qdv Qbo Q2 Qbg fuel):=by
 intro t1 ov2 r h;refine Qde hcf rfl fun Γ M hP hnt hM=>?_;subst hP;refine ini ?_;refine Z 10 0 ?_;obtain ⟨⟨r3,ok4,r7⟩,h5,h⟩:=bnd h;refine bs h (fun hb6 h=>?_) (fun hb6 h=>?_)
 ·refine Rn.callNW (m:=76) (args:=[(Q1 t1)]) (r':=.tup [.ptr (Γ.n0+145) 0,(i_ r7)]) (B:=[]) (L':=[(145,.cells (Qs r3 (Γ.n0+142) (Γ.n0+143))),(142,.mp (mapE (fun (x:ByteArray)=>(.d (.str x):V)) (fun (x:Int)=>((i_ x):V)) 0 r3.number_) (r3.number_).length),(143,.mp (mapE (fun (x:Qb)=>(.agg (Qn x):V)) (fun (x:Int)=>((i_ x):V)) 0 r3.next_) (r3.next_).length)]) tv rfl (fun M2 hx0=>have hx:=Q1e hx0;nwT hb6 (Hay _ _ h5 M2 _ )) rfl tv tv hM cw0 rfl rfl rfl rfl ?_;refine Z 13 0 ?_;refine cd h rfl (fun h=>Y) (fun h=>?_);refine Z 5 0 ?_;refine Rn.k (v:=.clo 51 [.ptr (Γ.n0+7) 0]) tv rfl rfl rfl ?_;refine cm h (fun _ h12 M2 nb2 hn hx=>Hdc _ _ 51 [.ptr (Γ.n0+7) 0] _ h12 M2 nb2 rfl ⟨Qyt (hx _ _ (Qbf rfl)),tv⟩ (fun a9 r10 h11 M3 nb3 hn3 hx3=>Har a9 r3 (Γ.n0+7) (Γ.n0+145) (Γ.n0+142) (Γ.n0+143) r10 h11 M3 nb3 ((hx.trans hx3) _ _ (Qbf rfl)) ((hx.trans hx3) _ _ (Qbf rfl)) ((hx.trans hx3) _ _ (Qbf rfl)) ((hx.trans hx3) _ _ (Qbf rfl)))) rfl (cq fun _ h=>?_);refine Z 1 0 ?_;refine cd h rfl (fun h=>Y) (fun h=>?_);refine Z 5 0 ?_;refine cm h (fun _ h15 M2 nb2 hn hx=>Hbd _ (Γ.n0+145) (Γ.n0+142) (Γ.n0+143) _ h15 M2 nb2 (hx _ _ (Qbf rfl)) (hx _ _ (Qbf rfl)) (hx _ _ (Qbf rfl))) rfl (cq fun _ h=>?_);refine Z 1 0 ?_;refine cd h rfl (fun h=>Y) (fun h=>?_);refine Z 5 0 ?_;refine cm h (fun _ h18 M2 nb2 hn hx=>Hbo _ _ (Γ.n0+145) (Γ.n0+142) (Γ.n0+143) _ h18 M2 nb2 (hx _ _ (Qbf rfl)) (hx _ _ (Qbf rfl)) (hx _ _ (Qbf rfl))) rfl (cq fun _ h=>?_);refine Z 11 0 ?_;refine lw h [7,8,33,34] [2,7,142,143,145] (fun (ev20,x21,xv22,xv23,xv24) e=>(4,(o_ ev20))::(35,(i_ x21))::e) (fun (ev20,x21,xv22,xv23,xv24) l=>(8,.cells ([(i_ xv22),(i_ xv23),(i_ xv24)]))::l) ke wk (fun _ ⟨ev20,x21,xv22,xv23,xv24⟩ h=>?_);refine Z 5 0 ?_;refine ci h rfl (fun h=>?_) (fun h=>?_)
  ·refine Z 14 1 ?_;intro _ h;refine cm h (fun _ h29 M2 nb2 hn hx=>Hbi _ _ _ (Γ.n0+145) (Γ.n0+142) (Γ.n0+143) _ h29 M2 nb2 (hx _ _ (Qbf rfl)) (hx _ _ (Qbf rfl)) (hx _ _ (Qbf rfl))) rfl (cq fun ⟨_,_⟩ h=>?_);refine Z 13 0 ?_;refine Tr.cond rfl (fun hb32=>?_) (fun hb32=>?_)
   ·have hb32:=nT' hb32;replace h:=bF hb32 h;exact Y
   ·have hb32:=nF' hb32;replace h:=bT hb32 h;exact Y
  ·refine Tr.exit ?_;refine cw h [8] [2,7,8,142,143,145] (fun ev49 e=>(4,(o_ ev49))::e) (fun _ l=>l) ke (fun _ h=>?_) (fun ev49 h=>Y);refine Z 10 0 ?_;refine lw h [7,8,53,54] [2,7,8,142,143,145] (fun (ev33,x34) e=>(4,(o_ ev33))::(55,(i_ x34))::e) (fun _ l=>l) ke wk (fun _ ⟨ev33,x34⟩ h=>?_);refine Z 5 0 ?_;refine ci h rfl (fun h=>?_) (fun h=>Y);refine Tr.skip ?_;refine cw h [7,8,53,54,55] [2,7,8,142,143,145] (fun (ev45,x46,x47,x48) e=>(4,(o_ ev45))::e) (fun (ev45,x46,x47,x48) l=>(15,.cells ([(i_ x46),(i_ x47),(i_ x48)]))::l) ke (fun _ h=>?_) (fun ⟨ev45,x46,x47,x48⟩ h=>Y);refine Z 12 1 ?_;intro _ h;refine cm h (fun _ h39 M2 nb2 hn hx=>Hbi _ _ _ (Γ.n0+145) (Γ.n0+142) (Γ.n0+143) _ h39 M2 nb2 (hx _ _ (Qbf rfl)) (hx _ _ (Qbf rfl)) (hx _ _ (Qbf rfl))) rfl (cq fun ⟨_,_⟩ h=>?_);refine Z 11 0 ?_;exact cd h rfl (fun h=>Y) (fun h=>Y)
 ·refine Rn.callNW (m:=76) (args:=[(Q1 t1)]) (r':=.tup [.nilp,(i_ r7)]) (B:=[]) (L':=[]) tv rfl (fun M2 hx0=>have hx:=Q1e hx0;nwF hb6 (Hay _ _ h5 M2 _ )) rfl tv tv hM cw0 rfl rfl rfl rfl ?_;refine Z 13 0 ?_;refine cd h rfl (fun h=>Y) (fun h=>?_);refine Z 5 0 ?_;refine Rn.k (v:=.clo 51 [.ptr (Γ.n0+7) 0]) tv rfl rfl rfl ?_;cases h
theorem Qzs {P:Program} {c:Nat} {Q5:_} {Qbi:_} {Q6:_}
    (Hax:Qgn P 62 Q5)
    (Hbs:Qf6 P 63 Qbi)
    (Hbu:Qe0 P 63 Q6) (hcf:Qr P c=some Qws):Qml P c (Qdd Q5 Qbi Q6):=by
 intro t1 r h;refine Qde hcf rfl fun Γ M hP hnt hM=>?_;subst hP;refine ini ?_;refine Z 10 0 ?_;obtain ⟨⟨r2,ok3,r6⟩,h4,h⟩:=bnd h;refine bs h (fun hb5 h=>?_) (fun hb5 h=>?_)
 ·refine Rn.callNW (m:=28) (args:=[(Q1 t1)]) (r':=.tup [.ptr (Γ.n0+79) 0,(i_ r6)]) (B:=[]) (L':=[(79,.cells (Qs r2 (Γ.n0+76) (Γ.n0+77))),(76,.mp (mapE (fun (x:ByteArray)=>(.d (.str x):V)) (fun (x:Int)=>((i_ x):V)) 0 r2.number_) (r2.number_).length),(77,.mp (mapE (fun (x:Qb)=>(.agg (Qn x):V)) (fun (x:Int)=>((i_ x):V)) 0 r2.next_) (r2.next_).length)]) tv rfl (fun M2 hx0=>have hx:=Q1e hx0;nwT hb5 (Hax _ _ h4 M2 _ )) rfl tv tv hM cw0 rfl rfl rfl rfl ?_;refine Z 12 0 ?_;refine cd h rfl (fun h=>Y) (fun h=>?_);refine Z 5 0 ?_;refine cm h (fun _ h8 M2 nb2 hn hx=>Hbs _ (Γ.n0+79) (Γ.n0+76) (Γ.n0+77) _ h8 M2 nb2 (hx _ _ (Qbf rfl)) (hx _ _ (Qbf rfl)) (hx _ _ (Qbf rfl))) rfl (cq fun _ h=>?_);refine Z 7 0 ?_;exact ci h rfl (fun h=>Y) (fun h=>Y)
 ·refine Rn.callNW (m:=28) (args:=[(Q1 t1)]) (r':=.tup [.nilp,(i_ r6)]) (B:=[]) (L':=[]) tv rfl (fun M2 hx0=>have hx:=Q1e hx0;nwF hb5 (Hax _ _ h4 M2 _ )) rfl tv tv hM cw0 rfl rfl rfl rfl ?_;refine Z 12 0 ?_;refine cd h rfl (fun h=>Y) (fun h=>?_);refine Z 5 0 ?_;refine cl Hbu h (cq fun _ h=>?_);refine Z 7 0 ?_;refine ci h rfl (fun h=>?_) (fun h=>Y);refine Z 3 0 ?_;cases h
end Go.Abs
end
section
namespace Go.Abs
open Go
set_option maxRecDepth 10000
set_option maxHeartbeats 4000000
theorem Qq0 {P:Program} {c:Nat} (hcf:Qr P c=some Qlv) (fuel:Nat):Qey P c (Qv fuel):=by
 intro a1 b2 r h;refine Qde hcf rfl fun Γ M hP hnt hM=>?_;subst hP;refine ini ?_;refine Z 13 0 ?_;refine cd h rfl (fun h=>Y) (fun h=>?_);refine Z 7 0 ?_;refine lw h [0,1] [] (fun i4 e=>(5,(i_ i4))::e) (fun _ l=>l) ke wk (fun _ i4 h=>?_);refine Z 8 0 ?_;refine ci h rfl (fun h=>?_) (fun h=>Y);refine Z 15 1 ?_;intro _ _ h;exact cd h rfl (fun h=>Y) (fun h=>Y)
theorem Qpr {P:Program} {c:Nat} {Qv:_}
    (Hcm:Qey P 18 Qv) (hcf:Qr P c=some Qk2) (fuel:Nat):Qfw P c (Qbe Qv fuel):=by
 intro a1 b2 r h;refine Qde hcf rfl fun Γ M hP hnt hM=>?_;subst hP;refine ini ?_;refine Z 13 0 ?_;refine cd h rfl (fun h=>Y) (fun h=>?_);refine Z 7 0 ?_;refine lw h [0,1] [] (fun i4 e=>(5,(i_ i4))::e) (fun _ l=>l) ke wk (fun _ i4 h=>?_);refine Z 8 0 ?_;refine ci h rfl (fun h=>?_) (fun h=>Y);refine Z 13 1 ?_;intro _ _ h;refine cl (Hcm _ _) h (cq fun _ h=>?_);refine Z 2 0 ?_;refine Tr.cond rfl (fun hb13=>?_) (fun hb13=>?_)
 ·have hb13:=nT' hb13;replace h:=bF hb13 h;exact Y
 ·have hb13:=nF' hb13;replace h:=bT hb13 h;exact Y
theorem Qtj {P:Program} {c:Nat} {Qbw:_} {Qv:_} {Qbr:_} {Qdd:_} {Q7:_} {Qec:_} {Qbe:_}
    (Haq:Qhu P 12 Qbw)
    (Hcm:Qey P 18 Qv)
    (Hau:Qhd P 21 Qbr)
    (Has:Qml P 22 Qdd)
    (Han:Qgc P 24 Q7)
    (Hch:Qkq P 37 Qec)
    (Hcf:Qfw P 38 Qbe) (hcf:Qr P c=some Qod):Qj1 P c (Qdf Qbw Qv Qbr Qdd Q7 Qec Qbe):=by
 intro  r h;refine Qbgn hcf rfl rfl rfl fun Γ M hP hnt hG hN hM=>?_;subst hP;refine ini ?_;refine Z 6 0 ?_;refine cl Hch h (cq fun x2 h=>?_);refine Z 6 0 ?_;obtain ⟨⟨r4,r5⟩,h3,h⟩:=bnd h;refine Rn.call (args:=[.agg [(Qj x2.Events),(l_ x2.Plant.zG),(i_ x2.Plant.zM),(l_ x2.Plant.zH),(Qc x2.Plant.zJ),.nils 1,(i_ x2.First.zM),.nils 1,.nils 3,(i_ x2.Class),(l_ x2.zC)]]) tv rfl (fun M2 nb2=>ACalls.weak (args':=[.agg [(Qj x2.Events),(l_ x2.Plant.zG),(i_ x2.Plant.zM),(l_ x2.Plant.zH),(Qc x2.Plant.zJ),(l_ []),(i_ x2.First.zM),(l_ []),.d (.lst 3 (List.map Qh [])),(i_ x2.Class),(l_ x2.zC)]]) (Hau _ _ h3 M2 nb2) (.cons (WkV.agg (cS rfl (cS rfl (cS rfl (cS rfl (cS rfl (.cons (WkV.nilsD _) (cS rfl (.cons (WkV.nilsD _) (.cons (WkV.nilsD _) (cS rfl (cS rfl .nil)))))))))))) .nil) rfl) pc9 ?_;refine Z 10 0 ?_;obtain ⟨⟨r7,r8⟩,h6,h⟩:=bnd h;refine Rn.call (args:=[.agg [(Qj x2.Events),(l_ x2.Plant.zG),(i_ x2.Plant.zM),(l_ x2.Plant.zH),(Qc x2.Plant.zJ),.nils 1,(i_ x2.First.zM),.nils 1,.nils 3,(i_ x2.Class),(l_ x2.zC)]]) tv rfl (fun M2 nb2=>ACalls.weak (args':=[.agg [(Qj x2.Events),(l_ x2.Plant.zG),(i_ x2.Plant.zM),(l_ x2.Plant.zH),(Qc x2.Plant.zJ),(l_ []),(i_ x2.First.zM),(l_ []),.d (.lst 3 (List.map Qh [])),(i_ x2.Class),(l_ x2.zC)]]) (Han _ _ h6 M2 nb2) (.cons (WkV.agg (cS rfl (cS rfl (cS rfl (cS rfl (cS rfl (.cons (WkV.nilsD _) (cS rfl (.cons (WkV.nilsD _) (.cons (WkV.nilsD _) (cS rfl (cS rfl .nil)))))))))))) .nil) rfl) pc9 ?_;refine Z 11 0 ?_;refine Rn.weak (by show WeakSt Γ _ ⟨look [(0,(b_ false)),(1,.ptr (Γ.n0+1) 0),(2,.ptr (Γ.n0+2) 0),(3,(i_ r5)),(4,.ptr (Γ.n0+4) 0),(5,(i_ r8)),(12,.agg [(Qj x2.Events),(l_ x2.Plant.zG),(i_ x2.Plant.zM),(l_ x2.Plant.zH),(Qc x2.Plant.zJ),.nils 1,(i_ x2.First.zM),.nils 1,.nils 3,(i_ x2.Class),(l_ x2.zC)]),(13,.tup [(Qew r4),(i_ r5)]),(14,.agg [(Qj x2.Events),(l_ x2.Plant.zG),(i_ x2.Plant.zM),(l_ x2.Plant.zH),(Qc x2.Plant.zJ),.nils 1,(i_ x2.First.zM),.nils 1,.nils 3,(i_ x2.Class),(l_ x2.zC)]),(15,.tup [(Qew r4),(i_ r5)]),(16,(Qew r4)),(17,(i_ r5)),(18,.tup [(Qbm r7),(i_ r8)]),(19,.agg [(Qj x2.Events),(l_ x2.Plant.zG),(i_ x2.Plant.zM),(l_ x2.Plant.zH),(Qc x2.Plant.zJ),.nils 1,(i_ x2.First.zM),.nils 1,.nils 3,(i_ x2.Class),(l_ x2.zC)]),(20,.tup [(Qbm r7),(i_ r8)]),(21,(Qbm r7)),(22,(i_ r8)),(24,.agg [(Qj x2.Events),(l_ x2.Plant.zG),(i_ x2.Plant.zM),(l_ x2.Plant.zH),(Qc x2.Plant.zJ),.nils 1,(i_ x2.First.zM),.nils 1,.nils 3,(i_ x2.Class),(l_ x2.zC)]),(25,(l_ [0,2]))],Ql Γ.n0 (bxs [(1,.cells ([(Qe4 x2.Events),(l_ x2.Plant.zG),(i_ x2.Plant.zM),(l_ x2.Plant.zH),(Qc x2.Plant.zJ),.nils 1,(i_ x2.First.zM),.nils 1,.nils 3,(i_ x2.Class),(l_ x2.zC)])),(2,.cells ((Qd8 r4))),(4,.cells ((Q0 r7)))]) M,Γ.n0+106⟩;exact Qeo 25 [.int .i64 0,.int .i64 2] rfl rfl ⟨sq,(fPtr rfl),(fPtr rfl),sq,(fPtr rfl),sq,sq,sq,sq,sq,sq,sq,sq,sq,sq,sq,sq,sq,(fSl rfl rfl),tv⟩ ⟨bS rfl rfl rfl,bS rfl rfl rfl,bS rfl rfl rfl,tv⟩ rfl) ?_;obtain ⟨⟨r10,r11,r12⟩,h9,h⟩:=bnd h;refine Rn.call (args:=[.agg [(Qj x2.Events),(l_ x2.Plant.zG),(i_ x2.Plant.zM),(l_ x2.Plant.zH),(Qc x2.Plant.zJ),.nils 1,(i_ x2.First.zM),.nils 1,.nils 3,(i_ x2.Class),(l_ x2.zC)],(l_ [0,2])]) tv rfl (fun M2 nb2=>ACalls.weak (args':=[.agg [(Qj x2.Events),(l_ x2.Plant.zG),(i_ x2.Plant.zM),(l_ x2.Plant.zH),(Qc x2.Plant.zJ),(l_ []),(i_ x2.First.zM),(l_ []),.d (.lst 3 (List.map Qh [])),(i_ x2.Class),(l_ x2.zC)],(l_ [0,2])]) (Haq _ _ _ h9 M2 nb2) (.cons (WkV.agg (cS rfl (cS rfl (cS rfl (cS rfl (cS rfl (.cons (WkV.nilsD _) (cS rfl (.cons (WkV.nilsD _) (.cons (WkV.nilsD _) (cS rfl (cS rfl .nil)))))))))))) (cS rfl .nil)) rfl) pc9 ?_;refine Z 9 0 ?_;obtain ⟨ev14,h15,h⟩:=bnd h;refine Tr.weak (wS [1,2,3,4,5,6,7,8] [1,2,4] (fun e=>e) (fun l=>l) ke wk) ?_;refine sbL (j:=1) (κ:=.i64) (k0:=1) (y:=false) (e:=Qf9) (φ:=(fun (z13:Qq)=>(Qq.mk z13.Name false z13.Observable z13.zD z13.Fault))) hG hN (fun _=>rfl) (fun _=>⟨_,rfl⟩) (fun _=>rfl) h15 rfl rfl rfl rfl (by simp [nbV,nbVs,nbD,nbL,nbLL,Q5h,nbB,eI,eL,Qh,Qf9,Q3,Q9]) (by simp [nbV,nbVs,nbD,nbL,nbLL,Q5h,nbB,eI,eL,Qh,Qf9,Q3,Q9]) ?_;refine Z 3 0 ?_;obtain ⟨⟨r17,r18,r19⟩,h16,h⟩:=bnd h;refine Rn.call (args:=[.agg [(Qj ev14),(l_ x2.Plant.zG),(i_ x2.Plant.zM),(l_ x2.Plant.zH),(Qc x2.Plant.zJ),.nils 1,(i_ x2.First.zM),.nils 1,.nils 3,(i_ x2.Class),(l_ x2.zC)]]) tv rfl (fun M2 nb2=>ACalls.weak (args':=[.agg [(Qj ev14),(l_ x2.Plant.zG),(i_ x2.Plant.zM),(l_ x2.Plant.zH),(Qc x2.Plant.zJ),(l_ []),(i_ x2.First.zM),(l_ []),.d (.lst 3 (List.map Qh [])),(i_ x2.Class),(l_ x2.zC)]]) (Has _ _ h16 M2 nb2) (.cons (WkV.agg (cS rfl (cS rfl (cS rfl (cS rfl (cS rfl (.cons (WkV.nilsD _) (cS rfl (.cons (WkV.nilsD _) (.cons (WkV.nilsD _) (cS rfl (cS rfl .nil)))))))))))) .nil) rfl) pc9 ?_;refine Z 9 0 ?_;refine cw h [] [1,2,4,9] (fun x44 e=>(0,(b_ x44))::e) (fun _ l=>l) ke (fun _ h=>?_) (fun x44 h=>Y);refine Z 4 0 ?_;refine bs h (fun _ h=>?_) (fun _ h=>Y);refine Z 6 0 ?_;refine bs h (fun _ h=>?_) (fun _ h=>Y);refine Z 6 1 ?_;intro x22 h;refine Rn.weak (by show WeakSt Γ _ ⟨look [(1,.ptr (Γ.n0+1) 0),(2,.ptr (Γ.n0+2) 0),(3,(i_ r5)),(4,.ptr (Γ.n0+4) 0),(5,(i_ r8)),(6,(l_ r10)),(7,(b_ r11)),(8,(i_ r12)),(9,.ptr (Γ.n0+9) 0),(10,(b_ r18)),(11,(i_ r19)),(34,.tup [(Qz r17),(b_ r18),(i_ r19)]),(35,.agg [(Qj ev14),(l_ x2.Plant.zG),(i_ x2.Plant.zM),(l_ x2.Plant.zH),(Qc x2.Plant.zJ),.nils 1,(i_ x2.First.zM),.nils 1,.nils 3,(i_ x2.Class),(l_ x2.zC)]),(36,.tup [(Qz r17),(b_ r18),(i_ r19)]),(37,(Qz r17)),(38,(b_ r18)),(39,(i_ r19)),(40,(i_ r5)),(41,(b_ (r5==0))),(42,(b_ (r5==0))),(43,.ptr (Γ.n0+2) 0),(44,(Qbc r4.Switches)),(45,(i_ (r4.Switches.length:Int))),(46,(b_ ((r4.Switches.length:Int)==1))),(47,(b_ ((r4.Switches.length:Int)==1))),(48,(b_ ((r4.Switches.length:Int)==1))),(49,.ptr (Γ.n0+2) 0),(50,(Qbc r4.Switches)),(51,.cref (Q9 x22)),(52,.cref (Q9 x22)),(53,(l_ x22.Observation)),(54,(l_ [0,2]))],Ql Γ.n0 (bxs [(1,.cells ([(Qe4 ev14),(l_ x2.Plant.zG),(i_ x2.Plant.zM),(l_ x2.Plant.zH),(Qc x2.Plant.zJ),.nils 1,(i_ x2.First.zM),.nils 1,.nils 3,(i_ x2.Class),(l_ x2.zC)])),(2,.cells ((Qd8 r4))),(4,.cells ((Q0 r7))),(9,.cells ((Qev r17)))]) M,Γ.n0+106⟩;exact Qeo 54 [.int .i64 0,.int .i64 2] rfl rfl ⟨(fPtr rfl),(fPtr rfl),sq,(fPtr rfl),sq,sq,sq,sq,(fPtr rfl),sq,sq,sq,sq,sq,sq,sq,sq,sq,sq,sq,(fPtr rfl),sq,sq,sq,sq,sq,(fPtr rfl),sq,sq,sq,sq,(fSl rfl rfl),tv⟩ ⟨bS rfl rfl rfl,bS rfl rfl rfl,bS rfl rfl rfl,bS rfl rfl rfl,tv⟩ rfl) ?_;refine cl (Hcm _ _) h (cq fun x25 h=>?_);refine Z 2 0 ?_;refine bs h (fun _ h=>?_) (fun _ h=>Y);refine Z 5 0 ?_;refine Rn.weak (by show WeakSt Γ _ ⟨look [(1,.ptr (Γ.n0+1) 0),(2,.ptr (Γ.n0+2) 0),(3,(i_ r5)),(4,.ptr (Γ.n0+4) 0),(5,(i_ r8)),(6,(l_ r10)),(7,(b_ r11)),(8,(i_ r12)),(9,.ptr (Γ.n0+9) 0),(10,(b_ r18)),(11,(i_ r19)),(34,.tup [(Qz r17),(b_ r18),(i_ r19)]),(35,.agg [(Qj ev14),(l_ x2.Plant.zG),(i_ x2.Plant.zM),(l_ x2.Plant.zH),(Qc x2.Plant.zJ),.nils 1,(i_ x2.First.zM),.nils 1,.nils 3,(i_ x2.Class),(l_ x2.zC)]),(36,.tup [(Qz r17),(b_ r18),(i_ r19)]),(37,(Qz r17)),(38,(b_ r18)),(39,(i_ r19)),(40,(i_ r5)),(41,(b_ (r5==0))),(42,(b_ (r5==0))),(43,.ptr (Γ.n0+2) 0),(44,(Qbc r4.Switches)),(45,(i_ (r4.Switches.length:Int))),(46,(b_ ((r4.Switches.length:Int)==1))),(47,(b_ ((r4.Switches.length:Int)==1))),(48,(b_ ((r4.Switches.length:Int)==1))),(49,.ptr (Γ.n0+2) 0),(50,(Qbc r4.Switches)),(51,.cref (Q9 x22)),(52,.cref (Q9 x22)),(53,(l_ x22.Observation)),(54,(l_ [0,2])),(55,(b_ x25)),(56,(b_ x25)),(57,(b_ x25)),(58,.ptr (Γ.n0+2) 1),(59,.d (.lst 1 (List.map (eL 1 (eI .i64)) r4.Estimates))),(60,(l_ [3])),(61,.sl 1 (Γ.n0+61) 0 1 1),(62,.sl 1 (Γ.n0+62) 0 2 2)],Ql Γ.n0 (bxs [(1,.cells ([(Qe4 ev14),(l_ x2.Plant.zG),(i_ x2.Plant.zM),(l_ x2.Plant.zH),(Qc x2.Plant.zJ),.nils 1,(i_ x2.First.zM),.nils 1,.nils 3,(i_ x2.Class),(l_ x2.zC)])),(2,.cells ((Qd8 r4))),(4,.cells ((Q0 r7))),(9,.cells ((Qev r17))),(61,.cells ([(i_ 4)])),(62,.cells ([(l_ [3]),.sl 1 (Γ.n0+61) 0 1 1]))]) M,Γ.n0+106⟩;exact Qeo 60 [.int .i64 3] rfl rfl ⟨(fPtr rfl),(fPtr rfl),sq,(fPtr rfl),sq,sq,sq,sq,(fPtr rfl),sq,sq,sq,sq,sq,sq,sq,sq,sq,sq,sq,(fPtr rfl),sq,sq,sq,sq,sq,(fPtr rfl),sq,sq,sq,sq,sq,sq,sq,sq,(fPtr rfl),sq,(fSl rfl rfl),(fSlO rfl),(fSlO rfl),tv⟩ ⟨bS rfl rfl rfl,bS rfl rfl rfl,bS rfl rfl rfl,bS rfl rfl rfl,bS rfl rfl rfl,⟨_,rfl,rfl,(.cons (fSl rfl rfl) (.cons (fSlO rfl) .nil))⟩,tv⟩ rfl) ?_;refine Rn.weak (by show WeakSt Γ _ ⟨look [(1,.ptr (Γ.n0+1) 0),(2,.ptr (Γ.n0+2) 0),(3,(i_ r5)),(4,.ptr (Γ.n0+4) 0),(5,(i_ r8)),(6,(l_ r10)),(7,(b_ r11)),(8,(i_ r12)),(9,.ptr (Γ.n0+9) 0),(10,(b_ r18)),(11,(i_ r19)),(34,.tup [(Qz r17),(b_ r18),(i_ r19)]),(35,.agg [(Qj ev14),(l_ x2.Plant.zG),(i_ x2.Plant.zM),(l_ x2.Plant.zH),(Qc x2.Plant.zJ),.nils 1,(i_ x2.First.zM),.nils 1,.nils 3,(i_ x2.Class),(l_ x2.zC)]),(36,.tup [(Qz r17),(b_ r18),(i_ r19)]),(37,(Qz r17)),(38,(b_ r18)),(39,(i_ r19)),(40,(i_ r5)),(41,(b_ (r5==0))),(42,(b_ (r5==0))),(43,.ptr (Γ.n0+2) 0),(44,(Qbc r4.Switches)),(45,(i_ (r4.Switches.length:Int))),(46,(b_ ((r4.Switches.length:Int)==1))),(47,(b_ ((r4.Switches.length:Int)==1))),(48,(b_ ((r4.Switches.length:Int)==1))),(49,.ptr (Γ.n0+2) 0),(50,(Qbc r4.Switches)),(51,.cref (Q9 x22)),(52,.cref (Q9 x22)),(53,(l_ x22.Observation)),(54,(l_ [0,2])),(55,(b_ x25)),(56,(b_ x25)),(57,(b_ x25)),(58,.ptr (Γ.n0+2) 1),(59,.d (.lst 1 (List.map (eL 1 (eI .i64)) r4.Estimates))),(60,(l_ [3])),(61,(l_ [4])),(62,.sl 1 (Γ.n0+62) 0 2 2)],Ql Γ.n0 (bxs [(1,.cells ([(Qe4 ev14),(l_ x2.Plant.zG),(i_ x2.Plant.zM),(l_ x2.Plant.zH),(Qc x2.Plant.zJ),.nils 1,(i_ x2.First.zM),.nils 1,.nils 3,(i_ x2.Class),(l_ x2.zC)])),(2,.cells ((Qd8 r4))),(4,.cells ((Q0 r7))),(9,.cells ((Qev r17))),(62,.cells ([(l_ [3]),(l_ [4])]))]) M,Γ.n0+106⟩;exact Qeo 61 [.int .i64 4] rfl rfl ⟨(fPtr rfl),(fPtr rfl),sq,(fPtr rfl),sq,sq,sq,sq,(fPtr rfl),sq,sq,sq,sq,sq,sq,sq,sq,sq,sq,sq,(fPtr rfl),sq,sq,sq,sq,sq,(fPtr rfl),sq,sq,sq,sq,sq,sq,sq,sq,(fPtr rfl),sq,sq,(fSl rfl rfl),(fSlO rfl),tv⟩ ⟨bS rfl rfl rfl,bS rfl rfl rfl,bS rfl rfl rfl,bS rfl rfl rfl,⟨_,rfl,rfl,(cS rfl (.cons (fSl rfl rfl) .nil))⟩,tv⟩ rfl) ?_;refine Rn.weak (by show WeakSt Γ _ ⟨look [(1,.ptr (Γ.n0+1) 0),(2,.ptr (Γ.n0+2) 0),(3,(i_ r5)),(4,.ptr (Γ.n0+4) 0),(5,(i_ r8)),(6,(l_ r10)),(7,(b_ r11)),(8,(i_ r12)),(9,.ptr (Γ.n0+9) 0),(10,(b_ r18)),(11,(i_ r19)),(34,.tup [(Qz r17),(b_ r18),(i_ r19)]),(35,.agg [(Qj ev14),(l_ x2.Plant.zG),(i_ x2.Plant.zM),(l_ x2.Plant.zH),(Qc x2.Plant.zJ),.nils 1,(i_ x2.First.zM),.nils 1,.nils 3,(i_ x2.Class),(l_ x2.zC)]),(36,.tup [(Qz r17),(b_ r18),(i_ r19)]),(37,(Qz r17)),(38,(b_ r18)),(39,(i_ r19)),(40,(i_ r5)),(41,(b_ (r5==0))),(42,(b_ (r5==0))),(43,.ptr (Γ.n0+2) 0),(44,(Qbc r4.Switches)),(45,(i_ (r4.Switches.length:Int))),(46,(b_ ((r4.Switches.length:Int)==1))),(47,(b_ ((r4.Switches.length:Int)==1))),(48,(b_ ((r4.Switches.length:Int)==1))),(49,.ptr (Γ.n0+2) 0),(50,(Qbc r4.Switches)),(51,.cref (Q9 x22)),(52,.cref (Q9 x22)),(53,(l_ x22.Observation)),(54,(l_ [0,2])),(55,(b_ x25)),(56,(b_ x25)),(57,(b_ x25)),(58,.ptr (Γ.n0+2) 1),(59,.d (.lst 1 (List.map (eL 1 (eI .i64)) r4.Estimates))),(60,(l_ [3])),(61,(l_ [4])),(62,.d (.lst 1 (List.map (eL 1 (eI .i64)) ([[3],[4]]))))],Ql Γ.n0 (bxs [(1,.cells ([(Qe4 ev14),(l_ x2.Plant.zG),(i_ x2.Plant.zM),(l_ x2.Plant.zH),(Qc x2.Plant.zJ),.nils 1,(i_ x2.First.zM),.nils 1,.nils 3,(i_ x2.Class),(l_ x2.zC)])),(2,.cells ((Qd8 r4))),(4,.cells ((Q0 r7))),(9,.cells ((Qev r17)))]) M,Γ.n0+106⟩;exact Qeo 62 [.lst 1 (List.map (eI .i64) [3]),.lst 1 (List.map (eI .i64) [4])] rfl rfl ⟨(fPtr rfl),(fPtr rfl),sq,(fPtr rfl),sq,sq,sq,sq,(fPtr rfl),sq,sq,sq,sq,sq,sq,sq,sq,sq,sq,sq,(fPtr rfl),sq,sq,sq,sq,sq,(fPtr rfl),sq,sq,sq,sq,sq,sq,sq,sq,(fPtr rfl),sq,sq,sq,(fSl rfl rfl),tv⟩ ⟨bS rfl rfl rfl,bS rfl rfl rfl,bS rfl rfl rfl,bS rfl rfl rfl,tv⟩ rfl) ?_;refine cl (Hcf _ _) h (cq fun x28 h=>?_);refine Z 2 0 ?_;refine bs h (fun _ h=>?_) (fun _ h=>Y);refine Z 3 0 ?_;refine Rn.weak (by show WeakSt Γ _ ⟨look [(1,.ptr (Γ.n0+1) 0),(2,.ptr (Γ.n0+2) 0),(3,(i_ r5)),(4,.ptr (Γ.n0+4) 0),(5,(i_ r8)),(6,(l_ r10)),(7,(b_ r11)),(8,(i_ r12)),(9,.ptr (Γ.n0+9) 0),(10,(b_ r18)),(11,(i_ r19)),(34,.tup [(Qz r17),(b_ r18),(i_ r19)]),(35,.agg [(Qj ev14),(l_ x2.Plant.zG),(i_ x2.Plant.zM),(l_ x2.Plant.zH),(Qc x2.Plant.zJ),.nils 1,(i_ x2.First.zM),.nils 1,.nils 3,(i_ x2.Class),(l_ x2.zC)]),(36,.tup [(Qz r17),(b_ r18),(i_ r19)]),(37,(Qz r17)),(38,(b_ r18)),(39,(i_ r19)),(40,(i_ r5)),(41,(b_ (r5==0))),(42,(b_ (r5==0))),(43,.ptr (Γ.n0+2) 0),(44,(Qbc r4.Switches)),(45,(i_ (r4.Switches.length:Int))),(46,(b_ ((r4.Switches.length:Int)==1))),(47,(b_ ((r4.Switches.length:Int)==1))),(48,(b_ ((r4.Switches.length:Int)==1))),(49,.ptr (Γ.n0+2) 0),(50,(Qbc r4.Switches)),(51,.cref (Q9 x22)),(52,.cref (Q9 x22)),(53,(l_ x22.Observation)),(54,(l_ [0,2])),(55,(b_ x25)),(56,(b_ x25)),(57,(b_ x25)),(58,.ptr (Γ.n0+2) 1),(59,.d (.lst 1 (List.map (eL 1 (eI .i64)) r4.Estimates))),(60,(l_ [3])),(61,(l_ [4])),(62,.d (.lst 1 (List.map (eL 1 (eI .i64)) ([[3],[4]])))),(63,(b_ x28)),(64,(b_ x28)),(65,(b_ x28)),(66,.ptr (Γ.n0+2) 2),(67,(l_ r4.Kept)),(68,(l_ [0]))],Ql Γ.n0 (bxs [(1,.cells ([(Qe4 ev14),(l_ x2.Plant.zG),(i_ x2.Plant.zM),(l_ x2.Plant.zH),(Qc x2.Plant.zJ),.nils 1,(i_ x2.First.zM),.nils 1,.nils 3,(i_ x2.Class),(l_ x2.zC)])),(2,.cells ((Qd8 r4))),(4,.cells ((Q0 r7))),(9,.cells ((Qev r17)))]) M,Γ.n0+106⟩;exact Qeo 68 [.int .i64 0] rfl rfl ⟨(fPtr rfl),(fPtr rfl),sq,(fPtr rfl),sq,sq,sq,sq,(fPtr rfl),sq,sq,sq,sq,sq,sq,sq,sq,sq,sq,sq,(fPtr rfl),sq,sq,sq,sq,sq,(fPtr rfl),sq,sq,sq,sq,sq,sq,sq,sq,(fPtr rfl),sq,sq,sq,sq,sq,sq,sq,(fPtr rfl),sq,(fSl rfl rfl),tv⟩ ⟨bS rfl rfl rfl,bS rfl rfl rfl,bS rfl rfl rfl,bS rfl rfl rfl,tv⟩ rfl) ?_;refine cl (Hcm _ _) h (cq fun x31 h=>?_);refine Z 2 0 ?_;refine bs h (fun _ h=>?_) (fun _ h=>Y);refine Z 4 0 ?_;refine bs h (fun _ h=>?_) (fun _ h=>Y);refine Z 5 0 ?_;refine bs h (fun _ h=>?_) (fun _ h=>Y);refine Z 4 0 ?_;refine bs h (fun _ h=>?_) (fun _ h=>Y);refine Z 3 0 ?_;refine bs h (fun _ h=>?_) (fun _ h=>Y);refine Z 2 0 ?_;refine Rn.weak (by show WeakSt Γ _ ⟨look [(1,.ptr (Γ.n0+1) 0),(2,.ptr (Γ.n0+2) 0),(3,(i_ r5)),(4,.ptr (Γ.n0+4) 0),(5,(i_ r8)),(6,(l_ r10)),(7,(b_ r11)),(8,(i_ r12)),(9,.ptr (Γ.n0+9) 0),(10,(b_ r18)),(11,(i_ r19)),(34,.tup [(Qz r17),(b_ r18),(i_ r19)]),(35,.agg [(Qj ev14),(l_ x2.Plant.zG),(i_ x2.Plant.zM),(l_ x2.Plant.zH),(Qc x2.Plant.zJ),.nils 1,(i_ x2.First.zM),.nils 1,.nils 3,(i_ x2.Class),(l_ x2.zC)]),(36,.tup [(Qz r17),(b_ r18),(i_ r19)]),(37,(Qz r17)),(38,(b_ r18)),(39,(i_ r19)),(40,(i_ r5)),(41,(b_ (r5==0))),(42,(b_ (r5==0))),(43,.ptr (Γ.n0+2) 0),(44,(Qbc r4.Switches)),(45,(i_ (r4.Switches.length:Int))),(46,(b_ ((r4.Switches.length:Int)==1))),(47,(b_ ((r4.Switches.length:Int)==1))),(48,(b_ ((r4.Switches.length:Int)==1))),(49,.ptr (Γ.n0+2) 0),(50,(Qbc r4.Switches)),(51,.cref (Q9 x22)),(52,.cref (Q9 x22)),(53,(l_ x22.Observation)),(54,(l_ [0,2])),(55,(b_ x25)),(56,(b_ x25)),(57,(b_ x25)),(58,.ptr (Γ.n0+2) 1),(59,.d (.lst 1 (List.map (eL 1 (eI .i64)) r4.Estimates))),(60,(l_ [3])),(61,(l_ [4])),(62,.d (.lst 1 (List.map (eL 1 (eI .i64)) ([[3],[4]])))),(63,(b_ x28)),(64,(b_ x28)),(65,(b_ x28)),(66,.ptr (Γ.n0+2) 2),(67,(l_ r4.Kept)),(68,(l_ [0])),(69,(b_ x31)),(70,(b_ x31)),(71,(b_ x31)),(72,(i_ r8)),(73,(b_ (r8==0))),(74,(b_ (r8==0))),(75,(b_ (r8==0))),(76,.ptr (Γ.n0+4) 1),(77,(i_ r7.zM)),(78,(b_ (r7.zM==3))),(79,(b_ (r7.zM==3))),(80,(b_ (r7.zM==3))),(81,(i_ r12)),(82,(b_ (r12==0))),(83,(b_ (r12==0))),(84,(b_ (r12==0))),(85,(b_ r11)),(86,(b_ r11)),(87,(b_ r11)),(88,(l_ r10)),(89,(l_ [0]))],Ql Γ.n0 (bxs [(1,.cells ([(Qe4 ev14),(l_ x2.Plant.zG),(i_ x2.Plant.zM),(l_ x2.Plant.zH),(Qc x2.Plant.zJ),.nils 1,(i_ x2.First.zM),.nils 1,.nils 3,(i_ x2.Class),(l_ x2.zC)])),(2,.cells ((Qd8 r4))),(4,.cells ((Q0 r7))),(9,.cells ((Qev r17)))]) M,Γ.n0+106⟩;exact Qeo 89 [.int .i64 0] rfl rfl ⟨(fPtr rfl),(fPtr rfl),sq,(fPtr rfl),sq,sq,sq,sq,(fPtr rfl),sq,sq,sq,sq,sq,sq,sq,sq,sq,sq,sq,(fPtr rfl),sq,sq,sq,sq,sq,(fPtr rfl),sq,sq,sq,sq,sq,sq,sq,sq,(fPtr rfl),sq,sq,sq,sq,sq,sq,sq,(fPtr rfl),sq,sq,sq,sq,sq,sq,sq,sq,sq,(fPtr rfl),sq,sq,sq,sq,sq,sq,sq,sq,sq,sq,sq,sq,(fSl rfl rfl),tv⟩ ⟨bS rfl rfl rfl,bS rfl rfl rfl,bS rfl rfl rfl,bS rfl rfl rfl,tv⟩ rfl) ?_;refine cl (Hcm _ _) h (cq fun x38 h=>?_);refine Z 2 0 ?_;refine bs h (fun _ h=>?_) (fun _ h=>Y);refine Z 4 0 ?_;refine bs h (fun _ h=>?_) (fun _ h=>Y);refine Z 4 0 ?_;refine bs h (fun _ h=>Y) (fun _ h=>?_);refine Z 3 0 ?_;refine Rn.weak (by show WeakSt Γ _ ⟨look [(1,.ptr (Γ.n0+1) 0),(2,.ptr (Γ.n0+2) 0),(3,(i_ r5)),(4,.ptr (Γ.n0+4) 0),(5,(i_ r8)),(6,(l_ r10)),(7,(b_ r11)),(8,(i_ r12)),(9,.ptr (Γ.n0+9) 0),(10,(b_ r18)),(11,(i_ r19)),(34,.tup [(Qz r17),(b_ r18),(i_ r19)]),(35,.agg [(Qj ev14),(l_ x2.Plant.zG),(i_ x2.Plant.zM),(l_ x2.Plant.zH),(Qc x2.Plant.zJ),.nils 1,(i_ x2.First.zM),.nils 1,.nils 3,(i_ x2.Class),(l_ x2.zC)]),(36,.tup [(Qz r17),(b_ r18),(i_ r19)]),(37,(Qz r17)),(38,(b_ r18)),(39,(i_ r19)),(40,(i_ r5)),(41,(b_ (r5==0))),(42,(b_ (r5==0))),(43,.ptr (Γ.n0+2) 0),(44,(Qbc r4.Switches)),(45,(i_ (r4.Switches.length:Int))),(46,(b_ ((r4.Switches.length:Int)==1))),(47,(b_ ((r4.Switches.length:Int)==1))),(48,(b_ ((r4.Switches.length:Int)==1))),(49,.ptr (Γ.n0+2) 0),(50,(Qbc r4.Switches)),(51,.cref (Q9 x22)),(52,.cref (Q9 x22)),(53,(l_ x22.Observation)),(54,(l_ [0,2])),(55,(b_ x25)),(56,(b_ x25)),(57,(b_ x25)),(58,.ptr (Γ.n0+2) 1),(59,.d (.lst 1 (List.map (eL 1 (eI .i64)) r4.Estimates))),(60,(l_ [3])),(61,(l_ [4])),(62,.d (.lst 1 (List.map (eL 1 (eI .i64)) ([[3],[4]])))),(63,(b_ x28)),(64,(b_ x28)),(65,(b_ x28)),(66,.ptr (Γ.n0+2) 2),(67,(l_ r4.Kept)),(68,(l_ [0])),(69,(b_ x31)),(70,(b_ x31)),(71,(b_ x31)),(72,(i_ r8)),(73,(b_ (r8==0))),(74,(b_ (r8==0))),(75,(b_ (r8==0))),(76,.ptr (Γ.n0+4) 1),(77,(i_ r7.zM)),(78,(b_ (r7.zM==3))),(79,(b_ (r7.zM==3))),(80,(b_ (r7.zM==3))),(81,(i_ r12)),(82,(b_ (r12==0))),(83,(b_ (r12==0))),(84,(b_ (r12==0))),(85,(b_ r11)),(86,(b_ r11)),(87,(b_ r11)),(88,(l_ r10)),(89,(l_ [0])),(90,(b_ x38)),(91,(b_ x38)),(92,(b_ x38)),(93,(i_ r19)),(94,(b_ (r19==0))),(95,(b_ (r19==0))),(96,(b_ (r19==0))),(97,(b_ r18)),(98,(b_ (!r18))),(99,(b_ (!r18))),(100,(b_ (!r18))),(101,.ptr (Γ.n0+9) 0),(102,(l_ r17.Observation)),(103,(l_ [0,2]))],Ql Γ.n0 (bxs [(1,.cells ([(Qe4 ev14),(l_ x2.Plant.zG),(i_ x2.Plant.zM),(l_ x2.Plant.zH),(Qc x2.Plant.zJ),.nils 1,(i_ x2.First.zM),.nils 1,.nils 3,(i_ x2.Class),(l_ x2.zC)])),(2,.cells ((Qd8 r4))),(4,.cells ((Q0 r7))),(9,.cells ((Qev r17)))]) M,Γ.n0+106⟩;exact Qeo 103 [.int .i64 0,.int .i64 2] rfl rfl ⟨(fPtr rfl),(fPtr rfl),sq,(fPtr rfl),sq,sq,sq,sq,(fPtr rfl),sq,sq,sq,sq,sq,sq,sq,sq,sq,sq,sq,(fPtr rfl),sq,sq,sq,sq,sq,(fPtr rfl),sq,sq,sq,sq,sq,sq,sq,sq,(fPtr rfl),sq,sq,sq,sq,sq,sq,sq,(fPtr rfl),sq,sq,sq,sq,sq,sq,sq,sq,sq,(fPtr rfl),sq,sq,sq,sq,sq,sq,sq,sq,sq,sq,sq,sq,sq,sq,sq,sq,sq,sq,sq,sq,sq,sq,sq,sq,(fPtr rfl),sq,(fSl rfl rfl),tv⟩ ⟨bS rfl rfl rfl,bS rfl rfl rfl,bS rfl rfl rfl,bS rfl rfl rfl,tv⟩ rfl) ?_;refine cl (Hcm _ _) h (cq fun _ h=>?_);exact Y
theorem Quo {P:Program} {c:Nat} (hcf:Qr P c=some Qpc) (fuel:Nat):Qhv P c (Qbq fuel):=by
 intro l1 mv2 r h;refine Qde hcf rfl fun Γ M hP hnt hM=>?_;subst hP;refine ini ?_;refine Z 10 0 ?_;refine lw h [0,1] [] (fun i3 e=>(5,(i_ i3))::e) (fun _ l=>l) ke wk (fun _ i3 h=>?_);refine Z 8 0 ?_;refine ci h rfl (fun h=>?_) (fun h=>Y);refine Z 4 0 ?_;refine cw h [0,1,5] [] (fun x11 e=>(24,(b_ x11))::e) (fun _ l=>l) ke (fun _ h=>?_) (fun x11 h=>?_)
 ·refine Z 7 1 ?_;intro _ h;exact bi h (fun _ h=>Y) (fun _ h=>Y)
 ·refine cd h rfl (fun h=>Y) (fun h=>?_);refine Tr.skip ?_;refine cw h [0,1,5] [] (fun x18 e=>(38,(b_ x18))::e) (fun _ l=>l) ke (fun _ h=>?_) (fun x18 h=>?_)
  ·refine Z 4 0 ?_;exact bi h (fun _ h=>Y) (fun _ h=>Y)
  ·exact cd h rfl (fun h=>Y) (fun h=>Y)
theorem Qvn {P:Program} {c:Nat} (hcf:Qr P c=some Qqs) (fuel:Nat):Qlj P c (Qd2 fuel):=by
 intro l1 n2 r h;refine Qde hcf rfl fun Γ M hP hnt hM=>?_;subst hP;refine ini ?_;refine Z 10 0 ?_;refine lw h [0,1] [] (fun i3 e=>(5,(i_ i3))::e) (fun _ l=>l) ke wk (fun _ i3 h=>?_);refine Z 8 0 ?_;refine ci h rfl (fun h=>?_) (fun h=>Y);refine Z 12 1 ?_;intro _ h;exact cd h rfl (fun h=>Y) (fun h=>Y)
theorem Qtk {P:Program} {c:Nat} {Qbq:_} {Qd2:_}
    (Hcl:Qhv P 34 Qbq)
    (Hcn:Qlj P 74 Qd2) (hcf:Qr P c=some Qoe) (fuel:Nat):Qj2 P c (Qdg Qbq Qd2 fuel):=by
 intro a1 r h;refine Qde hcf rfl fun Γ M hP hnt hM=>?_;subst hP;refine ini ?_;refine Z 10 0 ?_;refine cl (Hcl _ _) h (cq fun _ h=>?_);refine Z 7 0 ?_;refine cd h rfl (fun h=>Y) (fun h=>?_);refine Z 8 0 ?_;refine ci h rfl (fun h=>Y) (fun h=>?_);refine Z 8 0 ?_;refine ci h rfl (fun h=>Y) (fun h=>?_);refine Z 8 0 ?_;refine cl (Hcl _ _) h (cq fun _ h=>?_);refine Z 7 0 ?_;refine cd h rfl (fun h=>Y) (fun h=>?_);refine Z 7 0 ?_;refine lw h [1] [1] (fun i10 e=>(5,(i_ i10))::e) (fun _ l=>l) ke wk (fun _ i10 h=>?_);refine Z 9 0 ?_;refine ci h rfl (fun h=>?_) (fun h=>Y);refine Z 14 1 ?_;intro _ h;refine cw h [1,5,6] [1,6] (fun x18 e=>(60,(b_ x18))::e) (fun _ l=>l) ke (fun _ h=>?_) (fun x18 h=>?_)
 ·refine Z 5 0 ?_;refine bi h (fun _ h=>Y) (fun _ h=>?_);refine Z 7 0 ?_;refine bi h (fun _ h=>Y) (fun _ h=>?_);refine Z 5 0 ?_;exact bi h (fun _ h=>Y) (fun _ h=>Y)
 ·refine cd h rfl (fun h=>Y) (fun h=>?_);refine Z 8 0 ?_;refine cl (Hcn _ _) h (cq fun _ h=>?_);refine Z 2 0 ?_;refine Tr.cond rfl (fun hb22=>?_) (fun hb22=>?_)
  ·have hb22:=nT' hb22;replace h:=bF hb22 h;exact Y
  ·have hb22:=nF' hb22;replace h:=bT hb22 h;refine Tr.skip ?_;refine cw h [1,5] [1,6] (fun x32 e=>(104,(b_ x32))::e) (fun _ l=>l) ke (fun _ h=>?_) (fun x32 h=>?_)
   ·refine Z 4 0 ?_;refine bi h (fun _ h=>?_) (fun _ h=>Y);refine Z 11 1 ?_;intro _ h;refine bi h (fun _ h=>Y) (fun _ h=>?_);refine Z 11 1 ?_;intro _ h;exact bs h (fun _ h=>Y) (fun _ h=>Y)
   ·exact cd h rfl (fun h=>Y) (fun h=>Y)
theorem Qo3 {P:Program} {c:Nat} (hcf:Qr P c=some Qki) (fuel:Nat):Qg8 P c (Qcd fuel):=by
 intro t1 r h;refine Qde hcf rfl fun Γ M hP hnt hM=>?_;subst hP;refine ini ?_;refine Z 9 0 ?_;refine cw h [] [1] (fun ov16 e=>(3,(o_ ov16))::e) (fun _ l=>l) ke (fun _ h=>?_) (fun ov16 h=>Y);refine Z 5 0 ?_;refine lw h [1] [1] (fun (ov2,i3) e=>(3,(o_ ov2))::(4,(i_ i3))::e) (fun _ l=>l) ke wk (fun _ ⟨ov2,i3⟩ h=>?_);refine Z 10 0 ?_;refine ci h rfl (fun h=>?_) (fun h=>Y);refine Tr.skip ?_;refine cw h [1,4] [1] (fun ov15 e=>(3,(o_ ov15))::e) (fun _ l=>l) ke (fun _ h=>?_) (fun ov15 h=>Y);refine Z 15 1 ?_;intro _ _ h;exact cd h rfl (fun h=>Y) (fun h=>Y)
theorem Qvo {P:Program} {c:Nat} (hcf:Qr P c=some Qqt) (fuel:Nat):Qlk P c (Qet fuel):=by
 intro l1 n2 r h;refine Qde hcf rfl fun Γ M hP hnt hM=>?_;subst hP;refine ini ?_;refine Z 10 0 ?_;refine lw h [0,1] [] (fun i3 e=>(5,(i_ i3))::e) (fun _ l=>l) ke wk (fun _ i3 h=>?_);refine Z 8 0 ?_;refine ci h rfl (fun h=>?_) (fun h=>Y);refine Z 12 1 ?_;intro _ h;exact cd h rfl (fun h=>Y) (fun h=>Y)
theorem Qvp {P:Program} {c:Nat} {Q5:_}
    (Hax:Qgn P 62 Q5) (hcf:Qr P c=some Qqu):Qll P c (Qd3 Q5):=by
 intro t1 r h;refine Qde hcf rfl fun Γ M hP hnt hM=>?_;subst hP;refine ini ?_;refine Z 9 0 ?_;obtain ⟨⟨r2,ok3,r6⟩,h4,h⟩:=bnd h;refine bs h (fun hb5 h=>?_) (fun hb5 h=>?_)
 ·refine Rn.callNW (m:=18) (args:=[(Q1 t1)]) (r':=.tup [.ptr (Γ.n0+69) 0,(i_ r6)]) (B:=[]) (L':=[(69,.cells (Qs r2 (Γ.n0+66) (Γ.n0+67))),(66,.mp (mapE (fun (x:ByteArray)=>(.d (.str x):V)) (fun (x:Int)=>((i_ x):V)) 0 r2.number_) (r2.number_).length),(67,.mp (mapE (fun (x:Qb)=>(.agg (Qn x):V)) (fun (x:Int)=>((i_ x):V)) 0 r2.next_) (r2.next_).length)]) tv rfl (fun M2 hx0=>have hx:=Q1e hx0;nwT hb5 (Hax _ _ h4 M2 _ )) rfl tv tv hM cw0 rfl rfl rfl rfl ?_;refine Z 12 0 ?_;exact cd h rfl (fun h=>Y) (fun h=>Y)
 ·refine Rn.callNW (m:=18) (args:=[(Q1 t1)]) (r':=.tup [.nilp,(i_ r6)]) (B:=[]) (L':=[]) tv rfl (fun M2 hx0=>have hx:=Q1e hx0;nwF hb5 (Hax _ _ h4 M2 _ )) rfl tv tv hM cw0 rfl rfl rfl rfl ?_;refine Z 12 0 ?_;refine cd h rfl (fun h=>Y) (fun h=>?_);refine Z 4 0 ?_;cases h
theorem Qzt {P:Program} {c:Nat} {Q7:_}
    (Han:Qgc P 24 Q7) (hcf:Qr P c=some Qwt):Qqv P c (Qfz Q7):=by
 intro t1 r h;refine Qde hcf rfl fun Γ M hP hnt hM=>?_;subst hP;refine ini ?_;refine Z 9 0 ?_;refine cl (Han _) h (cq fun ⟨_,_⟩ h=>?_);refine Z 13 0 ?_;refine cd h rfl (fun h=>Y) (fun h=>?_);refine Z 2 0 ?_;cases h
theorem Qup {P:Program} {c:Nat} {Qv:_} {Qbe:_}
    (Hcm:Qey P 18 Qv)
    (Hcf:Qfw P 38 Qbe) (hcf:Qr P c=some Qpd) (fuel:Nat):Qku P c (Qef Qv Qbe fuel):=by
 intro a1 b2 r h;refine Qde hcf rfl fun Γ M hP hnt hM=>?_;subst hP;refine ini ?_;refine Z 7 0 ?_;refine cw h [2,3] [2,3] (fun x11 e=>(45,(b_ x11))::e) (fun _ l=>l) ke (fun _ h=>?_) (fun x11 h=>?_)
 ·refine Z 9 0 ?_;refine bs h (fun _ h=>Y) (fun _ h=>?_);refine Z 4 0 ?_;refine cl (Hcf _ _) h (cq fun _ h=>?_);refine Z 3 0 ?_;refine bs h (fun _ h=>?_) (fun _ h=>Y);refine Z 4 0 ?_;refine cl (Hcm _ _) h (cq fun _ h=>?_);refine Z 3 0 ?_;refine bs h (fun _ h=>?_) (fun _ h=>Y);refine Z 9 0 ?_;exact bs h (fun _ h=>Y) (fun _ h=>Y)
 ·refine cd h rfl (fun h=>Y) (fun h=>?_);refine Z 7 0 ?_;refine lw h [2,3] [2,3] (fun i13 e=>(5,(i_ i13))::e) (fun _ l=>l) ke wk (fun _ i13 h=>?_);refine Z 9 0 ?_;refine ci h rfl (fun h=>?_) (fun h=>?_)
  ·refine Z 3 0 ?_;refine cw h [2,3,5] [2,3] (fun x29 e=>(82,(b_ x29))::e) (fun _ l=>l) ke (fun _ h=>?_) (fun x29 h=>?_)
   ·refine Z 13 1 ?_;intro _ _ h;refine cl (Hcm _ _) h (cq fun _ h=>?_);refine Z 2 0 ?_;refine bs h (fun _ h=>?_) (fun _ h=>Y);refine Z 12 1 ?_;intro _ _ h;refine cl (Hcm _ _) h (cq fun _ h=>?_);exact Y
   ·exact cd h rfl (fun h=>Y) (fun h=>Y)
  ·refine Z 7 0 ?_;refine lw h [2,3] [2,3] (fun i31 e=>(6,(i_ i31))::e) (fun _ l=>l) ke wk (fun _ i31 h=>?_);refine Z 9 0 ?_;refine ci h rfl (fun h=>?_) (fun h=>Y);refine Z 15 1 ?_;intro x34 x36 h;refine Rn.eqa (r:=((x34.State==x36.State)&&((x34.Rank==x36.Rank)&&((x34.Reason==x36.Reason)&&((x34.Event==x36.Event)&&true))))) tv rfl rfl rfl ?_;refine Z 1 0 ?_;refine Tr.cond rfl (fun hb38=>?_) (fun hb38=>?_)
   ·have hb38:=nT' hb38;replace h:=bF hb38 h;exact Y
   ·have hb38:=nF' hb38;replace h:=bT hb38 h;exact Y
theorem Qmn {P:Program} {c:Nat} {Qdf:_} {Qbw:_} {Qet:_} {Qd3:_} {Qbr:_} {Qdd:_} {Qef:_} {Q7:_} {Qcd:_} {Qbl:_} {Qdg:_} {Qbq:_} {Qcx:_} {Qfz:_}
    (Hcg:Qj1 P 8 Qdf)
    (Haq:Qhu P 12 Qbw)
    (Hce:Qlk P 14 Qet)
    (Hat:Qll P 20 Qd3)
    (Hau:Qhd P 21 Qbr)
    (Has:Qml P 22 Qdd)
    (Hcj:Qku P 23 Qef)
    (Han:Qgc P 24 Q7)
    (Hci:Qg8 P 25 Qcd)
    (Hbw:Qh7 P 32 Qbl)
    (Hck:Qj2 P 33 Qdg)
    (Hcl:Qhv P 34 Qbq)
    (Hao:Qld P 35 Qcx)
    (Hap:Qqv P 36 Qfz) (hcf:Qr P c=some Qik) (fuel:Nat):Qij P c (Qf0 Qdf Qbw Qet Qd3 Qbr Qdd Qef Q7 Qcd Qbl Qdg Qbq Qcx Qfz fuel):=by
 intro t1 r h;refine Qde hcf rfl fun Γ M hP hnt hM=>?_;subst hP;refine ini ?_;refine Z 6 0 ?_;refine cw h [1] [1] (fun x6 e=>(36,(b_ x6))::e) (fun _ l=>l) ke (fun _ h=>?_) (fun x6 h=>?_)
 ·refine Tr.rgn ?_;refine cl Hcg h (cq fun _ h=>?_);refine Z 2 0 ?_;refine bs h (fun _ h=>?_) (fun _ h=>Y);refine Z 6 0 ?_;exact bi h (fun _ h=>Y) (fun _ h=>Y)
 ·refine cd h rfl (fun h=>?_) (fun h=>?_)
  ·refine Z 2 0 ?_;refine cl Hcg h (cq fun _ h=>?_);exact Y
  ·refine Z 7 0 ?_;refine lw h [1] [1] (fun i10 e=>(3,(i_ i10))::e) (fun _ l=>l) ke wk (fun _ i10 h=>?_);refine Z 9 0 ?_;refine ci h rfl (fun h=>?_) (fun h=>?_)
   ·refine Z 14 1 ?_;intro _ h;exact ci h rfl (fun h=>Y) (fun h=>Y)
   ·refine Z 16 0 ?_;refine Tr.weak (by show WeakSt Γ _ ⟨look [(1,.ptr (Γ.n0+1) 0),(3,(i_ i10)),(4,.d (.lst 4 (List.map Ql9 [t1.Plant,t1.First]))),(5,(i_ 0)),(38,(i_ i10)),(39,.ptr (Γ.n0+1) 0),(40,(Qj t1.Events)),(41,(i_ (t1.Events.length:Int))),(42,(b_ (decide (i10<(t1.Events.length:Int))))),(53,.ptr (Γ.n0+1) 1),(54,(Qbm t1.Plant)),(55,.ptr (Γ.n0+1) 5),(56,(Qbm t1.First)),(57,.d (.lst 4 (List.map Ql9 [t1.Plant,t1.First])))],Ql Γ.n0 (bxs [(1,.cells ((Qe5 t1)))]) M,Γ.n0+245⟩;exact Qeo 57 [.lst 1 (List.map (eI .i64) t1.Plant.zG),.int .i64 t1.Plant.zM,.lst 1 (List.map (eI .i64) t1.Plant.zH),.lst 3 (List.map Qh t1.Plant.zJ),.lst 1 (List.map (eI .i64) t1.First.zG),.int .i64 t1.First.zM,.lst 1 (List.map (eI .i64) t1.First.zH),.lst 3 (List.map Qh t1.First.zJ)] rfl rfl ⟨(fPtr rfl),sq,(fSl rfl rfl),sq,sq,(fPtr rfl),sq,sq,sq,(fPtr rfl),sq,(fPtr rfl),sq,(fSl rfl rfl),tv⟩ ⟨bS rfl rfl rfl,tv⟩ rfl) ?_;refine lw h [1,4] [1] (fun i16 e=>(5,(i_ i16))::e) (fun _ l=>l) ke wk (fun _ i16 h=>?_);refine Z 6 0 ?_;refine ci h rfl (fun h=>?_) (fun h=>?_)
    ·refine Z 3 0 ?_;refine cw h [1,4,5] [1] (fun x27 e=>(86,(b_ x27))::e) (fun _ l=>l) ke (fun _ h=>?_) (fun x27 h=>?_)
     ·refine Z 9 1 ?_;intro _ h;refine bi h (fun _ h=>Y) (fun _ h=>?_);refine Z 9 1 ?_;intro _ h;exact bi h (fun _ h=>Y) (fun _ h=>Y)
     ·exact cd h rfl (fun h=>Y) (fun h=>Y)
    ·refine Z 7 0 ?_;refine cl (Hbw _ _) h (cq fun _ h=>?_);refine Z 2 0 ?_;refine cw h [1] [1] (fun wv34 e=>(6,(i_ wv34))::e) (fun _ l=>l) ke (fun _ h=>?_) (fun wv34 h=>?_)
     ·refine Z 5 0 ?_;refine cd h rfl (fun h=>?_) (fun h=>Y);refine Z 3 0 ?_;refine cl (Hck _) h (cq fun _ h=>?_);exact Y
     ·refine cw h [1] [1] (fun wv48 e=>(6,(i_ wv48))::e) (fun _ l=>l) ke (fun _ h=>?_) (fun wv48 h=>?_)
      ·refine Z 5 0 ?_;refine cd h rfl (fun h=>?_) (fun h=>Y);refine Z 3 0 ?_;refine cl (Hci _) h (cq fun _ h=>?_);refine Z 7 0 ?_;refine lw h [1,7] [1] (fun (wv38,i39) e=>(6,(i_ wv38))::(8,(i_ i39))::e) (fun _ l=>l) ke wk (fun _ ⟨wv38,i39⟩ h=>?_);refine Z 10 0 ?_;refine ci h rfl (fun h=>?_) (fun h=>Y);refine Tr.skip ?_;refine cw h [1,7,8] [1] (fun wv47 e=>(6,(i_ wv47))::e) (fun _ l=>l) ke (fun _ h=>?_) (fun wv47 h=>Y);refine Z 10 1 ?_;intro _ h;refine cl (Hce _ _) h (cq fun _ h=>?_);refine Z 2 0 ?_;refine Tr.cond rfl (fun hb46=>?_) (fun hb46=>?_)
       ·have hb46:=nT' hb46;replace h:=bF hb46 h;exact Y
       ·have hb46:=nF' hb46;replace h:=bT hb46 h;exact Y
      ·refine cw h [1] [1] (fun wv53 e=>(6,(i_ wv53))::e) (fun _ l=>l) ke (fun _ h=>?_) (fun wv53 h=>?_)
       ·refine cw h [1,6] [1] (fun x51 e=>(129,(b_ x51))::e) (fun _ l=>l) ke (fun _ h=>?_) (fun x51 h=>?_)
        ·refine Z 4 0 ?_;refine bs h (fun _ h=>?_) (fun _ h=>Y);refine Z 4 0 ?_;exact bi h (fun _ h=>Y) (fun _ h=>Y)
        ·exact cd h rfl (fun h=>Y) (fun h=>Y)
       ·refine cw h [1] [1] (fun wv57 e=>(6,(i_ wv57))::e) (fun _ l=>l) ke (fun _ h=>?_) (fun wv57 h=>?_)
        ·refine Z 5 0 ?_;refine cd h rfl (fun h=>?_) (fun h=>Y);refine Z 6 0 ?_;refine cl (Hcl _ _) h (cq fun _ h=>?_);exact Y
        ·refine Z 4 0 ?_;refine cl (Hao _) h (cq fun _ h=>?_);refine Z 3 0 ?_;refine cd h rfl (fun h=>Y) (fun h=>?_);refine Z 7 0 ?_;refine cd h rfl (fun h=>Y) (fun h=>?_);refine Z 4 0 ?_;refine cl (Hat _) h (cq fun ⟨_,_⟩ h=>?_);refine Z 9 0 ?_;refine cl (Hau _) h (cq fun ⟨r66,_⟩ h=>?_);refine Z 10 0 ?_;refine cl (Has _) h (cq fun ⟨_,_,_⟩ h=>?_);refine Z 12 0 ?_;refine cl (Han _) h (cq fun ⟨_,_⟩ h=>?_);refine Z 10 0 ?_;refine cl (Hap _) h (cq fun ⟨_,_⟩ h=>?_);refine Z 10 0 ?_;obtain ⟨⟨r79,r80,r81⟩,h78,h⟩:=bnd h;refine Rn.call (args:=[(Q1 t1),.nils 1]) tv rfl (fun M2 nb2=>ACalls.weak (args':=[(Q1 t1),(l_ [])]) (Haq _ _ _ h78 M2 nb2) (cS rfl (.cons (WkV.nilsD _) .nil)) rfl) pc9 ?_;refine Z 8 0 ?_;refine cw h [] [1,11,13,16,18] (fun x96 e=>(2,(b_ x96))::e) (fun _ l=>l) ke (fun _ h=>?_) (fun x96 h=>Y);refine Z 5 0 ?_;refine bs h (fun _ h=>?_) (fun _ h=>Y);refine Z 5 0 ?_;refine bs h (fun hb83 h=>?_) (fun hb83 h=>Y);refine Z 2 0 ?_;obtain ⟨x85,h84,h⟩:=bnd h;refine Rn.call (args:=[(Qew r66),.agg [.nils 2,.nils 1,.nils 1,.nils 4,(i_ 0)]]) (gw rfl hb83) rfl (fun M2 nb2=>ACalls.weak (args':=[(Qew r66),.agg [.d (.lst 2 (List.map Q9 [])),.d (.lst 1 (List.map (eL 1 (eI .i64)) [])),(l_ []),.d (.lst 4 (List.map Q3 [])),(i_ 0)]]) (Hcj _ _ _ h84 M2 nb2) (cS rfl (.cons (WkV.agg (.cons (WkV.nilsD _) (.cons (WkV.nilsD _) (.cons (WkV.nilsD _) (.cons (WkV.nilsD _) (cS rfl .nil)))))) .nil)) rfl) pc9 ?_;refine Z 2 0 ?_;refine bs h (fun _ h=>?_) (fun _ h=>Y);refine Z 5 0 ?_;refine bs h (fun _ h=>?_) (fun _ h=>Y);refine Z 10 0 ?_;refine bs h (fun _ h=>?_) (fun _ h=>Y);refine Z 4 0 ?_;refine bs h (fun _ h=>Y) (fun _ h=>?_);refine Z 5 0 ?_;refine bs h (fun _ h=>?_) (fun _ h=>Y);refine Z 8 0 ?_;refine bs h (fun _ h=>?_) (fun _ h=>Y);refine Z 5 0 ?_;refine bs h (fun _ h=>?_) (fun _ h=>Y);refine Z 5 0 ?_;refine bs h (fun _ h=>?_) (fun _ h=>Y);refine Z 5 0 ?_;refine bs h (fun _ h=>?_) (fun _ h=>Y);refine Z 4 0 ?_;exact bs h (fun _ h=>Y) (fun _ h=>Y)
end Go.Abs
end
section
namespace Go.Proofs
open Go.Abs
set_option maxRecDepth 100000
theorem Qok:Qr Tryz.prog 7=some Qik:=by kernel_rfl
theorem Qwz:Qr Tryz.prog 8=some Qod:=by kernel_rfl
theorem Q0q:Qr Tryz.prog 10=some Qtb:=by kernel_rfl
theorem Qxz:Qr Tryz.prog 12=some Qpb:=by kernel_rfl
theorem Qyz:Qr Tryz.prog 14=some Qqt:=by kernel_rfl
theorem Qtl:Qr Tryz.prog 18=some Qlv:=by kernel_rfl
theorem Qy0:Qr Tryz.prog 20=some Qqu:=by kernel_rfl
theorem Qw0:Qr Tryz.prog 21=some Qoc:=by kernel_rfl
theorem Q21:Qr Tryz.prog 22=some Qws:=by kernel_rfl
theorem Qx0:Qr Tryz.prog 23=some Qpd:=by kernel_rfl
theorem Qx1:Qr Tryz.prog 24=some Qpa:=by kernel_rfl
theorem Qrl:Qr Tryz.prog 25=some Qki:=by kernel_rfl
theorem Q0r:Qr Tryz.prog 32=some Qs8:=by kernel_rfl
theorem Qw1:Qr Tryz.prog 33=some Qoe:=by kernel_rfl
theorem Qx2:Qr Tryz.prog 34=some Qpc:=by kernel_rfl
theorem Q1f:Qr Tryz.prog 35=some Qvd:=by kernel_rfl
theorem Q22:Qr Tryz.prog 36=some Qwt:=by kernel_rfl
theorem Qx3:Qr Tryz.prog 37=some Qo6:=by kernel_rfl
theorem Qsl:Qr Tryz.prog 38=some Qk2:=by kernel_rfl
theorem Q0s:Qr Tryz.prog 42=some Qs9:=by kernel_rfl
theorem Qx4:Qr Tryz.prog 43=some Qo9:=by kernel_rfl
theorem Qvq:Qr Tryz.prog 44=some Qm2:=by kernel_rfl
theorem Qzu:Qr Tryz.prog 45=some Qr3:=by kernel_rfl
theorem Q23:Qr Tryz.prog 49=some Qwr:=by kernel_rfl
theorem Qsm:Qr Tryz.prog 50=some Qky:=by kernel_rfl
theorem Qvr:Qr Tryz.prog 51=some Qm8:=by kernel_rfl
theorem Qw2:Qr Tryz.prog 52=some Qn9:=by kernel_rfl
theorem Quq:Qr Tryz.prog 53=some Qmh:=by kernel_rfl
theorem Qvs:Qr Tryz.prog 54=some Qm7:=by kernel_rfl
theorem Qvt:Qr Tryz.prog 55=some Qjf:=by kernel_rfl
theorem Q0t:Qr Tryz.prog 62=some Qte:=by kernel_rfl
theorem Qtm:Qr Tryz.prog 63=some Qlu:=by kernel_rfl
theorem Qy1:Qr Tryz.prog 68=some Qqr:=by kernel_rfl
theorem Qy2:Qr Tryz.prog 70=some Qqo:=by kernel_rfl
theorem Q1g:Qr Tryz.prog 72=some Qvc:=by kernel_rfl
theorem Q0u:Qr Tryz.prog 73=some Qs7:=by kernel_rfl
theorem Qy3:Qr Tryz.prog 74=some Qqs:=by kernel_rfl
theorem Qy4:Qr Tryz.prog 75=some Qqn:=by kernel_rfl
theorem Qzv:Qr Tryz.prog 79=some Qr0:=by kernel_rfl
theorem Q24:Qr Tryz.prog 80=some Qwq:=by kernel_rfl
theorem Qzw:Qr Tryz.prog 81=some Qr2:=by kernel_rfl
theorem Qx5:Qr Tryz.prog 82=some Qo8:=by kernel_rfl
theorem Qq1:Qr Tryz.prog 83=some Qjy:=by kernel_rfl
theorem Qol:Qr Tryz.prog 85=some Qii:=by kernel_rfl
theorem Qrm:Qr Tryz.prog 86=some Qkf:=by kernel_rfl
theorem Qvu:Qr Tryz.prog 90=some Qm3:=by kernel_rfl
theorem Qzx:Qr Tryz.prog 91=some Qrz:=by kernel_rfl
theorem Qvv:Qr Tryz.prog 93=some Qm4:=by kernel_rfl
theorem Q1h:Qr Tryz.prog 94=some Qve:=by kernel_rfl
theorem Qtn:Qr Tryz.prog 97=some Qlr:=by kernel_rfl
theorem Qto:Qr Tryz.prog 98=some Qls:=by kernel_rfl
theorem Qtp:Qr Tryz.prog 99=some Qlt:=by kernel_rfl
theorem Qsn:Qr Tryz.prog 100=some Qk1:=by kernel_rfl
theorem Qrn:Qr Tryz.prog 101=some Qkh:=by kernel_rfl
theorem Q0v:Qr Tryz.prog 108=some Qtc:=by kernel_rfl
theorem Q0w:Qr Tryz.prog 109=some Qtd:=by kernel_rfl
theorem Qso:Qr Tryz.prog 110=some Qkx:=by kernel_rfl
theorem Qw3:Qr Tryz.prog 111=some Qob:=by kernel_rfl
theorem Q0x:Qr Tryz.prog 113=some Qs6:=by kernel_rfl
theorem Qx6:Qr Tryz.prog 114=some Qo7:=by kernel_rfl
theorem Qvw:Qr Tryz.prog 115=some Qm1:=by kernel_rfl
theorem Qq2:Qr Tryz.prog 119=some Qjx:=by kernel_rfl
theorem Qmx:Qr Tryz.prog 122=some Qho:=by kernel_rfl
theorem Qy5:Qr Tryz.prog 125=some Qqq:=by kernel_rfl
theorem Q0y:Qr Tryz.prog 129=some Qta:=by kernel_rfl
theorem Qq3:Qr Tryz.prog 133=some Qju:=by kernel_rfl
theorem Qro:Qr Tryz.prog 135=some Qkg:=by kernel_rfl
theorem Qur:Qr Tryz.prog 136=some Qmi:=by kernel_rfl
theorem Qus:Qr Tryz.prog 137=some Qmj:=by kernel_rfl
theorem Qq4:Qr Tryz.prog 138=some Qjz:=by kernel_rfl
theorem Qvx:Qr Tryz.prog 139=some Qm5:=by kernel_rfl
theorem Qsp:Qr Tryz.prog 140=some Qk0:=by kernel_rfl
theorem Q3i:Qr Tryz.prog 144=some Qyi:=by kernel_rfl
theorem Qzy:Qr Tryz.prog 145=some Qr1:=by kernel_rfl
theorem Qo4:Qr Tryz.prog 153=some Qi0:=by kernel_rfl
theorem Qmo:Qr Tryz.prog 157=some Qhb:=by kernel_rfl
theorem Qsq:Qr Tryz.prog 167=some Qkz:=by kernel_rfl
theorem Qo5:Qr Tryz.prog 168=some Qi1:=by kernel_rfl
theorem Qvy:Qr Tryz.prog 169=some Qm6:=by kernel_rfl
theorem Qq5:Qr Tryz.prog 170=some Qj0:=by kernel_rfl
theorem Q25:Qr Tryz.prog 172=some Qwp:=by kernel_rfl
theorem Qmy:Qr Tryz.prog 53=some Qhp:=by kernel_rfl
theorem Qps:Qr Tryz.prog 63=some Qjl:=by kernel_rfl
theorem Qw4:Qr Tryz.prog 87=some Qoa:=by kernel_rfl
theorem Qnv:Qr Tryz.prog 93=some Qh8:=by kernel_rfl
theorem Qut:Qr Tryz.prog 95=some Qmc:=by kernel_rfl
theorem Qrp:Qr Tryz.prog 96=some Qke:=by kernel_rfl
end Go.Proofs
end
section
namespace Go.Abs
open Go Go.Sort
section plain
variable {β:Type}
def insB (lt:β→β→Bool) (x:β):List β→List β
 | []=>[x]
 | y::ys=>if lt y x then y::insB lt x ys else x::y::ys
def Qpe (lt:β→β→Bool):List β→List β
 | []=>[]
 | x::xs=>insB lt x (Qpe lt xs)
def Q3j (lt:β→β→Bool):List β→Bool
 | []=>true
 | x::xs=>xs.all (fun y=>lt x y||lt y x)&&Q3j lt xs
def Qbfp (ok:β→Bool) (lt:β→β→Bool) (l:List β):Option (List β):=if l.all ok&&Q3j lt l then some (Qpe lt l) else none
theorem Q26 (lt:β→β→Bool) (x:β):∀ l,(insB lt x l).Perm (x::l)
 | []=>.refl _
 | y::ys=>by
  unfold insB;split
  ·exact ((Q26 lt x ys).cons y).trans (.swap x y ys)
  ·exact .refl _
theorem Qq6 (lt:β→β→Bool):∀ l,(Qpe lt l).Perm l
 | []=>.refl _
 | x::xs=>(Q26 lt x _).trans ((Qq6 lt xs).cons x)
theorem Quu (lt:β→β→Bool) (l:List β):(Qpe lt l).length=l.length:=(Qq6 lt l).length_eq
theorem Q27 {lt:β→β→Bool} (h:SWO lt) (x:β):∀ l,l.Pairwise (fun a b=>lt b a=false)→(insB lt x l).Pairwise fun a b=>lt b a=false
 | [],_=>by simp [insB]
 | y::ys,hl=>by
  obtain ⟨h1,h2⟩:=List.pairwise_cons.1 hl;unfold insB;split
  ·rename_i hc;refine List.pairwise_cons.2 ⟨fun z hz=>?_,Q27 h x ys h2⟩;rcases List.mem_cons.1 ((Q26 lt x ys).mem_iff.1 hz) with rfl|hz
   ·cases hb:lt z y with
    | false=>rfl
    | true=>have:=h.trans _ _ _ hc hb;rw [h.irrefl] at this;cases this
   ·exact h1 z hz
  ·rename_i hc;have hc:lt y x=false:=by cases h:lt y x<;>simp_all
   refine List.pairwise_cons.2 ⟨fun z hz=>?_,hl⟩;rcases List.mem_cons.1 hz with rfl|hz
   ·exact hc
   ·exact h.ntrans _ _ _ (h1 z hz) hc
theorem Quv {lt:β→β→Bool} (h:SWO lt):∀ l,(Qpe lt l).Pairwise fun a b=>lt b a=false
 | []=>.nil
 | x::xs=>Q27 h x _ (Quv h xs)
theorem Q4j {lt:β→β→Bool}:∀ {l:List β},Q3j lt l=true→∀ a b,a∈l→b∈l→lt a b=false→lt b a=false→a=b
 | [],_,a,_,ha,_,_,_=>by cases ha
 | x::xs,h,a,b,ha,hb,h1,h2=>by
  simp only [Q3j,Bool.and_eq_true,List.all_eq_true] at h;obtain ⟨k1,k2⟩:=h;rcases List.mem_cons.1 ha with e1|ha'<;>rcases List.mem_cons.1 hb with e2|hb'
  ·rw [e1,e2]
  ·subst e1;have:=k1 b hb';simp [h1,h2] at this
  ·subst e2;have:=k1 a ha';simp [h1,h2] at this
  ·exact Q4j k2 a b ha' hb' h1 h2
theorem Q5k {lt:β→β→Bool} (h:SWO lt) {l m:List β} (hd:Q3j lt l=true) (hp:m.Perm l) (hs:m.Pairwise fun a b=>lt b a=false):m=Qpe lt l:=by
 refine List.Perm.eq_of_pairwise (le:=fun a b=>lt b a=false) (fun a b ha hb h1 h2=>?_) hs (Quv h l) (hp.trans (Qq6 lt l).symm);exact Q4j hd a b (hp.mem_iff.1 ha) ((Qq6 lt l).mem_iff.1 hb) h2 h1
theorem Q86 {α:Type} (f:α→β) (lt:β→β→Bool) (x:α):∀ l:List α,insB lt (f x) (l.map f)=(insB (fun a b=>lt (f a) (f b)) x l).map f
 | []=>rfl
 | y::ys=>by
  simp only [List.map_cons,insB];split
  ·simp only [List.map_cons,Q86 f lt x ys]
  ·rfl
theorem Q4k {α:Type} (f:α→β) (lt:β→β→Bool):∀ l:List α,Qpe lt (l.map f)=(Qpe (fun a b=>lt (f a) (f b)) l).map f
 | []=>rfl
 | x::xs=>by simp only [List.map_cons,Qpe,Q4k f lt xs,Q86]
theorem Q64 {α:Type} (f:α→β) (lt:β→β→Bool):∀ l:List α,Q3j lt (l.map f)=Q3j (fun a b=>lt (f a) (f b)) l
 | []=>rfl
 | x::xs=>by simp only [List.map_cons,Q3j,Q64 f lt xs,List.all_map];rfl
end plain
def Qw5 (a b:Int):Bool:=decide (a<b)
end Go.Abs
end
section
namespace Go.Abs
open Go Go.Sort Go.RowKit
theorem Q28 {P:Program} {f:FuncId} {ex:Array Value} {exV:List V} {sz nb:Nat} {M:Mem} (hb:Qh2 P f=true) (hex:∀ g w us,RFs g w exV us→us=ex.toList)
  (h:∀ (p:Option Addr) (cap:Nat) (w:World),Calls P f (#[.slice p 0 cap]++ex) w fun e' w'=>e' = .returned (.tuple #[])∧w'=w) (hexf:V.dems exV=exV:=by rfl) :
  ACalls P f (.d (.lst sz [])::exV) M nb (.tup []) M nb:=by
 refine ACalls.mk' hb (Nat.le_refl _) (by simp only [V.dems,V.dem,hexf]) fun w g us hm hMon hus hfl hons=>?_;obtain ⟨u0,us',rfl,hu0,hus'⟩:=hus;have h1:=hex _ _ _ hus';subst h1;have h2:∃ p cap,u0 = .slice p 0 cap:=by
  have:=RF_d.1 hu0;obtain ⟨a,cap,rfl,_,_⟩:=this;exact ⟨a,cap,rfl⟩
 obtain ⟨p,cap,rfl⟩:=h2;have e1:(Value.slice p 0 cap::ex.toList).toArray = #[.slice p 0 cap]++ex:=by apply Array.ext';simp
 rw [e1];refine (h p cap w).mono ?_;rintro e' w' ⟨rfl,rfl⟩;exact ⟨_,g,rfl,hm,⟨[],rfl,rfl⟩,trivial,hMon,Fr.refl _ _ _⟩
theorem Q7y (l:List Int):(l.mergeSort fun x y=>decide (x≤y))=Qpe Qw5 l:=by
 have hO:Go.Sort.SWO Qw5:=⟨fun x=>by simp [Qw5],fun x y z h1 h2=>by simp [Qw5] at *;omega,fun x y z h1 h2=>by simp [Qw5] at *;omega⟩;refine List.Perm.eq_of_pairwise (le:=fun a b=>Qw5 b a=false) (fun a b _ _ h1 h2=>by simp [Qw5] at *;omega) ?_ (Quv hO l) ((List.mergeSort_perm _ _).trans (Qq6 _ l).symm);have:=List.pairwise_mergeSort (le:=fun x y:Int=>decide (x≤y)) (fun a b c h1 h2=>by simp at *;omega) (fun a b=>by simp;omega) l;exact this.imp fun h=>by simp [Qw5] at *;omega
end Go.Abs
end
section
namespace Go.Abs
open Go Go.Sort Go.Shelf Go.RowKit Go.Lib Go.Proofs
theorem Q65 {α:Type} [Inhabited α] {enc:α→List Value} {k:Nat} (hk:∀ x,(enc x).length=k) (h0:0<k):∀ (l:List α) (t:Nat),t<l.length*k→(l.map enc).flatten[t]? = some (enc l[t / k]!)[t % k]!
 | [],t,h=>by simp at h
 | x::xs,t,h=>by
  rw [List.map_cons,List.flatten_cons];by_cases hl:t<k
  ·rw [List.getElem?_append_left (by rw [hk];exact hl),Nat.div_eq_of_lt hl,Nat.mod_eq_of_lt hl];have:t<(enc x).length:=by rw [hk];exact hl
   simp [this]
  ·have hge:k≤t:=by omega
   have h2:t-k<xs.length*k:=by simp only [List.length_cons,Nat.add_mul,Nat.one_mul] at h;omega
   rw [List.getElem?_append_right (by rw [hk];exact hge),hk,Q65 hk h0 xs (t-k) h2];have e1:t / k=(t-k) / k+1:=by rw [← Nat.add_div_right _ h0,Nat.sub_add_cancel hge]
   have e2:t % k=(t-k) % k:=by rw [Nat.mod_eq_sub_mod hge]
   rw [e1,e2];simp
theorem Q66 {α:Type} [Inhabited α] {enc:α→List Value} {k:Nat} (hk:∀ x,(enc x).length=k) (h0:0<k) (l:List α):flatK enc k l.toArray=(l.map enc).flatten.toArray:=by
 have hs:(l.map enc).flatten.length=l.length*k:=by
  induction l with
  | nil=>simp
  | cons x xs ih=>rw [List.map_cons,List.flatten_cons,List.length_append,ih,hk];simp [Nat.add_mul];omega
 refine ext_get! (by simp [hs]) fun t ht=>?_;have ht' : t<l.length*k:=by simpa using ht
 rw [get_flatK _ _ _ _ (by simpa using ht')];have:=Q65 hk h0 l t ht';obtain ⟨h1,h2⟩:=List.getElem?_eq_some_iff.1 this;rw [getElem!_pos _ t (by simpa using h1)];simp only [List.getElem_toArray,h2];simp
theorem Q67 {α:Type} (e:α→List D) (xs:List α):rowV e xs=(xs.map fun x=>(e x).map D.val).flatten:=by
 unfold rowV;rw [List.map_flatten,List.map_map];rfl
theorem Q3k {P:Program} {ρ:Ren} {α:Type} [Inhabited α] (L:SlLaysF0.n6 P ρ) {k:Nat} (aE:∀ w,(isAgg (ρ.t 24)).run P w = .ok true w) (zE:∀ w,(Go.sizeOf (ρ.t 24)).run P w = .ok k w) (e:α→List D) (hk:∀ x,(e x).length=k) (h0:0<k) (hsc:∀ x,(e x).all D.scalar=true)
  (cf:α→α→Int) (hO:SWO (ltOf cf)) (g:Nat) (cb:Array Value) (eg:∀ args w,(callFunc g args).run P w = .ok (.enter g args) w)
  (hcmp:∀ (x y:α) (W:World),Calls P g (#[.agg ((e x).map D.val).toArray,.agg ((e y).map D.val).toArray]++cb) W fun r w'=>r = .returned (.int .i64 (cf x y))∧∃ q os',w'=grow (W.drewN q) os') :
  Qbbz P (ρ.f 6) e #[.func (.func g) #[] cb] (fun xs=>(pdq (ltOf cf) xs.toArray 0 xs.length (Lib.bitLen xs.length) true true).toList):=by
 intro blk cap xs w hc hblk hsz;have henc:∀ x,((fun x=>(e x).map D.val) x).length=k:=fun x=>by simp [hk]
 have h1:∀ x:α,∀ v∈(e x).map D.val,v.oneCell'=true:=by
  intro x v hv;obtain ⟨d,hd,rfl⟩:=List.mem_map.1 hv;exact Qbby (List.all_eq_true.1 (hsc x) d hd)
 have hH:HoldsK (fun x=>(e x).map D.val) k w blk 0 xs.toArray:=by
  unfold HoldsK;rw [Q66 henc h0,← Q67];intro j hj;have hj' : j<(rowV e xs).length:=by simpa using hj
  obtain ⟨k1,k2⟩:=hc j hj';rw [Nat.zero_add];refine ⟨k1.trans ?_,k2⟩;rw [List.getElem?_eq_getElem hj',getElem!_pos _ j hj];rfl
 have hcl:CmpLays P g cb (fun x=>(e x).map D.val) k cf blk 0 xs.toArray.size w:=fun _ _ _ _ x y=>hcmp x y _;have:=AnyQ.slices_SortFunc_eq L k aE zE (fun x=>(e x).map D.val) henc h1 cf hO g cb blk 0 cap xs.toArray w eg hcl hH hblk (by simpa using hsz);refine this.mono ?_;rintro r w' ⟨rfl,n,os,rfl⟩;refine ⟨rfl,n,os,?_⟩;unfold sortWorldK putRowK;have hrow:flatK (fun x=>(e x).map D.val) k (pdq (ltOf cf) xs.toArray 0 xs.toArray.size (Lib.bitLen xs.toArray.size) true true)=(rowV e (pdq (ltOf cf) xs.toArray 0 xs.length (Lib.bitLen xs.length) true true).toList).toArray:=by
  rw [Q67,← Q66 henc h0];simp
 rw [hrow]
section
variable {α:Type} [Inhabited α]
theorem Q5l {lt:α→α→Bool} (hO:SWO lt) (xs:List α) (k:Nat):(pdq lt xs.toArray 0 xs.length k true true).toList.Perm xs∧(pdq lt xs.toArray 0 xs.length k true true).toList.Pairwise fun a b=>lt b a=false:=by
 obtain ⟨⟨h1,_,h2⟩,h3⟩:=pdq_sorts lt hO xs.toArray 0 xs.length k true true (Nat.zero_le _) (by simp) (Or.inl rfl);generalize pdq lt xs.toArray 0 xs.length k true true=d at *
 have hs:d.size=xs.length:=by simpa using h1
 refine ⟨?_,?_⟩
 ·have e1:d.extract 0 xs.length=d:=by rw [← hs];exact Array.extract_size
  have e2:xs.toArray.extract 0 xs.length=xs.toArray:=by
   have:xs.length=xs.toArray.size:=by simp
   rw [this];exact Array.extract_size
  rw [e1,e2] at h2;simpa using h2
 ·rw [List.pairwise_iff_getElem];intro i j hi hj hij;have hi' : i<d.size:=by simpa using hi
  have hj' : j<d.size:=by simpa using hj
  have:=h3 i j (Nat.zero_le _) hij (by omega);rw [getElem!_pos d i hi',getElem!_pos d j hj'] at this;simpa using this
theorem Qbce {lt:α→α→Bool} (hO:SWO lt) (xs:List α) (k:Nat) (hd:Q3j lt xs=true):(pdq lt xs.toArray 0 xs.length k true true).toList=Qpe lt xs :=
 Q5k hO hd (Q5l hO xs k).1 (Q5l hO xs k).2
end
theorem Qbcf {β:Type} {P:Program} {c:Nat} {e:β→List D} {sz N:Nat} {ok:β→Bool} {lt:β→β→Bool} [Inhabited {x:β // ok x=true}] {lt' : {x:β // ok x=true}→{x:β // ok x=true}→Bool}
  (hN:N<4611686018427387904) (hk:∀ x,(e x).length=sz) (hsc:∀ x,(e x).all D.scalar=true) (hO:SWO lt') (hlt:∀ x y,lt' x y=lt x.1 y.1) (hb:Qh2 P c=true) {ex:Array Value} {exV:List V} (hex:∀ g w us,RFs g w exV us→us=ex.toList)
  (hrow:Qbbz P c (fun x:{x:β // ok x=true}=>e x.1) ex (fun xs=>(pdq lt' xs.toArray 0 xs.length (Lib.bitLen xs.length) true true).toList))
  (hnone:∀ (p:Option Addr) (cap:Nat) (w:World),Calls P c (#[.slice p 0 cap]++ex) w fun e' w'=>e' = .returned (.tuple #[])∧w'=w) (hexf:V.dems exV=exV:=by rfl) :
  RowK P c e sz exV (fun l=>if l.length≤N then Qbfp ok lt l else none):=by
 intro xs ys h;dsimp only at h;split at h<;>try (cases h;done)
 rename_i hlN;unfold Qbfp at h;split at h<;>cases h;rename_i hok;simp only [Bool.and_eq_true,List.all_eq_true] at hok;obtain ⟨ho,hd⟩:=hok;obtain ⟨zs,rfl⟩ : ∃ zs:List {x:β // ok x=true},xs=zs.map Subtype.val:=⟨xs.pmap Subtype.mk ho,by rw [List.map_pmap];simp⟩;have hd' : Q3j lt' zs=true:=by
  rw [Q64] at hd;rw [show lt'=fun a b=>lt a.1 b.1 from funext fun a=>funext fun b=>hlt a b];exact hd
 have e1:Qpe lt (zs.map Subtype.val)=(Qpe lt' zs).map Subtype.val:=by
  rw [Q4k,show lt'=fun a b=>lt a.1 b.1 from funext fun a=>funext fun b=>hlt a b]
 refine ⟨Quu _ _,fun h0=>?_,fun hl cap k0 M nb hM=>?_⟩
 ·simp only [List.map_eq_nil_iff] at h0;subst h0;exact ⟨rfl,fun M nb=>Q28 hb hex hnone hexf⟩
 ·have hM' : M k0=some (.cells (Qce (zs.map fun x=>e x.1) ((cap-zs.length)*sz))):=by
   rw [hM,List.map_map,List.length_map];rfl
  have:=Q4d (fun x=>hk x.1) (fun x=>hsc x.1) (fun xs=>(Q5l hO xs _).1.length_eq) hex hb hrow zs cap k0 M nb hM' (by rw [List.length_map] at hlN;omega) hexf;rw [Qbce hO zs _ hd'] at this;rw [e1,List.map_map,List.length_map];exact this
end Go.Abs
end
section
namespace Go.Abs
open Go Go.RowKit
end Go.Abs
end
section
namespace Go.Abs
def Qbgq (l:List Int):Option (List Int):=if l.length≤lim then some (Qpe Qw5 l) else none
def lenI (x:Int):Option Int:=if 0≤x∧x≤18446744073709551615 then some (Lib.bitLen x.toNat) else none
def keyB (l:List Int):ByteArray:=⟨(l.flatMap fun x=>Lib.encodeRune (x+1)).toArray⟩
def keyS (l:List Int):Option ByteArray:=if l.length≤lim∧∀ x∈l,0≤x∧x<50000 then some (keyB l) else none
def Q5m (l:List Int):List UInt8:=l.flatMap fun x=>Lib.decDigits x.toNat++[32]
def Qbfq (l:List Int):ByteArray:=⟨(Q5m l).toArray⟩
def keyI (l:List Int):Option ByteArray:=if l.length≤lim∧∀ x∈l,0≤x∧x<100 then some (Qbfq l) else none
def okRm (x:Q4):Bool:=decide (0≤x.State∧x.State<4611686018427387904)
def ltRm (x y:Q4):Bool:=decide (x.State<y.State)
def Qbgr (l:List Q4):Option (List Q4):=if l.length≤65536 then Qbfp okRm ltRm l else none
end Go.Abs
end
section
namespace Go.Abs
open Go Go.Abs
set_option maxRecDepth 10000
set_option maxHeartbeats 4000000
def Qb8:Nat:=1099511627776
def Qw6:=Qfx
def Qsr:=Qd5 Qw6
def Qhe:=Qbv Qsr Qb8
def Qj3:=Qcl Qhe Qb8
def Qiq:=Qbn Qj3 lenI
def Qkj:=Qcs Qb8
def Qpf:=Qec
def Qkc:=Qex Qb8
def Qi2:=Qcw Qkc Qb8
def Qhw:=Qc7 Qb8
def Qjm:=Qei Qb8
def Qbs:=Qf Qjm
def Qgz:=Qc5 Qbs Qb8
def Qgo:=Qbk Qhw Qgz
def Qft:=Qbl Qi2 Qgo
def Qir:=Qdz Qb8
def Qfe:=Qcx Qft Qbs Qgo Qir Qb8
def Qjn:=Qbj
def Qr4:=Qej
def Qk4:=Qc2 Qsr Qr4 Qb8
def Qq7:=Qeq Qk4
def Qw7:=Qgr
def Qtq:=Qfn Qft Qq7 Qjn Qw7 Qb8
def Qq8:=Qer
def Qtr:=Qfo Qb8
def Qom:=Qd0 Qi2 Qq8 Qtr
def Qm9:=Qdq Qom
def Qon:=Qd1 Qb8
def Qr5:=Qe7 Qgo Qon
def Qpg:=Qed Qbs Qb8
def Qi3:=Qby
def Qgv:=Qbb Qbs Qbgq Qi3 Qb8
def Qj4:=Qcm Qgv
def Qhq:=Qbz Qbs
def Qna:=Qdr Qb8
def Qem:=Qt Qna
def Qil:=Qb9 Qem Qhq
def Qkk:=Qct Qgv Qb8
def Qph:=Qee Qr5 Qpg Qj4 keyS Qil Qkk Qb8
def Qr6:=Qe9 Qb8
def Qts:=Qfp Qtq Qph Qm9 Qr6 Qb8
def Qvf:=Qfd Qb8
def Qtt:=Qfq
def Qtu:=Qfr Qb8
def Qq9:=Qes Qtt Qtu
def Qis:=Qbo
def Qit:=Qbp keyI
def Qkl:=Qcc Qjn Qit
def Qnb:=Qds Qbs
def Qhr:=Qb0
def Qic:=Qb5 Qbs
def Qlw:=Qc9 Qjn Qkl Qhr Qic Qb8
def Qk5:=Qcg
def Qmp:=Qdi Qk5 Qiq Qb8
def Qlx:=Qda Qit Qmp Qb8
def Qi4:=Qcb Qbs
def Qj5:=Qcn Qem Qi4 Qb8
def Qnc:=Qdt Qb8
def Qnd:=Qdu Qbs Qb8
def Qj6:=Qco
def Qk6:=Qc3 Qem Qnd Qj6 Qb8
def Qly:=Qdb Qj5 Qnc Qk6 Qbgr Qb8
def Qfu:=Q5 Qts Qfe Qq9 Qvf Qlw Qlx Qly Qiq Qkj Qb8
def Qez:=Qbr Qfu Qb8
def Qkm:=Qcu keyI
def Qk7:=Qc4 Qb8
def Qid:=Qbi Qk7 Qkm
def Qgj:=Q6
def Qj7:=Qdc Qfu Qid Qgj
def Qg0:=Q2 keyI
def Qjh:=Qbg Qg0 Qnb
def Qeg:=Q7 Qj7 Qis Qg0 Qjh Qb8
def Qne:=Qdv Qbs
def Qfb:=Qbw Qj7 Qem Qne Qis Qg0 Qjh Qb8
def Qie:=Qdd Qfu Qid Qgj
def Qf7:=Qv Qb8
def Qhm:=Qbe Qf7 Qb8
def Qj8:=Qdf Qfb Qf7 Qez Qie Qeg Qpf Qhm
def Qfc:=Qbq Qb8
def Qiu:=Qd2 Qb8
def Qf1:=Qdg Qfc Qiu Qb8
def Qd9:=Qcd Qb8
def Qgw:=Qet Qb8
def Qgx:=Qd3 Qfu
def Qj9:=Qfz Qeg
def Qhx:=Qef Qf7 Qhm Qb8
def Qf2:=Qf0 Qj8 Qfb Qgw Qgx Qez Qie Qhx Qeg Qd9 Qft Qf1 Qfc Qfe Qj9 Qb8
end Go.Abs
end
