/-
  Part 11 of the proof: see the last text.
-/
import Derived.Test.YtjngkimolkhdmaaGreatP10
import Derived.OrdersHeld
import Derived.RegionTactic
import Derived.Deep.RegionHeld3
import Derived.RangeFuncLeaves
import Derived.Lib.OwnKind
import Derived.RangeFuncWrites
import Derived.OwnWalkIn
import Derived.RegionIn
import Derived.LoopNIn
import Derived.LoopIn
import Derived.TacticsInMore
import Derived.Deep.RegionLaw
import Derived.Deep.DeepCutAuto
import Derived.Deep.CutBlock
import Derived.KernelRfl
import Derived.OpenShut
import Derived.ProofKit
import Derived.Carry
import GoSem.Claim
import GoSem.ClaimJoined
import Derived.JoinedTies
import Derived.Test.YtjngkimolkhdmaaGreatProg
set_option linter.unusedVariables false
set_option linter.unusedSimpArgs false
set_option linter.unusedSectionVars false
section
namespace Go.Proofs
open Go.Shelf Go.RowKit Go.Lib Go.Sort Go.Abs
theorem CompI.next {w0 W X w7:World} {L B Bs O:Nat} {pre:List Bool} {x:Bool} {gv:Value} {rows:List Value} {o2:Obj} {g7 cap7:Nat} (hI:CompI w0 L pre W)
  (hg1:Qkt (pre++[x])=Qkt pre++[x])
  (hcl:(W.setCell ⟨L,(stN x).toNat,none⟩ (.int .i64 ((Qkt pre).length+1))).heap[L]? = some (.cells #[.int .i64 (clOf (Qkt (pre++[x])) false),.int .i64 (clOf (Qkt (pre++[x])) true)] 3 (0,0)))
  (hgb:W.heap[L+1+1]? = some (.cells #[gv] 45 (0,0))) (hown:W.ownsRow (L+4) 32 1 gv (Qkt pre).length rows)
  (hrows:∀ (i:Nat) b,(Qkt pre)[i]? = some b→∃ R,rows[i]? = some (.slice (some ⟨R,0,none⟩) 1 1)∧L+4≤R∧R<W.heap.size∧gv.ownBlock≠some R∧W.heap[R]? = some (.cells #[.int .i64 (stN b)] 3 (0,0)))
  (hg:X.grownBy w7 gv.ownBlock) (hX:X.heap=(((W.setCell ⟨L,(stN x).toNat,none⟩ (.int .i64 ((Qkt pre).length+1))).alloc (.cells #[.int .i64 (stN x)] 3)).alloc o2).heap)
  (hos:X.os=W.os) (ht:X.tape=W.tape) (hp:X.output=W.output)
  (hown7:w7.ownsRow (L+4) 32 1 (.slice (some ⟨g7,0,none⟩) ((Qkt pre).length+1) cap7) ((Qkt pre).length+1) (rows++[.slice (some ⟨W.heap.size,0,none⟩) 1 1]))
  (hL:w0.heap.size=L) (hBs:Bs=L+3) (hO:O<L) :
  KeepsFrom B W (w7.setCell ⟨L+1+1,0,none⟩ (.slice (some ⟨g7,0,none⟩) ((Qkt pre).length+1) cap7))∧Keep2 Bs O W (w7.setCell ⟨L+1+1,0,none⟩ (.slice (some ⟨g7,0,none⟩) ((Qkt pre).length+1) cap7)) ∧
   CompI w0 L (pre++[x]) (w7.setCell ⟨L+1+1,0,none⟩ (.slice (some ⟨g7,0,none⟩) ((Qkt pre).length+1) cap7)):=by
 have hz:=hI.size;have hBo:gv.ownBlock≠some Bs:=Qvl hown (by omega);have hs:X.heap.size=W.heap.size+2:=by rw [hX];simp
 have hs7:=hg.size;have old:∀ k,k<W.heap.size→k≠L→k≠L+1+1→some k≠gv.ownBlock→(w7.setCell ⟨L+1+1,0,none⟩ (.slice (some ⟨g7,0,none⟩) ((Qkt pre).length+1) cap7)).heap[k]? = W.heap[k]?:=fun k hk h1 h2 h3 =>
  (Qen _ _ _ _ h2).trans ((Qqu hg hX hk h3).trans (Qen _ _ _ _ h1))
 have hgc:=hown.2;have hlow:∀ k,k<L+4→some k≠gv.ownBlock:=fun k hk=>(Qvl hown hk).symm;refine ⟨⟨by rw [Qtg];omega,?_⟩,⟨old _ (by omega) (by omega) (by omega) (fun h=>hBo h.symm),old _ (by omega) (by omega) (by omega) (hlow _ (by omega))⟩,?_⟩
 ·intro k o hB hk ho;have hkl:=(Array.getElem?_eq_some_iff.1 hk).1;refine (old k hkl ?_ ?_ ?_).trans hk
  ·rintro rfl;rw [hI.cl] at hk;cases hk;simp [Obj.isCells] at ho
  ·rintro rfl;rw [hgb] at hk;cases hk;simp [Obj.isCells] at ho
  ·intro e;obtain ⟨c,fz,h⟩:=ownsRow_kind hown k e.symm;rw [h] at hk;cases hk;simp [Obj.isCells] at ho
 ·have hlen:rows.length=(Qkt pre).length:=by have:=hown.1;omega
  have hR:∀ R e c,w7.heap[R]? = some (.cells c e (0,0))→e≠32→(Value.slice (some ⟨g7,0,none⟩) ((Qkt pre).length+1) cap7).ownBlock≠some R:=by
   intro R e c h he h';obtain ⟨c',fz,h2⟩:=ownsRow_kind hown7 R h';rw [h] at h2;cases h2;exact he rfl
  have hb7:w7.heap[L+1+1]? = some (.cells #[gv] 45 (0,0)):=(Qqu hg hX (by omega) (hlow _ (by omega))).trans ((Qen _ _ _ _ (by simp<;>omega)).trans hgb);refine ⟨⟨hg.os.trans (hos.trans hI.below.os),hg.tape.trans (ht.trans hI.below.tape),hg.output.trans (hp.trans hI.below.output),by rw [Qtg];omega,fun k hk=>(old k (by omega) (by omega) (by omega) (hlow _ (by omega))).trans (hI.below.block k hk)⟩,by rw [Qtg];omega,?_,?_,(old _ (by omega) (by omega) (by omega) (hlow _ (by omega))).trans hI.cb,.slice (some ⟨g7,0,none⟩) ((Qkt pre).length+1) cap7,rows++[.slice (some ⟨W.heap.size,0,none⟩) 1 1],heap_setCell_same _ _ _ _ _ _ hb7,?_,?_⟩
  ·exact (Qen _ _ _ _ (by simp<;>omega)).trans ((Qqu hg hX (by omega) (hlow _ (by omega))).trans hcl)
  ·obtain ⟨ce,hb⟩:=hI.bs;exact ⟨ce,(old _ (by omega) (by omega) (by omega) (hlow _ (by omega))).trans hb⟩
  ·rw [hg1,List.length_append];exact ownsRow_setCell_other hown7 (Qvl hown7 (by simp)) _
  ·intro i b hi;rw [hg1] at hi;by_cases hlt:i<(Qkt pre).length
   ·rw [List.getElem?_append_left hlt] at hi;obtain ⟨R,r1,r2,r3,r4,r5⟩:=hrows i b hi;have hk:=(old R r3 (by omega) (by omega) (fun h=>r4 h.symm)).trans r5;have hk7:=(Qqu hg hX r3 (fun h=>r4 h.symm)).trans ((Qen _ _ _ _ (by simp<;>omega)).trans r5);exact ⟨R,by rw [List.getElem?_append_left (by omega)];exact r1,r2,by rw [Qtg];omega,hR R 3 _ hk7 (by decide),hk⟩
   ·have hi' : i=(Qkt pre).length:=by
     have:=(List.getElem?_eq_some_iff.1 hi).1;simp at this;omega
    subst hi';rw [List.getElem?_append_right (Nat.le_refl _)] at hi;simp at hi;subst hi;have hnew:X.heap[W.heap.size]? = some (.cells #[.int .i64 (stN x)] 3 (0,0)):=by
     rw [hX];exact (Qbx _ _ _ (by simp)).trans (Qhg _ _ _ (by simp))
    have hne:some W.heap.size≠gv.ownBlock:=by
     intro h;obtain ⟨c,fz,h2⟩:=ownsRow_kind hown _ h.symm;have:=(Array.getElem?_eq_some_iff.1 h2).1;omega
    have h7:=(hg.block W.heap.size (by omega) hne).trans hnew;exact ⟨W.heap.size,by rw [List.getElem?_append_right (by omega)];simp [hlen],hz,by rw [Qtg];omega,hR _ 3 _ h7 (by decide),(Qen _ _ _ _ (by simp<;>omega)).trans h7⟩
end Go.Proofs
end
section
namespace Go
section
variable {P:Program} {ops:Array Oper} {Q:Exit→Act→World→Prop} {md:Region.Mode} {c:Nat} {N T:World→Prop}
def StG (c:Nat) (N T:World→Prop) (l:Array Bool) (w:World):Prop:=(l.getD c true=false→N w)∧T w
def Qxn (P:Program) (md:Region.Mode) (ops:Array Oper) (Q:Exit→Act→World→Prop) (c:Nat) (N T:World→Prop):Nat→Array Bool→Act→World→Prop
 | 0,listed,a,w=>Region.ready md ops listed=[]∧Q .normal a w
 | fuel+1,listed,a,w=>(Region.ready md ops listed=[]→Q .normal a w) ∧
  ∀ i∈Region.ready md ops listed,wpOp P ops Q i (fun a' w'=>StG c N T (listed.setIfInBounds i true) w'∧Qxn P md ops Q c N T fuel (listed.setIfInBounds i true) a' w') a w
theorem Q5r:∀ (fuel:Nat) (listed:Array Bool) (a:Act) (w:World),Qxn P md ops Q c N T fuel listed a w→wpAny P md ops Q fuel listed a w
 | 0,_,_,_,h=>h
 | fuel+1,_,_,_,h=>⟨h.1,fun i hi=>wpOp_mono (fun a' w' h'=>Q5r fuel _ a' w' h'.2) (h.2 i hi)⟩
def SdG (c:Nat) (N T:World→Prop) (D:List Nat) (w:World):Prop:=(c∈D→N w)∧T w
theorem Q8q {i:Nat} {oi:Oper} {v:Value} {D:List Nat} (hi:ops[i]? = some oi) (hsel:∀ (j:Nat) (o:Oper) cs b,ops[j]? = some o→o.op ≠ .select cs b)
  (hQ:∀ c a w,Q (.panic c) (a.put oi.dst v) w→Q (.panic c) a w) (hic:i≠c)
  (hD:∀ k ok,k∈D→k≠i→ops[k]? = some ok→∃ e∈ok.after,Region.binds md e=true∧e.on∈D) :
  ∀ (fuel:Nat) (listed:Array Bool) (a:Act) (w:World),
   (∀ j oj,ops[j]? = some oj→j≠i→listed.getD j true=false→(∀ e∈oj.after,Region.binds md e=true→e.on≠i)→oi.apart ops oj=true) →
   (∀ k∈D,listed.getD k true=false) →
   i∈Region.ready md ops listed→YieldsIf P ops (SdG c N T D) oi v a→StG c N T listed w →
   Qxn P md ops Q c N T fuel (listed.setIfInBounds i true) (a.put oi.dst v) w→Qxn P md ops Q c N T (fuel+1) listed a w:=by
 have sd:∀ {listed:Array Bool} {w:World},(∀ k∈D,listed.getD k true=false)→StG c N T listed w→SdG c N T D w:=fun hU hS=>⟨fun h=>hS.1 (hU c h),hS.2⟩;have st:∀ {listed:Array Bool} {w:World},StG c N T listed w→StG c N T (listed.setIfInBounds i true) w:=fun hS=>⟨fun h=>hS.1 (by rwa [getD_set_ne true hic] at h),hS.2⟩;intro fuel
 induction fuel with
 | zero =>
  intro listed a w _ hU hr hy hS H;refine ⟨fun h=>(by rw [h] at hr;cases hr),fun j hj=>?_⟩;by_cases hji:j=i
  ·subst hji;exact hy.wpOp hi (sd hU hS) ⟨st hS,H⟩
  ·have:=ready_mono hj hji;rw [H.1] at this;cases this
 | succ fuel ih =>
  intro listed a w hfree hU hr hy hS H;refine ⟨fun h=>(by rw [h] at hr;cases hr),fun j hj=>?_⟩;by_cases hji:j=i
  ·subst hji;exact hy.wpOp hi (sd hU hS) ⟨st hS,H⟩
  ·have h1:=H.2 j (ready_mono hj hji);obtain ⟨hjun,oj,hoj,hall⟩:=mem_ready.1 hj;have hlist:∀ e∈oj.after,Region.binds md e=true→listed.getD e.on true=false→False:=fun e he hb h0=>by
    have h1:=hall e he hb;rcases Nat.lt_or_ge e.on listed.size with h'|h'
    ·simp [h'] at h0 h1;rw [h0] at h1;cases h1
    ·simp [Array.getElem?_eq_none h'] at h1
   have hnot:∀ e∈oj.after,Region.binds md e=true→e.on≠i:=fun e he hb heq=>hlist e he hb (by rw [heq];exact (mem_ready.1 hr).1);have hU' : ∀ k∈D,(listed.setIfInBounds j true).getD k true=false:=fun k hk=>by
    have hjk:j≠k:=by
     rintro rfl;obtain ⟨e,he,hb,hin⟩:=hD j oj hk hji hoj;exact hlist e he hb (hU _ hin)
    rw [getD_set_ne true hjk];exact hU k hk
   have h2:=wpOp_putIf hoj (hfree j oj hoj hji hjun hnot) (fun cs b=>hsel i oi cs b hi) (fun cs b=>hsel j oj cs b hoj) hQ hy h1;have hfree' : ∀ k ok,ops[k]? = some ok→k≠i→(listed.setIfInBounds j true).getD k true=false →
     (∀ e∈ok.after,Region.binds md e=true→e.on≠i)→oi.apart ops ok=true:=fun k ok hk hki hun hno=>by
    refine hfree k ok hk hki ?_ hno;by_cases hjk:j=k
    ·subst hjk;exact hjun
    ·rw [getD_set_ne true hjk] at hun;exact hun
   refine wpOp_mono (fun a' w' h3=>?_) h2;have hS' : StG c N T (listed.setIfInBounds j true) w':=⟨fun h=>h3.2.1.1 (by rw [Array.setIfInBounds_comm _ _ (Ne.symm hji),getD_set_ne true hic];exact h),h3.2.1.2⟩;refine ⟨hS',ih (listed.setIfInBounds j true) a' w' hfree' hU' (ready_mono hr (Ne.symm hji)) h3.1 hS' ?_⟩;rw [Array.setIfInBounds_comm _ _ hji];exact h3.2.2
def Qbli (md:Region.Mode) (ops:Array Oper) (i:Nat) (D:List Nat):Bool:=D.all fun k=>k==i||match ops[k]? with|none=>true|some ok=>ok.after.any fun e=>Region.binds md e&&D.contains e.on
theorem Qhk (i:Nat) (D:List Nat) {oi:Oper} {v:Value} {fuel:Nat} {listed:Array Bool} {a:Act} {w:World} (hi:ops[i]? = some oi)
  (hs:(Region.noSelect ops&&Region.free md ops listed i&&(Region.ready md ops listed).contains i&&Qbli md ops i D&&(D.all fun k=>!listed.getD k true)&&(i != c))=true)
  (hQ:∀ c a w,Q (.panic c) (a.put oi.dst v) w→Q (.panic c) a w) (hS:StG c N T listed w) (hw:Region.wanted oi (yielded ops a.tmps)=true)
  (hy:∀ w,SdG c N T D w→(execOp a.eval oi).run P w = .ok (.value v) w)
  (h:StG c N T (listed.setIfInBounds i true) w→Qxn P md ops Q c N T fuel (listed.setIfInBounds i true) (a.put oi.dst v) w):Qxn P md ops Q c N T (fuel+1) listed a w:=by
 simp only [Bool.and_eq_true] at hs;obtain ⟨⟨⟨⟨⟨h1,h2⟩,h3⟩,h4⟩,h5⟩,h6⟩:=hs;have hic:i≠c:=by simpa using h6
 refine Q8q hi (Region.noSelect_spec h1) hQ hic ?_ fuel listed a w (Region.free_spec hi h2) ?_ (by simpa using h3) (.inl ⟨hw,hy⟩) hS (h ⟨fun h=>hS.1 (by rwa [getD_set_ne true hic] at h),hS.2⟩)
 ·intro k ok hk hki hok;have:=List.all_eq_true.1 h4 k hk;rw [hok] at this;simp only [Bool.or_eq_true,beq_iff_eq] at this;rcases this with h|h
  ·exact absurd h hki
  ·have h' : ∃ (i:Nat),∃ h,Region.binds md ok.after[i]=true∧ok.after[i].on∈D:=by simpa using h
   obtain ⟨j,hj,hb⟩:=h';exact ⟨_,Array.getElem_mem hj,hb⟩
 ·intro k hk;have:=List.all_eq_true.1 h5 k hk;simpa using this
theorem Qwh (i:Nat) {o:Oper} {fuel:Nat} {listed:Array Bool} {a:Act} {w:World} (hr:Region.ready md ops listed=[i]) (ho:ops[i]? = some o)
  (h:∀ K' : Act→World→Prop,(∀ a w,StG c N T (listed.setIfInBounds i true) w→(StG c N T (listed.setIfInBounds i true) w→Qxn P md ops Q c N T fuel (listed.setIfInBounds i true) a w)→K' a w)→if Region.wanted o (yielded ops a.tmps)=true then Oper.wp P o a w K' Q else K' (a.put o.dst undef) w) :
  Qxn P md ops Q c N T (fuel+1) listed a w:=by
 refine ⟨fun h0=>absurd (hr ▸ h0) (by simp),fun j hj=>?_⟩;rw [hr] at hj;obtain rfl:j=i:=by simpa using hj
 exact wpOp_step ho (fun K' hK=>h K' (fun a w hS hW=>hK a w ⟨hS,hW hS⟩))
theorem Q97 {listed:Array Bool} {a:Act} {w:World} (hr:Region.ready md ops listed=[]) (h:Q .normal a w):∀ fuel,Qxn P md ops Q c N T fuel listed a w
 | 0=>⟨hr,h⟩
 | _+1=>⟨fun _=>h,by rw [hr];simp⟩
theorem Q98 (c:Nat) (N T:World→Prop) {id:Nat} {a:Act} {w:World} (hm:P.follows .mixedOrders=true) (hN:N w.drew) (hT:T w.drew)
  (h:StG c N T (Array.replicate ops.size false) w.drew→Qxn P .any ops Q c N T ops.size (Array.replicate ops.size false) a w.drew):(Code.region id ops true).wp P Q a w :=
 wp_region_any hm (Q5r _ _ _ _ (h ⟨fun _=>hN,hT⟩))
end
end Go
end
section
namespace Go.Proofs
open Go.Shelf Go.RowKit Go.Lib Go.Sort Go.Abs
attribute [local go_sem] Oper.semAt_some
set_option maxRecDepth 100000
set_option maxHeartbeats 4000000
theorem CompI.same {w0 W:World} {L:Nat} {pre pre' : List Bool} (h:CompI w0 L pre W) (e:Qkt pre'=Qkt pre):CompI w0 L pre' W:=by
 obtain ⟨h1,h2,h3,h4,h5,h6⟩:=h;rw [← e] at h3 h6;exact ⟨h1,h2,h3,h4,h5,h6⟩
theorem Qbhp {w:World} {n:Nat} {x0 x1:Value} {t:TypeId} (h:w.heap[n]? = some (.cells #[x0,x1] t (0,0))):w.cell? ⟨n,0,none⟩=some x0∧w.frozen? ⟨n,0,none⟩=false:=⟨(Q3y h).1,by simp [World.frozen?,h]⟩
theorem Tryz.comp_walk (ba oa ca be oe ce cm:Nat) (mk:Option Addr) (w:World) (hba:ba<w.heap.size) (hbe:be<w.heap.size) (a0:w.cell? ⟨ba,oa,none⟩=some (.int .i64 0)) (a1:w.cell? ⟨ba,oa+1,none⟩=some (.int .i64 1))
  (e0:w.cell? ⟨be,oe,none⟩=some (.int .i64 0)) (e1:w.cell? ⟨be,oe+1,none⟩=some (.int .i64 0)) (e2:w.cell? ⟨be,oe+2,none⟩=some (.int .i64 0)) :
  Calls Tryz.prog 57 #[.agg #[.slice (some ⟨ba,oa,none⟩) 2 ca,.int .i64 2,.slice mk 0 cm,.slice (some ⟨be,oe,none⟩) 1 ce]] w fun e w' =>
   ∃ g cap A0 A1 c0 c1,e = .returned (.tuple #[.slice (some ⟨g,0,none⟩) 2 cap,.int .i64 0])∧Below w.heap.size w w'∧w.heap.size≤g∧w.heap.size≤A0∧w.heap.size≤A1 ∧
    2≤cap∧1≤c0∧1≤c1 ∧
    w'.cell? ⟨g,0,none⟩=some (.slice (some ⟨A0,0,none⟩) 1 c0)∧w'.cell? ⟨g,1,none⟩=some (.slice (some ⟨A1,0,none⟩) 1 c1)∧w'.cell? ⟨A0,0,none⟩=some (.int .i64 0)∧w'.cell? ⟨A1,0,none⟩=some (.int .i64 1):=by
 have h0:Below w.heap.size w (w.alloc (.cells #[.slice (some ⟨ba,oa,none⟩) 2 ca,.int .i64 2,.slice mk 0 cm,.slice (some ⟨be,oe,none⟩) 1 ce] 35)):=(Below.refl _ w).alloc (Nat.le_refl _) _;have mk49:∀ w,(Instr.makeSlice 49 (.int .i64 2) (.int .i64 2)).run Tryz.prog w = .ok (.slice (some ⟨w.heap.size,0,none⟩) 2 2) (w.alloc (.cells #[.bool false,.bool false] 4)):=fun _=>by kernel_rfl
 have mk45:∀ w,(Instr.makeSlice 45 (.int .i64 2) (.int .i64 2)).run Tryz.prog w = .ok (.slice (some ⟨w.heap.size,0,none⟩) 2 2) (w.alloc (.cells #[.slice none 0 0,.slice none 0 0] 32)):=fun _=>by kernel_rfl
 have mk32:∀ w,(Instr.makeSlice 32 (.int .i64 2) (.int .i64 2)).run Tryz.prog w = .ok (.slice (some ⟨w.heap.size,0,none⟩) 2 2) (w.alloc (.cells #[.int .i64 0,.int .i64 0] 3)):=fun _=>by kernel_rfl
 obtain ⟨i0,hi0,hz0,hz1,hz2⟩:=info_parts Tryz.int_parts;obtain ⟨i1,hj0,hj1,hj2,hj3⟩:=info_parts Tryz.slice_parts;refine (callsIn_wide (n:=6)).1 (callsIn_of_wp_marks Tryz.func57 rfl trivial (wpIn_wide.2 ?_) rfl);simp only [Tryz.ntmps57,List.size_toArray,List.length_cons,List.length_nil,Nat.reduceAdd,Nat.reduceSub,Array.replicate_succ,Array.replicate_zero,List.push_toArray,List.append_toArray,List.nil_append,List.cons_append]
 go_wp2_with (first
  | (
     go_at_call 79
     refine (Tryz.check_at ba oa ca be oe ce cm mk _ (by simp;omega) (by simp;omega) ((h0.cell hba).trans a0) ((h0.cell hba).trans a1) ((h0.cell hbe).trans e0) ((h0.cell hbe).trans e1) ((h0.cell hbe).trans e2)).mono ?_;rintro e' w1 ⟨rfl,hb1⟩;replace hb1:=hb1.mono (B':=w.heap.size+1) (by simp);obtain ⟨g0,g1,g2,g3⟩:=Qyf hb1;have z1:w.heap.size+1≤w1.heap.size:=by have:=hb1.size;simp at this;omega
    )
  | (
     go_at_call 91
     refine (Tryz.graph_walk _ _ _ _ be oe _ _ ((hb1.cell (p:=⟨_,_,none⟩) (by simp;omega)).trans ((h0.cell hbe).trans e0)) ((hb1.cell (p:=⟨_,_,none⟩) (by simp;omega)).trans ((h0.cell hbe).trans e1)) ((hb1.cell (p:=⟨_,_,none⟩) (by simp;omega)).trans ((h0.cell hbe).trans e2)) (by omega)).mono ?_;rintro e' w2 ⟨B,rfl,hBl,hB,hb2⟩;have hb3:=hb1.trans (hb2.mono z1);obtain ⟨g0',g1',g2',g3'⟩:=Qyf hb3;have z2:w1.heap.size≤w2.heap.size:=hb2.size;have hB2:B<w2.heap.size:=(Array.getElem?_eq_some_iff.1 hB).1;have E0:w2.cell? ⟨be,oe,none⟩=some (.int .i64 0):=(hb3.cell (p:=⟨_,_,none⟩) (by simp;omega)).trans ((h0.cell hbe).trans e0);have E1:w2.cell? ⟨be,oe+1,none⟩=some (.int .i64 0):=(hb3.cell (p:=⟨_,_,none⟩) (by simp;omega)).trans ((h0.cell hbe).trans e1);have E2:w2.cell? ⟨be,oe+2,none⟩=some (.int .i64 0):=(hb3.cell (p:=⟨_,_,none⟩) (by simp;omega)).trans ((h0.cell hbe).trans e2);have B0:w2.cell? ⟨B,0,none⟩=some (.int .i64 0):=by simp only [World.cell?,hB];rfl
     have B1:w2.cell? ⟨B,1,none⟩=some (.int .i64 1):=by simp only [World.cell?,hB];rfl
     have B2:w2.cell? ⟨B,2,none⟩=some (.int .i64 1):=by simp only [World.cell?,hB];rfl
     have k1:w.heap.size<w2.heap.size:=by omega
     have k2:w.heap.size<w2.heap.size+1:=by omega
     have k3:w.heap.size<w2.heap.size+1+1:=by omega
     have k4:w.heap.size≠w2.heap.size:=by omega
     have k5:w.heap.size≠w2.heap.size+1:=by omega
     have hX:=fun o1 o2=>((Below.refl w2.heap.size w2).alloc (Nat.le_refl _) o1).alloc (by simp) o2
    ))
 refine wp_loop_rounds 3 ?_;rw [rounds_succ]
 go_wp2_with (first
  | (
     go_at_call 92
     refine (Tryz.finish0_walk _ _ _ _ be oe _ B (w2.heap.size+1) _ w2.heap.size (by simp;omega) (.slice none 0 0) 0 [] (by omega) ⟨rfl,.inl ⟨rfl,rfl⟩⟩ (by simp [Value.ownBlock]) (((hX _ _).cell (p:=⟨_,_,none⟩) (by simp;omega)).trans E0) (((hX _ _).cell (p:=⟨_,_,none⟩) (by simp;omega)).trans E1) (((hX _ _).cell (p:=⟨_,_,none⟩) (by simp;omega)).trans E2) (by simp;omega) (by omega) (((hX _ _).cell (p:=⟨_,_,none⟩) (by simp;omega)).trans B0) (((hX _ _).cell (p:=⟨_,_,none⟩) (by simp;omega)).trans B1) (((hX _ _).cell (p:=⟨_,_,none⟩) (by simp;omega)).trans B2) (by simp;omega) (.bool false) (Qhg _ _ _ (by simp)) (by omega)).mono ?_;rintro e' w4 ⟨g4,cap4,rfl,hown4,hS4,hF4,hg4⟩;replace hg4:w2.heap.size+1+1≤g4:=by simpa [Value.ownBlock] using hg4
     have z4:w2.heap.size+1+1≤w4.heap.size:=by simpa using hF4.size
     have b4:Below w2.heap.size w2 w4:=⟨hF4.os,hF4.tape,hF4.output,by omega,fun k hk=>(hF4.block k (by simp;omega) ⟨by omega,by simp [Value.ownBlock]⟩).trans ((hX _ _).block k hk)⟩;have hG4:=(hF4.block w2.heap.size (by simp;omega) ⟨by omega,by simp [Value.ownBlock]⟩).trans ((Qbx _ _ _ (by simp)).trans (Qhg _ _ _ rfl));obtain ⟨y0,y1,y2,y3,y4⟩:=Qbho hG4;obtain ⟨s0,s1⟩:=Q3y hS4;have B0:=(b4.cell (p:=⟨_,_,none⟩) (by simp;omega)).trans B0;have B1:=(b4.cell (p:=⟨_,_,none⟩) (by simp;omega)).trans B1;have B2:=(b4.cell (p:=⟨_,_,none⟩) (by simp;omega)).trans B2;have hb4:=hb3.trans (b4.mono (by omega));obtain ⟨g0,g1,g2,g3⟩:=Qyf hb4;have q4:=Qbbp hown4 (by omega)
    ))
 rw [rounds_succ]
 go_wp2_with (
    go_at_call 92
    refine (Tryz.finish1_walk _ _ _ _ be oe _ B (w2.heap.size+1) w4 w2.heap.size (by omega) _ 1 _ (by omega) hown4 (by simp [Value.ownBlock];omega) B0 B1 B2 (by omega) (.bool true) hS4 (by omega)).mono ?_;rintro e' w5 ⟨g5,cap5,rfl,hown5,hS5,hF5,hg5⟩;have b5:Below w2.heap.size w2 w5:=⟨hF5.os.trans b4.os,hF5.tape.trans b4.tape,hF5.output.trans b4.output,Nat.le_trans b4.size hF5.size,fun k hk=>(hF5.block k (by omega) ⟨by omega,by simp [Value.ownBlock];omega⟩).trans (b4.block k hk)⟩;have hb5:=hb3.trans (b5.mono (by omega));obtain ⟨g0,g1,g2,g3⟩:=Qyf hb5;have q5:=Qbbp hown5 (by omega);have o0:=Qzm hown5 (i:=0) rfl;have o1:=Qzm hown5 (i:=1) rfl
   )
 have E0:=(b5.cell (p:=⟨_,_,none⟩) (by simp;omega)).trans E0;have E1:=(b5.cell (p:=⟨_,_,none⟩) (by simp;omega)).trans E1;have E2:=(b5.cell (p:=⟨_,_,none⟩) (by simp;omega)).trans E2;have z5:w2.heap.size+1+1≤w5.heap.size:=by have:=hF5.size;omega
 have k1:w.heap.size<w5.heap.size:=by omega
 have k2:w.heap.size<w5.heap.size+1:=by omega
 have k3:w.heap.size<w5.heap.size+1+1:=by omega
 have k3' : w.heap.size<w5.heap.size+1+1+1:=by omega
 have k4:w.heap.size≠w5.heap.size:=by omega
 have k5:w.heap.size≠w5.heap.size+1:=by omega
 have k6:w.heap.size≠w5.heap.size+1+1:=by omega
 have j1:be<w5.heap.size:=by omega
 have j2:be<w5.heap.size+1:=by omega
 have j3:be<w5.heap.size+1+1:=by omega
 have j4:be≠w5.heap.size:=by omega
 have j5:be≠w5.heap.size+1:=by omega
 have j6:be≠w5.heap.size+1+1:=by omega
 clear mk49 hX hF4 hS4 hF5 hS5 hG4 b4 B0 B1 B2 s0 s1 y0 y1 y2 y3 y4;rw [rounds_succ]
 go_wp2
 refine wp_loop_rounds 2 ?_;rw [rounds_succ]
 go_upto_block 3 with fail
 go_cut [11] from 55 to 69 (fun s11 wx=>∃ g6 cap6,Below w5.heap.size w5 wx∧w5.heap.size+4≤g6∧g6<wx.heap.size∧1≤cap6∧wx.cell? ⟨g6,0,none⟩=some (.int .i64 0) ∧
   wx.heap[w5.heap.size]? = some (.cells #[.slice (some ⟨g6,0,none⟩) 1 cap6,.slice none 0 0] 32 (0,0))∧wx.heap[w5.heap.size+1]? = some (.cells #[.slice (some ⟨w5.heap.size,0,none⟩) 2 2] 45 (0,0)))
 case first =>
  go_wp2
  refine wp_region_noPanic ?_;refine Q98 13 (fun w=>w.cell? ⟨w5.heap.size,0,none⟩=some (.slice none 0 0)∧w.frozen? ⟨w5.heap.size,0,none⟩=false)
   (fun w=>w.cell? ⟨w5.heap.size+1,0,none⟩=some (.slice (some ⟨w5.heap.size,0,none⟩) 2 2)∧w.cell? ⟨w5.heap.size+1+1,0,none⟩=some (.int .i64 0)∧w.cell? ⟨w5.heap.size+1+1,2,none⟩=some (.int .i64 0)) (by kernel_rfl) ?_ ?_ (fun hG=>?_)
  ·refine Qbhp (x1:=.slice none 0 0) (t:=32) ?_;exact (Qbx _ _ _ (by simp<;>omega)).trans ((Qbx _ _ _ (by simp)).trans (Qhg _ _ _ rfl))
  ·exact Qbj6 rfl
  refine Qhk (v:=?_) 0 [0] rfl (by kernel_rfl) (by exact fun _ _ _ h=>h) hG (by rfl) ?_ (fun hG=>?_)
  rotate_left
  ·intro w hw;obtain ⟨hw1,hw2,hw3,hw4⟩:=hw
   go_simp
   try rfl
  simp only [Act.put,List.setIfInBounds_toArray,List.set_cons_zero,List.set_cons_succ];refine Qhk (v:=?_) 1 [1] rfl (by kernel_rfl) (by exact fun _ _ _ h=>h) hG (by rfl) ?_ (fun hG=>?_)
  rotate_left
  ·intro w hw;obtain ⟨hw1,hw2,hw3,hw4⟩:=hw
   go_simp
   try rfl
  simp only [Act.put,List.setIfInBounds_toArray,List.set_cons_zero,List.set_cons_succ];refine Qhk (v:=?_) 2 [2] rfl (by kernel_rfl) (by exact fun _ _ _ h=>h) hG (by rfl) ?_ (fun hG=>?_)
  rotate_left
  ·intro w hw;obtain ⟨hw1,hw2,hw3,hw4⟩:=hw
   go_simp
   try rfl
  simp only [Act.put,List.setIfInBounds_toArray,List.set_cons_zero,List.set_cons_succ];refine Qhk (v:=?_) 3 [3] rfl (by kernel_rfl) (by exact fun _ _ _ h=>h) hG (by rfl) ?_ (fun hG=>?_)
  rotate_left
  ·intro w hw;obtain ⟨hw1,hw2,hw3,hw4⟩:=hw
   go_simp
   try rfl
  simp only [Act.put,List.setIfInBounds_toArray,List.set_cons_zero,List.set_cons_succ];refine Qhk (v:=?_) 4 [4] rfl (by kernel_rfl) (by exact fun _ _ _ h=>h) hG (by rfl) ?_ (fun hG=>?_)
  rotate_left
  ·intro w hw;obtain ⟨hw1,hw2,hw3,hw4⟩:=hw
   go_simp
   try rfl
  simp only [Act.put,List.setIfInBounds_toArray,List.set_cons_zero,List.set_cons_succ];refine Qhk (v:=?_) 5 [5] rfl (by kernel_rfl) (by exact fun _ _ _ h=>h) hG (by rfl) ?_ (fun hG=>?_)
  rotate_left
  ·intro w hw;obtain ⟨hw1,hw2,hw3,hw4⟩:=hw
   go_simp
   try rfl
  simp only [Act.put,List.setIfInBounds_toArray,List.set_cons_zero,List.set_cons_succ];refine Qhk (v:=?_) 6 [6] rfl (by kernel_rfl) (by exact fun _ _ _ h=>h) hG (by rfl) ?_ (fun hG=>?_)
  rotate_left
  ·intro w hw;obtain ⟨hw1,hw2,hw3,hw4⟩:=hw
   go_simp
   try rfl
  simp only [Act.put,List.setIfInBounds_toArray,List.set_cons_zero,List.set_cons_succ];refine Qhk (v:=?_) 7 [7,11,13] rfl (by kernel_rfl) (by exact fun _ _ _ h=>h) hG (by rfl) ?_ (fun hG=>?_)
  rotate_left
  ·intro w hw;obtain ⟨hw1,hw2,hw3,hw4⟩:=hw;have hn:=(hw1 (by decide)).1
   go_simp
   try rfl
  simp only [Act.put,List.setIfInBounds_toArray,List.set_cons_zero,List.set_cons_succ];refine Qhk (v:=?_) 8 [8] rfl (by kernel_rfl) (by exact fun _ _ _ h=>h) hG (by rfl) ?_ (fun hG=>?_)
  rotate_left
  ·intro w hw;obtain ⟨hw1,hw2,hw3,hw4⟩:=hw
   go_simp
   try rfl
  simp only [Act.put,List.setIfInBounds_toArray,List.set_cons_zero,List.set_cons_succ];refine Qhk (v:=?_) 9 [9] rfl (by kernel_rfl) (by exact fun _ _ _ h=>h) hG (by rfl) ?_ (fun hG=>?_)
  rotate_left
  ·intro w hw;obtain ⟨hw1,hw2,hw3,hw4⟩:=hw
   go_simp
   try rfl
  simp only [Act.put,List.setIfInBounds_toArray,List.set_cons_zero,List.set_cons_succ];refine Qwh 10 (by kernel_rfl) rfl (fun K hK=>?_)
  go_simp
  refine hK _ _ ⟨fun _=>?_,Qblh rfl⟩ (fun hG=>?_)
  ·obtain ⟨_,_,k0,_,f,_⟩:=Q6w (w5:=w5) (World.grownBy.refl _ none) (W:=(((w5.alloc (.cells #[.slice none 0 0,.slice none 0 0] 32)).alloc (.cells #[.slice (some ⟨w5.heap.size,0,none⟩) 2 2] 45)).alloc (.cells #[.int .i64 0,.int .i64 0,.int .i64 0] 51)).drew.alloc (.cells #[.int .i64 0] 3)) rfl;exact ⟨k0,f⟩
  clear hK K
  try simp only [Act.put,List.setIfInBounds_toArray,List.set_cons_zero,List.set_cons_succ]
  refine Qwh 11 (by kernel_rfl) rfl (fun K hK=>?_);refine Tryz.step17 rfl rfl rfl rfl rfl rfl rfl rfl ?_;rintro g6 cap6 w6 ⟨n0,fN,i1,x0,x2,hc⟩;refine hK _ _ ⟨fun _=>⟨n0,fN⟩,i1,x0,x2⟩ (fun hG=>?_);clear hK K
  try simp only [Act.put,List.setIfInBounds_toArray,List.set_cons_zero,List.set_cons_succ]
  refine Qwh 12 (by kernel_rfl) rfl (fun K hK=>?_)
  go_simp
  refine hK _ _ ⟨fun _=>⟨n0,fN⟩,i1,x0,x2⟩ (fun hG=>?_);clear hK K
  try simp only [Act.put,List.setIfInBounds_toArray,List.set_cons_zero,List.set_cons_succ]
  refine Qwh 13 (by kernel_rfl) rfl (fun K hK=>?_)
  go_simp
  refine hK _ _ ⟨fun h=>absurd h (by decide),(Qqt _ _ _ _ _ (by simp)).trans i1,(Qqt _ _ _ _ _ (by simp;omega)).trans x0,(Qqt _ _ _ _ _ (by simp;omega)).trans x2⟩ (fun hG=>?_);clear hK K;refine Q97 (by kernel_rfl) ?_ _;refine NoPanic.normal ?_
  go_wp2_with fail
  go_meet
  exact ⟨g6,cap6,hc _⟩
 case rest =>
  obtain ⟨g6,cap6,b6,q6,q6',q6c,r0,hN6,hI6⟩:=hcut;clear mk45;have hb6:=hb5.trans (b6.mono (by omega));obtain ⟨g0,g1,g2,g3⟩:=Qyf hb6;have z6:=b6.size;have k1:w.heap.size<wc.heap.size:=by omega
  have k2:w.heap.size<wc.heap.size+1:=by omega
  have k3:w.heap.size<wc.heap.size+1+1:=by omega
  have k4:w.heap.size≠wc.heap.size:=by omega
  have k5:w.heap.size≠wc.heap.size+1:=by omega
  go_wp2
  rw [rounds_succ]
  go_wp2
  have cO0:=(b6.cell (p:=⟨g5,0,none⟩) (by simp;omega)).trans o0;have cO1:=(b6.cell (p:=⟨g5,1,none⟩) (by simp;omega)).trans o1;refine (wpIn_wide (n:=6)).1 ?_;refine' wpIn_rangeFunc_ownG rfl (by omega) (gf:=130) (lb:=#[.pointer (some ⟨wc.heap.size+1+1+1,0,none⟩)]) rfl trivial (enters_of Tryz.func130 (by kernel_rfl) rfl)
   (Tryz.back_stops Fence.wide 5 trivial rfl (by omega) (wc.heap.size+1+1+1) g5 cap5 _ (by simp) (by simp;omega) ?bs ?p0 ?p1) (fun h k=>Keep2.trans h k) ?kb (Below.refl _ _) (fun _=>rfl)
   (CompI wc wc.heap.size) (fun _ _ _=>False) ?own (fun _ _ _ _ _ hs _ _=>hs) ?start _ ?assign ?body ?done ?stop
  case bs=>exact Qkl (Qhg _ _ _ (by simp))
  case p0=>exact (((((Below.refl wc.heap.size wc).alloc (Nat.le_refl _) _).alloc (by simp) _).alloc (by simp;omega) _).alloc (by simp;omega) _ |>.cell (p:=⟨_,_,none⟩) (by simp;omega)).trans cO0
  case p1=>exact (((((Below.refl wc.heap.size wc).alloc (Nat.le_refl _) _).alloc (by simp) _).alloc (by simp;omega) _).alloc (by simp;omega) _ |>.cell (p:=⟨_,_,none⟩) (by simp;omega)).trans cO1
  case kb =>
   intro W l o o' hl _ _ _;simp at hl;exact ⟨World.putObj_heap_other (by omega),World.putObj_heap_other (by omega)⟩
  case own =>
   have e:((((wc.alloc (Obj.cells #[Value.int IntKind.i64 0,Value.int IntKind.i64 0] 3)).alloc (Obj.cells #[Value.slice (some { block:=wc.heap.size,off:=0 }) 2 2] 32)).alloc (Obj.cells #[Value.slice none 0 0] 45)).alloc (Obj.cells #[Value.slice (some { block:=g5,off:=0 }) 2 cap5] 32)).heap.size=wc.heap.size+4:=by simp
   rw [e];exact CompI.own
  case start =>
   refine ⟨((((Below.refl wc.heap.size wc).alloc (Nat.le_refl _) _).alloc (by simp) _).alloc (by simp<;>omega) _).alloc (by simp<;>omega) _,by simp,?_,⟨_,Qhg _ _ _ (by simp)⟩,?_,.slice none 0 0,[],?_,⟨rfl,.inl ⟨rfl,rfl⟩⟩,fun i b hi=>by simp [Qkt] at hi⟩
   ·exact (Qbx _ _ _ (by simp<;>omega)).trans ((Qbx _ _ _ (by simp<;>omega)).trans ((Qbx _ _ _ (by simp)).trans (Qhg _ _ _ rfl)))
   ·exact (Qbx _ _ _ (by simp<;>omega)).trans ((Qbx _ _ _ (by simp)).trans (Qhg _ _ _ (by simp)))
   ·exact (Qbx _ _ _ (by simp)).trans (Qhg _ _ _ (by simp))
  case assign =>
   intro l x W K hK
   gi_wp2
   exact hK
  case stop =>
   rintro D c pre W _ _ h _;exact h.elim
  case body =>
   intro l pre x W hI hlt;have hz:=hI.size;have hb:=hI.below;obtain ⟨gv,rows,hgb,hown,hrows⟩:=hI.gb;have t0:=(hb.cell (p:=⟨w5.heap.size+1,0,none⟩) (by simp;omega)).trans (Qkl hI6);obtain ⟨n0,n1⟩:=Q3y hN6;have t1:=(hb.cell (p:=⟨w5.heap.size,0,none⟩) (by simp;omega)).trans n0;have t2:=(hb.cell (p:=⟨w5.heap.size,1,none⟩) (by simp;omega)).trans n1;have t3:=(hb.cell (p:=⟨g6,0,none⟩) (by simp;omega)).trans r0;obtain ⟨c0,c1⟩:=Q3y hI.cl;have f0:W.frozen? ⟨wc.heap.size,0,none⟩=false:=by simp [World.frozen?,hI.cl]
   have f1:W.frozen? ⟨wc.heap.size,1,none⟩=false:=by simp [World.frozen?,hI.cl]
   have fg:W.frozen? ⟨wc.heap.size+1+1,0,none⟩=false:=by simp [World.frozen?,hgb]
   have d0:=Qkl hI.cb;have d1:=Qkl hgb;have u1:wc.heap.size<W.heap.size:=by omega
   have u2:wc.heap.size+1<W.heap.size:=by omega
   have u3:wc.heap.size+1+1<W.heap.size:=by omega
   have u4:w5.heap.size<W.heap.size:=by omega
   have u5:w5.heap.size+1<W.heap.size:=by omega
   have u6:g6<W.heap.size:=by omega
   have v1:wc.heap.size≠W.heap.size:=by omega
   have v2:wc.heap.size+1≠W.heap.size:=by omega
   have v3:wc.heap.size+1+1≠W.heap.size:=by omega
   have v4:w5.heap.size≠W.heap.size:=by omega
   have v5:w5.heap.size+1≠W.heap.size:=by omega
   have v6:g6≠W.heap.size:=by omega
   have n1' : w5.heap.size≠wc.heap.size:=by omega
   have n2' : w5.heap.size+1≠wc.heap.size:=by omega
   have n3' : g6≠wc.heap.size:=by omega
   have n4' : wc.heap.size+1≠wc.heap.size:=by omega
   have n5' : wc.heap.size+1+1≠wc.heap.size:=by omega
   match pre,hlt with
   | [],_ =>
    have hgv:∃ a cap,gv = .slice a 0 cap:=by
     rcases hown.2 with ⟨rfl,_⟩|⟨g,cap,cur,rfl,_⟩
     ·exact ⟨_,_,rfl⟩
     ·exact ⟨_,_,rfl⟩
    obtain ⟨gva,gvc,rfl⟩:=hgv;cases x with
    | true =>
     simp only [Qkt,clOf,stN,if_true] at c0 c1 ⊢
     gi_wp2
     refine wpIn_loop_rounds 2 ?_;rw [roundsIn_succ]
     gi_wp2
     refine Qgb rfl (by kernel_rfl) (by kernel_rfl) (by kernel_rfl) ?_
     repeat (quiet_step_in (fail))
     refine wpQuietIn_nil ?_;rintro _ ⟨nq,rfl⟩
     gi_wp2
     refine wpIn_loop_rounds 1 ?_;rw [roundsIn_succ]
     gi_wp2
     rw [roundsIn_succ]
     gi_wp2_with fail
     refine ⟨trivial,(CallsIn.inRound l (callsIn_wide.2 (Tryz.sortI_few 1 (by omega) _ _ _))).mono ?_⟩;rintro e' w' ⟨rfl,rfl⟩;have hne:=Qvl hown (b:=wc.heap.size) (by omega);have hown':=(ownsRow_setCell_other hown hne (a:=⟨wc.heap.size,1,none⟩) (.int .i64 1)).alloc (.cells #[.int .i64 1] 3);have m7:0+1≤maxLen:=by simp only [maxLen];omega
     gi_wp2_with (gi_at_builtin;refine wpListIn_append_own _ rfl (.tmp 126) (.tmp 128) 45 rfl (wc.heap.size+4) 32 i1 (.slice none 0 0) 1 24 Tryz.underlying45 hj0 hj1 hj2 hj3 rfl (by omega) (.slice gva 0 gvc) 0 rows rfl (hown'.alloc _) ⟨W.heap.size+1,0,none⟩ 1 1 [.slice (some ⟨W.heap.size,0,none⟩) 1 1] rfl rfl (Q2e _ _ _ _ (by simp)) (by simp [Value.oneCell']) m7 (by omega) (by simp;omega) ?_;intro v' w7 hown7 hgrow7 hnil7;obtain ⟨g7,cap7,rfl⟩:=ownsRow_succ hown7;have gb7:=(Qqu hgrow7 rfl (k:=wc.heap.size+1+1) (by omega) (Qvl hown (by omega)).symm).trans ((Qen _ _ _ _ (by simp<;>omega)).trans hgb);have gc7:=Qkl gb7;have gf7:w7.frozen? ⟨wc.heap.size+1+1,0,none⟩=false:=by simp [World.frozen?,gb7])
     exact CompI.next (pre:=[]) (x:=true) hI rfl (heap_setCell_same _ _ _ _ _ _ hI.cl) hgb hown hrows hgrow7 rfl rfl rfl rfl hown7 rfl rfl (by omega)
    | false =>
     simp only [Qkt,clOf,stN,Bool.false_eq_true,if_false] at c0 c1 ⊢
     gi_wp2
     refine wpIn_loop_rounds 2 ?_;rw [roundsIn_succ]
     gi_wp2
     refine Qgb rfl (by kernel_rfl) (by kernel_rfl) (by kernel_rfl) ?_
     repeat (quiet_step_in (fail))
     refine wpQuietIn_nil ?_;rintro _ ⟨nq,rfl⟩
     gi_wp2
     refine wpIn_loop_rounds 2 ?_;rw [roundsIn_succ]
     gi_wp2
     rw [roundsIn_succ]
     gi_wp2
     rw [roundsIn_succ]
     gi_wp2_with fail
     refine ⟨trivial,(CallsIn.inRound l (callsIn_wide.2 (Tryz.sortI_few 1 (by omega) _ _ _))).mono ?_⟩;rintro e' w' ⟨rfl,rfl⟩;have hne:=Qvl hown (b:=wc.heap.size) (by omega);have hown':=(ownsRow_setCell_other hown hne (a:=⟨wc.heap.size,0,none⟩) (.int .i64 1)).alloc (.cells #[.int .i64 0] 3);have m7:0+1≤maxLen:=by simp only [maxLen];omega
     gi_wp2_with (gi_at_builtin;refine wpListIn_append_own _ rfl (.tmp 126) (.tmp 128) 45 rfl (wc.heap.size+4) 32 i1 (.slice none 0 0) 1 24 Tryz.underlying45 hj0 hj1 hj2 hj3 rfl (by omega) (.slice gva 0 gvc) 0 rows rfl (hown'.alloc _) ⟨W.heap.size+1,0,none⟩ 1 1 [.slice (some ⟨W.heap.size,0,none⟩) 1 1] rfl rfl (Q2e _ _ _ _ (by simp)) (by simp [Value.oneCell']) m7 (by omega) (by simp;omega) ?_;intro v' w7 hown7 hgrow7 hnil7;obtain ⟨g7,cap7,rfl⟩:=ownsRow_succ hown7;have gb7:=(Qqu hgrow7 rfl (k:=wc.heap.size+1+1) (by omega) (Qvl hown (by omega)).symm).trans ((Qen _ _ _ _ (by simp<;>omega)).trans hgb);have gc7:=Qkl gb7;have gf7:w7.frozen? ⟨wc.heap.size+1+1,0,none⟩=false:=by simp [World.frozen?,gb7])
     exact CompI.next (pre:=[]) (x:=false) hI rfl (heap_setCell_same _ _ _ _ _ _ hI.cl) hgb hown hrows hgrow7 rfl rfl rfl rfl hown7 rfl rfl (by omega)
   | [y],_ =>
    have hgv:∃ gg gcap,gv = .slice (some ⟨gg,0,none⟩) 1 gcap:=by
     cases y
     ·obtain ⟨g,c,h⟩:=ownsRow_succ (k:=0) hown;exact ⟨g,c,h⟩
     ·obtain ⟨g,c,h⟩:=ownsRow_succ (k:=0) hown;exact ⟨g,c,h⟩
    obtain ⟨gg,gcap,rfl⟩:=hgv;cases y with
    | true =>
     cases x with
     | true =>
      simp only [Qkt,clOf,stN,if_true,Bool.false_eq_true,if_false] at c0 c1 ⊢
      gi_wp2
      exact ⟨⟨Nat.le_refl _,fun _ _ _ h _=>h⟩,Keep2.refl _,hI.same rfl⟩
     | false =>
      simp only [Qkt,clOf,stN,if_true,Bool.false_eq_true,if_false] at c0 c1 ⊢
      gi_wp2
      refine wpIn_loop_rounds 2 ?_;rw [roundsIn_succ]
      gi_wp2
      refine Qgb rfl (by kernel_rfl) (by kernel_rfl) (by kernel_rfl) ?_
      repeat (quiet_step_in (fail))
      refine wpQuietIn_nil ?_;rintro _ ⟨nq,rfl⟩
      gi_wp2
      refine wpIn_loop_rounds 2 ?_;rw [roundsIn_succ]
      gi_wp2
      rw [roundsIn_succ]
      gi_wp2
      rw [roundsIn_succ]
      gi_wp2_with fail
      refine ⟨trivial,(CallsIn.inRound l (callsIn_wide.2 (Tryz.sortI_few 1 (by omega) _ _ _))).mono ?_⟩;rintro e' w' ⟨rfl,rfl⟩;have hne:=Qvl hown (b:=wc.heap.size) (by omega);have hown':=(ownsRow_setCell_other hown hne (a:=⟨wc.heap.size,0,none⟩) (.int .i64 2)).alloc (.cells #[.int .i64 0] 3);have m7:1+1≤maxLen:=by simp only [maxLen];omega
      gi_wp2_with (gi_at_builtin;refine wpListIn_append_own _ rfl (.tmp 126) (.tmp 128) 45 rfl (wc.heap.size+4) 32 i1 (.slice none 0 0) 1 24 Tryz.underlying45 hj0 hj1 hj2 hj3 rfl (by omega) (.slice (some ⟨gg,0,none⟩) 1 gcap) 1 rows rfl (hown'.alloc _) ⟨W.heap.size+1,0,none⟩ 1 1 [.slice (some ⟨W.heap.size,0,none⟩) 1 1] rfl rfl (Q2e _ _ _ _ (by simp)) (by simp [Value.oneCell']) m7 (by omega) (by simp;omega) ?_;intro v' w7 hown7 hgrow7 hnil7;obtain ⟨g7,cap7,rfl⟩:=ownsRow_succ hown7;have gb7:=(Qqu hgrow7 rfl (k:=wc.heap.size+1+1) (by omega) (Qvl hown (by omega)).symm).trans ((Qen _ _ _ _ (by simp<;>omega)).trans hgb);have gc7:=Qkl gb7;have gf7:w7.frozen? ⟨wc.heap.size+1+1,0,none⟩=false:=by simp [World.frozen?,gb7])
      exact CompI.next (pre:=[true]) (x:=false) hI rfl (heap_setCell_same _ _ _ _ _ _ hI.cl) hgb hown hrows hgrow7 rfl rfl rfl rfl hown7 rfl rfl (by omega)
    | false =>
     cases x with
     | false =>
      simp only [Qkt,clOf,stN,if_true,Bool.false_eq_true,Bool.true_eq_false,reduceCtorEq,if_false] at c0 c1 ⊢
      gi_wp2
      exact ⟨⟨Nat.le_refl _,fun _ _ _ h _=>h⟩,Keep2.refl _,hI.same rfl⟩
     | true =>
      simp only [Qkt,clOf,stN,if_true,Bool.false_eq_true,Bool.true_eq_false,reduceCtorEq,if_false] at c0 c1 ⊢
      gi_wp2
      refine wpIn_loop_rounds 2 ?_;rw [roundsIn_succ]
      gi_wp2
      refine Qgb rfl (by kernel_rfl) (by kernel_rfl) (by kernel_rfl) ?_
      repeat (quiet_step_in (fail))
      refine wpQuietIn_nil ?_;rintro _ ⟨nq,rfl⟩
      gi_wp2
      refine wpIn_loop_rounds 1 ?_;rw [roundsIn_succ]
      gi_wp2
      rw [roundsIn_succ]
      gi_wp2_with fail
      refine ⟨trivial,(CallsIn.inRound l (callsIn_wide.2 (Tryz.sortI_few 1 (by omega) _ _ _))).mono ?_⟩;rintro e' w' ⟨rfl,rfl⟩;have hne:=Qvl hown (b:=wc.heap.size) (by omega);have hown':=(ownsRow_setCell_other hown hne (a:=⟨wc.heap.size,1,none⟩) (.int .i64 2)).alloc (.cells #[.int .i64 1] 3);have m7:1+1≤maxLen:=by simp only [maxLen];omega
      gi_wp2_with (gi_at_builtin;refine wpListIn_append_own _ rfl (.tmp 126) (.tmp 128) 45 rfl (wc.heap.size+4) 32 i1 (.slice none 0 0) 1 24 Tryz.underlying45 hj0 hj1 hj2 hj3 rfl (by omega) (.slice (some ⟨gg,0,none⟩) 1 gcap) 1 rows rfl (hown'.alloc _) ⟨W.heap.size+1,0,none⟩ 1 1 [.slice (some ⟨W.heap.size,0,none⟩) 1 1] rfl rfl (Q2e _ _ _ _ (by simp)) (by simp [Value.oneCell']) m7 (by omega) (by simp;omega) ?_;intro v' w7 hown7 hgrow7 hnil7;obtain ⟨g7,cap7,rfl⟩:=ownsRow_succ hown7;have gb7:=(Qqu hgrow7 rfl (k:=wc.heap.size+1+1) (by omega) (Qvl hown (by omega)).symm).trans ((Qen _ _ _ _ (by simp<;>omega)).trans hgb);have gc7:=Qkl gb7;have gf7:w7.frozen? ⟨wc.heap.size+1+1,0,none⟩=false:=by simp [World.frozen?,gb7])
      exact CompI.next (pre:=[false]) (x:=true) hI rfl (heap_setCell_same _ _ _ _ _ _ hI.cl) hgb hown hrows hgrow7 rfl rfl rfl rfl hown7 rfl rfl (by omega)
  case done =>
   intro D ys W hD hys hI hK;subst hys;obtain ⟨gv,rows,hgb,hown,hrows⟩:=hI.gb;obtain ⟨gg,gcap,rfl⟩ : ∃ gg gcap,gv = .slice (some ⟨gg,0,none⟩) 2 gcap:=ownsRow_succ (k:=1) hown;have d1:=Qkl hgb;obtain ⟨R1,r11,r12,r13,r14,r15⟩:=hrows 0 true rfl;obtain ⟨R0,r01,r02,r03,r04,r05⟩:=hrows 1 false rfl;have k0:=Qzm hown (i:=0) r11;have k1:=Qzm hown (i:=1) r01;obtain ⟨q1,q2,q3⟩:=Qbbp hown (by decide);have hgc:∃ c,W.heap[gg]? = some (.cells c 32 (0,0)):=by
    rcases hown.2 with ⟨h,_⟩|⟨g,cap,cur,hv,hb,hg,hc,_⟩
    ·cases h
    ·cases hv;exact ⟨_,hg⟩
   obtain ⟨gcur,hgc⟩:=hgc;have hDg:D≠gg:=by rintro rfl;rw [hgc] at hK;cases hK
   have n1:R1≠gg:=fun e=>r14 (by simp [Value.ownBlock,e]);have n0:R0≠gg:=fun e=>r04 (by simp [Value.ownBlock,e])
   go_wp2_with (go_at_call 60;refine (Tryz.two_sorted gg gcap R0 R1 1 1 W (Qkl r05) (Qkl r15) n0 n1 r03 r13 q2 k0 k1 (fun i=>by simp [World.frozen?,hgc])).mono ?_;rintro e' w' ⟨rfl,hF,s0,s1⟩;have d1':=(hF.cell (by omega) (by omega) 0).trans d1)
   have hK':=(hF.block D (Array.getElem?_eq_some_iff.1 hK).1 hDg).trans hK;refine ⟨by simp,.inl ⟨_,_,rfl,run_takeDeferred hK',?_⟩⟩;have hsz:(w'.putObj D (.deferred none)).heap.size=w'.heap.size:=by simp [World.putObj]
   have hz:=hI.size;have hzF:=hF.size;have z6':=hb6.size;simp at z6';have hD' : wc.heap.size+4≤D:=by simpa using hD
   have pc:∀ k i,k≠D→(w'.putObj D (.deferred none)).cell? ⟨k,i,none⟩=w'.cell? ⟨k,i,none⟩:=fun k i h=>by simp only [World.cell?,World.putObj_heap_other h]
   have nR1:R1≠D:=by rintro rfl;rw [r15] at hK;cases hK
   have nR0:R0≠D:=by rintro rfl;rw [r05] at hK;cases hK
   have b7:Below wc.heap.size wc (w'.putObj D (.deferred none)):=⟨hF.os.trans hI.below.os,hF.tape.trans hI.below.tape,hF.output.trans hI.below.output,by omega,fun k hk=>(World.putObj_heap_other (by omega)).trans ((hF.block k (by omega) (by omega)).trans (hI.below.block k hk))⟩;refine ⟨_,results_tmp2 rfl _ _ _,gg,gcap,R0,R1,1,1,rfl,(h0.trans (hb6.mono (by omega))).trans (b7.mono (by omega)),by omega,by omega,by omega,q3,Nat.le_refl _,Nat.le_refl _,(pc _ _ (Ne.symm hDg)).trans s0,(pc _ _ (Ne.symm hDg)).trans s1,?_,?_⟩
   ·exact (pc _ _ nR0).trans ((hF.cell r03 n0 0).trans (Qkl r05))
   ·exact (pc _ _ nR1).trans ((hF.cell r13 n1 0).trans (Qkl r15))
end Go.Proofs
end
section
namespace Go.Proofs
open Go.RowKit Go.Lib Go.Sort Go.Abs
theorem Tryz.componentsK:Go.Abs.K_reach_Components Tryz.prog 57 Qbj3:=by
 intro a1 r h M nb;unfold Qbj3 at h;split at h<;>cases h;rename_i ha;subst ha;refine ACalls.mk' (by kernel_rfl) (Nat.le_refl _) rfl fun w g us hm hMon hus hfl hons=>?_;obtain ⟨u,us',rfl,hu,hus'⟩:=hus;simp only [RFs] at hus';subst hus';have hu:=hu .free;simp only [Qbg,eI,RV,RVs,RD,RDL,RDc,List.map_cons,List.map_nil,List.length_cons,List.length_nil] at hu;obtain ⟨vs,rfl,⟨u1,us1,rfl,⟨p1,ca,rfl,hc1,hl1⟩,u2,us2,rfl,rfl,u3,us3,rfl,⟨mk,cm,rfl,-,-⟩,u4,us4,rfl,⟨p4,ce,rfl,hc4,hl4⟩,rfl⟩,-⟩:=hu;obtain ⟨ba,oa,rfl,-,⟨i1,⟨_,a0,rfl⟩,-⟩,-,⟨i2,⟨_,a1,rfl⟩,-⟩,-⟩:=hl1.resolve_left (by simp);obtain ⟨be,oe,rfl,-,⟨j1,⟨_,e0,rfl⟩,j2,⟨_,e1,rfl⟩,j3,⟨_,e2,rfl⟩,-⟩,-⟩:=hl4.resolve_left (by simp);refine Calls.mono (Tryz.comp_walk ba oa ca be oe ce cm mk w (hm.imm _ _ i1).1 (hm.imm _ _ j1).1 a0 a1 e0 e1 e2) ?_;rintro e w' ⟨gb,cap,A0,A1,c0,c1,rfl,hB,hg,hA0,hA1,k1,k2,k3,m0,m1,m2,m3⟩;let g' : G:={ box:=g.box,imm:=fun b o=>g.imm b o∨(b=gb∧o<2)∨((b=A0∨b=A1)∧o=0),own:=fun b=>if b<w.heap.size then g.own b else .ext };have hI:Imm g.imm g'.imm w w':=⟨fun b o h=>.inl h,fun b o hi=>Qd9 (hB.block b (hm.imm b o hi).1)⟩;have hown:∀ b,b<w.heap.size→g'.own b=g.own b∧w'.heap[b]? = w.heap[b]? ∧ ∀ o,g'.imm b o↔g.imm b o:=fun b hb=>⟨by simp [g',hb],hB.block b hb,fun o=>by simp only [g'];grind⟩;have hk:Kept g w g' w' (There M) (fun _=>True):=⟨hI,fun _ _=>rfl,fun b _ hlt=>hown b hlt⟩;have hnew:∀ b,w.heap.size≤b→g'.own b = .ext:=fun b h=>by simp only [g'];rw [if_neg (by omega)]
 have l0:gb<w'.heap.size:=Q9k (o:=0) (by rw [m0];rfl);have l1:A0<w'.heap.size:=Q9k (o:=0) (by rw [m2];rfl);have l2:A1<w'.heap.size:=Q9k (o:=0) (by rw [m3];rfl);refine ⟨_,g',rfl,hm.kept hk hMon (fun _ _ _=>trivial) trivial (fun _ _=>trivial) (fun b o hi=>?_),?_,?_,hMon,hB.os,hB.tape,hB.output,hB.size,hI,fun _ _=>rfl,fun b hb _=>hown b hb⟩
 ·rcases hi with hi|⟨rfl,_⟩|⟨rfl|rfl,_⟩
  ·obtain ⟨h1,h2⟩:=hm.imm b o hi;exact ⟨Nat.lt_of_lt_of_le h1 hB.size,fun k=>by rw [(hown b h1).1];exact h2 k⟩
  ·exact ⟨l0,fun k=>by rw [hnew _ hg];simp⟩
  ·exact ⟨l1,fun k=>by rw [hnew _ hA0];simp⟩
  ·exact ⟨l2,fun k=>by rw [hnew _ hA1];simp⟩
 ·have t0:g'.imm gb 0:=.inr (.inl ⟨rfl,by decide⟩);have t1:g'.imm gb 1:=.inr (.inl ⟨rfl,by decide⟩);have t2:g'.imm A0 0:=.inr (.inr ⟨.inl rfl,rfl⟩);have t3:g'.imm A1 0:=.inr (.inr ⟨.inr rfl,rfl⟩);simp only [RV,RVs,RD,RDL,RDc,eL,eI,List.map_cons,List.map_nil,List.length_cons,List.length_nil];refine ⟨[_,_],rfl,_,_,rfl,⟨_,_,rfl,k1,.inr ⟨gb,0,rfl,trivial,⟨t0,⟨_,m0,_,_,rfl,k2,.inr ⟨A0,0,rfl,trivial,⟨t2,⟨_,m2,rfl⟩,trivial⟩,trivial⟩⟩,trivial⟩,trivial,⟨t1,⟨_,m1,_,_,rfl,k3,.inr ⟨A1,0,rfl,trivial,⟨t3,⟨_,m3,rfl⟩,trivial⟩,trivial⟩⟩,trivial⟩,trivial⟩⟩,_,_,rfl,rfl,rfl⟩
 ·trivial
end Go.Proofs
end
section
namespace Go.Proofs
open Go Go.Abs
set_option maxRecDepth 10000
set_option maxHeartbeats 4000000
theorem Qub:Qje Tryz.prog 50 Qnl:=Qr2 Qvd
theorem Qzo:Qmi Tryz.prog 112 Qgh:=Qwn Q01 Qbb
theorem Qsh:Qkx Tryz.prog 80 Qf3:=Qx4 Qzo Q1z Qbb
theorem Qvm:Qkd Tryz.prog 110 Qho:=Qs3 Qw9 Qbb
theorem Qyg:Qln Tryz.prog 118 Qi0:=Qu1 Qzi Qbb
theorem Qde:Qcl Tryz.prog 87 Q5:=Qr3 Qyg Qvf
theorem Qth:Qip Tryz.prog 111 Qgs:=Qq0 Qde Qua Qbb
theorem Qi5:Qgg Tryz.prog 79 Qel:=Qwo Qvm Qth Q0z
theorem Qlx:Qhz Tryz.prog 36 Qgi:=Qwp Qi5 Qsh Q0v
theorem Qxb:Qk3 Tryz.prog 125 Qk7:=Qtw Qye
theorem Qzp:Qmj Tryz.prog 129 Qj4:=Qwq Q04 Qbb
theorem Quc:Qjf Tryz.prog 90 Qjq:=Qr4 Qsh Qxb Qzp Qvk
theorem Qie:Qfc Tryz.prog 54 Qd6:=Qq1 Quc Qt6
theorem Q05:Qnu Tryz.prog 106 Qky:=Qx5 Q10 Qbb
theorem Qti:Qiq Tryz.prog 107 Qiv:=Qq2 Qt8
theorem Qvn:Qke Tryz.prog 74 Qhp:=Qs4 Q05 Qti Qw8
theorem Q12:Qpl Tryz.prog 162 Qpz:=Qza Q3t
theorem Q3z:Qqy Tryz.prog 143 Qks:=Q0q Q12 Q4s
theorem Qyh:Qlo Tryz.prog 144 Qi1:=Qu2 Qzj
theorem Qqc:Qhi Tryz.prog 100 Qfl:=Qos Q3z Qyh Qq9 Qbb
theorem Qkm:Qgl Tryz.prog 64 Qfh:=Qtx Qqc Qya
theorem Qtj:Qir Tryz.prog 76 Qiw:=Qq3 Qkm Qt7
theorem Qtk:Qis Tryz.prog 108 Qgt:=Qq4 Qt9 Qbb
theorem Qgz:Qd7 Tryz.prog 75 Qca:=Qot Qtk Qq7
theorem Qk9:Qg5 Tryz.prog 63 Qcb:=Qu3 Qzf
theorem Q13:Qpn Tryz.prog 65 Qjr:=Qzb Q3r
theorem Qly:Qh0 Tryz.prog 18 Qdt:=Qwr Qlx Qk9 Qkm Q13 Q0u Qbb
theorem Qud:Qjg Tryz.prog 101 Qjs:=Qr5 Qvh Qbb
theorem Qla:Qg6 Tryz.prog 67 Qew:=Qu4 Qi5 Qud Qzg
theorem Qju:Qf5 Tryz.prog 68 Qe4:=Qs5 Qde Qw7 Qbb
theorem Qnn:Qf0 Tryz.prog 109 Qf4:=Ql1 Qde Qnz
theorem Qi6:Qes Tryz.prog 77 Qdn:=Qnh Qgz Qnn Qpw
theorem Qno:Qf1 Tryz.prog 145 Qbi:=Ql2 Qn1
theorem Qi7:Qet Tryz.prog 102 Qdo:=Qni Qde Tryz.rowK94 Qno Qpx Qbb
theorem Qi8:Qeu Tryz.prog 69 Qdp:=Qnj Qi7 Qpv
theorem Qjv:Qe9 Tryz.prog 72 Qdw:=Qnw Qi7 Qqb Qbb
theorem Que:Qjk Tryz.prog 29 Qhb:=Qr6 Qla Qju Qi8 Qjv Qi6 Qvb Qbb
theorem Qp1:Qiz Tryz.prog 55 Qhc:=Qu5 Qzd Qbb
theorem Qjw:Qf6 Tryz.prog 27 Qe5:=Qs6 Qly Que Qlx Qie Qp1 Qvn Qgz Qtj Qw3
theorem Qlz:Qe8 Tryz.prog 105 Qhm:=Qk6 Qde Ql4
theorem Qmr:Qft Tryz.prog 71 Qh5:=Qlv Qgz Qlz Qnk
theorem Qvo:Qkf Tryz.prog 20 Qog:=Qs7 Qla Qju Qi8 Tryz.keyK Qmr Qjv Qw1 Qbb
theorem Qzq:Qmk Tryz.prog 13 Qsf:=Qws Qly Qvo Qie Qp1 Q0s Qbb
theorem Ql0:Qh1 Tryz.prog 56 Qfi:=Qwt Q0x
theorem Qzr:Qml Tryz.prog 78 Qj5:=Qwu Q0y Qbb
theorem Qoi:Qh8 Tryz.prog 31 Qgm:=Qty Ql0 Qzr Qx7
theorem Qxc:Qk4 Tryz.prog 61 Qp0:=Qtz Qx9
theorem Qzs:Qmm Tryz.prog 15 Qsg:=Qwv Qoi Ql0 Tryz.componentsK Tryz.overK Tryz.valuesK Tryz.sortRK Qxc Q0t Qbb
theorem Qzt:Qmn Tryz.prog 82 Qj6:=Qww Qk9 Qla Qju Qi6 Qde Q00 Qbb
theorem Quf:Qjl Tryz.prog 81 Qhd:=Qr7 Qie Qzt Qve Qbb
theorem Qoj:Qh9 Tryz.prog 34 Qgn:=Qt0 Qly Qjw Qoi Qlx Ql0 Quf Qx8
theorem Qvp:Qkg Tryz.prog 23 Qoh:=Qs8 Qw2 Qbb
theorem Qyi:Qlp Tryz.prog 62 Qi2:=Qu6 Qze Qbb
theorem Qzu:Qqq Tryz.prog 17 Qnm:=Q3q Qyi Q8l
theorem Qug:Qjm Tryz.prog 11 Qjt:=Qr8 Qzq Qzs Qzu Qvp Qjw Qoj Qub Qu9
theorem Qtl:Qit Tryz.prog 51 Qgu:=Qq5 Qt5 Qbb
theorem Qp2:Qgy Tryz.prog 53 Qfb:=Qnx Qqa Qbb
theorem Qmc:Qg7 Tryz.prog 88 Qfu:=Qr9 Qvg
theorem Qnp:Qhn Tryz.prog 121 Qcw:=Qs9 Qxa Qbb
theorem Qok:Qia Tryz.prog 120 Qdq:=Qt1 Qyd Qbb
theorem Quh:Qjn Tryz.prog 119 Qhe:=Qsa Qok Qnp Qvi Qbb
theorem Qui:Qjo Tryz.prog 122 Qfv:=Qsb Qvj Qbb
theorem Qqd:Qhj Tryz.prog 89 Qfm:=Qou Qmc Quh Qok Qnp Qui Qq8 Qbb
theorem Qvq:Qkh Tryz.prog 52 Qhq:=Qta Qmc Qqd Qw6 Qbb
theorem Qvr:Qki Tryz.prog 12 Qhr:=Qtb Qtl Qvq Qp2 Qw0
theorem Qjx:Qfa Tryz.prog 21 Qdx:=Qny Qp9 Qbb
theorem Qol:Qib Tryz.prog 66 Qgo:=Qt2 Qyb Qbb
theorem Qra:Qh2 Tryz.prog 28 Qfx:=Qpu Qjx Qol Qse Qbb
theorem Qsi:Qic Tryz.prog 16 Qf9:=Qp7 Qte Qbb
theorem Qnq:Qf2 Tryz.prog 115 Qd8:=Ql3 Qn0 Qbb
theorem Qzv:Qmo Tryz.prog 116 Qj7:=Qwx Q02
theorem Qzw:Qmp Tryz.prog 117 Qj8:=Qwy Q03
theorem Qtu:Qlr Tryz.prog 86 Qgp:=Qzc Qnq Qzv Qzw Q3s
theorem Qyj:Qls Tryz.prog 166 Qi3:=Qu7 Qzk
theorem Qsj:Qid Tryz.prog 165 Qga:=Qp8 Qtf Qbb
theorem Q06:Qnv Tryz.prog 148 Qkz:=Qx6 Qtu Qsj Qyj Q11
theorem Qyk:Qlu Tryz.prog 113 Qi4:=Qu8 Q06 Qzh Qbb
theorem Qxd:Qk5 Tryz.prog 84 Qk8:=Qt3 Qyk Qyc
theorem Quj:Qjp Tryz.prog 43 Qhf:=Qsc Qi5 Qxd Qvc
theorem Q30:Qqz Tryz.prog 44 Qmx:=Q0r Qkm Q4r Qbb
theorem Qtm:Qiu Tryz.prog 48 Qgv:=Qq6 Qt4 Qbb
theorem Qzx:Qmq Tryz.prog 49 Qgj:=Qwz Qk9 Qi5 Qtu Qde Q0w Qbb
theorem Qys:Qg8 Tryz.prog 10 Qex:=Qkr Qug Qvr Qsi Qzu Qjx Qjw Qra Qoj Quj Q30 Qtm Qzx Qlw Qbb
theorem Qvs:Qkj Tryz.prog 47 Qhs:=Qtc Qw5
theorem Qvt:Qkk Tryz.prog 45 Qht:=Qtd Qw4 Qbb
theorem Q7a:Qnf Tryz.prog 19 Qem:=Qsd Qvt Qvs Qol Qva Qbb
end Go.Proofs
end
section
namespace Go.Abs
open Go Go.ChangeShapes Go.WideShapes Go.ChangeAt Go.RowKit
def live (w:World):Nat→Nat→Prop:=fun b o=>(w.cell? ⟨b,o,none⟩).isSome=true
def RDs (w:World):List D→List Value→Prop
 | [],vs=>vs=[]
 | x::xs,vs=>∃ u us,vs=u::us∧RD (live w) w x u∧RDs w xs us
theorem Q5s {w:World}:∀ {xs ys:List D} {us vs:List Value},RDs w xs us→RDs w ys vs→RDs w (xs++ys) (us++vs)
 | [],ys,us,vs,h,k=>by grind [RDs]
 | x::xs,ys,us,vs,⟨u,us',e,r,h⟩,k=>by subst e;exact ⟨u,us'++vs,by simp,r,Q5s h k⟩
def RDat (w:World) (cs:List Value) (off:Nat) (xs:List D):Prop:=RDs w xs ((cs.drop off).take xs.length)
theorem RDat.app {w:World} {cs:List Value} {off:Nat} {xs ys:List D} (h:RDat w cs off xs) {n:Nat} (hn:n=off+xs.length) (k:RDat w cs n ys):RDat w cs off (xs++ys):=by
 grind [Q5s,RDat,List.length_append,List.drop_drop]
theorem RDat.nil {w:World} {cs:List Value} {off:Nat}:RDat w cs off []:=by simp [RDat,RDs]
theorem RDat.all {w:World} {cs:List Value} {xs:List D} (h:RDat w cs 0 xs) (hl:cs.length=xs.length):RDs w xs cs:=by
 grind [RDat,List.take_length]
theorem Qbfm {w:World} {b:Nat}:∀ {xs:List D} {vs:List Value} {o:Nat},RDs w xs vs→(∀ i v,vs[i]? = some v→w.cell? ⟨b,o+i,none⟩=some v)→RDc (live w) w b xs o
 | [],vs,o,_,_=>by simp [RDc]
 | x::xs,vs,o,⟨u,us,e,r,h⟩,hc=>by
  subst e;have h0:=hc 0 u rfl;rw [Nat.add_zero] at h0;refine ⟨by simp [live,h0],⟨u,h0,r⟩,Qbfm h fun i v hv=>?_⟩;have:=hc (i+1) v (by simpa using hv)
  grind
def Qyl {α:Type} (P:Program) (t:TypeId) (e:α→List D) (wf:α→Prop):Prop :=
 ∀ {H:Type} {enc:TypeId×Value→H} {w:World} {base:Nat} {spare:Nat→Bool} {held:Bool} {fuel:Nat} {cs:List Value} {x:DataW H×List MemPlace},
  DataW.trod enc P w base spare held fuel t cs=some x→∃ a,wf a∧RDs w (e a) cs
def wfI (k:IntKind) (n:Int):Prop:=(Lit.int k n).wf=true
def wfL {α:Type} (wf:α→Prop) (l:List α):Prop:=l.length≤maxLen∧∀ a∈l,wf a
variable {P:Program} {t:TypeId}
theorem Q31 {k:IntKind} (ht:P.underlying t=some (.int k)):Qyl P t (fun n:Int=>[.int k n]) (wfI k):=by
 intro H enc w base spare held fuel cs x h;obtain ⟨n,rfl,_,hw⟩:=DataW.trod_int ht h;exact ⟨n,hw,_,_,rfl,by simp [RD],rfl⟩
theorem cells?_get {w:World} {base:Nat} {a:Addr} {n:Nat} {cs:List Value} (h:w.cells? base a n=some cs):cs.length=n∧∀ i v,cs[i]? = some v→w.cell? (a.add i)=some v:=by
 obtain ⟨h1,h2,h3⟩:=World.cells?_some h
 grind
theorem Q99 {α:Type} {el:TypeId} {e:α→List D} {wf:α→Prop} {sz:Nat} (ht:P.underlying t=some (.slice el)) (he:Qyl P el e wf) (hsz:P.cellsOf el=sz) (hpos:0<sz) (hlen:∀ a,(e a).length=sz) :
  Qyl P t (fun l:List α=>[.lst sz (l.map e)]) (wfL wf):=by
 intro H enc w base spare held fuel cs x h;rcases DataW.trod_slice ht h with ⟨rfl,_⟩|⟨a,len,cap,Qge,rest,n,_,rfl,_,hb,hl,hm,helen,hel,_,_⟩
 ·exact ⟨[],⟨by simp,by simp⟩,_,_,rfl,by simp only [RD,List.map_nil,List.length_nil];exact ⟨none,0,rfl,Nat.le_refl _,.inl trivial⟩,rfl⟩
 ·have key:∀ m,m≤len→∃ l:List α,l.length=m∧(∀ x∈l,wf x)∧∀ i y,l[i]? = some y→∃ vs,w.cells? base (a.add (i*sz)) sz=some vs∧RDs w (e y) vs:=by
   intro m
   induction m with
   | zero=>simp_all
   | succ m ih =>
    intro hm';obtain ⟨l,h1,h2,h3⟩:=ih (by omega);have h4:=hel m (by omega);have h5:Qge[m]? = some Qge[m]:=List.getElem?_eq_getElem (by omega);rw [h5,hsz,Option.bind_eq_some_iff] at h4;obtain ⟨vs,h6,h7⟩:=h4;obtain ⟨y,h8,h9⟩:=he h7;refine ⟨l++[y],by simp [h1],?_,fun i z hz=>?_⟩
    all_goals grind
  obtain ⟨l,h1,h2,h3⟩:=key len (Nat.le_refl _);have hmax:l.length≤maxLen:=by omega
  refine ⟨l,⟨hmax,h2⟩,_,_,rfl,?_,rfl⟩;simp only [RD,List.length_map,h1];refine ⟨some a,cap,rfl,hl,?_⟩;cases l with
  | nil=>exact .inl rfl
  | cons y l =>
   right;have hspot:a.spot=none:=by
    obtain ⟨vs,h4,h5⟩:=h3 0 y rfl;obtain ⟨h6,h7⟩:=cells?_get h4;have hv:vs[0]? = some vs[0]:=List.getElem?_eq_getElem (by omega);have:=h7 0 _ hv;cases hs:a.spot with
    | none=>rfl
    | some s =>
     grind [Go.World.cell?,Go.Addr.add]
   obtain ⟨b,o,sp⟩:=a;simp only at hspot;subst hspot;refine ⟨b,o,rfl,?_⟩;have row:∀ (l:List α) (j:Nat),(∀ i y,l[i]? = some y→∃ vs,w.cells? base ((⟨b,o,none⟩ : Addr).add ((j+i)*sz)) sz=some vs∧RDs w (e y) vs)→RDL (live w) w sz b (l.map e) (o+j*sz):=by
    intro l
    induction l with
    | nil=>intro j _;simp [RDL]
    | cons y l ih =>
     intro j h;obtain ⟨vs,h4,h5⟩:=h 0 y rfl;obtain ⟨h6,h7⟩:=cells?_get h4;refine ⟨hlen y,Qbfm h5 fun i v hv=>?_,?_⟩
     ·grind [Qg2,Nat.add_assoc]
     ·have:=ih (j+1) fun i y hy=>by
       have:=h (i+1) y (by simpa using hy)
       grind
      grind
   have:=row (y::l) 0 fun i y hy=>by simpa using h3 i y hy
   simpa using this
theorem Qfn {α:Type} {el:TypeId} {e:α→List D} {wf:α→Prop} {sz:Nat} (he:Qyl P el e wf) (hsz:P.cellsOf el=sz) (hlen:∀ a,(e a).length=sz)
  {H:Type} {enc:TypeId×Value→H} {w:World} {base:Nat} {spare:Nat→Bool} {held:Bool} {fuel off:Nat} {cs:List Value} {x:DataW H×List MemPlace}
  (h:DataW.trod enc P w base spare held fuel el ((cs.drop off).take (P.cellsOf el))=some x):∃ a,wf a∧RDat w cs off (e a):=by
 obtain ⟨a,h1,h2⟩:=he h
 grind [RDat]
theorem Q8r {H:Type} {enc:TypeId×Value→H} {w:World} {base:Nat} {spare:Nat→Bool} {held:Bool} {fuel:Nat} {cs:List Value} {x:DataW H×List MemPlace} {fs:Array Field}
  (ht:P.underlying t=some (.struct fs)) (h:DataW.trod enc P w base spare held fuel t cs=some x) :
  cs.length=P.cellsOf t∧∃ n,∀ (i:Nat) (f:Field),fs[i]? = some f→∃ y,DataW.trod enc P w base spare held n f.type ((cs.drop f.offset).take (P.cellsOf f.type))=some y:=by
 obtain ⟨xs,n,_,_,h1,h2,h3⟩:=DataW.trod_struct ht h;refine ⟨h1,n,fun i f hf=>?_⟩
 grind
theorem Qbhq {H:Type} {enc:TypeId×Value→H} {w:World} {base:Nat} {spare:Nat→Bool} {held:Bool} {fuel:Nat} {cs:List Value} {x:DataW H×List MemPlace} {n:Nat} {el:TypeId}
  (ht:P.underlying t=some (.array n el)) (h:DataW.trod enc P w base spare held fuel t cs=some x) :
  cs.length=P.cellsOf t∧∃ m,∀ i,i<n→∃ y,DataW.trod enc P w base spare held m el ((cs.drop (i*P.cellsOf el)).take (P.cellsOf el))=some y:=by
 obtain ⟨xs,m,_,_,h1,h2,h3⟩:=DataW.trod_array ht h;exact ⟨h1,m,fun i hi=>⟨xs[i]'(by omega),by grind⟩⟩
def Qmy {α:Type} (P:Program) (t:TypeId) (v:α→V) (wf:α→Prop):Prop :=
 ∀ {H:Type} {enc:TypeId×Value→H} {w:World} {base b0:Nat} {spare:Nat→Bool} {held:Bool} {u:Value} {d:DataW H} {ps:List MemPlace},
  Value.okWide P w .any b0 t u→DataW.Trod enc P w base spare held t u d ps→∃ a,wf a∧RF ⟨fun _=>0,live w,fun _=>.ext⟩ w (v a) u
theorem Qbfn {α:Type} {e:α→D} {wf:α→Prop} (he:Qyl P t (fun a=>[e a]) wf) (hone:∀ w b0 u,Value.okWide P w .any b0 t u→u.cells = #[u]):Qmy P t (fun a=>.d (e a)) wf:=by
 intro H enc w base b0 spare held u d ps hok hd;obtain ⟨fuel,hf⟩:=hd;rw [hone _ _ _ hok] at hf;obtain ⟨a,h1,u',us,h2,h3,h4⟩:=he hf;simp only [RDs] at h4;subst h4;simp at h2;subst h2;exact ⟨a,h1,fun ℓ=>by simpa [RV] using h3⟩
theorem Qbj7 {k:IntKind} (ht:P.underlying t=some (.int k)):∀ w b0 u,Value.okWide P w .any b0 t u→u.cells = #[u]:=by
 intro w b0 u h;simp only [Value.okWide,ht] at h;cases u<;>first|rfl|(simp [Cell.okWide,Cell.ok,ht] at h)
theorem Qbfo {el:TypeId} (ht:P.underlying t=some (.slice el)):∀ w b0 u,Value.okWide P w .any b0 t u→u.cells = #[u]:=by
 intro w b0 u h;simp only [Value.okWide,ht] at h;cases u<;>first|rfl|(simp [Cell.okWide,Cell.ok,ht] at h)
theorem Qblj {imm:Nat→Nat→Prop} {w:World} {x:D} {u:Value} (h:RD imm w x u):u.oneCell'=true:=by
 cases x with
 | int k n=>simp only [RD] at h;subst h;rfl
 | bool b=>simp only [RD] at h;subst h;rfl
 | str s=>simp only [RD] at h;subst h;rfl
 | lst sz l=>simp only [RD] at h;obtain ⟨a,cap,rfl,_⟩:=h;cases a<;>rfl
 | mp es c=>simp only [RD] at h;obtain ⟨b,rfl,_⟩:=h;rfl
theorem Qbfp {w:World} {g:G} (hg:g.imm=live w):∀ {xs:List D} {us:List Value} {ℓ:Owner} {i:Nat},RDs w xs us→RVs g w (xs.map V.d) ℓ i us∧∀ u∈us,u.oneCell'=true
 | [],us,ℓ,i,h=>by grind [RDs,RVs]
 | x::xs,us,ℓ,i,⟨u,us',e,r,h⟩=>by
  subst e;obtain ⟨h1,h2⟩:=Qbfp hg (ℓ:=ℓ) (i:=i+1) h;refine ⟨⟨u,us',rfl,by simpa [RV,hg] using r,h1⟩,fun v hv=>?_⟩;rcases List.mem_cons.1 hv with rfl|hv
  ·exact Qblj r
  ·exact h2 v hv
theorem Qbj8 {α:Type} {e:α→List D} {wf:α→Prop} (he:Qyl P t e wf) (hagg:(∃ fs,P.underlying t=some (.struct fs))∨∃ n el,P.underlying t=some (.array n el)):Qmy P t (fun a=>.agg ((e a).map V.d)) wf:=by
 intro H enc w base b0 spare held u d ps hok hd;obtain ⟨cs,rfl⟩ : ∃ cs,u = .agg cs:=by
  rcases hagg with ⟨fs,ht⟩|⟨n,el,ht⟩
  ·simp only [Value.okWide,ht] at hok;grind
  ·simp only [Value.okWide,ht] at hok;grind
 obtain ⟨fuel,hf⟩:=hd;obtain ⟨a,h1,h2⟩:=he hf;refine ⟨a,h1,fun ℓ=>?_⟩;simp only [RV];obtain ⟨h3,h4⟩:=Qbfp (g:=⟨fun _=>0,live w,fun _=>.ext⟩) rfl (ℓ:=ℓ) (i:=0) h2;exact ⟨cs.toList,by simp,h3,h4⟩
def Qbj9 (P:Program) (f:FuncId) (ts:List TypeId):Prop :=
 ∀ {H:Type} {enc:TypeId×Value→H} {w:World} {b0:Nat} {us:List Value} {ds:List (DataW H)} {ps:List MemPlace},
  (∀ (j:Nat) t u,ts[j]? = some t→us[j]? = some u→Value.okWide P w .any b0 t u)→DataW.TrodAll enc P w 0 (fun _=>true) true ts us ds ps →
  ∃ vs,RFs ⟨fun _=>0,live w,fun _=>.ext⟩ w vs us∧(∀ x∈vs,Flat x)∧V.lt.go 0 vs=true∧∀ M nb,ACalls P f vs M nb (.d (.bool true)) M nb
theorem Qzy (hl:laidOutB P=true) {W W' : World} {sp:Nat→Bool} {H:Type} {enc:TypeId×Value→H}:∀ {ts:List TypeId} {us:List Value} {ds:List (DataW H)} {ps:List MemPlace},
  (∀ t∈ts,P.readableRec t=true∧t<P.types.size)→DataW.TrodAll enc P W 0 (fun _=>true) true ts us ds ps→(∀ p∈ps,W.sameAt W' p)→(∀ p∈ps,sp p.block=true)→DataW.TrodAll enc P W' 0 sp true ts us ds ps
 | [],[],[],ps,_,h,_,_=>h
 | t::ts,u::us,d::ds,ps,hr,⟨p,q,h1,h2,e⟩,hs,hp=>by
  subst e;obtain ⟨r1,r2⟩:=hr t (by simp);exact ⟨p,q,WideElems.Trod_stays hl r1 r2 h1 (fun x hx=>hs x (by simp [hx])) (fun x hx=>hp x (by simp [hx])),Qzy hl (fun t ht=>hr t (by simp [ht])) h2 (fun x hx=>hs x (by simp [hx])) (fun x hx=>hp x (by simp [hx])),rfl⟩
 | [],[],_::_,_,_,h,_,_=>h.elim
 | [],_::_,_,_,_,h,_,_=>h.elim
 | _::_,[],_,_,_,h,_,_=>h.elim
 | _::_,_::_,[],_,_,h,_,_=>h.elim
theorem Q32 {W:World} {sp:Nat→Bool} {held:Bool} {base:Nat} {H:Type} {enc:TypeId×Value→H}:∀ {ts:List TypeId} {us:List Value} {ds:List (DataW H)} {ps:List MemPlace},
  DataW.TrodAll enc P W base sp held ts us ds ps→ds.length=ts.length∧us.length=ts.length
 | [],[],[],ps,h=>⟨rfl,rfl⟩
 | t::ts,u::us,d::ds,ps,⟨p,q,h1,h2,e⟩=>by have:=Q32 h2;simp [this.1,this.2]
 | [],[],_::_,_,h=>h.elim
 | [],_::_,_,_,h=>h.elim
 | _::_,[],_,_,h=>h.elim
 | _::_,_::_,[],_,h=>h.elim
theorem Qblx {P : Program} (h : P.globalNamed "internal/strconv.uint64pow10" = none) {X : World → Array Value → Prop} : ∀ W args, X W args → Tab P ⟨fun _ => 0, live W, fun _ => .ext⟩ W := fun _ _ _ gl hg => by rw [h] at hg; cases hg
theorem Qbka {C:Checked} {f:FuncId} {fn:Func} {s:ChangeSpec} {conds:List PathCond} {bt:TypeId} {os:Os} {H:Type} {enc:TypeId×Value→H}
  (own:ownKnob C.prog.godebug=none) (started:os.Started) (noInit:C.prog.inits.idxOf? f=none) (hfn:C.prog.funcs[f]? = some fn)
  (witness:∃ (w:World) (tape:Tape) (i:Input),w.os=os∧(w.forCall tape i).Shaped C.prog∧i.vars=[]∧Input.okWide C.prog (w.forCall tape i) .any w.heap.size f i ∧
   s.pre6 enc C.prog fn conds false (w.forCall tape i).memory i.args∧({}:Assume).holds C.prog (lone (Frame.enter C.prog f i.args .normal) [] (w.forCall tape i)))
  (hvars:s.vars=[]) (hres:fn.resultTypes = #[bt]) (hbt:C.prog.underlying bt=some .bool)
  (hl:laidOutB C.prog=true) (hread:∀ t∈fn.params.toList,C.prog.readableRec t=true∧t<C.prog.types.size)
  (hspec:∀ ds:List (DataW H),ds.length=fn.params.size→s.fn H ds={ results:=[.lit (.bool true)],args:=ds })
  (ht:∀ (W:World) (args:Array Value),True→Tab C.prog ⟨fun _=>0,live W,fun _=>.ext⟩ W) (law:Qbj9 C.prog f fn.params.toList) :
  ReturnsInHanded {} C os f .any (s.pre6 enc C.prog fn conds false) (s.post enc C.prog fn false true false false):=by
 refine returnsInHanded_of_change own started noInit hfn witness ?_;intro W base args ds gs before hval hW hcnd _;have hW':=hW;obtain ⟨p,q,hA,hV,hps,hfz,hnd⟩:=hW;rw [hvars] at hV;obtain ⟨rfl,rfl⟩ : gs=[]∧q=[]:=by
  cases gs with
  | nil=>exact ⟨rfl,hV⟩
  | cons _ _=>exact hV.elim
 obtain ⟨vs,h1,h2,h3,h4⟩:=law (fun j t u ht hu=>hval j t u (by simpa using ht) (by simpa using hu)) hA;obtain ⟨hb,_,h5⟩:=h4 (fun _=>none) 0;have hlv:∀ b o,live W b o→b<W.heap.size:=by
  grind [live,Option.isSome_iff_exists,Go.World.cell?,Array.getElem?_eq_some_iff]
 have hmr:MR ⟨fun _=>0,live W,fun _=>.ext⟩ W (fun _=>none) 0:=⟨fun k b h=>(by cases h),fun b o h=>⟨hlv b o h,fun k h=>by cases h⟩⟩;have h6:=h5 W ⟨fun _=>0,live W,fun _=>.ext⟩ args.toList (ht W args trivial) hmr (fun k cs h=>by cases h) (RAs.of_flat h1) (ons_mono (fun k hk=>absurd hk (Nat.not_lt_zero k)) _ (ons_lt vs h3));refine Calls.mono h6 fun e W' ⟨v,g',he,_,hr,_,_,hf⟩=>?_;subst he;have hv:v = .bool true:=by simpa [RV,RD] using hr
 subst hv;have hbelow:Below W.heap.size W W':=⟨hf.os,hf.tape,hf.output,hf.size,fun k hk=>(hf.old k hk trivial).2.1⟩;have hrl:(Value.bool true).resultList fn.resultTypes.size=[.bool true]:=by rw [hres];rfl
 have hsp:s.fn H (ds++[])={ results:=[.lit (.bool true)],args:=ds }:=by
  rw [List.append_nil];exact hspec ds (by have:=(Q32 hA).1;simpa using this)
 have hlt:∀ p∈before,p.block<W.heap.size:=fun x hx=>hW'.lt x hx;have hst:∀ sp:Nat→Bool,(∀ p∈before,sp p.block=true)→DataW.TrodAll enc C.prog W' 0 sp true fn.params.toList args.toList ds before:=by
  intro sp hsp';have e:p=before:=by grind
  subst e;exact Qzy hl hread hA (fun x hx=>hbelow.same (hlt x hx)) hsp'
 refine ⟨_,rfl,ds,[],before,[],before,[],hW',?_,?_,?_,World.keptBut_mono (fun p hp=>⟨hp,.inr (.inl hp)⟩) (hbelow.frame (· ∈ before)),fun h=>by cases h⟩
 ·rw [hsp,hrl,hres];exact ⟨[],[],⟨1,by simp [DataW.trod,Value.cells,hbt]⟩,rfl,rfl⟩
 ·grind
 ·rw [hsp,hvars];rfl
section
variable {α β γ δ:Type} {f:FuncId} {ta tb tc td:TypeId} {va:α→V} {vb:β→V} {vc:γ→V} {vd:δ→V} {wa:α→Prop} {wb:β→Prop} {wc:γ→Prop} {wd:δ→Prop}
theorem Qp3 {H:Type} {enc:TypeId×Value→H} {w:World} {base:Nat} {sp:Nat→Bool} {held:Bool} {t:TypeId} {ts:List TypeId} {us:List Value} {ds:List (DataW H)} {ps:List MemPlace} (h:DataW.TrodAll enc P w base sp held (t::ts) us ds ps) :
  ∃ u us' d ds' p q,us=u::us'∧ds=d::ds'∧DataW.Trod enc P w base sp held t u d p∧DataW.TrodAll enc P w base sp held ts us' ds' q:=by
 match us,ds,h with
 | u::us',d::ds',⟨p,q,h1,h2,_⟩=>grind
 | [],[],h=>exact h.elim
 | [],_::_,h=>exact h.elim
 | _::_,[],h=>exact h.elim
theorem Q33 {H:Type} {enc:TypeId×Value→H} {w:World} {base:Nat} {sp:Nat→Bool} {held:Bool} {us:List Value} {ds:List (DataW H)} {ps:List MemPlace} (h:DataW.TrodAll enc P w base sp held [] us ds ps):us=[]:=by
 match us,ds,h with
 | [],[],_=>rfl
 | [],_::_,h=>exact h.elim
 | _::_,[],h=>exact h.elim
 | _::_,_::_,h=>exact h.elim
theorem Qbl9 (ra:Qmy P ta va wa) (fa:∀ a,(va a).dem=va a) (la:∀ a,(va a).lt 0=true) (rb:Qmy P tb vb wb) (fb:∀ a,(vb a).dem=vb a) (lb:∀ a,(vb a).lt 0=true)
  (law:∀ a b,wa a→wb b→∀ M nb,ACalls P f [va a,vb b] M nb (.d (.bool true)) M nb):Qbj9 P f [ta,tb]:=by
 intro H enc w b0 us ds ps hok hT;obtain ⟨u,us',d,ds',p,q,rfl,rfl,h1,hT⟩:=Qp3 hT;obtain ⟨u2,us',d2,ds',p2,q2,rfl,rfl,h2,hT⟩:=Qp3 hT;obtain rfl:=Q33 hT;obtain ⟨a,ha,hra⟩:=ra (hok 0 _ _ rfl rfl) h1;obtain ⟨b,hb,hrb⟩:=rb (hok 1 _ _ rfl rfl) h2;refine ⟨[va a,vb b],⟨u,_,rfl,hra,u2,_,rfl,hrb,rfl⟩,?_,by simp [V.lt.go,la,lb],law a b ha hb⟩;intro x hx;simp only [List.mem_cons,List.not_mem_nil,or_false] at hx;rcases hx with rfl|rfl
 ·exact fa a
 ·exact fb b
theorem Qbma (ra:Qmy P ta va wa) (fa:∀ a,(va a).dem=va a) (la:∀ a,(va a).lt 0=true) (rb:Qmy P tb vb wb) (fb:∀ a,(vb a).dem=vb a) (lb:∀ a,(vb a).lt 0=true)
  (rc:Qmy P tc vc wc) (fc:∀ a,(vc a).dem=vc a) (lc:∀ a,(vc a).lt 0=true)
  (law:∀ a b c,wa a→wb b→wc c→∀ M nb,ACalls P f [va a,vb b,vc c] M nb (.d (.bool true)) M nb):Qbj9 P f [ta,tb,tc]:=by
 intro H enc w b0 us ds ps hok hT;obtain ⟨u,us',d,ds',p,q,rfl,rfl,h1,hT⟩:=Qp3 hT;obtain ⟨u2,us',d2,ds',p2,q2,rfl,rfl,h2,hT⟩:=Qp3 hT;obtain ⟨u3,us',d3,ds',p3,q3,rfl,rfl,h3,hT⟩:=Qp3 hT;obtain rfl:=Q33 hT;obtain ⟨a,ha,hra⟩:=ra (hok 0 _ _ rfl rfl) h1;obtain ⟨b,hb,hrb⟩:=rb (hok 1 _ _ rfl rfl) h2;obtain ⟨c,hc,hrc⟩:=rc (hok 2 _ _ rfl rfl) h3;refine ⟨[va a,vb b,vc c],⟨u,_,rfl,hra,u2,_,rfl,hrb,u3,_,rfl,hrc,rfl⟩,?_,by simp [V.lt.go,la,lb,lc],law a b c ha hb hc⟩;intro x hx;simp only [List.mem_cons,List.not_mem_nil,or_false] at hx;rcases hx with rfl|rfl|rfl
 ·exact fa a
 ·exact fb b
 ·exact fc c
end
theorem Qbfq {H:Type} {enc:TypeId×Value→H} {w:World} {base:Nat} {spare:Nat→Bool} {held:Bool} {fuel:Nat} {cs:List Value} {x:DataW H×List MemPlace} {n sz:Nat} {el:TypeId}
  (ht:P.underlying t=some (.array n el)) (hsz:P.cellsOf el=sz) (h:DataW.trod enc P w base spare held fuel t cs=some x) :
  cs.length=P.cellsOf t∧∃ m,∀ i,i<n→∃ y,DataW.trod enc P w base spare held m el ((cs.drop (i*sz)).take (P.cellsOf el))=some y:=by
 obtain ⟨h1,m,h2⟩:=Qbhq ht h;exact ⟨h1,m,fun i hi=>by grind⟩
end Go.Abs
end
section
namespace Go.Proofs
open Go Go.Abs
set_option maxRecDepth 100000
def W_22 (x:Int):Prop:=wfI .u8 x
theorem R_22:Qyl Tryz.prog 22 (eI .u8) W_22:=Q31 Tryz.underlying22
def W_5 (x:Int):Prop:=wfI .u8 x
theorem R_5:Qyl Tryz.prog 5 (eI .u8) W_5:=Q31 Tryz.underlying5
def W_23 (x:Int×Int×Int×Int×Int):Prop:=W_5 x.1∧W_5 x.2.1∧W_5 x.2.2.1∧W_5 x.2.2.2.1∧W_5 x.2.2.2.2
theorem R_23:Qyl Tryz.prog 23 (fun p:Int×Int×Int×Int×Int=>[.int .u8 p.1,.int .u8 p.2.1,.int .u8 p.2.2.1,.int .u8 p.2.2.2.1,.int .u8 p.2.2.2.2]) W_23:=by
  intro H enc w base spare held fuel cs x h;obtain ⟨hl,n,hf⟩:=Qbfq (sz:=1) Tryz.underlying23 (by kernel_rfl) h;obtain ⟨y0,h0⟩:=hf 0 (by decide);obtain ⟨a0,w0,r0⟩:=Qfn (off:=0*1) (sz:=1) R_5 (by kernel_rfl) (fun _=>rfl) h0;obtain ⟨y1,h1⟩:=hf 1 (by decide);obtain ⟨a1,w1,r1⟩:=Qfn (off:=1*1) (sz:=1) R_5 (by kernel_rfl) (fun _=>rfl) h1;obtain ⟨y2,h2⟩:=hf 2 (by decide);obtain ⟨a2,w2,r2⟩:=Qfn (off:=2*1) (sz:=1) R_5 (by kernel_rfl) (fun _=>rfl) h2;obtain ⟨y3,h3⟩:=hf 3 (by decide);obtain ⟨a3,w3,r3⟩:=Qfn (off:=3*1) (sz:=1) R_5 (by kernel_rfl) (fun _=>rfl) h3;obtain ⟨y4,h4⟩:=hf 4 (by decide);obtain ⟨a4,w4,r4⟩:=Qfn (off:=4*1) (sz:=1) R_5 (by kernel_rfl) (fun _=>rfl) h4;exact ⟨(a0,a1,a2,a3,a4),⟨w0,w1,w2,w3,w4⟩,RDat.all (xs:=(fun p:Int×Int×Int×Int×Int=>[.int .u8 p.1,.int .u8 p.2.1,.int .u8 p.2.2.1,.int .u8 p.2.2.2.1,.int .u8 p.2.2.2.2]) (a0,a1,a2,a3,a4)) (RDat.app r0 rfl (RDat.app r1 rfl (RDat.app r2 rfl (RDat.app r3 rfl r4)))) (hl.trans (by kernel_rfl))⟩
def W_24 (x:(Int×Int×Int×Int×Int)×(Int×Int×Int×Int×Int)×(Int×Int×Int×Int×Int)×(Int×Int×Int×Int×Int)×(Int×Int×Int×Int×Int)):Prop:=W_23 x.1∧W_23 x.2.1∧W_23 x.2.2.1∧W_23 x.2.2.2.1∧W_23 x.2.2.2.2
theorem R_24:Qyl Tryz.prog 24 (fun p:(Int×Int×Int×Int×Int)×(Int×Int×Int×Int×Int)×(Int×Int×Int×Int×Int)×(Int×Int×Int×Int×Int)×(Int×Int×Int×Int×Int)=>[.int .u8 p.1.1,.int .u8 p.1.2.1,.int .u8 p.1.2.2.1,.int .u8 p.1.2.2.2.1,.int .u8 p.1.2.2.2.2,.int .u8 p.2.1.1,.int .u8 p.2.1.2.1,.int .u8 p.2.1.2.2.1,.int .u8 p.2.1.2.2.2.1,.int .u8 p.2.1.2.2.2.2,.int .u8 p.2.2.1.1,.int .u8 p.2.2.1.2.1,.int .u8 p.2.2.1.2.2.1,.int .u8 p.2.2.1.2.2.2.1,.int .u8 p.2.2.1.2.2.2.2,.int .u8 p.2.2.2.1.1,.int .u8 p.2.2.2.1.2.1,.int .u8 p.2.2.2.1.2.2.1,.int .u8 p.2.2.2.1.2.2.2.1,.int .u8 p.2.2.2.1.2.2.2.2,.int .u8 p.2.2.2.2.1,.int .u8 p.2.2.2.2.2.1,.int .u8 p.2.2.2.2.2.2.1,.int .u8 p.2.2.2.2.2.2.2.1,.int .u8 p.2.2.2.2.2.2.2.2]) W_24:=by
  intro H enc w base spare held fuel cs x h;obtain ⟨hl,n,hf⟩:=Qbfq (sz:=5) Tryz.underlying24 (by kernel_rfl) h;obtain ⟨y0,h0⟩:=hf 0 (by decide);obtain ⟨a0,w0,r0⟩:=Qfn (off:=0*5) (sz:=5) R_23 (by kernel_rfl) (fun _=>rfl) h0;obtain ⟨y1,h1⟩:=hf 1 (by decide);obtain ⟨a1,w1,r1⟩:=Qfn (off:=1*5) (sz:=5) R_23 (by kernel_rfl) (fun _=>rfl) h1;obtain ⟨y2,h2⟩:=hf 2 (by decide);obtain ⟨a2,w2,r2⟩:=Qfn (off:=2*5) (sz:=5) R_23 (by kernel_rfl) (fun _=>rfl) h2;obtain ⟨y3,h3⟩:=hf 3 (by decide);obtain ⟨a3,w3,r3⟩:=Qfn (off:=3*5) (sz:=5) R_23 (by kernel_rfl) (fun _=>rfl) h3;obtain ⟨y4,h4⟩:=hf 4 (by decide);obtain ⟨a4,w4,r4⟩:=Qfn (off:=4*5) (sz:=5) R_23 (by kernel_rfl) (fun _=>rfl) h4;exact ⟨(a0,a1,a2,a3,a4),⟨w0,w1,w2,w3,w4⟩,RDat.all (xs:=(fun p:(Int×Int×Int×Int×Int)×(Int×Int×Int×Int×Int)×(Int×Int×Int×Int×Int)×(Int×Int×Int×Int×Int)×(Int×Int×Int×Int×Int)=>[.int .u8 p.1.1,.int .u8 p.1.2.1,.int .u8 p.1.2.2.1,.int .u8 p.1.2.2.2.1,.int .u8 p.1.2.2.2.2,.int .u8 p.2.1.1,.int .u8 p.2.1.2.1,.int .u8 p.2.1.2.2.1,.int .u8 p.2.1.2.2.2.1,.int .u8 p.2.1.2.2.2.2,.int .u8 p.2.2.1.1,.int .u8 p.2.2.1.2.1,.int .u8 p.2.2.1.2.2.1,.int .u8 p.2.2.1.2.2.2.1,.int .u8 p.2.2.1.2.2.2.2,.int .u8 p.2.2.2.1.1,.int .u8 p.2.2.2.1.2.1,.int .u8 p.2.2.2.1.2.2.1,.int .u8 p.2.2.2.1.2.2.2.1,.int .u8 p.2.2.2.1.2.2.2.2,.int .u8 p.2.2.2.2.1,.int .u8 p.2.2.2.2.2.1,.int .u8 p.2.2.2.2.2.2.1,.int .u8 p.2.2.2.2.2.2.2.1,.int .u8 p.2.2.2.2.2.2.2.2]) (a0,a1,a2,a3,a4)) (RDat.app r0 rfl (RDat.app r1 rfl (RDat.app r2 rfl (RDat.app r3 rfl r4)))) (hl.trans (by kernel_rfl))⟩
def W_26 (x:Qcp):Prop:=W_5 x.zH∧W_5 x.Marks∧W_24 x.To
theorem R_26:Qyl Tryz.prog 26 Qm1 W_26:=by
  intro H enc w base spare held fuel cs x h;obtain ⟨hl,n,hf⟩:=Q8r Tryz.underlying26 h;obtain ⟨y0,h0⟩:=hf 0 _ rfl;obtain ⟨a0,w0,r0⟩:=Qfn (off:=0) (sz:=1) R_5 (by kernel_rfl) (fun _=>rfl) h0;obtain ⟨y1,h1⟩:=hf 1 _ rfl;obtain ⟨a1,w1,r1⟩:=Qfn (off:=1) (sz:=1) R_5 (by kernel_rfl) (fun _=>rfl) h1;obtain ⟨y2,h2⟩:=hf 2 _ rfl;obtain ⟨a2,w2,r2⟩:=Qfn (off:=2) (sz:=25) R_24 (by kernel_rfl) (fun _=>rfl) h2;exact ⟨⟨a0,a1,a2⟩,⟨w0,w1,w2⟩,RDat.all (xs:=Qm1 ⟨a0,a1,a2⟩) (RDat.app r0 rfl (RDat.app r1 rfl r2)) (hl.trans (by kernel_rfl))⟩
def W_27 (x:Int×Int×Int×Int×Int):Prop:=W_5 x.1∧W_5 x.2.1∧W_5 x.2.2.1∧W_5 x.2.2.2.1∧W_5 x.2.2.2.2
theorem R_27:Qyl Tryz.prog 27 (fun p:Int×Int×Int×Int×Int=>[.int .u8 p.1,.int .u8 p.2.1,.int .u8 p.2.2.1,.int .u8 p.2.2.2.1,.int .u8 p.2.2.2.2]) W_27:=by
  intro H enc w base spare held fuel cs x h;obtain ⟨hl,n,hf⟩:=Qbfq (sz:=1) Tryz.underlying27 (by kernel_rfl) h;obtain ⟨y0,h0⟩:=hf 0 (by decide);obtain ⟨a0,w0,r0⟩:=Qfn (off:=0*1) (sz:=1) R_5 (by kernel_rfl) (fun _=>rfl) h0;obtain ⟨y1,h1⟩:=hf 1 (by decide);obtain ⟨a1,w1,r1⟩:=Qfn (off:=1*1) (sz:=1) R_5 (by kernel_rfl) (fun _=>rfl) h1;obtain ⟨y2,h2⟩:=hf 2 (by decide);obtain ⟨a2,w2,r2⟩:=Qfn (off:=2*1) (sz:=1) R_5 (by kernel_rfl) (fun _=>rfl) h2;obtain ⟨y3,h3⟩:=hf 3 (by decide);obtain ⟨a3,w3,r3⟩:=Qfn (off:=3*1) (sz:=1) R_5 (by kernel_rfl) (fun _=>rfl) h3;obtain ⟨y4,h4⟩:=hf 4 (by decide);obtain ⟨a4,w4,r4⟩:=Qfn (off:=4*1) (sz:=1) R_5 (by kernel_rfl) (fun _=>rfl) h4;exact ⟨(a0,a1,a2,a3,a4),⟨w0,w1,w2,w3,w4⟩,RDat.all (xs:=(fun p:Int×Int×Int×Int×Int=>[.int .u8 p.1,.int .u8 p.2.1,.int .u8 p.2.2.1,.int .u8 p.2.2.2.1,.int .u8 p.2.2.2.2]) (a0,a1,a2,a3,a4)) (RDat.app r0 rfl (RDat.app r1 rfl (RDat.app r2 rfl (RDat.app r3 rfl r4)))) (hl.trans (by kernel_rfl))⟩
def W_29 (x:Qbq):Prop:=W_22 x.Events∧W_26 x.Graph∧W_27 x.Flags
theorem R_29:Qyl Tryz.prog 29 Qm2 W_29:=by
  intro H enc w base spare held fuel cs x h;obtain ⟨hl,n,hf⟩:=Q8r Tryz.underlying29 h;obtain ⟨y0,h0⟩:=hf 0 _ rfl;obtain ⟨a0,w0,r0⟩:=Qfn (off:=0) (sz:=1) R_22 (by kernel_rfl) (fun _=>rfl) h0;obtain ⟨y1,h1⟩:=hf 1 _ rfl;obtain ⟨a1,w1,r1⟩:=Qfn (off:=1) (sz:=27) R_26 (by kernel_rfl) (fun _=>rfl) h1;obtain ⟨y2,h2⟩:=hf 2 _ rfl;obtain ⟨a2,w2,r2⟩:=Qfn (off:=28) (sz:=5) R_27 (by kernel_rfl) (fun _=>rfl) h2;exact ⟨⟨a0,a1,a2⟩,⟨w0,w1,w2⟩,RDat.all (xs:=Qm2 ⟨a0,a1,a2⟩) (RDat.app r0 rfl (RDat.app r1 rfl r2)) (hl.trans (by kernel_rfl))⟩
theorem A_29:Qmy Tryz.prog 29 (fun (a:Qbq)=>.agg [.d (.int .u8 a.Events),.d (.int .u8 a.Graph.zH),.d (.int .u8 a.Graph.Marks),.d (.int .u8 a.Graph.To.1.1),.d (.int .u8 a.Graph.To.1.2.1),.d (.int .u8 a.Graph.To.1.2.2.1),.d (.int .u8 a.Graph.To.1.2.2.2.1),.d (.int .u8 a.Graph.To.1.2.2.2.2),.d (.int .u8 a.Graph.To.2.1.1),.d (.int .u8 a.Graph.To.2.1.2.1),.d (.int .u8 a.Graph.To.2.1.2.2.1),.d (.int .u8 a.Graph.To.2.1.2.2.2.1),.d (.int .u8 a.Graph.To.2.1.2.2.2.2),.d (.int .u8 a.Graph.To.2.2.1.1),.d (.int .u8 a.Graph.To.2.2.1.2.1),.d (.int .u8 a.Graph.To.2.2.1.2.2.1),.d (.int .u8 a.Graph.To.2.2.1.2.2.2.1),.d (.int .u8 a.Graph.To.2.2.1.2.2.2.2),.d (.int .u8 a.Graph.To.2.2.2.1.1),.d (.int .u8 a.Graph.To.2.2.2.1.2.1),.d (.int .u8 a.Graph.To.2.2.2.1.2.2.1),.d (.int .u8 a.Graph.To.2.2.2.1.2.2.2.1),.d (.int .u8 a.Graph.To.2.2.2.1.2.2.2.2),.d (.int .u8 a.Graph.To.2.2.2.2.1),.d (.int .u8 a.Graph.To.2.2.2.2.2.1),.d (.int .u8 a.Graph.To.2.2.2.2.2.2.1),.d (.int .u8 a.Graph.To.2.2.2.2.2.2.2.1),.d (.int .u8 a.Graph.To.2.2.2.2.2.2.2.2),.d (.int .u8 a.Flags.1),.d (.int .u8 a.Flags.2.1),.d (.int .u8 a.Flags.2.2.1),.d (.int .u8 a.Flags.2.2.2.1),.d (.int .u8 a.Flags.2.2.2.2)]) W_29:=Qbj8 R_29 (.inl ⟨_,Tryz.underlying29⟩)
def W_3 (x:Int):Prop:=wfI .i64 x
theorem R_3:Qyl Tryz.prog 3 (eI .i64) W_3:=Q31 Tryz.underlying3
def W_32 (x:List Int):Prop:=wfL W_3 x
theorem R_32:Qyl Tryz.prog 32 (eL 1 (eI .i64)) W_32:=Q99 Tryz.underlying32 R_3 (by kernel_rfl) (by decide) (fun _=>rfl)
theorem A_32:Qmy Tryz.prog 32 (fun (a:List Int)=>.d (.lst 1 (List.map (eI .i64) a))) W_32:=Qbfn R_32 (Qbfo Tryz.underlying32)
theorem A_3:Qmy Tryz.prog 3 (fun (a:Int)=>.d (.int .i64 a)) W_3:=Qbfn R_3 (Qbj7 Tryz.underlying3)
end Go.Proofs
end
section
namespace Go.Abs
open Go
theorem Qc6 {X R:Type} {F:(X→Option R)→X→Option R} (I:X→Prop) (m:X→Nat) (Q:X→Option R→Prop)
  (step:∀ (k:X→Option R) (x:X),I x→(∀ y,I y→m y<m x→Q y (k y))→Q x (F k x)):∀ (fuel:Nat) (x:X),I x→m x<fuel→Q x (Qb5 F fuel x)
 | 0,x,_,h=>absurd h (Nat.not_lt_zero _)
 | fuel+1,x,hi,h=>step _ x hi fun y hy hm=>Qc6 I m Q step fuel y hy (by omega)
theorem Qbhr {X R:Type} {F:(X→Option R)→X→Option R} {fuel:Nat} {x:X} (I:X→Prop) (m:X→Nat) (q:Option R) (hi:I x) (hm:m x<fuel)
  (step:∀ (k:X→Option R) (x:X),I x→(∀ y,I y→m y<m x→k y=q)→F k x=q):Qb5 F fuel x=q :=
 Qc6 I m (fun _ r=>r=q) step fuel x hi hm
theorem Qlb {x:Int} (h1 : -9223372036854775808≤x) (h2:x≤9223372036854775807):IntKind.wrap .i64 x=x:=by
 simp [IntKind.wrap,IntKind.bits,IntKind.signed];omega
theorem Qy {n:Nat} (h:n<9223372036854775807):IntKind.wrap .i64 ((n:Int)+1)=((n+1:Nat):Int):=by
 grind [Qlb]
theorem Qbf {α:Type} {l:List α} {n:Nat} (h:n<l.length):getO l (n:Int)=some l[n]:=by
 simp [getO,h]
theorem Qey {α:Type} {l:List α} {i:Int} {x:α}:getO l i=some x↔0≤i∧l[i.toNat]? = some x:=by
 simp_all [getO,reduceCtorEq,false_iff,not_and,absurd]
theorem Qby {α:Type} {l m:List α} (h:l.length+m.length≤lim):appO l m=some (l++m):=by
 unfold appO;rw [if_pos h]
theorem Q8s {α:Type} {s t:List α} {k:Nat} (hs:k<s.length) (ht:k<t.length) (h:s.take k=t.take k) (he:s[k]=t[k]):s.take (k+1)=t.take (k+1):=by
 grind [List.take_add_one,List.getElem?_eq_getElem]
theorem Qil {R:Type} {F:(Int→Option R)→Int→Option R} {len fuel:Nat} (G:Nat→Option R) (hf:len<fuel)
  (step:∀ (k:Int→Option R) (n:Nat),n<len→k ((n+1:Nat):Int)=G (n+1)→F k (n:Int)=G n) (last:∀ k:Int→Option R,F k (len:Int)=G len):Qb5 F fuel 0=G 0:=by
 have:=Qc6 (F:=F) (fun x=>∃ n:Nat,x=(n:Int)∧n≤len) (fun x=>len-x.toNat) (fun x r=>∀ n:Nat,x=(n:Int)→r=G n) (fun k x hx ih=>by
  obtain ⟨n,rfl,hn⟩:=hx;intro m hm;obtain rfl:n=m:=by omega
  by_cases h:n<len
  ·exact step k n h (ih _ ⟨n+1,rfl,by omega⟩ (by omega) (n+1) rfl)
  grind) fuel 0 ⟨0,rfl,by omega⟩ (by simpa using hf)
 exact this 0 rfl
theorem Q34 {n:Nat} (h0:0<n) (h:n<9223372036854775807):IntKind.wrap .i64 ((n:Int)-1)=((n-1:Nat):Int):=by
 grind [Qlb]
theorem Qbhs {X S R:Type} {F:(X→Option R)→X→Option R} {len:Nat} (mk:Nat→S→X) (G:Nat→S→Option R)
  (step:∀ (k:X→Option R) (n:Nat) (s:S),n<len→(∀ s',k (mk (n+1) s')=G (n+1) s')→F k (mk n s)=G n s) (last:∀ (k:X→Option R) (s:S),F k (mk len s)=G len s) :
  ∀ (fuel n:Nat) (s:S),n≤len→len-n<fuel→Qb5 F fuel (mk n s)=G n s
 | 0,n,s,_,h=>by omega
 | fuel+1,n,s,hn,h=>by
  show F (Qb5 F fuel) (mk n s)=_;by_cases hlt:n<len
  ·exact step _ n s hlt fun s'=>Qbhs mk G step last fuel (n+1) s' (by omega) (by omega)
  grind
theorem Qbix {i j:Nat} (hi:i<1000000000000) (hj:j<1000000000000):IntKind.wrap .i64 (Int.fdiv (IntKind.wrap .u64 (IntKind.wrap .i64 ((i:Int)+j))) (2 ^ (min (Int.toNat 1) (IntKind.bits .u64))))=(((i+j) / 2:Nat):Int):=by
 grind [Go.IntKind.wrap,Qlb,Go.IntKind.bits,Go.IntKind.signed,Min.min,Int.toNat,Int.fdiv_eq_ediv_of_nonneg]
theorem Qbbq {α:Type} {l:List α} {i j:Nat} (h:i≤j) (hj:j≤l.length):slcO l (i:Int) (j:Int)=some ((l.take j).drop i):=by
 simp [slcO,h,hj]
theorem Qbc1:∀ {l m:List Int},l.Pairwise (· < ·)→m.Pairwise (· < ·)→(∀ x,x∈l↔x∈m)→l=m
 | l,m,h1,h2,h=>by
  have n1:l.Nodup:=h1.imp fun h=>by omega
  have n2:m.Nodup:=h2.imp fun h=>by omega
  grind [List.perm_ext_iff_of_nodup,List.Perm.eq_of_pairwise]
section
variable {α:Type} {p:α→Bool}
theorem Q07:∀ {l:List α},l.Pairwise (fun a b=>p b=true→p a=true)→∀ (n:Nat) (h:n<l.length),p l[n]=true↔n<(l.filter p).length
 | [],_,n,h=>by simp at h
 | x::xs,hs,n,h=>by
  obtain ⟨h1,h2⟩:=List.pairwise_cons.1 hs;cases n with
  | zero =>
   cases hx:p x with
   | true=>simp [hx]
   | false =>
    have:xs.filter p=[]:=List.filter_eq_nil_iff.2 fun y hy hp=>by have:=h1 y hy hp;rw [hx] at this;cases this
    simp [hx,this]
  | succ n =>
   have ih:=Q07 h2 n (by simpa using h);cases hx:p x with
   | true=>simp [hx,ih]
   | false =>
    have:xs.filter p=[]:=List.filter_eq_nil_iff.2 fun y hy hp=>by have:=h1 y hy hp;rw [hx] at this;cases this
    rw [this] at ih;simp [hx,this] at ih ⊢;exact ih
end
theorem Qez {X S R:Type} {F:(X→Option R)→X→Option R} {len:Nat} (mk:Nat→S→X) (I:Nat→S→Prop) (G:Nat→S→Option R)
  (step:∀ (k:X→Option R) (n:Nat) (s:S),n<len→I n s→(∀ s',I (n+1) s'→k (mk (n+1) s')=G (n+1) s')→F k (mk n s)=G n s) (last:∀ (k:X→Option R) (s:S),I len s→F k (mk len s)=G len s) :
  ∀ (fuel n:Nat) (s:S),n≤len→len-n<fuel→I n s→Qb5 F fuel (mk n s)=G n s
 | 0,n,s,_,h,_=>by omega
 | fuel+1,n,s,hn,h,hi=>by
  show F (Qb5 F fuel) (mk n s)=_;by_cases hlt:n<len
  ·exact step _ n s hlt hi fun s' hi'=>Qez mk I G step last fuel (n+1) s' (by omega) (by omega) hi'
  grind
theorem Qgk:∀ {l:List Int} {a b:Int},l.Pairwise (· < ·)→(∀ x∈l,a≤x∧x<b)→l.length≤(b-a).toNat
 | [],_,_,_,_=>by simp
 | x::xs,a,b,h,hr=>by
  obtain ⟨h1,h2⟩:=List.pairwise_cons.1 h;have:=Qgk (a:=x+1) (b:=b) h2 fun y hy=>⟨by have:=h1 y hy;omega,(hr y (by simp [hy])).2⟩;have:=hr x (by simp)
  grind
end Go.Abs
end
section
namespace Go.Abs
abbrev big : Nat := 1000000000000
def small (a : Qa) : Prop := a.zD.length < big ∧ a.zF.length < big ∧ a.zG.length < big
end Go.Abs
end
section
namespace Go.Abs
open Go
theorem Qbfr {α:Type} [DecidableEq α] {s t:List α} {ne:α→α→Bool} (hne:∀ x y,ne x y=decide (x≠y)) (hl:s.length=t.length) (h:s.length<1000000000000) :
  Qb5 (fun k5 (i4:Int)=>(if (i4<(s.length:Int)) then ((getO s i4).bind fun x7=>((getO t i4).bind fun x9=>(if ne x7 x9 then some false else k5 (IntKind.wrap .i64 (i4+1))))) else some true)) Qbb 0=some (decide (s=t)):=by
 refine Qbhr (fun i:Int=>∃ n:Nat,i=n∧n≤s.length∧s.take n=t.take n) (fun i=>s.length-i.toNat) _ ⟨0,rfl,by omega,by simp⟩ (by unfold Qbb;omega) ?_;rintro k _ ⟨n,rfl,hn,he⟩ ih;by_cases hlt:n<s.length
 ·rw [if_pos (by omega),Qbf hlt,Qbf (by omega:n<t.length)];simp only [Option.bind_some,hne];by_cases hx:s[n]=t[n]
  ·rw [if_neg (by simp [hx]),Qy (by omega)];exact ih _ ⟨n+1,rfl,by omega,Q8s hlt (by omega) he hx⟩ (by omega)
  ·rw [if_pos (by simp [hx])];have:s≠t:=fun e=>hx (by subst e;rfl);simp [this]
 ·rw [if_neg (by omega)];have e:n=s.length:=by omega
  have:s=t:=by
   rw [e,List.take_length,hl,List.take_length] at he;exact he
  simp [this]
theorem Qbfs {s t:List Int} (h:s.length<1000000000000):Qi2 s t=some (decide (s=t)):=by
 unfold Qi2 Qd2;by_cases hl:s.length=t.length
 ·rw [if_neg (by simp [hl])];exact Qbfr (ne:=fun x y=>x != y) (fun x y=>by rw [Bool.eq_iff_iff];simp) hl h
 ·rw [if_pos (by simp;omega)];have:s≠t:=fun e=>hl (by rw [e]);simp [this]
end Go.Abs
end
section
namespace Go.Abs
open Go
end Go.Abs
end
section
namespace Go.Abs
open Go
def Qgq (n:Int):Option Int→List Int→Int
 | _,[]=>0
 | p,x::xs=>if x<0∨x≥n then 2 else if ∃ y,p=some y∧x≤y then 5 else Qgq n (some x) xs
def Qk0 (al:List Int) (st:Int):Option Qe→List Qe→Int
 | _,[]=>0
 | p,x::xs=>if x.From<0∨x.From≥st∨x.To<0∨x.To≥st then 2 else if x.Event∉al then 9 else if ∃ y,p=some y∧(x.From<y.From∨x.From=y.From∧x.Event≤y.Event) then 5 else Qk0 al st (some x) xs
def Qtn (a:Qa):Int :=
 if Qgq 32 none a.zD≠0 then Qgq 32 none a.zD else if a.zH<0 then 2 else if a.zH>4096 then 3 else
 if Qgq a.zH none a.zF≠0 then Qgq a.zH none a.zF else Qk0 a.zD a.zH none a.zG
def ahead {α:Type} (l:List α) (n:Nat):Option α:=if n=0 then none else l[n-1]?
theorem Qwi {α:Type} (l:List α):ahead l 0=none:=rfl
theorem Q5t {α:Type} (l:List α) {n:Nat} (h:n<l.length):ahead l (n+1)=some l[n]:=by simp [ahead,h]
theorem Q8t {α:Type} (l:List α) {n:Nat} (h0:0<n) (h:n≤l.length):ahead l n=some (l[n-1]'(by omega)):=by
 simp [ahead,show n≠0 from by omega,show n-1<l.length from by omega]
theorem Q8u {n:Int} {l:List Int} {k:Nat} (h:k<l.length):Qgq n (ahead l k) (l.drop k)=if l[k]<0∨l[k]≥n then 2 else if ∃ y,ahead l k=some y∧l[k]≤y then 5 else Qgq n (ahead l (k+1)) (l.drop (k+1)):=by
 rw [List.drop_eq_getElem_cons h,Qgq,Q5t l h]
theorem Q6x {al:List Int} {n:Int} {l:List Qe} {k:Nat} (h:k<l.length):Qk0 al n (ahead l k) (l.drop k)=if l[k].From<0∨l[k].From≥n∨l[k].To<0∨l[k].To≥n then 2 else if l[k].Event∉al then 9 else if ∃ y,ahead l k=some y∧(l[k].From<y.From∨l[k].From=y.From∧l[k].Event≤y.Event) then 5 else Qk0 al n (ahead l (k+1)) (l.drop (k+1)):=by
 rw [List.drop_eq_getElem_cons h,Qk0,Q5t l h]
theorem Qym {l:List Int} {n:Int} (hl:l.length<big):Qho l n=some (Qgq n none l):=by
 unfold Qho Qcv;refine (Qil (len:=l.length) (fun k=>some (Qgq n (ahead l k) (l.drop k))) (by unfold Qbb;unfold big at hl;omega) ?_ ?_).trans (by simp [Qwi])
 ·intro k i hi ih;have hb:i<1000000000000:=by unfold big at hl;omega
  rw [Q8u hi]
  try dsimp only
  rw [if_pos (by omega),Qbf hi,Qy (by omega),ih];simp only [Option.bind_some];by_cases h1:l[i]<0
  ·simp [h1]
  ·by_cases h2:l[i]≥n
   ·simp [h1,h2]
   ·by_cases h0:0<i
    ·rw [Q34 h0 (by omega),Qbf (by omega:i-1<l.length),Q8t l h0 (by omega)];by_cases h3:l[i]≤l[i-1]<;>simp [h1,h2,h3,h0]
    ·obtain rfl:i=0:=by omega
     simp [h1,h2,Qwi]
 ·intro k;simp [Qgq]
theorem Qbht {l:List Int} {v:Int} (hl:l.length<big):Qi0 l v=some (if v∈l then (l.idxOf v:Int) else -1):=by
 unfold Qi0 Qd1;refine (Qil (len:=l.length) (fun k=>some (if v∈l.drop k then ((k+(l.drop k).idxOf v:Nat):Int) else -1)) (by unfold Qbb;unfold big at hl;omega) ?_ ?_).trans (by simp)
 ·intro k i hi ih;have hb:i<1000000000000:=by unfold big at hl;omega
  try dsimp only
  rw [if_pos (by omega),Qbf hi,Qy (by omega),ih,List.drop_eq_getElem_cons hi];simp only [Option.bind_some,List.mem_cons,List.idxOf_cons];by_cases h:v=l[i]
  ·simp [← h]
  ·have:¬ l[i]=v:=fun e=>h e.symm;have hbq:(l[i]==v)=false:=by simp [this]
   by_cases h2:v∈l.drop (i+1)<;>simp [h,h2,hbq];omega
 ·intro k;simp
theorem Qjy {l:List Int} {v:Int} (hl:l.length<big):Q5 l v=some (decide (v∈l)):=by
 unfold Q5 Qj;rw [Qbht hl];simp only [Option.bind_some,Option.some.injEq];by_cases h:v∈l<;>simp [h]
theorem Qbiy {l:List Int} {v:Int} (hl:l.length<big):Qdq l v=some (decide (v∈l)):=by
 unfold Qdq Qb2;refine (Qil (len:=l.length) (fun k=>some (decide (v∈l.drop k))) (by unfold Qbb;unfold big at hl;omega) ?_ ?_).trans (by simp)
 ·intro k i hi ih;have hb:i<1000000000000:=by unfold big at hl;omega
  try dsimp only
  rw [if_pos (by omega),Qbf hi,Qy (by omega),ih,List.drop_eq_getElem_cons hi];simp only [Option.bind_some,List.mem_cons];by_cases h:l[i]=v
  ·simp [h]
  ·have:¬ v=l[i]:=fun e=>h e.symm;simp [h,this]
 ·intro k;simp
theorem Q6y {a:Qa} (h:small a):Qgs a=some (Qk0 a.zD a.zH none a.zG):=by
 obtain ⟨hal,_,hl⟩:=h;unfold Qgs Qcq;refine (Qil (len:=a.zG.length) (fun k=>some (Qk0 a.zD a.zH (ahead a.zG k) (a.zG.drop k))) (by unfold Qbb;unfold big at hl;omega) ?_ ?_).trans (by simp [Qwi])
 ·intro k i hi ih;have hb:i<1000000000000:=by unfold big at hl;omega
  rw [Q6x hi];unfold letJ
  try dsimp only
  rw [if_pos (by omega),Qbf hi,Qy (by omega),ih];simp only [Option.bind_some,Qjy hal];generalize a.zG[i]=x;by_cases h1:x.From<0
  ·simp [h1]
  by_cases h2:x.From≥a.zH
  ·simp [h1,h2]
  by_cases h3:x.To<0
  ·simp [h1,h2,h3]
  by_cases h4:x.To≥a.zH
  ·simp [h1,h2,h3,h4]
  by_cases h5:x.Event∈a.zD
  ·by_cases h0:0<i
   ·rw [Q34 h0 (by omega),Qbf (by omega:i-1<a.zG.length),Q8t a.zG h0 (by omega)];generalize a.zG[i-1]=y;have hi0:i≠0:=by omega
    by_cases h6:x.From<y.From
    ·simp [h1,h2,h3,h4,h5,h6,hi0]
    by_cases h7:y.From=x.From
    ·by_cases h8:x.Event≤y.Event<;>simp [h1,h2,h3,h4,h5,h6,h7,h8,hi0]
    ·have h7' : ¬ x.From=y.From:=fun e=>h7 e.symm;simp [h1,h2,h3,h4,h5,h6,h7,hi0,h7']
   ·obtain rfl:i=0:=by omega
    simp [h1,h2,h3,h4,h5,Qwi]
  ·simp [h1,h2,h3,h4,h5]
 ·intro k;unfold letJ;simp [Qk0]
theorem Qbbr {a:Qa} (h:small a):Qel a=some (Qtn a):=by
 unfold Qel Q1 Qtn;rw [Qym h.1,Qym h.2.1,Q6y h];simp only [Option.bind_some];by_cases h1:Qgq 32 none a.zD=0
 ·by_cases h2:a.zH<0
  ·simp [h1,h2]
  by_cases h3:a.zH>4096
  ·simp [h1,h2,h3]
  by_cases h4:Qgq a.zH none a.zF=0<;>simp [h1,h2,h3,h4]
 ·simp [h1]
end Go.Abs
end
section
namespace Go.Abs
open Go
def Qlc (x y:Qe):Prop:=x.From<y.From∨x.From=y.From∧x.Event<y.Event
instance (x y:Qe):Decidable (Qlc x y):=by unfold Qlc;infer_instance
structure Right (a:Qa):Prop where
 al0:∀ x∈a.zD,0≤x∧x<32
 al:a.zD.Pairwise (· < ·)
 st:0≤a.zH∧a.zH≤4096
 ma0:∀ x∈a.zF,0≤x∧x<a.zH
 ma:a.zF.Pairwise (· < ·)
 ed0:∀ x∈a.zG,0≤x.From∧x.From<a.zH∧0≤x.To∧x.To<a.zH∧x.Event∈a.zD
 ed:a.zG.Pairwise Qlc
theorem Qjz {n:Int}:∀ {l:List Int} {p:Option Int},Qgq n p l=0↔(∀ x∈l,0≤x∧x<n)∧l.Pairwise (· < ·)∧∀ y,p=some y→∀ x∈l,y<x
 | [],p=>by simp [Qgq]
 | x::xs,p=>by
  rw [Qgq];split
  ·rename_i h;refine ⟨fun h=>by omega,fun hh=>?_⟩;have:=hh.1 x (by simp);omega
  ·rename_i h;split
   ·rename_i h2;obtain ⟨y,hy,hxy⟩:=h2;refine ⟨fun h=>by omega,fun hh=>?_⟩;have:=hh.2.2 y hy x (by simp);omega
   ·rename_i h2;rw [Qjz];constructor
    ·rintro ⟨k1,k2,k3⟩;refine ⟨fun z hz=>?_,List.pairwise_cons.2 ⟨fun z hz=>k3 x rfl z hz,k2⟩,fun y hy z hz=>?_⟩
     ·rcases List.mem_cons.1 hz with rfl|hz
      ·omega
      ·exact k1 z hz
     ·have hyx:y<x:=by
       rcases Int.lt_or_le y x with h|h
       ·exact h
       ·exact absurd ⟨y,hy,h⟩ h2
      rcases List.mem_cons.1 hz with rfl|hz
      ·exact hyx
      ·have:=k3 x rfl z hz;omega
    ·rintro ⟨k1,k2,k3⟩;obtain ⟨k4,k5⟩:=List.pairwise_cons.1 k2;exact ⟨fun z hz=>k1 z (by simp [hz]),k5,fun y hy z hz=>by cases hy;exact k4 z hz⟩
theorem Qto {al:List Int} {n:Int}:∀ {l:List Qe} {p:Option Qe},Qk0 al n p l=0↔(∀ x∈l,0≤x.From∧x.From<n∧0≤x.To∧x.To<n∧x.Event∈al)∧l.Pairwise Qlc∧∀ y,p=some y→∀ x∈l,Qlc y x
 | [],p=>by simp [Qk0]
 | x::xs,p=>by
  have tr:∀ a b c:Qe,Qlc a b→Qlc b c→Qlc a c:=fun a b c h k=>by unfold Qlc at *;omega
  rw [Qk0];split
  ·rename_i h;refine ⟨fun h=>by omega,fun hh=>?_⟩;have:=hh.1 x (by simp);omega
  ·rename_i h;split
   ·rename_i h2;refine ⟨fun h=>by omega,fun hh=>?_⟩;exact absurd (hh.1 x (by simp)).2.2.2.2 h2
   ·rename_i hal;split
    ·rename_i h2;obtain ⟨y,hy,hxy⟩:=h2;refine ⟨fun h=>by omega,fun hh=>?_⟩;have:=hh.2.2 y hy x (by simp);unfold Qlc at this;omega
    ·rename_i h2;rw [Qto];constructor
     ·rintro ⟨k1,k2,k3⟩;refine ⟨fun z hz=>?_,List.pairwise_cons.2 ⟨fun z hz=>k3 x rfl z hz,k2⟩,fun y hy z hz=>?_⟩
      ·rcases List.mem_cons.1 hz with rfl|hz
       ·exact ⟨by omega,by omega,by omega,by omega,Decidable.not_not.1 hal⟩
       ·exact k1 z hz
      ·have hyx:Qlc y x:=by
        apply Decidable.byContradiction;intro h;exact h2 ⟨y,hy,by unfold Qlc at h;omega⟩
       rcases List.mem_cons.1 hz with rfl|hz
       ·exact hyx
       ·exact tr _ _ _ hyx (k3 x rfl z hz)
     ·rintro ⟨k1,k2,k3⟩;obtain ⟨k4,k5⟩:=List.pairwise_cons.1 k2;exact ⟨fun z hz=>k1 z (by simp [hz]),k5,fun y hy z hz=>by cases hy;exact k4 z hz⟩
theorem Q8v {a:Qa}:Qtn a=0↔Right a:=by
 unfold Qtn;constructor
 ·intro h;split at h
  ·rename_i h1;exact absurd h h1
  rename_i h1;split at h
  ·omega
  split at h
  ·omega
  split at h
  ·rename_i h4;exact absurd h h4
  rename_i h4;have q1:=Qjz.1 (Decidable.not_not.1 h1);have q2:=Qjz.1 (Decidable.not_not.1 h4);have q3:=Qto.1 h;exact ⟨q1.1,q1.2.1,⟨by omega,by omega⟩,q2.1,q2.2.1,q3.1,q3.2.1⟩
 ·intro h;have q1:Qgq 32 none a.zD=0:=Qjz.2 ⟨h.al0,h.al,fun y hy=>by cases hy⟩;have q2:Qgq a.zH none a.zF=0:=Qjz.2 ⟨h.ma0,h.ma,fun y hy=>by cases hy⟩;have q3:Qk0 a.zD a.zH none a.zG=0:=Qto.2 ⟨h.ed0,h.ed,fun y hy=>by cases hy⟩;have:=h.st;rw [if_neg (by simp [q1]),if_neg (by omega),if_neg (by omega),if_neg (by simp [q2]),q3]
def outP (a:Qa) (s:Int):List Qe:=a.zG.filter fun x=>x.From==s
def Qec (a:Qa) (s e:Int):Int:=match a.zG.find? fun x=>x.From==s&&x.Event==e with
 | some x=>x.To
 | none=>-1
theorem Qbft {l:List Qe} (h:l.Pairwise Qlc) (s:Int):l.Pairwise fun a b=>decide (b.From<s)=true→decide (a.From<s)=true :=
 h.imp fun h=>by unfold Qlc at h;simp;omega
theorem Qbiz {l:List Qe} {s:Int} {cmp:Qe→Int→Option Int} (hcmp:∀ x∈l,cmp x s=some (x.From-s)) (hs:l.Pairwise Qlc) (hl:l.length<big) :
  ∃ b,Qd8 l s cmp=some (((l.filter fun x=>decide (x.From<s)).length:Int),b):=by
 have hc:=fun n h=>Q07 (p:=fun x:Qe=>decide (x.From<s)) (Qbft hs s) n h;have hcl:(l.filter fun x=>decide (x.From<s)).length≤l.length:=List.length_filter_le _ _;generalize (l.filter fun x=>decide (x.From<s)).length=c at hc hcl;have hb:l.length<1000000000000:=hl;unfold Qd8 Qbp;have hloop:=Qc6 (F:=fun (k13:Int×Int→Option Int) ((i11,j12):Int×Int)=>(if (i11<j12) then ((getO l (IntKind.wrap .i64 (Int.fdiv (IntKind.wrap .u64 (IntKind.wrap .i64 (i11+j12))) (2 ^ (min (Int.toNat 1) (IntKind.bits .u64)))))).bind fun x15=>((cmp x15 s).bind fun x18=>(if (x18<0) then k13 ((IntKind.wrap .i64 ((IntKind.wrap .i64 (Int.fdiv (IntKind.wrap .u64 (IntKind.wrap .i64 (i11+j12))) (2 ^ (min (Int.toNat 1) (IntKind.bits .u64)))))+1)),j12) else k13 (i11,(IntKind.wrap .i64 (Int.fdiv (IntKind.wrap .u64 (IntKind.wrap .i64 (i11+j12))) (2 ^ (min (Int.toNat 1) (IntKind.bits .u64))))))))) else some i11))
  (fun x=>∃ i j:Nat,x=((i:Int),(j:Int))∧i≤c∧c≤j∧j≤l.length) (fun x=>(x.2-x.1).toNat) (fun _ r=>r=some (c:Int)) (by
   rintro k _ ⟨i,j,rfl,h1,h2,h3⟩ ih;dsimp only;by_cases hij:i<j
   ·rw [if_pos (by omega),Qbix (by omega) (by omega)];have hm:(i+j) / 2<l.length:=by omega
    rw [Qbf hm];simp only [Option.bind_some];rw [hcmp _ (List.getElem_mem hm)];simp only [Option.bind_some];have hcm:=hc ((i+j) / 2) hm;by_cases hlt:l[(i+j) / 2].From<s
    ·rw [if_pos (by omega),Qy (by omega)];have:(i+j) / 2<c:=hcm.1 (by simpa using hlt);exact ih _ ⟨_,_,rfl,by omega,h2,h3⟩ (by simp only;omega)
    ·rw [if_neg (by omega)];have:¬ (i+j) / 2<c:=fun h=>hlt (by simpa using hcm.2 h);exact ih _ ⟨_,_,rfl,h1,by omega,by omega⟩ (by simp only;omega)
   ·rw [if_neg (by omega)];have:i=c:=by omega
    rw [this]) Qbb (0,(l.length:Int)) ⟨0,l.length,rfl,by omega,hcl,Nat.le_refl _⟩ (by unfold Qbb;simp only;omega)
 rw [hloop];simp only [Option.bind_some];by_cases hlt:c<l.length
 ·rw [if_pos (by omega),Qbf hlt];simp only [Option.bind_some];rw [hcmp _ (List.getElem_mem hlt)];exact ⟨_,rfl⟩
 ·rw [if_neg (by omega)];exact ⟨_,rfl⟩
theorem Q8w:∀ {l:List Qe} (s:Int),l.Pairwise Qlc→(l.take (l.filter fun x=>decide (x.From<s+1)).length).drop (l.filter fun x=>decide (x.From<s)).length=l.filter fun x=>x.From==s
 | [],s,_=>by simp
 | x::xs,s,h=>by
  obtain ⟨h1,h2⟩:=List.pairwise_cons.1 h;have ih:=Q8w s h2;have hge:∀ y∈xs,x.From≤y.From:=fun y hy=>by have:=h1 y hy;unfold Qlc at this;omega
  by_cases hx:x.From<s
  ·have e1:decide (x.From<s)=true:=by simpa using hx
   have e2:decide (x.From<s+1)=true:=by simp;omega
   have e3:(x.From==s)=false:=by simp;omega
   simp only [List.filter_cons,e1,e2,e3,if_true,List.length_cons,List.take_succ_cons,List.drop_succ_cons,Bool.false_eq_true,if_false];exact ih
  ·have hz:xs.filter (fun x=>decide (x.From<s))=[]:=List.filter_eq_nil_iff.2 fun y hy=>by have:=hge y hy;simp;omega
   have e1:decide (x.From<s)=false:=by simpa using hx
   by_cases hq:x.From=s
   ·have e2:decide (x.From<s+1)=true:=by simp;omega
    have e3:(x.From==s)=true:=by simp [hq]
    simp only [List.filter_cons,e1,e2,e3,if_true,List.length_cons,List.take_succ_cons,Bool.false_eq_true,if_false,hz,List.length_nil,List.drop_zero];rw [hz,List.length_nil,List.drop_zero] at ih;rw [ih]
   ·have e2:decide (x.From<s+1)=false:=by simp;omega
    have e3:(x.From==s)=false:=by simp [hq]
    have hz1:xs.filter (fun x=>decide (x.From<s+1))=[]:=List.filter_eq_nil_iff.2 fun y hy=>by have:=hge y hy;simp;omega
    have hz2:xs.filter (fun x=>x.From==s)=[]:=List.filter_eq_nil_iff.2 fun y hy=>by have:=hge y hy;simp;omega
    simp only [List.filter_cons,e1,e2,e3,Bool.false_eq_true,if_false,hz,hz1,hz2,List.length_nil,List.take_zero,List.drop_zero]
section
variable {a:Qa} (h:Right a) (hs:small a)
include h hs
theorem Qbi0 {s:Int} (h0 : -1000000000000<s) (h1:s<1000000000000):Qgp a s=some (outP a s):=by
 unfold Qgp Qcx;have hst:=h.st;have hw:∀ t:Int,-1000000000002<t→t<1000000000002→∀ x∈a.zG,IntKind.wrap .i64 (x.From-t)=x.From-t:=fun t k1 k2 x hx=>by
  have:=h.ed0 x hx;exact Qlb (by omega) (by omega)
 have e1:IntKind.wrap .i64 (s+1)=s+1:=Qlb (by omega) (by omega);obtain ⟨b1,k1⟩:=Qbiz (s:=s) (cmp:=Qj7) (fun x hx=>by unfold Qj7 Qei;rw [hw s (by omega) (by omega) x hx]) h.ed hs.2.2;obtain ⟨b2,k2⟩:=Qbiz (s:=s+1) (cmp:=Qj8) (fun x hx=>by unfold Qj8 Qej;rw [hw (s+1) (by omega) (by omega) x hx]) h.ed hs.2.2;rw [k1,e1];simp only [Option.bind_some];rw [k2];simp only [Option.bind_some];have hle:(a.zG.filter fun x=>decide (x.From<s)).length≤(a.zG.filter fun x=>decide (x.From<s+1)).length :=
  by rw [← List.countP_eq_length_filter,← List.countP_eq_length_filter];exact List.countP_mono_left fun x _ hx=>by simp at hx ⊢;omega
 rw [Qbbq hle (List.length_filter_le _ _),Q8w s h.ed]
 rfl
theorem Qbkb {s e:Int} (h0 : -1000000000000<s) (h1:s<1000000000000):Qkz a s e=some (Qec a s e):=by
 unfold Qkz Qe7;rw [Qbi0 h hs h0 h1];simp only [Option.bind_some];have hl:(outP a s).length<big:=Nat.lt_of_le_of_lt (List.length_filter_le _ _) hs.2.2;have hf:Qec a s e=match (outP a s).find? (fun x=>x.Event==e) with|some x=>x.To|none=>-1:=by
  unfold Qec outP;rw [List.find?_filter];have:(fun x:Qe=>decide ((x.From==s)=true∧(x.Event==e)=true))=fun x=>x.From==s&&x.Event==e:=by
   funext x;rw [Bool.eq_iff_iff];simp
  rw [this]
 rw [hf];generalize outP a s=l at hl;have hi:Qga l (fun a6=>Qi3 a6 e)=some (if ∃ x∈l,x.Event=e then (l.findIdx (fun x=>x.Event==e):Int) else -1):=by
  have hb:l.length<1000000000000:=hl;unfold Qga Qco;refine (Qil (len:=l.length) (fun k=>some (if ∃ x∈l.drop k,x.Event=e then ((k+(l.drop k).findIdx (fun x=>x.Event==e):Nat):Int) else -1)) (by unfold Qbb;omega) ?_ ?_).trans (by simp)
  ·intro k i hi ih;rw [if_pos (by omega),Qbf hi,Qy (by omega),ih,List.drop_eq_getElem_cons hi];simp only [Option.bind_some,Qi3,Qd3,List.findIdx_cons];by_cases hx:l[i].Event=e
   ·have hxb:(l[i].Event==e)=true:=by simp [hx]
    have hz:∃ x∈l[i]::l.drop (i+1),x.Event=e:=⟨l[i],List.mem_cons_self,hx⟩;simp only [hxb,if_true,if_pos hz,cond_true];rfl
   ·have hxb:(l[i].Event==e)=false:=by simp [hx]
    by_cases hy:∃ x∈l.drop (i+1),x.Event=e
    ·have hz:∃ x∈l[i]::l.drop (i+1),x.Event=e:=by obtain ⟨x,k1,k2⟩:=hy;exact ⟨x,List.mem_cons_of_mem _ k1,k2⟩
     simp only [hxb,Bool.false_eq_true,if_false,if_pos hy,if_pos hz,cond_false];have:∀ n:Nat,i+1+n=i+(n+1):=fun n=>by omega
     rw [this]
    ·have hz:¬ ∃ x∈l[i]::l.drop (i+1),x.Event=e:=by
      rintro ⟨x,k1,k2⟩;rcases List.mem_cons.1 k1 with rfl|k1
      ·exact hx k2
      ·exact hy ⟨x,k1,k2⟩
     simp only [hxb,Bool.false_eq_true,if_false,if_neg hy,if_neg hz,cond_false]
  ·intro k;simp
 rw [hi];simp only [Option.bind_some];by_cases hx:∃ x∈l,x.Event=e
 ·rw [if_pos hx,if_neg (by omega)];have hlt:l.findIdx (fun x=>x.Event==e)<l.length:=by
   rw [List.findIdx_lt_length];obtain ⟨x,k1,k2⟩:=hx;exact ⟨x,k1,by simp [k2]⟩
  rw [Qbf hlt];simp only [Option.bind_some];rw [show l.find? (fun x=>x.Event==e)=some l[l.findIdx (fun x=>x.Event==e)] from by
   rw [List.find?_eq_some_iff_getElem];refine ⟨List.findIdx_getElem (w:=hlt),_,hlt,rfl,fun j hj=>?_⟩;have:=List.not_of_lt_findIdx hj;simpa using this]
 ·rw [if_neg hx,if_pos (by omega)];rw [show l.find? (fun x=>x.Event==e)=none from List.find?_eq_none.2 fun x hx' hy=>hx ⟨x,hx',by simpa using hy⟩]
omit h in
theorem Q5u {s e:Int}:Qcw a s e=some (Qec a s e):=by
 have hb:a.zG.length<1000000000000:=hs.2.2;unfold Qcw Qbt;refine (Qil (len:=a.zG.length) (fun k=>some (match (a.zG.drop k).find? (fun x=>x.From==s&&x.Event==e) with|some x=>x.To|none=>-1)) (by unfold Qbb;omega) ?_ ?_).trans (by simp [Qec])
 ·intro k i hi ih;rw [if_pos (by omega),Qbf hi,Qy (by omega),ih,List.drop_eq_getElem_cons hi];simp only [Option.bind_some,List.find?_cons];cases h1:a.zG[i].From==s<;>cases h2:a.zG[i].Event==e<;>simp [h1,h2]
 ·intro k;simp
end
theorem Q35 {a:Qa} (h:Right a) (s e:Int):Qec a s e = -1∨0≤Qec a s e∧Qec a s e<a.zH∧0≤s∧s<a.zH∧e∈a.zD:=by
 unfold Qec;split
 ·rename_i x hx;have hm:=List.mem_of_find?_eq_some hx;have hp:=List.find?_some hx;obtain ⟨k1,k2,k3,k4,k5⟩:=h.ed0 x hm;simp at hp;exact .inr ⟨k3,k4,by omega,by omega,hp.2 ▸ k5⟩
 ·exact .inl rfl
theorem Qj0 {a:Qa} (h:Right a) {s e:Int}:0≤Qec a s e↔∃ x∈outP a s,x.Event=e:=by
 unfold Qec outP;split
 ·rename_i x hx;have hm:=List.mem_of_find?_eq_some hx;have hp:=List.find?_some hx;simp at hp;refine ⟨fun _=>⟨x,by simp [hm,hp.1],hp.2⟩,fun _=>(h.ed0 x hm).2.2.1⟩
 ·rename_i hx;have:=List.find?_eq_none.1 hx;refine ⟨fun h=>by omega,?_⟩;rintro ⟨x,h1,h2⟩;simp at h1;exact absurd (by simp [h1.2,h2]) (this x h1.1)
theorem Qp4 {a:Qa} (h:Right a) (s:Int):(outP a s).map (·.Event)=a.zD.filter fun e=>decide (0≤Qec a s e):=by
 refine Qbc1 ?_ (h.al.filter _) fun e=>?_
 ·rw [List.pairwise_map];have h1:(outP a s).Pairwise Qlc:=h.ed.filter _;have h2:∀ x∈outP a s,x.From=s:=fun x hx=>by unfold outP at hx;simp at hx;exact hx.2
  exact List.Pairwise.imp_of_mem (fun {x y} hx hy hk=>by have:=h2 x hx;have:=h2 y hy;unfold Qlc at hk;omega) h1
 ·simp only [List.mem_map,List.mem_filter,decide_eq_true_eq,Qj0 h];constructor
  ·rintro ⟨x,hx,rfl⟩;refine ⟨?_,x,hx,rfl⟩;unfold outP at hx;simp at hx;exact (h.ed0 x hx.1).2.2.2.2
  ·rintro ⟨_,x,hx,rfl⟩;exact ⟨x,hx,rfl⟩
theorem Qku {a:Qa} (h:Right a) {s:Int} {x:Qe} (hx:x∈outP a s):Qec a s x.Event=x.To:=by
 unfold outP at hx;simp at hx;unfold Qec;split
 ·rename_i y hy;have hm:=List.mem_of_find?_eq_some hy;have hp:=List.find?_some hy;simp at hp;have:x=y:=by
   rcases Classical.em (x=y) with e|hne
   ·exact e
   ·exfalso;have hk:Qlc x y∨Qlc y x:=by
     have:=List.pairwise_iff_getElem.1 h.ed;obtain ⟨i,hi,rfl⟩:=List.getElem_of_mem hx.1;obtain ⟨j,hj,rfl⟩:=List.getElem_of_mem hm;rcases Nat.lt_trichotomy i j with hij|hij|hij
     ·exact .inl (this i j hi hj hij)
     ·subst hij;exact absurd rfl hne
     ·exact .inr (this j i hj hi hij)
    unfold Qlc at hk;omega
  rw [this]
 ·rename_i hn;exact absurd (by simp [hx.2]) (List.find?_eq_none.1 hn x hx.1)
end Go.Abs
end
section
namespace Go.Abs
open Go
theorem Right.small {a:Qa} (h:Right a):small a∧a.zD.length≤32∧a.zF.length≤4096∧a.zG.length≤131072:=by
 have h1:=Qgk h.al h.al0;have h2:=Qgk h.ma h.ma0;have h3:(a.zG.map fun x=>x.From*32+x.Event).Pairwise (· < ·):=by
  rw [List.pairwise_map];refine List.Pairwise.imp_of_mem (fun {x y} hx hy hk=>?_) h.ed;have:=h.al0 _ (h.ed0 x hx).2.2.2.2;have:=h.al0 _ (h.ed0 y hy).2.2.2.2;unfold Qlc at hk;omega
 have h4:=Qgk (a:=0) (b:=131072) h3 (by
  intro z hz;obtain ⟨x,hx,rfl⟩:=List.mem_map.1 hz;have:=h.al0 _ (h.ed0 x hx).2.2.2.2;have:=h.ed0 x hx;have:=h.st;omega)
 rw [List.length_map] at h4;have:=h.st;refine ⟨⟨?_,?_,?_⟩,?_,?_,?_⟩<;>(try unfold big)<;>omega
theorem Qyn {a:Qa} (h:Right a):Qel a=some 0:=by rw [Qbbr h.small.1,Q8v.2 h]
theorem Qbc2 {α β:Type} {l:List α} {f:α→β} {fuel:Nat} (hl:l.length<big) (hf:l.length<fuel) {F:(List β×Int→Option (List β))→List β×Int→Option (List β)}
  (hF:∀ (k:List β×Int→Option (List β)) (acc:List β) (n:Nat) (h:n<l.length),F k (acc,(n:Int))=(appO acc [f l[n]]).bind fun x=>k (x,IntKind.wrap .i64 ((n:Int)+1)))
  (hlast:∀ (k:List β×Int→Option (List β)) (acc:List β),F k (acc,(l.length:Int))=some acc):Qb5 F fuel ([],0)=some (l.map f):=by
 have hb:l.length<1000000000000:=hl;refine (Qez (len:=l.length) (fun n (acc:List β)=>(acc,(n:Int))) (fun n acc=>acc.length≤n) (fun n acc=>some (acc++(l.drop n).map f)) ?_ ?_ fuel 0 [] (Nat.zero_le _) (by omega) (Nat.le_refl _)).trans (by simp)
 ·intro k n acc hn hi ih;rw [hF k acc n hn,Qby (by simp only [List.length_cons,List.length_nil];unfold lim;omega),Option.bind_some,Qy (by omega),ih _ (by simp;omega),List.drop_eq_getElem_cons hn];simp only [List.map_cons,List.append_assoc,List.cons_append,List.nil_append]
 ·intro k acc _;rw [hlast];simp
theorem Qbfu {α β:Type} {l:List α} {f:α→Option β} {fuel:Nat} (hl:l.length<big) (hf:l.length<fuel) {F:(List β×Int→Option (List β))→List β×Int→Option (List β)}
  (hF:∀ (k:List β×Int→Option (List β)) (acc:List β) (n:Nat) (h:n<l.length),acc.length≤n→F k (acc,(n:Int))=k (acc++(f l[n]).toList,IntKind.wrap .i64 ((n:Int)+1)))
  (hlast:∀ (k:List β×Int→Option (List β)) (acc:List β),F k (acc,(l.length:Int))=some acc):Qb5 F fuel ([],0)=some (l.filterMap f):=by
 have hb:l.length<1000000000000:=hl;refine (Qez (len:=l.length) (fun n (acc:List β)=>(acc,(n:Int))) (fun n acc=>acc.length≤n) (fun n acc=>some (acc++(l.drop n).filterMap f)) ?_ ?_ fuel 0 [] (Nat.zero_le _) (by omega) (Nat.le_refl _)).trans (by simp)
 ·intro k n acc hn hi ih;have hlen:(f l[n]).toList.length≤1:=by cases f l[n]<;>simp
  rw [hF k acc n hn hi,Qy (by omega),ih _ (by simp only [List.length_append];omega),List.drop_eq_getElem_cons hn];rw [List.filterMap_cons];cases f l[n]<;>simp only [Option.toList_none,Option.toList_some,List.append_nil,List.append_assoc,List.cons_append,List.nil_append]
 ·intro k acc _;rw [hlast];simp
end Go.Abs
end
section
namespace Go.Abs
open Go
def ins (o:List Int) (t:Int):List Int:=if t∈o then o else o++[t]
def Qsk (a:Qa) (s:Int):List Int:=(outP a s).map (·.To)
def bfs (a:Qa):Nat→Nat→List Int→List Int
 | 0,_,o=>o
 | fuel+1,i,o=>match o[i]? with
  | some s=>bfs a fuel (i+1) ((Qsk a s).foldl ins o)
  | none=>o
def Qnr (a:Qa):List Int:=bfs a (a.zH.toNat+1) 0 (if 0<a.zH then [0] else [])
structure Fnd (a:Qa) (o:List Int):Prop where
 nd:o.Nodup
 rg:∀ s∈o,0≤s∧s<a.zH
theorem Fnd.len {a:Qa} {o:List Int} (h:Fnd a o):o.length≤a.zH.toNat:=by
 have hO:Go.Sort.SWO Qgd:=⟨fun x=>by simp [Qgd],fun x y z h1 h2=>by simp [Qgd] at *;omega,fun x y z h1 h2=>by simp [Qgd] at *;omega⟩;have hp:=Qpy Qgd o;have hs:=Qow hO o;have hn:(Qof Qgd o).Nodup:=(hp.nodup_iff).2 h.nd;have hlt:(Qof Qgd o).Pairwise (· < ·):=by
  have:(Qof Qgd o).Pairwise fun x y=>Qgd y x=false∧x≠y:=hs.and hn;exact this.imp fun ⟨h1,h2⟩=>by simp [Qgd] at h1;omega
 have:=Qgk hlt (a:=0) (b:=a.zH) fun x hx=>h.rg x (hp.mem_iff.1 hx);rw [Qov] at this;simpa using this
theorem Q36 {o:List Int} {t x:Int}:x∈ins o t↔x∈o∨x=t:=by
 unfold ins;split
 ·rename_i h;constructor
  ·exact .inl
  ·rintro (h'|rfl)
   ·exact h'
   ·exact h
 ·simp
theorem Qbkc (o:List Int) (t:Int):o <+: ins o t:=by
 unfold ins;split
 ·exact List.prefix_refl o
 ·exact List.prefix_append o [t]
theorem Fnd.ins {a:Qa} {o:List Int} (h:Fnd a o) {t:Int} (ht:0≤t∧t<a.zH):Fnd a (ins o t):=by
 refine ⟨?_,fun s hs=>?_⟩
 ·unfold Go.Abs.ins;split
  ·exact h.nd
  ·rename_i hn;rw [List.nodup_append];exact ⟨h.nd,by simp,fun x hx y hy=>by simp at hy;subst hy;exact fun e=>hn (e ▸ hx)⟩
 ·rcases Q36.1 hs with hs|rfl
  ·exact h.rg s hs
  ·exact ht
theorem Qvu {a:Qa}:∀ {ts o:List Int},Fnd a o→(∀ t∈ts,0≤t∧t<a.zH)→Fnd a (ts.foldl ins o)∧o <+: ts.foldl ins o∧(∀ t∈ts,t∈ts.foldl ins o)∧∀ x∈ts.foldl ins o,x∈o∨x∈ts
 | [],o,h,_=>⟨h,List.prefix_refl o,by simp,fun x hx=>.inl hx⟩
 | t::ts,o,h,ht=>by
  obtain ⟨h1,h2,h3,h4⟩:=Qvu (ts:=ts) (h.ins (ht t (by simp))) fun t ht'=>ht t (by simp [ht']);refine ⟨h1,(Qbkc o t).trans h2,fun x hx=>?_,fun x hx=>?_⟩
  ·rcases List.mem_cons.1 hx with rfl|hx
   ·exact h2.subset (Q36.2 (.inr rfl))
   ·exact h3 x hx
  ·rcases h4 x hx with h5|h5
   ·rcases Q36.1 h5 with h6|rfl
    ·exact .inl h6
    ·exact .inr (by simp)
   ·exact .inr (by simp [h5])
theorem Qyo {a:Qa} (h:Right a) (s:Int):∀ t∈Qsk a s,0≤t∧t<a.zH:=by
 intro t ht;unfold Qsk outP at ht;obtain ⟨x,hx,rfl⟩:=List.mem_map.1 ht;have:=h.ed0 x ((List.mem_filter.1 hx).1);omega
theorem Qo1 {α:Type} {l m:List α} (h:l <+: m) {i:Nat} {x:α} (hx:l[i]? = some x):m[i]? = some x:=by
 obtain ⟨t,rfl⟩:=h;have:=(List.getElem?_eq_some_iff.1 hx).1;rw [List.getElem?_append_left this];exact hx
theorem Q6z {a:Qa} (h:Right a):∀ (fuel i:Nat) (o:List Int),Fnd a o→i≤o.length→a.zH.toNat+1≤fuel+i→(∀ j s,j<i→o[j]? = some s→∀ t∈Qsk a s,t∈o) →
  Fnd a (bfs a fuel i o)∧o <+: bfs a fuel i o∧∀ s∈bfs a fuel i o,∀ t∈Qsk a s,t∈bfs a fuel i o
 | 0,i,o,hf,hi,hfu,_=>by have:=hf.len;omega
 | fuel+1,i,o,hf,hi,hfu,hc=>by
  unfold bfs;cases hg:o[i]? with
  | none =>
   dsimp only;refine ⟨hf,List.prefix_refl o,fun s hs t ht=>?_⟩;obtain ⟨j,hj⟩:=List.getElem?_of_mem hs;have hlt:=(List.getElem?_eq_some_iff.1 hj).1;exact hc j s (by have:=List.getElem?_eq_none_iff.1 hg;omega) hj t ht
  | some s =>
   dsimp only;obtain ⟨h1,h2,h3,_⟩:=Qvu hf (Qyo h s);have hlen:i<o.length:=(List.getElem?_eq_some_iff.1 hg).1;have hle:=h2.length_le;obtain ⟨k1,k2,k3⟩:=Q6z h fuel (i+1) ((Qsk a s).foldl ins o) h1 (by omega) (by omega) (fun j s' hj hs' t ht=>by
    by_cases hji:j<i
    ·have hjl:j<o.length:=by omega
     have:o[j]? = some s':=by
      have:=Qo1 h2 (List.getElem?_eq_getElem hjl);rw [hs'] at this;rw [List.getElem?_eq_getElem hjl];exact this.symm
     exact h2.subset (hc j s' hji this t ht)
    ·obtain rfl:j=i:=by omega
     have:=Qo1 h2 hg;rw [hs'] at this;cases this;exact h3 t ht)
   exact ⟨k1,h2.trans k2,k3⟩
theorem Qwj {a:Qa} (h:Right a):Fnd a (Qnr a)∧(if 0<a.zH then [0] else []) <+: Qnr a∧∀ s∈Qnr a,∀ t∈Qsk a s,t∈Qnr a :=
 Q6z h _ 0 _ ⟨by split<;>simp,fun s hs=>by split at hs<;>simp at hs;subst hs;omega⟩ (Nat.zero_le _) (by omega) fun j s hj=>by omega
def Qxo (m:List Int):Nat→List Int→List Int
 | _,[]=>[]
 | i,s::t=>(if s∈m then [(i:Int)] else [])++Qxo m (i+1) t
def rowP (a:Qa) (F:List Int) (i:Nat) (s:Int):List Qe:=(outP a s).map fun x=>⟨(i:Int),x.Event,(F.idxOf x.To:Int)⟩
def Qxp (a:Qa) (F:List Int):Nat→List Int→List Qe
 | _,[]=>[]
 | i,s::t=>rowP a F i s++Qxp a F (i+1) t
def Qvv (a:Qa):Qa:=⟨a.zD,((Qnr a).length:Int),Qxo a.zF 0 (Qnr a),Qxp a (Qnr a) 0 (Qnr a)⟩
theorem Qvw {m:List Int}:∀ {l:List Int} {i:Nat},∀ x∈Qxo m i l,(i:Int)≤x∧x<(i+l.length:Nat)
 | [],i,x,hx=>by simp [Qxo] at hx
 | s::t,i,x,hx=>by
  simp only [Qxo,List.mem_append] at hx;rcases hx with hx|hx
  ·split at hx<;>simp at hx;subst hx;simp only [List.length_cons];omega
  ·have:=Qvw x hx;simp only [List.length_cons];omega
theorem Qzz {m:List Int}:∀ {l:List Int} {i:Nat},(Qxo m i l).Pairwise (· < ·)
 | [],i=>.nil
 | s::t,i=>by
  simp only [Qxo];rw [List.pairwise_append];refine ⟨by split<;>simp,Qzz,fun x hx y hy=>?_⟩;have:=Qvw y hy;split at hx<;>simp at hx;omega
theorem Qyp {a:Qa} {F:List Int}:∀ {l:List Int} {i:Nat},∀ x∈Qxp a F i l,(i:Int)≤x.From∧x.From<(i+l.length:Nat)∧∃ s∈l,∃ y∈outP a s,x.Event=y.Event∧x.To=(F.idxOf y.To:Int)
 | [],i,x,hx=>by simp [Qxp] at hx
 | s::t,i,x,hx=>by
  simp only [Qxp,List.mem_append] at hx;rcases hx with hx|hx
  ·obtain ⟨y,hy,rfl⟩:=List.mem_map.1 hx;simp only [List.length_cons];exact ⟨by omega,by omega,s,by simp,y,hy,rfl,rfl⟩
  ·obtain ⟨h1,h2,s',h3,h4⟩:=Qyp x hx;simp only [List.length_cons];exact ⟨by omega,by omega,s',by simp [h3],h4⟩
theorem Qz0 {a:Qa} (h:Right a) {F:List Int}:∀ {l:List Int} {i:Nat},(Qxp a F i l).Pairwise Qlc
 | [],i=>.nil
 | s::t,i=>by
  simp only [Qxp];rw [List.pairwise_append];refine ⟨?_,Qz0 h,fun x hx y hy=>?_⟩
  ·unfold rowP;rw [List.pairwise_map];have h1:(outP a s).Pairwise Qlc:=h.ed.filter _;have h2:∀ x∈outP a s,x.From=s:=fun x hx=>by unfold outP at hx;simp at hx;exact hx.2
   exact List.Pairwise.imp_of_mem (fun {x y} hx hy hk=>by have:=h2 x hx;have:=h2 y hy;unfold Qlc at hk;exact .inr ⟨rfl,by show x.Event<y.Event;omega⟩) h1
  ·obtain ⟨z,_,rfl⟩:=List.mem_map.1 hx;have:=(Qyp y hy).1;unfold Qlc;simp only;omega
theorem Q8x {a:Qa} (h:Right a):Right (Qvv a):=by
 obtain ⟨h1,h2,h3⟩:=Qwj h;have hl:=h1.len;have hst:=h.st;refine ⟨h.al0,h.al,⟨by simp only [Qvv];omega,by simp only [Qvv];omega⟩,fun x hx=>?_,Qzz,fun x hx=>?_,Qz0 h⟩
 ·have:=Qvw x hx;simp only [Qvv];omega
 ·obtain ⟨k1,k2,s,hs,y,hy,k3,k4⟩:=Qyp x hx;have hy' : y.To∈Qnr a:=h3 s hs y.To (List.mem_map.2 ⟨y,hy,rfl⟩);have:=List.idxOf_lt_length_iff.2 hy';simp only [Qvv];refine ⟨by omega,by omega,by omega,by omega,?_⟩;rw [k3];unfold outP at hy;exact (h.ed0 y ((List.mem_filter.1 hy).1)).2.2.2.2
end Go.Abs
end
section
namespace Go.Abs
open Go
theorem Qbbs {l:List Int} (hl:l.length≤lim):Qfu l=some ⟨l,0,[],[]⟩:=by
 unfold Qfu Qbm;rw [Qby (by simpa using hl)];rfl
theorem Qbaa {l:List Int} {v:Int} (hl:l.length<big):Qfv l v=some (if v∈l then (l.idxOf v:Int) else -1):=by
 have hb:l.length<1000000000000:=hl;unfold Qfv Qc4;refine (Qil (len:=l.length) (fun k=>some (if v∈l.drop k then ((k+(l.drop k).idxOf v:Nat):Int) else -1)) (by unfold Qbb;omega) ?_ ?_).trans (by simp)
 ·intro k i hi ih;rw [if_pos (by omega),Qbf hi,Qy (by omega),ih,List.drop_eq_getElem_cons hi];simp only [Option.bind_some,List.mem_cons,List.idxOf_cons];by_cases h:v=l[i]
  ·simp [← h]
  ·have h' : ¬ l[i]=v:=fun e=>h e.symm;have hbq:(l[i]==v)=false:=by simp [h']
   by_cases h2:v∈l.drop (i+1)<;>simp [h,h2,hbq];omega
 ·intro k;simp
theorem Q1t {a:Qa} (h:Right a) (s:Int):Qsk a s=(a.zD.filter fun e=>decide (0≤Qec a s e)).map (Qec a s):=by
 rw [← Qp4 h,List.map_map];unfold Qsk;exact List.map_congr_left fun x hx=>(Qku h hx).symm
theorem Q5v {a:Qa} (s:Int):∀ (al o:List Int),al.foldl (fun o e=>if 0≤Qec a s e then ins o (Qec a s e) else o) o=((al.filter fun e=>decide (0≤Qec a s e)).map (Qec a s)).foldl ins o
 | [],o=>rfl
 | e::al,o=>by
  by_cases hx:0≤Qec a s e<;>simp [List.filter_cons,hx,Q5v s al]
theorem Qbbt {a:Qa} {fuel i:Nat} {o:List Int} (hi:i<o.length):bfs a (fuel+1) i o=bfs a fuel (i+1) ((Qsk a o[i]).foldl ins o):=by
 conv=>lhs;unfold bfs
 rw [List.getElem?_eq_getElem hi]
theorem Qbfv {a:Qa} {fuel:Nat} {o:List Int}:bfs a fuel o.length o=o:=by
 cases fuel with
 | zero=>rfl
 | succ n=>unfold bfs;simp
section
variable {a:Qa} (h:Right a)
include h
theorem Qbc3 (fuel:Nat) (hfu:1099511627776≤fuel) {s:Int} {o:List Int} {i:Nat} (hf:Fnd a o) (hi:o[i]? = some s) :
  Qb5 (fun k12 ((out10,k11):(List Int)×Int)=>(if (k11<(a.zD.length:Int)) then ((((getO out10 (i:Int)).bind fun x14=>((getO a.zD k11).bind fun x16=>((Qcw a x14 x16).bind fun x19=>(((if (x19≥0) then ((Qdq out10 x19).bind fun x22=>some (!x22)) else some false)).bind fun (x23:Bool)=>(if x23 then ((appO out10 [x19]).bind fun x25=>some x25) else some out10)))))).bind fun (out27:List Int)=>k12 (out27,(IntKind.wrap .i64 (k11+1)))) else some out10)) fuel (o,0)=some ((Qsk a s).foldl ins o):=by
 have hs:=h.small.1;have hst:=h.st;have hb:a.zD.length<1000000000000:=hs.1;rw [Q1t h,← Q5v];refine (Qez (len:=a.zD.length) (fun n (acc:List Int)=>(acc,(n:Int))) (fun n acc=>Fnd a acc∧acc[i]? = some s) (fun n acc=>some ((a.zD.drop n).foldl (fun o e=>if 0≤Qec a s e then ins o (Qec a s e) else o) acc)) ?_ ?_ fuel 0 o (Nat.zero_le _) (by omega) ⟨hf,hi⟩).trans (by simp)
 ·intro k n acc hn ⟨k1,k2⟩ ih;have hlen:=k1.len;have hg:getO acc (i:Int)=some s:=by rw [Qey];exact ⟨by omega,by simpa using k2⟩
  dsimp only;rw [if_pos (by omega),hg,Qbf hn];simp only [Option.bind_some];rw [Q5u hs,Qy (by omega)];simp only [Option.bind_some];rw [Qbiy (by unfold big;omega),List.drop_eq_getElem_cons hn,List.foldl_cons];rcases Q35 h s a.zD[n] with hr|hr
  ·rw [hr];simp only [show ¬ ((-1:Int)≥0) from by omega,show ¬ ((0:Int) ≤ -1) from by omega,if_false,Option.bind_some,Bool.false_eq_true];exact ih _ ⟨k1,k2⟩
  ·have hge:Qec a s a.zD[n]≥0:=hr.1;by_cases hm:Qec a s a.zD[n]∈acc
   ·simp only [hge,hm,decide_true,Bool.not_true,if_true,Option.bind_some,Bool.false_eq_true,if_false,hr.1,ins];exact ih _ ⟨k1,k2⟩
   ·simp only [hge,hm,decide_false,Bool.not_false,if_true,Option.bind_some,hr.1,ins,if_false];rw [Qby (by simp only [List.length_cons,List.length_nil];unfold lim;omega)];simp only [Option.bind_some];have hi':=k1.ins (t:=Qec a s a.zD[n]) ⟨hr.1,hr.2.1⟩;unfold ins at hi';rw [if_neg hm] at hi';exact ih _ ⟨hi',Qo1 (List.prefix_append acc _) k2⟩
 ·intro k acc _;dsimp only;rw [if_neg (by omega)];simp
theorem Qbab:Qhe a=some (Qnr a):=by
 have hs:=h.small.1;have hst:=h.st;unfold Qhe Qc3;obtain ⟨fuel,hfu,hge⟩ : ∃ f,Qbb=f∧1099511627776≤f:=⟨_,rfl,Nat.le_refl _⟩;rw [hfu];have hloop:∀ o:List Int,Fnd a o→Qb5 (fun (k8:List Int×Int→Option (List Int)) ((out6,i7):(List Int)×Int)=>(if (i7<(out6.length:Int)) then ((Qb5 (fun k12 ((out10,k11):(List Int)×Int)=>(if (k11<(a.zD.length:Int)) then ((((getO out10 i7).bind fun x14=>((getO a.zD k11).bind fun x16=>((Qcw a x14 x16).bind fun x19=>(((if (x19≥0) then ((Qdq out10 x19).bind fun x22=>some (!x22)) else some false)).bind fun (x23:Bool)=>(if x23 then ((appO out10 [x19]).bind fun x25=>some x25) else some out10)))))).bind fun (out27:List Int)=>k12 (out27,(IntKind.wrap .i64 (k11+1)))) else some out10)) fuel (out6,0)).bind fun (out28:List Int)=>k8 (out28,(IntKind.wrap .i64 (i7+1)))) else some out6)) fuel (o,0)=some (bfs a (a.zH.toNat+1) 0 o):=by
  intro o ho;have:=Qc6 (F:=fun (k8:List Int×Int→Option (List Int)) ((out6,i7):(List Int)×Int)=>(if (i7<(out6.length:Int)) then ((Qb5 (fun k12 ((out10,k11):(List Int)×Int)=>(if (k11<(a.zD.length:Int)) then ((((getO out10 i7).bind fun x14=>((getO a.zD k11).bind fun x16=>((Qcw a x14 x16).bind fun x19=>(((if (x19≥0) then ((Qdq out10 x19).bind fun x22=>some (!x22)) else some false)).bind fun (x23:Bool)=>(if x23 then ((appO out10 [x19]).bind fun x25=>some x25) else some out10)))))).bind fun (out27:List Int)=>k12 (out27,(IntKind.wrap .i64 (k11+1)))) else some out10)) fuel (out6,0)).bind fun (out28:List Int)=>k8 (out28,(IntKind.wrap .i64 (i7+1)))) else some out6))
   (fun x=>∃ i:Nat,x.2=(i:Int)∧i≤x.1.length∧Fnd a x.1) (fun x=>a.zH.toNat+1-x.2.toNat) (fun x r=>r=some (bfs a (a.zH.toNat+1-x.2.toNat) x.2.toNat x.1)) (by
    rintro k ⟨o,i⟩ ⟨i,rfl,hi,hf⟩ ih;replace hi:i≤o.length:=hi;replace hf:Fnd a o:=hf;have hl:=hf.len;dsimp only;by_cases hlt:i<o.length
    ·rw [if_pos (by omega),Qbc3 h fuel hge hf (List.getElem?_eq_getElem hlt),Option.bind_some,Qy (by omega)];obtain ⟨q1,q2,_,_⟩:=Qvu hf (Qyo h o[i]);have hle:=q2.length_le;rw [ih _ ⟨i+1,rfl,by simp only;omega,q1⟩ (by simp only;omega)];simp only [Int.toNat_natCast];rw [show a.zH.toNat+1-i=(a.zH.toNat+1-(i+1))+1 from by omega,Qbbt hlt]
    ·rw [if_neg (by omega)];obtain rfl:i=o.length:=by omega
     simp only [Int.toNat_natCast,Qbfv]) fuel (o,0) ⟨0,rfl,Nat.zero_le _,ho⟩ (by simp only;omega)
  simpa using this
 by_cases h0:0<a.zH
 ·rw [if_pos (by omega),Qby (by simp only [List.length_cons,List.length_nil];unfold lim;omega)];simp only [Option.bind_some];rw [show ([]++[0]:List Int)=[0] from rfl,hloop [0] ⟨by simp,fun s hs=>by simp at hs;subst hs;omega⟩];simp only [Option.bind_some,Qnr,if_pos h0]
 ·rw [if_neg (by omega)];simp only [Option.bind_some];rw [hloop [] ⟨by simp,fun s hs=>by simp at hs⟩];simp only [Option.bind_some,Qnr,if_neg h0]
theorem Q5w (fuel:Nat) (hfu:1099511627776≤fuel) {F:List Int} (hF:Fnd a F) (hcl:∀ s∈F,∀ t∈Qsk a s,t∈F) {s:Int} {i:Nat} (hi:F[i]? = some s) (ms:List Int) (es:List Qe) (hes:es.length≤200000) :
  Qb5 (fun (k24:Int×List Qe→Option (List Int×List Qe)) ((k22,out23):Int×(List Qe))=>(if (k22<(a.zD.length:Int)) then ((((getO F (i:Int)).bind fun x26=>((getO a.zD k22).bind fun x28=>((Qcw a x26 x28).bind fun x31=>(if (x31≥0) then ((getO a.zD k22).bind fun x33=>((Qfv F x31).bind fun x36=>((appO out23 [(Qe.mk (i:Int) x33 x36)]).bind fun x37=>some x37))) else some out23))))).bind fun (out39:List Qe)=>k24 ((IntKind.wrap .i64 (k22+1)),out39)) else some (ms,out23))) fuel (0,es)=some (ms,es++rowP a F i s):=by
 have hs:=h.small.1;have hst:=h.st;have hal:=h.small.2.1;have hb:a.zD.length<1000000000000:=hs.1;have hFl:=hF.len;have hrow:rowP a F i s=(a.zD.filter fun e=>decide (0≤Qec a s e)).map fun e=>⟨(i:Int),e,(F.idxOf (Qec a s e):Int)⟩:=by
  rw [← Qp4 h,List.map_map];unfold rowP;exact List.map_congr_left fun x hx=>by simp only [Function.comp];rw [Qku h hx]
 rw [hrow];refine (Qez (len:=a.zD.length) (fun n (acc:List Qe)=>((n:Int),acc)) (fun n acc=>acc.length≤200000+n) (fun n acc=>some (ms,acc++((a.zD.drop n).filter fun e=>decide (0≤Qec a s e)).map fun e=>⟨(i:Int),e,(F.idxOf (Qec a s e):Int)⟩)) ?_ ?_ fuel 0 es (Nat.zero_le _) (by omega) (by omega)).trans (by simp)
 ·intro k n acc hn k1 ih;have hg:getO F (i:Int)=some s:=by rw [Qey];exact ⟨by omega,by simpa using hi⟩
  dsimp only;rw [if_pos (by omega),hg,Qbf hn];simp only [Option.bind_some];rw [Q5u hs,Qy (by omega)];simp only [Option.bind_some];rw [List.drop_eq_getElem_cons hn,List.filter_cons];by_cases hr:0≤Qec a s a.zD[n]
  ·have hm:Qec a s a.zD[n]∈F:=hcl s (List.mem_of_getElem? hi) _ (by rw [Q1t h];exact List.mem_map.2 ⟨_,List.mem_filter.2 ⟨List.getElem_mem hn,by simpa using hr⟩,rfl⟩);rw [if_pos hr,Qbaa (by unfold big;omega),if_pos hm];simp only [Option.bind_some];rw [Qby (by simp only [List.length_cons,List.length_nil];unfold lim;omega)];simp only [Option.bind_some];rw [ih _ (by simp only [List.length_append,List.length_cons,List.length_nil];omega)];simp only [hr,decide_true,if_true,List.map_cons,List.append_assoc,List.cons_append,List.nil_append]
  ·rw [if_neg (by omega)];simp only [Option.bind_some];rw [ih _ (by omega)];simp only [hr,decide_false,Bool.false_eq_true,if_false]
 ·intro k acc _;dsimp only;rw [if_neg (by omega)];simp
theorem Qbhu {F:List Int} {i:Nat} {s:Int}:(rowP a F i s).length≤32:=by
 have:=h.small.2.1;have h1:(rowP a F i s).length=((outP a s).map (·.Event)).length:=by simp [rowP]
 rw [h1,Qp4 h];exact Nat.le_trans (List.length_filter_le _ _) this
theorem Q37:Qfm a=some (Qvv a):=by
 have hs:=h.small.1;have hst:=h.st;have hal:=h.small.2.1;have hb:a.zD.length<1000000000000:=hs.1;obtain ⟨hF,_,hcl⟩:=Qwj h;have hFl:=hF.len;unfold Qfm Qb9;obtain ⟨fuel,hfu,hge⟩ : ∃ f,Qbb=f∧1099511627776≤f:=⟨_,rfl,Nat.le_refl _⟩;rw [hfu,Qbab h,Option.bind_some,Qbbs (by unfold lim;omega),Option.bind_some];unfold Qvv;generalize Qnr a=F at hF hcl hFl;show Option.bind (Qb5 _ fuel (((0:Nat):Int),[],[],[],[],[])) _=_;rw [Qez (len:=F.length) (R:=List Int×List Int×List Qe×List Int×List Qe) (fun n (acc:List Int×List Qe)=>((n:Int),([]:List Int),([]:List Int),([]:List Qe),acc.1,acc.2)) (fun n acc=>acc.1.length≤n∧acc.2.length≤32*n)
  (fun n acc=>some (([]:List Int),([]:List Int),([]:List Qe),acc.1++Qxo a.zF n (F.drop n),acc.2++Qxp a F n (F.drop n))) ?_ ?_ fuel 0 ([],[]) (Nat.zero_le _) (by omega) ⟨Nat.zero_le _,Nat.zero_le _⟩]
 ·simp
 ·rintro k n ⟨ms,es⟩ hn ⟨k1,k2⟩ ih;replace k1:ms.length≤n:=k1;replace k2:es.length≤32*n:=k2;have hg:=List.getElem?_eq_getElem hn;dsimp only;rw [if_pos (by omega),Qbf hn];simp only [Option.bind_some];rw [Qbiy hs.2.1];simp only [Option.bind_some];have hrl:=Qbhu h (F:=F) (i:=n) (s:=F[n]);rw [List.drop_eq_getElem_cons hn];simp only [Qxo,Qxp];by_cases hm:F[n]∈a.zF
  ·simp only [hm,decide_true,if_true];rw [Qby (by simp only [List.length_cons,List.length_nil];unfold lim;omega)];simp only [Option.bind_some];have:=Q5w h fuel hge hF hcl hg (ms++[(n:Int)]) es (by omega);rw [Qbf hn] at this;simp only [Option.bind_some] at this;rw [this];simp only [Option.bind_some];rw [Qy (by omega),ih (ms++[(n:Int)],es++rowP a F n F[n]) ⟨by simp only [List.length_append,List.length_cons,List.length_nil];omega,by simp only [List.length_append];omega⟩];simp only [List.append_assoc]
  ·simp only [hm,decide_false,Bool.false_eq_true,if_false,Option.bind_some];have:=Q5w h fuel hge hF hcl hg ms es (by omega);rw [Qbf hn] at this;simp only [Option.bind_some] at this;rw [this];simp only [Option.bind_some];rw [Qy (by omega),ih (ms,es++rowP a F n F[n]) ⟨by simp only;omega,by simp only [List.length_append];omega⟩];simp only [List.append_assoc,List.nil_append]
 ·rintro k ⟨ms,es⟩ _;dsimp only;rw [if_neg (by omega)];simp [Qxo,Qxp]
end
end Go.Abs
end
section
namespace Go.Abs
open Go
theorem Qbkd (x y:Int):Qks x y=some (decide (x<y)):=by
 unfold Qks Qgc Qpz Qeq;simp
theorem Qbhv (x:Int):Qi1 x=some false:=by
 unfold Qi1 Qdg;simp
theorem Qbfw {l:List Int} (h:l.Pairwise (· < ·)) (v:Int):l.Pairwise fun a b=>decide (b<v)=true→decide (a<v)=true :=
 h.imp fun h=>by simp;omega
theorem Qbfx {l:List Int} {v:Int} (hs:l.Pairwise (· < ·)) (hl:l.length<big):∃ n,Qfl l v=some (n,decide (v∈l)):=by
 have hc:=fun n h=>Q07 (p:=fun x:Int=>decide (x<v)) (Qbfw hs v) n h;have hcl:(l.filter fun x=>decide (x<v)).length≤l.length:=List.length_filter_le _ _;generalize (l.filter fun x=>decide (x<v)).length=c at hc hcl;have hb:l.length<1000000000000:=hl;unfold Qfl Qb8;obtain ⟨fuel,hfu,hge⟩ : ∃ f,Qbb=f∧1099511627776≤f:=⟨_,rfl,Nat.le_refl _⟩;rw [hfu];have hloop:=Qc6 (F:=fun (k5:Int×Int→Option Int) ((i3,j4):Int×Int)=>(if (i3<j4) then ((getO l (IntKind.wrap .i64 (Int.fdiv (IntKind.wrap .u64 (IntKind.wrap .i64 (i3+j4))) (2 ^ (min (Int.toNat 1) (IntKind.bits .u64)))))).bind fun x7=>((Qks x7 v).bind fun x10=>(if x10 then k5 ((IntKind.wrap .i64 ((IntKind.wrap .i64 (Int.fdiv (IntKind.wrap .u64 (IntKind.wrap .i64 (i3+j4))) (2 ^ (min (Int.toNat 1) (IntKind.bits .u64)))))+1)),j4) else k5 (i3,(IntKind.wrap .i64 (Int.fdiv (IntKind.wrap .u64 (IntKind.wrap .i64 (i3+j4))) (2 ^ (min (Int.toNat 1) (IntKind.bits .u64))))))))) else some i3))
  (fun x=>∃ i j:Nat,x=((i:Int),(j:Int))∧i≤c∧c≤j∧j≤l.length) (fun x=>(x.2-x.1).toNat) (fun _ r=>r=some (c:Int)) (by
   rintro k _ ⟨i,j,rfl,h1,h2,h3⟩ ih;dsimp only;by_cases hij:i<j
   ·rw [if_pos (by omega),Qbix (by omega) (by omega)];have hm:(i+j) / 2<l.length:=by omega
    rw [Qbf hm];simp only [Option.bind_some];rw [Qbkd];simp only [Option.bind_some];have hcm:=hc ((i+j) / 2) hm;by_cases hlt:l[(i+j) / 2]<v
    ·rw [if_pos (by simpa using hlt),Qy (by omega)];have:(i+j) / 2<c:=hcm.1 (by simpa using hlt);exact ih _ ⟨_,_,rfl,by omega,h2,h3⟩ (by simp only;omega)
    ·rw [if_neg (by simpa using hlt)];have:¬ (i+j) / 2<c:=fun h=>hlt (by simpa using hcm.2 h);exact ih _ ⟨_,_,rfl,h1,by omega,by omega⟩ (by simp only;omega)
   ·rw [if_neg (by omega)];have:i=c:=by omega
    rw [this]) fuel (0,(l.length:Int)) ⟨0,l.length,rfl,by omega,hcl,Nat.le_refl _⟩ (by simp only;omega)
 rw [hloop];simp only [Option.bind_some];have hmem:v∈l↔∃ h:c<l.length,l[c]=v:=by
  constructor
  ·intro hv;obtain ⟨j,hj,rfl⟩:=List.getElem_of_mem hv;have h1:¬ j<c:=fun h=>by have:=(hc j hj).2 h;simp at this
   have h2:c<l.length:=by omega
   refine ⟨h2,?_⟩;have h3:¬ l[c]<l[j]:=fun h=>by have:=(hc c h2).1 (by simpa using h);omega
   rcases Nat.lt_or_ge c j with h|h
   ·have:=List.pairwise_iff_getElem.1 hs c j h2 hj h;omega
   ·have:c=j:=by omega
    subst this;rfl
  ·rintro ⟨h,rfl⟩;exact List.getElem_mem h
 by_cases hlt:c<l.length
 ·rw [if_pos (by omega),Qbf hlt];simp only [Option.bind_some];by_cases he:l[c]=v
  ·rw [if_pos (by simpa using he)];exact ⟨_,by rw [decide_eq_true (hmem.2 ⟨hlt,he⟩)]⟩
  ·rw [if_neg (by simpa using he),Qbhv];exact ⟨_,by rw [decide_eq_false (fun h=>he (hmem.1 h).2)];rfl⟩
 ·rw [if_neg (by omega)];exact ⟨_,by rw [decide_eq_false (fun h=>hlt (hmem.1 h).1)]⟩
theorem Q60 {l:List Int} (hl:l.length≤lim):Qcb l=some l:=by
 unfold Qcb Qbe;rw [Qby (by simpa using hl)];cases l<;>simp [nilO]
structure Num (a:Qa) (o num:List Int):Prop where
 len:num.length=a.zH.toNat
 at1:∀ s:Nat,s<a.zH.toNat→num[s]? = some (if (s:Int)∈o then (o.idxOf (s:Int):Int) else -1)
theorem Num.get {a:Qa} {o num:List Int} (h:Num a o num) {t:Int} (ht:0≤t∧t<a.zH):getO num t=some (if t∈o then (o.idxOf t:Int) else -1):=by
 rw [Qey];refine ⟨ht.1,?_⟩;have:=h.at1 t.toNat (by omega)
 rwa [show ((t.toNat:Nat):Int)=t from by omega] at this
theorem Num.set {a:Qa} {o num:List Int} (h:Num a o num) {t:Int} (ht:0≤t∧t<a.zH) (hn:t∉o):∃ num',setO num t (o.length:Int)=some num'∧Num a (o++[t]) num':=by
 refine ⟨num.set t.toNat (o.length:Int),by unfold setO;rw [if_pos ⟨ht.1,by rw [h.len];omega⟩],by rw [List.length_set];exact h.len,fun s hs=>?_⟩;rw [List.getElem?_set];by_cases he:t.toNat=s
 ·subst he;rw [if_pos rfl,if_pos (by rw [h.len];omega),show ((t.toNat:Nat):Int)=t from by omega,if_pos (by simp),List.idxOf_append,if_neg hn];simp
 ·rw [if_neg he,h.at1 s hs];have hne:(s:Int)≠t:=by omega
  by_cases hm:(s:Int)∈o
  ·rw [if_pos hm,if_pos (by simp [hm]),List.idxOf_append,if_pos hm]
  ·rw [if_neg hm,if_neg (by simp [hm,hne])]
section
variable {a:Qa} (h:Right a)
include h
end
end Go.Abs
end
