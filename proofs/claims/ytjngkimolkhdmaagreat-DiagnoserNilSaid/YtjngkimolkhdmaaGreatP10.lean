/-
  Part 10 of the proof: see the last text.
-/
import Derived.Test.YtjngkimolkhdmaaGreatP9
import Derived.Deep.RegionLaw
import Derived.Deep.DeepCutAuto
import Derived.Deep.CutBlock
import Derived.OrdersIn
import Derived.TacticsIn
import Derived.RangeFuncCalls
import Derived.Sort.QuietTacIn
import Derived.Lib.OwnKind
import Derived.RangeFuncLeaves
import Derived.RangeFuncWrites
import Derived.OrdersHeld
import Derived.RegionTactic
import Derived.Deep.RegionHeld3
import Derived.OwnWalkIn
import Derived.RegionIn
import Derived.LoopNIn
import Derived.LoopIn
import Derived.TacticsInMore
import Derived.KernelRfl
import Derived.OpenShut
import Derived.ProofKit
import Derived.Carry
import GoSem.Claim
import GoSem.ClaimJoined
import Derived.JoinedTies
import Derived.Test.YtjngkimolkhdmaaGreatProg
set_option linter.unusedVariables false
set_option linter.unusedSimpArgs false
set_option linter.unusedSectionVars false
section
namespace Go.Proofs
open Go.Shelf Go.RowKit Go.Lib Go.Sort Go.Abs
set_option maxRecDepth 100000
set_option maxHeartbeats 1000000
theorem Tryz.index_at (ba oa ca:Nat) (w:World) (a0:w.cell? ⟨ba,oa,none⟩=some (.int .i64 0)) (a1:w.cell? ⟨ba,oa+1,none⟩=some (.int .i64 1)) :
  Calls Tryz.prog 118 #[.slice (some ⟨ba,oa,none⟩) 2 ca,.int .i64 0] w fun e w'=>e = .returned (.int .i64 0)∧Below w.heap.size w w':=by
 go_enter Tryz.func118,Tryz.ntmps118
 go_wp2
 refine wp_loop_rounds 1 ?_;rw [rounds_succ]
 go_wp2
 go_ret
 exact ⟨rfl,Below.refl _ _⟩
theorem Tryz.contains_at (ba oa ca:Nat) (w:World) (a0:w.cell? ⟨ba,oa,none⟩=some (.int .i64 0)) (a1:w.cell? ⟨ba,oa+1,none⟩=some (.int .i64 1)) :
  Calls Tryz.prog 87 #[.slice (some ⟨ba,oa,none⟩) 2 ca,.int .i64 0] w fun e w'=>e = .returned (.bool true)∧Below w.heap.size w w':=by
 go_enter Tryz.func87,Tryz.ntmps87
 go_wp2_with (go_at_call 118;refine (Tryz.index_at ba oa ca _ a0 a1).mono ?_;rintro e w1 ⟨rfl,hb1⟩)
 go_ret
 exact ⟨rfl,hb1⟩
theorem Tryz.set_at (ba oa ca:Nat) (w:World) (a0:w.cell? ⟨ba,oa,none⟩=some (.int .i64 0)) (a1:w.cell? ⟨ba,oa+1,none⟩=some (.int .i64 1)) :
  Calls Tryz.prog 110 #[.slice (some ⟨ba,oa,none⟩) 2 ca,.int .i64 32] w fun e w'=>e = .returned (.int .i64 0)∧Below w.heap.size w w':=by
 go_enter Tryz.func110,Tryz.ntmps110
 go_wp2
 refine wp_loop_rounds 3 ?_;rw [rounds_succ]
 go_wp2
 rw [rounds_succ]
 go_wp2
 rw [rounds_succ]
 go_wp2
 go_ret
 exact ⟨rfl,Below.refl _ _⟩
theorem Tryz.set_none (p:Option Addr) (ca:Nat) (n:Int) (w:World) :
  Calls Tryz.prog 110 #[.slice p 0 ca,.int .i64 n] w fun e w'=>e = .returned (.int .i64 0)∧Below w.heap.size w w':=by
 go_enter Tryz.func110,Tryz.ntmps110
 go_wp2
 refine wp_loop_rounds 1 ?_;rw [rounds_succ]
 go_wp2
 go_ret
 exact ⟨rfl,Below.refl _ _⟩
theorem Tryz.edges_at (ba oa ca be oe ce cm:Nat) (mk:Option Addr) (w:World) (hba:ba<w.heap.size) (hbe:be<w.heap.size) (a0:w.cell? ⟨ba,oa,none⟩=some (.int .i64 0)) (a1:w.cell? ⟨ba,oa+1,none⟩=some (.int .i64 1))
  (e0:w.cell? ⟨be,oe,none⟩=some (.int .i64 0)) (e1:w.cell? ⟨be,oe+1,none⟩=some (.int .i64 0)) (e2:w.cell? ⟨be,oe+2,none⟩=some (.int .i64 0)) :
  Calls Tryz.prog 111 #[.agg #[.slice (some ⟨ba,oa,none⟩) 2 ca,.int .i64 2,.slice mk 0 cm,.slice (some ⟨be,oe,none⟩) 1 ce]] w fun e w'=>e = .returned (.int .i64 0)∧Below w.heap.size w w':=by
 have hb1:be<w.heap.size+1:=by omega
 have hb2:be<w.heap.size+1+1:=by omega
 have hn0:be≠w.heap.size:=by omega
 have hn1:be≠w.heap.size+1:=by omega
 have ha1:ba<w.heap.size+1:=by omega
 have ha2:ba<w.heap.size+1+1:=by omega
 have hm0:ba≠w.heap.size:=by omega
 have hm1:ba≠w.heap.size+1:=by omega
 have hX:=fun o1 o2=>(((Below.refl w.heap.size w).alloc (Nat.le_refl _) o1).alloc (by simp) o2);have hc:=fun W h0 h1=>Tryz.contains_at ba oa ca W h0 h1
 go_enter Tryz.func111,Tryz.ntmps111
 go_wp2
 refine wp_loop_rounds 2 ?_;rw [rounds_succ]
 go_wp2_with (go_at_call 87;refine (hc _ (((hX _ _).cell (p:=⟨ba,oa,none⟩) hba).trans a0) (((hX _ _).cell (p:=⟨ba,oa+1,none⟩) hba).trans a1)).mono ?_;rintro e w1 ⟨rfl,hb1⟩)
 rw [rounds_succ]
 go_wp2
 go_ret
 refine ⟨rfl,?_⟩;exact (((Below.refl _ w).alloc (Nat.le_refl _) _).alloc (by simp) _).trans (hb1.mono (by simp;omega))
theorem Qr2 {w W:World} {x0 x1 x2 x3:Value} {t:TypeId} (h:Below (w.heap.size+1) (w.alloc (.cells #[x0,x1,x2,x3] t)) W) :
  W.cell? ⟨w.heap.size,0,none⟩=some x0∧W.cell? ⟨w.heap.size,1,none⟩=some x1∧W.cell? ⟨w.heap.size,2,none⟩=some x2∧W.cell? ⟨w.heap.size,3,none⟩=some x3:=by
 refine ⟨(h.cell (p:=⟨_,_,none⟩) (by simp)).trans ?_,(h.cell (p:=⟨_,_,none⟩) (by simp)).trans ?_,(h.cell (p:=⟨_,_,none⟩) (by simp)).trans ?_,(h.cell (p:=⟨_,_,none⟩) (by simp)).trans ?_⟩<;>(simp only [World.cell?,heap_alloc_new];rfl)
theorem Tryz.check_at (ba oa ca be oe ce cm:Nat) (mk:Option Addr) (w:World) (hba:ba<w.heap.size) (hbe:be<w.heap.size) (a0:w.cell? ⟨ba,oa,none⟩=some (.int .i64 0)) (a1:w.cell? ⟨ba,oa+1,none⟩=some (.int .i64 1))
  (e0:w.cell? ⟨be,oe,none⟩=some (.int .i64 0)) (e1:w.cell? ⟨be,oe+1,none⟩=some (.int .i64 0)) (e2:w.cell? ⟨be,oe+2,none⟩=some (.int .i64 0)) :
  Calls Tryz.prog 79 #[.agg #[.slice (some ⟨ba,oa,none⟩) 2 ca,.int .i64 2,.slice mk 0 cm,.slice (some ⟨be,oe,none⟩) 1 ce]] w fun e w'=>e = .returned (.int .i64 0)∧Below w.heap.size w w':=by
 have h0:Below w.heap.size w (w.alloc (.cells #[.slice (some ⟨ba,oa,none⟩) 2 ca,.int .i64 2,.slice mk 0 cm,.slice (some ⟨be,oe,none⟩) 1 ce] 35)):=(Below.refl _ w).alloc (Nat.le_refl _) _
 go_enter Tryz.func79,Tryz.ntmps79
 go_wp2_with (first
  | (go_at_call 110;have _:=hb1.size;refine (Tryz.set_none mk cm 2 _).mono ?_;rintro e' w2 ⟨rfl,hb2'⟩;have hb2:=hb1.trans (hb2'.mono (by have:=hb1.size;simp at this;omega));obtain ⟨g0',g1',g2',g3'⟩:=Qr2 hb2)
  | (go_at_call 110;refine (Tryz.set_at ba oa ca _ ((h0.cell hba).trans a0) ((h0.cell hba).trans a1)).mono ?_;rintro e' w1 ⟨rfl,hb1⟩;replace hb1:=hb1.mono (B':=w.heap.size+1) (by simp);obtain ⟨g0,g1,g2,g3⟩:=Qr2 hb1)
  | (go_at_call 111;refine (Tryz.edges_at ba oa ca be oe ce cm mk _ (by have:=hb2.size;simp at this;omega) (by have:=hb2.size;simp at this;omega) ((hb2.cell (p:=⟨_,_,none⟩) (by simp;omega)).trans ((h0.cell hba).trans a0)) ((hb2.cell (p:=⟨_,_,none⟩) (by simp;omega)).trans ((h0.cell hba).trans a1)) ((hb2.cell (p:=⟨_,_,none⟩) (by simp;omega)).trans ((h0.cell hbe).trans e0)) ((hb2.cell (p:=⟨_,_,none⟩) (by simp;omega)).trans ((h0.cell hbe).trans e1)) ((hb2.cell (p:=⟨_,_,none⟩) (by simp;omega)).trans ((h0.cell hbe).trans e2))).mono ?_;rintro e' w3 ⟨rfl,hb3⟩))
 go_ret
 exact ⟨rfl,(h0.trans (hb2.mono (by omega))).trans (hb3.mono (by have:=hb2.size;simp at this;omega))⟩
end Go.Proofs
end
section
namespace Go.Proofs
open Go.Shelf Go.RowKit Go.Lib Go.Sort Go.Abs
set_option maxRecDepth 100000
set_option maxHeartbeats 4000000
theorem Q4s {w:World} {n:Nat} {x0 x1 x2 x3 x4:Value} {t:TypeId} (h:w.heap[n]? = some (.cells #[x0,x1,x2,x3,x4] t (0,0))) :
  w.cell? ⟨n,0,none⟩=some x0∧w.cell? ⟨n,1,none⟩=some x1∧w.cell? ⟨n,2,none⟩=some x2∧w.cell? ⟨n,3,none⟩=some x3∧w.cell? ⟨n,4,none⟩=some x4:=by
 refine ⟨?_,?_,?_,?_,?_⟩<;>(simp only [World.cell?,h];rfl)
theorem Qvz {w:World} {n:Nat} {x0 x1:Value} {t:TypeId} (h:w.heap[n]? = some (.cells #[x0,x1] t (0,0))):w.cell? ⟨n,0,none⟩=some x0∧w.cell? ⟨n,1,none⟩=some x1:=by
 refine ⟨?_,?_⟩<;>(simp only [World.cell?,h];rfl)
theorem Qhg {w:World} {n:Nat} {x0:Value} {t:TypeId} (h:w.heap[n]? = some (.cells #[x0] t (0,0))):w.cell? ⟨n,0,none⟩=some x0:=by simp only [World.cell?,h];rfl
theorem Qzc {w:World} {n:Nat} {x0 x1 x2:Value} {t:TypeId} (h:w.heap[n]? = some (.cells #[x0,x1,x2] t (0,0))):w.cell? ⟨n,0,none⟩=some x0∧w.cell? ⟨n,1,none⟩=some x1∧w.cell? ⟨n,2,none⟩=some x2:=by
 refine ⟨?_,?_,?_⟩<;>(simp only [World.cell?,h];rfl)
theorem Qxy {w5 W w6:World} {n0 n1 i0 x0 x1 x2:Value} {o:Obj} {t1 t2 t3:TypeId} (hg:W.grownBy w6 none)
  (hW:W.heap=((((w5.alloc (.cells #[n0,n1] t1 (0,0))).alloc (.cells #[i0] t2 (0,0))).alloc (.cells #[x0,x1,x2] t3 (0,0))).alloc o).heap) :
  w6.heap[w5.heap.size]? = some (.cells #[n0,n1] t1 (0,0))∧w6.heap[w5.heap.size+1]? = some (.cells #[i0] t2 (0,0))∧w6.cell? ⟨w5.heap.size,0,none⟩=some n0∧w6.cell? ⟨w5.heap.size,1,none⟩=some n1∧w6.frozen? ⟨w5.heap.size,0,none⟩=false ∧
   w6.cell? ⟨w5.heap.size+1,0,none⟩=some i0∧w6.cell? ⟨w5.heap.size+1+1,0,none⟩=some x0∧w6.cell? ⟨w5.heap.size+1+1,1,none⟩=some x1∧w6.cell? ⟨w5.heap.size+1+1,2,none⟩=some x2:=by
 have hN6:w6.heap[w5.heap.size]? = some (.cells #[n0,n1] t1 (0,0)):=(hg.block w5.heap.size (by rw [hW];simp<;>omega) (by simp)).trans (by rw [hW];exact (Qbf _ _ _ (by simp<;>omega)).trans ((Qbf _ _ _ (by simp<;>omega)).trans ((Qbf _ _ _ (by simp)).trans (Qey _ _ _ rfl))));have hI6:w6.heap[w5.heap.size+1]? = some (.cells #[i0] t2 (0,0)):=(hg.block (w5.heap.size+1) (by rw [hW];simp<;>omega) (by simp)).trans (by rw [hW];exact (Qbf _ _ _ (by simp<;>omega)).trans ((Qbf _ _ _ (by simp)).trans (Qey _ _ _ (by simp))));have hx6:w6.heap[w5.heap.size+1+1]? = some (.cells #[x0,x1,x2] t3 (0,0)):=(hg.block (w5.heap.size+1+1) (by rw [hW];simp<;>omega) (by simp)).trans (by rw [hW];exact (Qbf _ _ _ (by simp)).trans (Qey _ _ _ (by simp)));obtain ⟨k0,k1⟩:=Qvz hN6;obtain ⟨y0,y1,y2⟩:=Qzc hx6;exact ⟨hN6,hI6,k0,k1,by simp [World.frozen?,hN6],Qhg hI6,y0,y1,y2⟩
theorem Qmo (w:World) (a:Addr) (u:Value) (b i:Nat) (h:b≠a.block):(w.setCell a u).cell? ⟨b,i,none⟩=w.cell? ⟨b,i,none⟩:=by simp only [World.cell?];rw [Qc5 _ _ _ _ h]
theorem Q7e {w5 W:World} {n0 n1 i0 x0 x1 x2:Value} {o:Obj} {t1 t2 t3:TypeId}
  (hW:W.heap=((((w5.alloc (.cells #[n0,n1] t1 (0,0))).alloc (.cells #[i0] t2 (0,0))).alloc (.cells #[x0,x1,x2] t3 (0,0))).alloc o).heap) :
  W.cell? ⟨w5.heap.size+1,0,none⟩=some i0∧W.cell? ⟨w5.heap.size+1+1,0,none⟩=some x0∧W.cell? ⟨w5.heap.size+1+1,2,none⟩=some x2:=by
 obtain ⟨_,_,k0,_,f,k1,y0,_,y2⟩:=Qxy (World.grownBy.refl W none) hW;exact ⟨k1,y0,y2⟩
theorem Q6f {w5 W:World} {n0 n1 i0 x0 x1 x2:Value} {t1 t2 t3:TypeId}
  (hW:W.heap=(((w5.alloc (.cells #[n0,n1] t1 (0,0))).alloc (.cells #[i0] t2 (0,0))).alloc (.cells #[x0,x1,x2] t3 (0,0))).heap) :
  W.cell? ⟨w5.heap.size+1,0,none⟩=some i0∧W.cell? ⟨w5.heap.size+1+1,0,none⟩=some x0∧W.cell? ⟨w5.heap.size+1+1,2,none⟩=some x2:=by
 have hN:W.heap[w5.heap.size]? = some (.cells #[n0,n1] t1 (0,0)):=by rw [hW];exact (Qbf _ _ _ (by simp<;>omega)).trans ((Qbf _ _ _ (by simp)).trans (Qey _ _ _ rfl))
 have hI:W.heap[w5.heap.size+1]? = some (.cells #[i0] t2 (0,0)):=by rw [hW];exact (Qbf _ _ _ (by simp)).trans (Qey _ _ _ (by simp))
 have hx:W.heap[w5.heap.size+1+1]? = some (.cells #[x0,x1,x2] t3 (0,0)):=by rw [hW];exact Qey _ _ _ (by simp)
 obtain ⟨y0,y1,y2⟩:=Qzc hx;exact ⟨Qhg hI,y0,y2⟩
theorem Qsw {w:World} {base g cap n:Nat} {t:TypeId} {xs:List Value} (h:w.ownsRow base t 1 (.slice (some ⟨g,0,none⟩) n cap) n xs) {i:Nat} {x:Value} (hx:xs[i]? = some x):w.cell? ⟨g,i,none⟩=some x:=by
 have:=h.cells (g:=g) rfl i x hx;cases i<;>simpa [Addr.add] using this
theorem Q1a {w:World} {base g cap n:Nat} {t:TypeId} {xs:List Value} (h:w.ownsRow base t 1 (.slice (some ⟨g,0,none⟩) n cap) n xs) (hn:0<n):base≤g∧g<w.heap.size∧n≤cap:=by
 rcases h.2 with ⟨_,h0⟩|⟨g',cap',cur,hv,hb,hg,hc,_⟩
 ·omega
 ·cases hv;exact ⟨hb,(Array.getElem?_eq_some_iff.1 hg).1,hc⟩
theorem Q7r {w5 W w6:World} {n1 i0 x0 x1 x2:Value} {o:Obj} {t1 t2 t3:TypeId} {g cap:Nat} (hown:w6.ownsRow w5.heap.size 3 1 (.slice (some ⟨g,0,none⟩) (0+1) cap) (0+1) ([]++[.int .i64 0])) (hg:W.grownBy w6 none)
  (hW:W.heap=((((w5.alloc (.cells #[.slice none 0 0,n1] t1 (0,0))).alloc (.cells #[i0] t2 (0,0))).alloc (.cells #[x0,x1,x2] t3 (0,0))).alloc o).heap) (ho:W.os=w5.os) (ht:W.tape=w5.tape) (hp:W.output=w5.output)
  (hat:(Value.slice none 0 0).ownBlock=some g∨g=W.heap.size) (v:Value) :
  Below w5.heap.size w5 (w6.setCell ⟨w5.heap.size,0,none⟩ v)∧w5.heap.size+4≤g∧g<(w6.setCell ⟨w5.heap.size,0,none⟩ v).heap.size∧1≤cap∧(w6.setCell ⟨w5.heap.size,0,none⟩ v).cell? ⟨g,0,none⟩=some (.int .i64 0) ∧
   (w6.setCell ⟨w5.heap.size,0,none⟩ v).heap[w5.heap.size]? = some (.cells #[v,n1] t1 (0,0))∧(w6.setCell ⟨w5.heap.size,0,none⟩ v).heap[w5.heap.size+1]? = some (.cells #[i0] t2 (0,0)):=by
 obtain ⟨hN,hI,_⟩:=Qxy hg hW;have hs:W.heap.size=w5.heap.size+4:=by rw [hW];simp
 have hgl:w5.heap.size+4≤g:=by
  rcases hat with h|h
  ·simp [Value.ownBlock] at h
  ·omega
 have q:=Q1a hown (by omega);have e:(w6.setCell ⟨w5.heap.size,0,none⟩ v).heap.size=w6.heap.size:=Qon _ _ _;refine ⟨⟨hg.os.trans ho,hg.tape.trans ht,hg.output.trans hp,by have:=hg.size;omega,fun k hk=>?_⟩,hgl,by omega,by omega,?_,?_,?_⟩
 ·refine (Qc5 _ _ _ _ (by simp;omega)).trans ((hg.block k (by omega) (by simp)).trans ?_);rw [hW];rw [Qbf _ _ _ (by simp;omega),Qbf _ _ _ (by simp;omega),Qbf _ _ _ (by simp;omega),Qbf _ _ _ (by omega)]
 ·exact (Qmo _ _ _ _ _ (by simp;omega)).trans (Qsw hown (i:=0) rfl)
 ·exact heap_setCell_same _ _ _ _ _ _ hN
 ·exact (Qc5 _ _ _ _ (by simp)).trans hI
theorem Tryz.step17 {ops:Array Oper} {o:Oper} {a:Act} {K:Act→World→Prop} {Q:Exit→Act→World→Prop} {E:Prop} {w5 W:World} {n1 i0 x0 x1 x2:Value} {t1 t2 t3:TypeId} (hgd:o.guard=none)
  (ho:o.op = .call { callee:=.builtin .append,args:=#[.tmp 64,.tmp 67],argTypes:=#[32,32] }) (hs:a.eval (.tmp 64) = .slice none 0 0) (hx:a.eval (.tmp 67) = .slice (some ⟨w5.heap.size+1+1+1,0,none⟩) 1 1)
  (hW:W.heap=((((w5.alloc (.cells #[.slice none 0 0,n1] t1 (0,0))).alloc (.cells #[i0] t2 (0,0))).alloc (.cells #[x0,x1,x2] t3 (0,0))).alloc (.cells #[.int .i64 0] 3 (0,0))).heap) (hos:W.os=w5.os) (ht:W.tape=w5.tape) (hp:W.output=w5.output)
  (h:∀ g cap w6,(w6.cell? ⟨w5.heap.size,0,none⟩=some (.slice none 0 0)∧w6.frozen? ⟨w5.heap.size,0,none⟩=false ∧
   w6.cell? ⟨w5.heap.size+1,0,none⟩=some i0∧w6.cell? ⟨w5.heap.size+1+1,0,none⟩=some x0∧w6.cell? ⟨w5.heap.size+1+1,2,none⟩=some x2 ∧
   ∀ v,Below w5.heap.size w5 (w6.setCell ⟨w5.heap.size,0,none⟩ v)∧w5.heap.size+4≤g∧g<(w6.setCell ⟨w5.heap.size,0,none⟩ v).heap.size∧1≤cap∧(w6.setCell ⟨w5.heap.size,0,none⟩ v).cell? ⟨g,0,none⟩=some (.int .i64 0) ∧
   (w6.setCell ⟨w5.heap.size,0,none⟩ v).heap[w5.heap.size]? = some (.cells #[v,n1] t1 (0,0))∧(w6.setCell ⟨w5.heap.size,0,none⟩ v).heap[w5.heap.size+1]? = some (.cells #[i0] t2 (0,0))) →
   K (a.put o.dst (.slice (some ⟨g,0,none⟩) 1 cap)) w6) :
  if Region.wanted o (yielded ops a.tmps)=true then Oper.wp Tryz.prog o a W K Q else E:=by
 obtain ⟨i,hi,hz0,hz1,hz2⟩:=info_parts Tryz.int_parts;have hsz:W.heap.size=w5.heap.size+4:=by rw [hW];simp
 have hnew:W.heap[w5.heap.size+1+1+1]? = some (.cells #[.int .i64 0] 3 (0,0)):=by rw [hW];exact Qey _ _ _ (by simp)
 refine step_append_lies W hgd (.tmp 64) (.tmp 67) 32 ho w5.heap.size 3 i _ 1 8 Tryz.underlying32 hi hz0 hz1 hz2 rfl (by omega) (.slice none 0 0) 0 [] hs ⟨rfl,.inl ⟨rfl,rfl⟩⟩ ⟨w5.heap.size+1+1+1,0,none⟩ 1 1 [.int .i64 0] hx rfl ?_ (by simp [Value.oneCell']) (by omega) (by simp only [maxLen];omega) (by omega) (by omega) _ rfl ?_
 ·intro j u hj
  match j,hj with
  | 0,hj =>
   simp at hj;subst hj;simpa [Addr.add] using Qhg hnew
 ·intro g cap w6 hown hg hat _;obtain ⟨_,_,n0,_,fN,i1,y0,_,y2⟩:=Qxy hg hW;exact h g cap w6 ⟨n0,fN,i1,y0,y2,fun v=>Q7r hown hg hW hos ht hp hat v⟩
end Go.Proofs
end
section
namespace Go
theorem Qzd {F:Fence} {n:Nat} {P:Program} {l:Nat} {o:Oper} {a:Act} {K:Act→World→Prop} {Q:Exit→Act→World→Prop}:∀ r,o.uponIn F n P a K Q r→o.uponIn (F.inRound l) n P a K Q r:=by
 intro r h;have e:Oper.uponIn (F.inRound l) n P o a K Q r=Oper.uponIn F n P o a K Q r:=rfl;rw [e];exact h
theorem Qze {F:Fence} {n:Nat} {P:Program} {ops:Array Oper} {Q:Exit→Act→World→Prop} {l:Nat} (hro:F.round=none) (hd:∀ (i:Nat) (o:Oper) c,ops[i]? = some o→o.op ≠ .defer c) {i:Nat} {K:Act→World→Prop} {a:Act} {w:World}
  (h:wpOpIn F n P ops Q i K a w):wpOpIn (F.inRound l) n P ops Q i K a w:=by
 unfold wpOpIn at h ⊢;cases ho:ops[i]? with
 | none=>rw [ho] at h;exact h
 | some o =>
  rw [ho] at h;dsimp only at h ⊢;split
  ·rename_i hw;rw [if_pos hw] at h;unfold Oper.wpIn at h ⊢;refine ⟨h.1,Qzd _ ?_⟩;have e:Oper.semAt (F.inRound l).round a.eval o=Oper.semAt F.round a.eval o:=by
    rw [hro,Fence.inRound_round,Oper.semAt_eq _ _ _ (fun c=>hd i o c ho),Oper.semAt_eq _ _ _ (fun c=>hd i o c ho)]
   rw [e];exact h.2
  ·rename_i hw;rw [if_neg hw] at h;exact h
theorem Qsx {F:Fence} {n:Nat} {P:Program} {md:Region.Mode} {ops:Array Oper} {Q:Exit→Act→World→Prop} {l:Nat} (hro:F.round=none) (hd:∀ (i:Nat) (o:Oper) c,ops[i]? = some o→o.op ≠ .defer c) :
  ∀ (fuel:Nat) (listed:Array Bool) (a:Act) (w:World),wpAnyIn F n P md ops Q fuel listed a w→wpAnyIn (F.inRound l) n P md ops Q fuel listed a w
 | 0,_,_,_,h=>h
 | fuel+1,listed,a,w,h=>⟨h.1,fun i hi=>by
   refine wpOpIn_mono (fun a' w' h'=>Qsx hro hd fuel _ a' w' h') (Qze hro hd (h.2 i hi))⟩
def Q3v (l:List Oper):Bool:=l.all fun o=>match o.op with | .defer _=>false|_=>true
theorem Qzf {l:List Oper} (h:Q3v l=true):∀ (i:Nat) (o:Oper) c,l.toArray[i]? = some o→o.op ≠ .defer c:=by
 intro i o c hi e;have hm:o∈l:=by
  rw [List.getElem?_toArray] at hi;exact List.mem_of_getElem? hi
 have:=List.all_eq_true.1 h o hm;rw [e] at this;cases this
theorem Qee {F:Fence} {n:Nat} {P:Program} {id lr:Nat} {Q:Exit→Act→World→Prop} {a:Act} {w:World} {l:List Oper} (hro:F.round=none) (hm:P.follows .mixedOrders=true) (hB:Region.lexB .any l.toArray=true) (hd:Q3v l=true)
  (h:wpQuietIn F n P l.toArray (fun w'=>∃ n,w'=w.drewN n) (fun a'=>∀ w',(∃ n,w'=w.drewN n)→Q .normal a' w') l a):(Code.region id l.toArray true).wpIn (F.inRound lr) n P Q a w:=by
 simp only [Region.lexB,Bool.and_eq_true] at hB;have h1:(fun w'=>∃ n,w'=w.drewN n) { w with drawn:=w.drawn+1 }:=⟨1,rfl⟩;refine wpIn_region_any hm (Qsx hro (Qzf hd) _ _ _ _ (wpAnyIn_of_quiet (C:=fun w'=>∃ n,w'=w.drewN n) (Q:=fun a'=>∀ w',(∃ n,w'=w.drewN n)→Q .normal a' w') hro (fun _ w' hw' h=>h w' hw') _ _ _ _ h1 ?_));have:=wpAnyQIn_lex (F:=F) (n:=n) (C:=fun w'=>∃ n,w'=w.drewN n) (md:=.any) hB.1 l.toArray.toList 0 (Array.replicate l.toArray.size false) a (by simp) (by simpa using hB.2) (by simpa using h);simpa using this
end Go
end
section
namespace Go.Proofs
open Go.Shelf Go.RowKit Go.Lib Go.Sort Go.Abs
set_option maxRecDepth 100000
def Qhl:List Bool→List Bool
 | []=>[]
 | [x]=>[x]
 | x::y::_=>if x=y then [x] else [x,y]
def clOf (g:List Bool) (b:Bool):Int:=match g with
 | []=>0
 | [x]=>if b=x then 1 else 0
 | x::y::_=>if b=x then 1 else if b=y then 2 else 0
structure CompI (w0:World) (L:Nat) (pre:List Bool) (W:World):Prop where
 below:Below L w0 W
 size:L+4≤W.heap.size
 cl:W.heap[L]? = some (.cells #[.int .i64 (clOf (Qhl pre) false),.int .i64 (clOf (Qhl pre) true)] 3 (0,0))
 bs:∃ ce,W.heap[L+3]? = some (.cells ce 32 (0,0))
 cb:W.heap[L+1]? = some (.cells #[.slice (some ⟨L,0,none⟩) 2 2] 32 (0,0))
 gb:∃ gv rows,W.heap[L+1+1]? = some (.cells #[gv] 45 (0,0))∧W.ownsRow (L+4) 32 1 gv (Qhl pre).length rows ∧
  ∀ (i:Nat) b,(Qhl pre)[i]? = some b→∃ R,rows[i]? = some (.slice (some ⟨R,0,none⟩) 1 1)∧L+4≤R∧R<W.heap.size∧gv.ownBlock≠some R∧W.heap[R]? = some (.cells #[.int .i64 (stN b)] 3 (0,0))
theorem CompI.own {w0:World} {L:Nat}:OwnFrom (L+4) (CompI w0 L):=by
 intro pre W W' row h hg hr;have hc:∀ (k:Nat) (o:Obj),W.heap[k]? = some o→o.isCells=true→W'.heap[k]? = some o:=by
  intro k o hk ho;refine (hg.block k (Array.getElem?_eq_some_iff.1 hk).1 ?_).trans hk;intro e;obtain ⟨_,o',h1,h2⟩:=hr k e.symm;rw [hk] at h1;cases h1;rw [ho] at h2;cases h2
 obtain ⟨gv,rows,h1,h2,h3⟩:=h.gb;refine ⟨h.below.grown hg (by have:=h.size;omega) (fun k e=>by have:=(hr k e).1;omega),Nat.le_trans h.size hg.size,hc _ _ h.cl rfl,h.bs.elim (fun ce h=>⟨ce,hc _ _ h rfl⟩),hc _ _ h.cb rfl,gv,rows,hc _ _ h1 rfl,?_,?_⟩
 ·refine h2.kept hg ?_;cases hv:gv.ownBlock with
  | none=>exact .inl rfl
  | some k =>
   right;intro e;obtain ⟨_,o,k1,k2⟩:=hr k e.symm;obtain ⟨c,fz,k3⟩:=ownsRow_kind h2 k hv;rw [k1] at k3;cases k3;simp [Obj.isCells] at k2
 ·intro i b hi;obtain ⟨R,r1,r2,r3,r4,r5⟩:=h3 i b hi;exact ⟨R,r1,r2,Nat.lt_of_lt_of_le r3 hg.size,r4,hc _ _ r5 rfl⟩
theorem Qum (w:World) (x:Value) (t:TypeId) (n:Nat) (hn:n=w.heap.size):∀ j u,[x][j]? = some u→(w.alloc (.cells #[x] t)).cell? ((⟨n,0,none⟩ : Addr).add j)=some u:=by subst hn;exact cell_one_new w x t
theorem Qp7 {w:World} {base b n:Nat} {t:TypeId} {v:Value} {xs:List Value} (h:w.ownsRow base t 1 v n xs) (hb:b<base):v.ownBlock≠some b:=by
 rcases h.2 with ⟨rfl,_⟩|⟨g,cap,cur,rfl,hg,_⟩
 ·simp [Value.ownBlock]
 ·simp only [Value.ownBlock,ne_eq,Option.some.injEq];omega
theorem Qmp {W X w7:World} {a:Addr} {v:Value} {o1 o2:Obj} {row:Option Nat} (hg:X.grownBy w7 row) (hX:X.heap=(((W.setCell a v).alloc o1).alloc o2).heap) {k:Nat} (hk:k<W.heap.size) (hr:some k≠row) :
  w7.heap[k]? = (W.setCell a v).heap[k]?:=by
 have hs:=Qon W a v;refine (hg.block k (by rw [hX];simp;omega) hr).trans ?_;rw [hX];exact (Qbf _ _ _ (by simp<;>omega)).trans (Qbf _ _ _ (by simp<;>omega))
theorem Tryz.slice_parts:(Tryz.prog.info? 32).map (fun i=>(i.zero,i.size,i.bytes))=some (some (.slice none 0 0),1,24):=by kernel_rfl
end Go.Proofs
end
section
namespace Go.Proofs
open Go.Shelf Go.RowKit Go.Lib Go.Sort Go.Abs
theorem CompI.next {w0 W X w7:World} {L B Bs O:Nat} {pre:List Bool} {x:Bool} {gv:Value} {rows:List Value} {o2:Obj} {g7 cap7:Nat} (hI:CompI w0 L pre W)
  (hg1:Qhl (pre++[x])=Qhl pre++[x])
  (hcl:(W.setCell ⟨L,(stN x).toNat,none⟩ (.int .i64 ((Qhl pre).length+1))).heap[L]? = some (.cells #[.int .i64 (clOf (Qhl (pre++[x])) false),.int .i64 (clOf (Qhl (pre++[x])) true)] 3 (0,0)))
  (hgb:W.heap[L+1+1]? = some (.cells #[gv] 45 (0,0))) (hown:W.ownsRow (L+4) 32 1 gv (Qhl pre).length rows)
  (hrows:∀ (i:Nat) b,(Qhl pre)[i]? = some b→∃ R,rows[i]? = some (.slice (some ⟨R,0,none⟩) 1 1)∧L+4≤R∧R<W.heap.size∧gv.ownBlock≠some R∧W.heap[R]? = some (.cells #[.int .i64 (stN b)] 3 (0,0)))
  (hg:X.grownBy w7 gv.ownBlock) (hX:X.heap=(((W.setCell ⟨L,(stN x).toNat,none⟩ (.int .i64 ((Qhl pre).length+1))).alloc (.cells #[.int .i64 (stN x)] 3)).alloc o2).heap)
  (hos:X.os=W.os) (ht:X.tape=W.tape) (hp:X.output=W.output)
  (hown7:w7.ownsRow (L+4) 32 1 (.slice (some ⟨g7,0,none⟩) ((Qhl pre).length+1) cap7) ((Qhl pre).length+1) (rows++[.slice (some ⟨W.heap.size,0,none⟩) 1 1]))
  (hL:w0.heap.size=L) (hBs:Bs=L+3) (hO:O<L) :
  KeepsFrom B W (w7.setCell ⟨L+1+1,0,none⟩ (.slice (some ⟨g7,0,none⟩) ((Qhl pre).length+1) cap7))∧Keep2 Bs O W (w7.setCell ⟨L+1+1,0,none⟩ (.slice (some ⟨g7,0,none⟩) ((Qhl pre).length+1) cap7)) ∧
   CompI w0 L (pre++[x]) (w7.setCell ⟨L+1+1,0,none⟩ (.slice (some ⟨g7,0,none⟩) ((Qhl pre).length+1) cap7)):=by
 have hz:=hI.size;have hBo:gv.ownBlock≠some Bs:=Qp7 hown (by omega);have hs:X.heap.size=W.heap.size+2:=by rw [hX];simp
 have hs7:=hg.size;have old:∀ k,k<W.heap.size→k≠L→k≠L+1+1→some k≠gv.ownBlock→(w7.setCell ⟨L+1+1,0,none⟩ (.slice (some ⟨g7,0,none⟩) ((Qhl pre).length+1) cap7)).heap[k]? = W.heap[k]?:=fun k hk h1 h2 h3 =>
  (Qc5 _ _ _ _ h2).trans ((Qmp hg hX hk h3).trans (Qc5 _ _ _ _ h1))
 have hgc:=hown.2;have hlow:∀ k,k<L+4→some k≠gv.ownBlock:=fun k hk=>(Qp7 hown hk).symm;refine ⟨⟨by rw [Qon];omega,?_⟩,⟨old _ (by omega) (by omega) (by omega) (fun h=>hBo h.symm),old _ (by omega) (by omega) (by omega) (hlow _ (by omega))⟩,?_⟩
 ·intro k o hB hk ho;have hkl:=(Array.getElem?_eq_some_iff.1 hk).1;refine (old k hkl ?_ ?_ ?_).trans hk
  ·rintro rfl;rw [hI.cl] at hk;cases hk;simp [Obj.isCells] at ho
  ·rintro rfl;rw [hgb] at hk;cases hk;simp [Obj.isCells] at ho
  ·intro e;obtain ⟨c,fz,h⟩:=ownsRow_kind hown k e.symm;rw [h] at hk;cases hk;simp [Obj.isCells] at ho
 ·have hlen:rows.length=(Qhl pre).length:=by have:=hown.1;omega
  have hR:∀ R e c,w7.heap[R]? = some (.cells c e (0,0))→e≠32→(Value.slice (some ⟨g7,0,none⟩) ((Qhl pre).length+1) cap7).ownBlock≠some R:=by
   intro R e c h he h';obtain ⟨c',fz,h2⟩:=ownsRow_kind hown7 R h';rw [h] at h2;cases h2;exact he rfl
  have hb7:w7.heap[L+1+1]? = some (.cells #[gv] 45 (0,0)):=(Qmp hg hX (by omega) (hlow _ (by omega))).trans ((Qc5 _ _ _ _ (by simp<;>omega)).trans hgb);refine ⟨⟨hg.os.trans (hos.trans hI.below.os),hg.tape.trans (ht.trans hI.below.tape),hg.output.trans (hp.trans hI.below.output),by rw [Qon];omega,fun k hk=>(old k (by omega) (by omega) (by omega) (hlow _ (by omega))).trans (hI.below.block k hk)⟩,by rw [Qon];omega,?_,?_,(old _ (by omega) (by omega) (by omega) (hlow _ (by omega))).trans hI.cb,.slice (some ⟨g7,0,none⟩) ((Qhl pre).length+1) cap7,rows++[.slice (some ⟨W.heap.size,0,none⟩) 1 1],heap_setCell_same _ _ _ _ _ _ hb7,?_,?_⟩
  ·exact (Qc5 _ _ _ _ (by simp<;>omega)).trans ((Qmp hg hX (by omega) (hlow _ (by omega))).trans hcl)
  ·obtain ⟨ce,hb⟩:=hI.bs;exact ⟨ce,(old _ (by omega) (by omega) (by omega) (hlow _ (by omega))).trans hb⟩
  ·rw [hg1,List.length_append];exact ownsRow_setCell_other hown7 (Qp7 hown7 (by simp)) _
  ·intro i b hi;rw [hg1] at hi;by_cases hlt:i<(Qhl pre).length
   ·rw [List.getElem?_append_left hlt] at hi;obtain ⟨R,r1,r2,r3,r4,r5⟩:=hrows i b hi;have hk:=(old R r3 (by omega) (by omega) (fun h=>r4 h.symm)).trans r5;have hk7:=(Qmp hg hX r3 (fun h=>r4 h.symm)).trans ((Qc5 _ _ _ _ (by simp<;>omega)).trans r5);exact ⟨R,by rw [List.getElem?_append_left (by omega)];exact r1,r2,by rw [Qon];omega,hR R 3 _ hk7 (by decide),hk⟩
   ·have hi' : i=(Qhl pre).length:=by
     have:=(List.getElem?_eq_some_iff.1 hi).1;simp at this;omega
    subst hi';rw [List.getElem?_append_right (Nat.le_refl _)] at hi;simp at hi;subst hi;have hnew:X.heap[W.heap.size]? = some (.cells #[.int .i64 (stN x)] 3 (0,0)):=by
     rw [hX];exact (Qbf _ _ _ (by simp)).trans (Qey _ _ _ (by simp))
    have hne:some W.heap.size≠gv.ownBlock:=by
     intro h;obtain ⟨c,fz,h2⟩:=ownsRow_kind hown _ h.symm;have:=(Array.getElem?_eq_some_iff.1 h2).1;omega
    have h7:=(hg.block W.heap.size (by omega) hne).trans hnew;exact ⟨W.heap.size,by rw [List.getElem?_append_right (by omega)];simp [hlen],hz,by rw [Qon];omega,hR _ 3 _ h7 (by decide),(Qc5 _ _ _ _ (by simp<;>omega)).trans h7⟩
end Go.Proofs
end
section
namespace Go
section
variable {P:Program} {ops:Array Oper} {Q:Exit→Act→World→Prop} {md:Region.Mode} {c:Nat} {N T:World→Prop}
def StG (c:Nat) (N T:World→Prop) (l:Array Bool) (w:World):Prop:=(l.getD c true=false→N w)∧T w
def Qrh (P:Program) (md:Region.Mode) (ops:Array Oper) (Q:Exit→Act→World→Prop) (c:Nat) (N T:World→Prop):Nat→Array Bool→Act→World→Prop
 | 0,listed,a,w=>Region.ready md ops listed=[]∧Q .normal a w
 | fuel+1,listed,a,w=>(Region.ready md ops listed=[]→Q .normal a w) ∧
  ∀ i∈Region.ready md ops listed,wpOp P ops Q i (fun a' w'=>StG c N T (listed.setIfInBounds i true) w'∧Qrh P md ops Q c N T fuel (listed.setIfInBounds i true) a' w') a w
theorem Qw4:∀ (fuel:Nat) (listed:Array Bool) (a:Act) (w:World),Qrh P md ops Q c N T fuel listed a w→wpAny P md ops Q fuel listed a w
 | 0,_,_,_,h=>h
 | fuel+1,_,_,_,h=>⟨h.1,fun i hi=>wpOp_mono (fun a' w' h'=>Qw4 fuel _ a' w' h'.2) (h.2 i hi)⟩
def SdG (c:Nat) (N T:World→Prop) (D:List Nat) (w:World):Prop:=(c∈D→N w)∧T w
theorem Qzg {i:Nat} {oi:Oper} {v:Value} {D:List Nat} (hi:ops[i]? = some oi) (hsel:∀ (j:Nat) (o:Oper) cs b,ops[j]? = some o→o.op ≠ .select cs b)
  (hQ:∀ c a w,Q (.panic c) (a.put oi.dst v) w→Q (.panic c) a w) (hic:i≠c)
  (hD:∀ k ok,k∈D→k≠i→ops[k]? = some ok→∃ e∈ok.after,Region.binds md e=true∧e.on∈D) :
  ∀ (fuel:Nat) (listed:Array Bool) (a:Act) (w:World),
   (∀ j oj,ops[j]? = some oj→j≠i→listed.getD j true=false→(∀ e∈oj.after,Region.binds md e=true→e.on≠i)→oi.apart ops oj=true) →
   (∀ k∈D,listed.getD k true=false) →
   i∈Region.ready md ops listed→YieldsIf P ops (SdG c N T D) oi v a→StG c N T listed w →
   Qrh P md ops Q c N T fuel (listed.setIfInBounds i true) (a.put oi.dst v) w→Qrh P md ops Q c N T (fuel+1) listed a w:=by
 have sd:∀ {listed:Array Bool} {w:World},(∀ k∈D,listed.getD k true=false)→StG c N T listed w→SdG c N T D w:=fun hU hS=>⟨fun h=>hS.1 (hU c h),hS.2⟩;have st:∀ {listed:Array Bool} {w:World},StG c N T listed w→StG c N T (listed.setIfInBounds i true) w:=fun hS=>⟨fun h=>hS.1 (by rwa [getD_set_ne true hic] at h),hS.2⟩;intro fuel
 induction fuel with
 | zero =>
  intro listed a w _ hU hr hy hS H;refine ⟨fun h=>(by rw [h] at hr;cases hr),fun j hj=>?_⟩;by_cases hji:j=i
  ·subst hji;exact hy.wpOp hi (sd hU hS) ⟨st hS,H⟩
  ·have:=ready_mono hj hji;rw [H.1] at this;cases this
 | succ fuel ih =>
  intro listed a w hfree hU hr hy hS H;refine ⟨fun h=>(by rw [h] at hr;cases hr),fun j hj=>?_⟩;by_cases hji:j=i
  ·subst hji;exact hy.wpOp hi (sd hU hS) ⟨st hS,H⟩
  ·have h1:=H.2 j (ready_mono hj hji);obtain ⟨hjun,oj,hoj,hall⟩:=mem_ready.1 hj;have hlist:∀ e∈oj.after,Region.binds md e=true→listed.getD e.on true=false→False:=fun e he hb h0=>by
    have h1:=hall e he hb;rcases Nat.lt_or_ge e.on listed.size with h'|h'
    ·simp [h'] at h0 h1;rw [h0] at h1;cases h1
    ·simp [Array.getElem?_eq_none h'] at h1
   have hnot:∀ e∈oj.after,Region.binds md e=true→e.on≠i:=fun e he hb heq=>hlist e he hb (by rw [heq];exact (mem_ready.1 hr).1);have hU' : ∀ k∈D,(listed.setIfInBounds j true).getD k true=false:=fun k hk=>by
    have hjk:j≠k:=by
     rintro rfl;obtain ⟨e,he,hb,hin⟩:=hD j oj hk hji hoj;exact hlist e he hb (hU _ hin)
    rw [getD_set_ne true hjk];exact hU k hk
   have h2:=wpOp_putIf hoj (hfree j oj hoj hji hjun hnot) (fun cs b=>hsel i oi cs b hi) (fun cs b=>hsel j oj cs b hoj) hQ hy h1;have hfree' : ∀ k ok,ops[k]? = some ok→k≠i→(listed.setIfInBounds j true).getD k true=false →
     (∀ e∈ok.after,Region.binds md e=true→e.on≠i)→oi.apart ops ok=true:=fun k ok hk hki hun hno=>by
    refine hfree k ok hk hki ?_ hno;by_cases hjk:j=k
    ·subst hjk;exact hjun
    ·rw [getD_set_ne true hjk] at hun;exact hun
   refine wpOp_mono (fun a' w' h3=>?_) h2;have hS' : StG c N T (listed.setIfInBounds j true) w':=⟨fun h=>h3.2.1.1 (by rw [Array.setIfInBounds_comm _ _ (Ne.symm hji),getD_set_ne true hic];exact h),h3.2.1.2⟩;refine ⟨hS',ih (listed.setIfInBounds j true) a' w' hfree' hU' (ready_mono hr (Ne.symm hji)) h3.1 hS' ?_⟩;rw [Array.setIfInBounds_comm _ _ hji];exact h3.2.2
def Q7f (md:Region.Mode) (ops:Array Oper) (i:Nat) (D:List Nat):Bool:=D.all fun k=>k==i||match ops[k]? with|none=>true|some ok=>ok.after.any fun e=>Region.binds md e&&D.contains e.on
theorem Qe1 (i:Nat) (D:List Nat) {oi:Oper} {v:Value} {fuel:Nat} {listed:Array Bool} {a:Act} {w:World} (hi:ops[i]? = some oi)
  (hs:(Region.noSelect ops&&Region.free md ops listed i&&(Region.ready md ops listed).contains i&&Q7f md ops i D&&(D.all fun k=>!listed.getD k true)&&(i != c))=true)
  (hQ:∀ c a w,Q (.panic c) (a.put oi.dst v) w→Q (.panic c) a w) (hS:StG c N T listed w) (hw:Region.wanted oi (yielded ops a.tmps)=true)
  (hy:∀ w,SdG c N T D w→(execOp a.eval oi).run P w = .ok (.value v) w)
  (h:StG c N T (listed.setIfInBounds i true) w→Qrh P md ops Q c N T fuel (listed.setIfInBounds i true) (a.put oi.dst v) w):Qrh P md ops Q c N T (fuel+1) listed a w:=by
 simp only [Bool.and_eq_true] at hs;obtain ⟨⟨⟨⟨⟨h1,h2⟩,h3⟩,h4⟩,h5⟩,h6⟩:=hs;have hic:i≠c:=by simpa using h6
 refine Qzg hi (Region.noSelect_spec h1) hQ hic ?_ fuel listed a w (Region.free_spec hi h2) ?_ (by simpa using h3) (.inl ⟨hw,hy⟩) hS (h ⟨fun h=>hS.1 (by rwa [getD_set_ne true hic] at h),hS.2⟩)
 ·intro k ok hk hki hok;have:=List.all_eq_true.1 h4 k hk;rw [hok] at this;simp only [Bool.or_eq_true,beq_iff_eq] at this;rcases this with h|h
  ·exact absurd h hki
  ·have h' : ∃ (i:Nat),∃ h,Region.binds md ok.after[i]=true∧ok.after[i].on∈D:=by simpa using h
   obtain ⟨j,hj,hb⟩:=h';exact ⟨_,Array.getElem_mem hj,hb⟩
 ·intro k hk;have:=List.all_eq_true.1 h5 k hk;simpa using this
theorem Qqm (i:Nat) {o:Oper} {fuel:Nat} {listed:Array Bool} {a:Act} {w:World} (hr:Region.ready md ops listed=[i]) (ho:ops[i]? = some o)
  (h:∀ K' : Act→World→Prop,(∀ a w,StG c N T (listed.setIfInBounds i true) w→(StG c N T (listed.setIfInBounds i true) w→Qrh P md ops Q c N T fuel (listed.setIfInBounds i true) a w)→K' a w)→if Region.wanted o (yielded ops a.tmps)=true then Oper.wp P o a w K' Q else K' (a.put o.dst undef) w) :
  Qrh P md ops Q c N T (fuel+1) listed a w:=by
 refine ⟨fun h0=>absurd (hr ▸ h0) (by simp),fun j hj=>?_⟩;rw [hr] at hj;obtain rfl:j=i:=by simpa using hj
 exact wpOp_step ho (fun K' hK=>h K' (fun a w hS hW=>hK a w ⟨hS,hW hS⟩))
theorem Qz5 {listed:Array Bool} {a:Act} {w:World} (hr:Region.ready md ops listed=[]) (h:Q .normal a w):∀ fuel,Qrh P md ops Q c N T fuel listed a w
 | 0=>⟨hr,h⟩
 | _+1=>⟨fun _=>h,by rw [hr];simp⟩
theorem Qz6 (c:Nat) (N T:World→Prop) {id:Nat} {a:Act} {w:World} (hm:P.follows .mixedOrders=true) (hN:N w.drew) (hT:T w.drew)
  (h:StG c N T (Array.replicate ops.size false) w.drew→Qrh P .any ops Q c N T ops.size (Array.replicate ops.size false) a w.drew):(Code.region id ops true).wp P Q a w :=
 wp_region_any hm (Qw4 _ _ _ _ (h ⟨fun _=>hN,hT⟩))
end
end Go
end
section
namespace Go.Proofs
open Go.Shelf Go.RowKit Go.Lib Go.Sort Go.Abs
attribute [local go_sem] Oper.semAt_some
set_option maxRecDepth 100000
set_option maxHeartbeats 4000000
theorem CompI.same {w0 W:World} {L:Nat} {pre pre' : List Bool} (h:CompI w0 L pre W) (e:Qhl pre'=Qhl pre):CompI w0 L pre' W:=by
 obtain ⟨h1,h2,h3,h4,h5,h6⟩:=h;rw [← e] at h3 h6;exact ⟨h1,h2,h3,h4,h5,h6⟩
theorem Q4t {w:World} {n:Nat} {x0 x1:Value} {t:TypeId} (h:w.heap[n]? = some (.cells #[x0,x1] t (0,0))):w.cell? ⟨n,0,none⟩=some x0∧w.frozen? ⟨n,0,none⟩=false:=⟨(Qvz h).1,by simp [World.frozen?,h]⟩
theorem Tryz.comp_walk (ba oa ca be oe ce cm:Nat) (mk:Option Addr) (w:World) (hba:ba<w.heap.size) (hbe:be<w.heap.size) (a0:w.cell? ⟨ba,oa,none⟩=some (.int .i64 0)) (a1:w.cell? ⟨ba,oa+1,none⟩=some (.int .i64 1))
  (e0:w.cell? ⟨be,oe,none⟩=some (.int .i64 0)) (e1:w.cell? ⟨be,oe+1,none⟩=some (.int .i64 0)) (e2:w.cell? ⟨be,oe+2,none⟩=some (.int .i64 0)) :
  Calls Tryz.prog 57 #[.agg #[.slice (some ⟨ba,oa,none⟩) 2 ca,.int .i64 2,.slice mk 0 cm,.slice (some ⟨be,oe,none⟩) 1 ce]] w fun e w' =>
   ∃ g cap A0 A1 c0 c1,e = .returned (.tuple #[.slice (some ⟨g,0,none⟩) 2 cap,.int .i64 0])∧Below w.heap.size w w'∧w.heap.size≤g∧w.heap.size≤A0∧w.heap.size≤A1 ∧
    2≤cap∧1≤c0∧1≤c1 ∧
    w'.cell? ⟨g,0,none⟩=some (.slice (some ⟨A0,0,none⟩) 1 c0)∧w'.cell? ⟨g,1,none⟩=some (.slice (some ⟨A1,0,none⟩) 1 c1)∧w'.cell? ⟨A0,0,none⟩=some (.int .i64 0)∧w'.cell? ⟨A1,0,none⟩=some (.int .i64 1):=by
 have h0:Below w.heap.size w (w.alloc (.cells #[.slice (some ⟨ba,oa,none⟩) 2 ca,.int .i64 2,.slice mk 0 cm,.slice (some ⟨be,oe,none⟩) 1 ce] 35)):=(Below.refl _ w).alloc (Nat.le_refl _) _;have mk49:∀ w,(Instr.makeSlice 49 (.int .i64 2) (.int .i64 2)).run Tryz.prog w = .ok (.slice (some ⟨w.heap.size,0,none⟩) 2 2) (w.alloc (.cells #[.bool false,.bool false] 4)):=fun _=>by kernel_rfl
 have mk45:∀ w,(Instr.makeSlice 45 (.int .i64 2) (.int .i64 2)).run Tryz.prog w = .ok (.slice (some ⟨w.heap.size,0,none⟩) 2 2) (w.alloc (.cells #[.slice none 0 0,.slice none 0 0] 32)):=fun _=>by kernel_rfl
 have mk32:∀ w,(Instr.makeSlice 32 (.int .i64 2) (.int .i64 2)).run Tryz.prog w = .ok (.slice (some ⟨w.heap.size,0,none⟩) 2 2) (w.alloc (.cells #[.int .i64 0,.int .i64 0] 3)):=fun _=>by kernel_rfl
 obtain ⟨i0,hi0,hz0,hz1,hz2⟩:=info_parts Tryz.int_parts;obtain ⟨i1,hj0,hj1,hj2,hj3⟩:=info_parts Tryz.slice_parts;refine (callsIn_wide (n:=6)).1 (callsIn_of_wp_marks Tryz.func57 rfl trivial (wpIn_wide.2 ?_) rfl);simp only [Tryz.ntmps57,List.size_toArray,List.length_cons,List.length_nil,Nat.reduceAdd,Nat.reduceSub,Array.replicate_succ,Array.replicate_zero,List.push_toArray,List.append_toArray,List.nil_append,List.cons_append]
 go_wp2_with (first
  | (
     go_at_call 79
     refine (Tryz.check_at ba oa ca be oe ce cm mk _ (by simp;omega) (by simp;omega) ((h0.cell hba).trans a0) ((h0.cell hba).trans a1) ((h0.cell hbe).trans e0) ((h0.cell hbe).trans e1) ((h0.cell hbe).trans e2)).mono ?_;rintro e' w1 ⟨rfl,hb1⟩;replace hb1:=hb1.mono (B':=w.heap.size+1) (by simp);obtain ⟨g0,g1,g2,g3⟩:=Qr2 hb1;have z1:w.heap.size+1≤w1.heap.size:=by have:=hb1.size;simp at this;omega
    )
  | (
     go_at_call 91
     refine (Tryz.graph_walk _ _ _ _ be oe _ _ ((hb1.cell (p:=⟨_,_,none⟩) (by simp;omega)).trans ((h0.cell hbe).trans e0)) ((hb1.cell (p:=⟨_,_,none⟩) (by simp;omega)).trans ((h0.cell hbe).trans e1)) ((hb1.cell (p:=⟨_,_,none⟩) (by simp;omega)).trans ((h0.cell hbe).trans e2)) (by omega)).mono ?_;rintro e' w2 ⟨B,rfl,hBl,hB,hb2⟩;have hb3:=hb1.trans (hb2.mono z1);obtain ⟨g0',g1',g2',g3'⟩:=Qr2 hb3;have z2:w1.heap.size≤w2.heap.size:=hb2.size;have hB2:B<w2.heap.size:=(Array.getElem?_eq_some_iff.1 hB).1;have E0:w2.cell? ⟨be,oe,none⟩=some (.int .i64 0):=(hb3.cell (p:=⟨_,_,none⟩) (by simp;omega)).trans ((h0.cell hbe).trans e0);have E1:w2.cell? ⟨be,oe+1,none⟩=some (.int .i64 0):=(hb3.cell (p:=⟨_,_,none⟩) (by simp;omega)).trans ((h0.cell hbe).trans e1);have E2:w2.cell? ⟨be,oe+2,none⟩=some (.int .i64 0):=(hb3.cell (p:=⟨_,_,none⟩) (by simp;omega)).trans ((h0.cell hbe).trans e2);have B0:w2.cell? ⟨B,0,none⟩=some (.int .i64 0):=by simp only [World.cell?,hB];rfl
     have B1:w2.cell? ⟨B,1,none⟩=some (.int .i64 1):=by simp only [World.cell?,hB];rfl
     have B2:w2.cell? ⟨B,2,none⟩=some (.int .i64 1):=by simp only [World.cell?,hB];rfl
     have k1:w.heap.size<w2.heap.size:=by omega
     have k2:w.heap.size<w2.heap.size+1:=by omega
     have k3:w.heap.size<w2.heap.size+1+1:=by omega
     have k4:w.heap.size≠w2.heap.size:=by omega
     have k5:w.heap.size≠w2.heap.size+1:=by omega
     have hX:=fun o1 o2=>((Below.refl w2.heap.size w2).alloc (Nat.le_refl _) o1).alloc (by simp) o2
    ))
 refine wp_loop_rounds 3 ?_;rw [rounds_succ]
 go_wp2_with (first
  | (
     go_at_call 92
     refine (Tryz.finish0_walk _ _ _ _ be oe _ B (w2.heap.size+1) _ w2.heap.size (by simp;omega) (.slice none 0 0) 0 [] (by omega) ⟨rfl,.inl ⟨rfl,rfl⟩⟩ (by simp [Value.ownBlock]) (((hX _ _).cell (p:=⟨_,_,none⟩) (by simp;omega)).trans E0) (((hX _ _).cell (p:=⟨_,_,none⟩) (by simp;omega)).trans E1) (((hX _ _).cell (p:=⟨_,_,none⟩) (by simp;omega)).trans E2) (by simp;omega) (by omega) (((hX _ _).cell (p:=⟨_,_,none⟩) (by simp;omega)).trans B0) (((hX _ _).cell (p:=⟨_,_,none⟩) (by simp;omega)).trans B1) (((hX _ _).cell (p:=⟨_,_,none⟩) (by simp;omega)).trans B2) (by simp;omega) (.bool false) (Qey _ _ _ (by simp)) (by omega)).mono ?_;rintro e' w4 ⟨g4,cap4,rfl,hown4,hS4,hF4,hg4⟩;replace hg4:w2.heap.size+1+1≤g4:=by simpa [Value.ownBlock] using hg4
     have z4:w2.heap.size+1+1≤w4.heap.size:=by simpa using hF4.size
     have b4:Below w2.heap.size w2 w4:=⟨hF4.os,hF4.tape,hF4.output,by omega,fun k hk=>(hF4.block k (by simp;omega) ⟨by omega,by simp [Value.ownBlock]⟩).trans ((hX _ _).block k hk)⟩;have hG4:=(hF4.block w2.heap.size (by simp;omega) ⟨by omega,by simp [Value.ownBlock]⟩).trans ((Qbf _ _ _ (by simp)).trans (Qey _ _ _ rfl));obtain ⟨y0,y1,y2,y3,y4⟩:=Q4s hG4;obtain ⟨s0,s1⟩:=Qvz hS4;have B0:=(b4.cell (p:=⟨_,_,none⟩) (by simp;omega)).trans B0;have B1:=(b4.cell (p:=⟨_,_,none⟩) (by simp;omega)).trans B1;have B2:=(b4.cell (p:=⟨_,_,none⟩) (by simp;omega)).trans B2;have hb4:=hb3.trans (b4.mono (by omega));obtain ⟨g0,g1,g2,g3⟩:=Qr2 hb4;have q4:=Q1a hown4 (by omega)
    ))
 rw [rounds_succ]
 go_wp2_with (
    go_at_call 92
    refine (Tryz.finish1_walk _ _ _ _ be oe _ B (w2.heap.size+1) w4 w2.heap.size (by omega) _ 1 _ (by omega) hown4 (by simp [Value.ownBlock];omega) B0 B1 B2 (by omega) (.bool true) hS4 (by omega)).mono ?_;rintro e' w5 ⟨g5,cap5,rfl,hown5,hS5,hF5,hg5⟩;have b5:Below w2.heap.size w2 w5:=⟨hF5.os.trans b4.os,hF5.tape.trans b4.tape,hF5.output.trans b4.output,Nat.le_trans b4.size hF5.size,fun k hk=>(hF5.block k (by omega) ⟨by omega,by simp [Value.ownBlock];omega⟩).trans (b4.block k hk)⟩;have hb5:=hb3.trans (b5.mono (by omega));obtain ⟨g0,g1,g2,g3⟩:=Qr2 hb5;have q5:=Q1a hown5 (by omega);have o0:=Qsw hown5 (i:=0) rfl;have o1:=Qsw hown5 (i:=1) rfl
   )
 have E0:=(b5.cell (p:=⟨_,_,none⟩) (by simp;omega)).trans E0;have E1:=(b5.cell (p:=⟨_,_,none⟩) (by simp;omega)).trans E1;have E2:=(b5.cell (p:=⟨_,_,none⟩) (by simp;omega)).trans E2;have z5:w2.heap.size+1+1≤w5.heap.size:=by have:=hF5.size;omega
 have k1:w.heap.size<w5.heap.size:=by omega
 have k2:w.heap.size<w5.heap.size+1:=by omega
 have k3:w.heap.size<w5.heap.size+1+1:=by omega
 have k3' : w.heap.size<w5.heap.size+1+1+1:=by omega
 have k4:w.heap.size≠w5.heap.size:=by omega
 have k5:w.heap.size≠w5.heap.size+1:=by omega
 have k6:w.heap.size≠w5.heap.size+1+1:=by omega
 have j1:be<w5.heap.size:=by omega
 have j2:be<w5.heap.size+1:=by omega
 have j3:be<w5.heap.size+1+1:=by omega
 have j4:be≠w5.heap.size:=by omega
 have j5:be≠w5.heap.size+1:=by omega
 have j6:be≠w5.heap.size+1+1:=by omega
 clear mk49 hX hF4 hS4 hF5 hS5 hG4 b4 B0 B1 B2 s0 s1 y0 y1 y2 y3 y4;rw [rounds_succ]
 go_wp2
 refine wp_loop_rounds 2 ?_;rw [rounds_succ]
 go_upto_block 3 with fail
 go_cut [11] from 55 to 69 (fun s11 wx=>∃ g6 cap6,Below w5.heap.size w5 wx∧w5.heap.size+4≤g6∧g6<wx.heap.size∧1≤cap6∧wx.cell? ⟨g6,0,none⟩=some (.int .i64 0) ∧
   wx.heap[w5.heap.size]? = some (.cells #[.slice (some ⟨g6,0,none⟩) 1 cap6,.slice none 0 0] 32 (0,0))∧wx.heap[w5.heap.size+1]? = some (.cells #[.slice (some ⟨w5.heap.size,0,none⟩) 2 2] 45 (0,0)))
 case first =>
  go_wp2
  refine wp_region_noPanic ?_;refine Qz6 13 (fun w=>w.cell? ⟨w5.heap.size,0,none⟩=some (.slice none 0 0)∧w.frozen? ⟨w5.heap.size,0,none⟩=false)
   (fun w=>w.cell? ⟨w5.heap.size+1,0,none⟩=some (.slice (some ⟨w5.heap.size,0,none⟩) 2 2)∧w.cell? ⟨w5.heap.size+1+1,0,none⟩=some (.int .i64 0)∧w.cell? ⟨w5.heap.size+1+1,2,none⟩=some (.int .i64 0)) (by kernel_rfl) ?_ ?_ (fun hG=>?_)
  ·refine Q4t (x1:=.slice none 0 0) (t:=32) ?_;exact (Qbf _ _ _ (by simp<;>omega)).trans ((Qbf _ _ _ (by simp)).trans (Qey _ _ _ rfl))
  ·exact Q6f rfl
  refine Qe1 (v:=?_) 0 [0] rfl (by kernel_rfl) (by exact fun _ _ _ h=>h) hG (by rfl) ?_ (fun hG=>?_)
  rotate_left
  ·intro w hw;obtain ⟨hw1,hw2,hw3,hw4⟩:=hw
   go_simp
   try rfl
  simp only [Act.put,List.setIfInBounds_toArray,List.set_cons_zero,List.set_cons_succ];refine Qe1 (v:=?_) 1 [1] rfl (by kernel_rfl) (by exact fun _ _ _ h=>h) hG (by rfl) ?_ (fun hG=>?_)
  rotate_left
  ·intro w hw;obtain ⟨hw1,hw2,hw3,hw4⟩:=hw
   go_simp
   try rfl
  simp only [Act.put,List.setIfInBounds_toArray,List.set_cons_zero,List.set_cons_succ];refine Qe1 (v:=?_) 2 [2] rfl (by kernel_rfl) (by exact fun _ _ _ h=>h) hG (by rfl) ?_ (fun hG=>?_)
  rotate_left
  ·intro w hw;obtain ⟨hw1,hw2,hw3,hw4⟩:=hw
   go_simp
   try rfl
  simp only [Act.put,List.setIfInBounds_toArray,List.set_cons_zero,List.set_cons_succ];refine Qe1 (v:=?_) 3 [3] rfl (by kernel_rfl) (by exact fun _ _ _ h=>h) hG (by rfl) ?_ (fun hG=>?_)
  rotate_left
  ·intro w hw;obtain ⟨hw1,hw2,hw3,hw4⟩:=hw
   go_simp
   try rfl
  simp only [Act.put,List.setIfInBounds_toArray,List.set_cons_zero,List.set_cons_succ];refine Qe1 (v:=?_) 4 [4] rfl (by kernel_rfl) (by exact fun _ _ _ h=>h) hG (by rfl) ?_ (fun hG=>?_)
  rotate_left
  ·intro w hw;obtain ⟨hw1,hw2,hw3,hw4⟩:=hw
   go_simp
   try rfl
  simp only [Act.put,List.setIfInBounds_toArray,List.set_cons_zero,List.set_cons_succ];refine Qe1 (v:=?_) 5 [5] rfl (by kernel_rfl) (by exact fun _ _ _ h=>h) hG (by rfl) ?_ (fun hG=>?_)
  rotate_left
  ·intro w hw;obtain ⟨hw1,hw2,hw3,hw4⟩:=hw
   go_simp
   try rfl
  simp only [Act.put,List.setIfInBounds_toArray,List.set_cons_zero,List.set_cons_succ];refine Qe1 (v:=?_) 6 [6] rfl (by kernel_rfl) (by exact fun _ _ _ h=>h) hG (by rfl) ?_ (fun hG=>?_)
  rotate_left
  ·intro w hw;obtain ⟨hw1,hw2,hw3,hw4⟩:=hw
   go_simp
   try rfl
  simp only [Act.put,List.setIfInBounds_toArray,List.set_cons_zero,List.set_cons_succ];refine Qe1 (v:=?_) 7 [7,11,13] rfl (by kernel_rfl) (by exact fun _ _ _ h=>h) hG (by rfl) ?_ (fun hG=>?_)
  rotate_left
  ·intro w hw;obtain ⟨hw1,hw2,hw3,hw4⟩:=hw;have hn:=(hw1 (by decide)).1
   go_simp
   try rfl
  simp only [Act.put,List.setIfInBounds_toArray,List.set_cons_zero,List.set_cons_succ];refine Qe1 (v:=?_) 8 [8] rfl (by kernel_rfl) (by exact fun _ _ _ h=>h) hG (by rfl) ?_ (fun hG=>?_)
  rotate_left
  ·intro w hw;obtain ⟨hw1,hw2,hw3,hw4⟩:=hw
   go_simp
   try rfl
  simp only [Act.put,List.setIfInBounds_toArray,List.set_cons_zero,List.set_cons_succ];refine Qe1 (v:=?_) 9 [9] rfl (by kernel_rfl) (by exact fun _ _ _ h=>h) hG (by rfl) ?_ (fun hG=>?_)
  rotate_left
  ·intro w hw;obtain ⟨hw1,hw2,hw3,hw4⟩:=hw
   go_simp
   try rfl
  simp only [Act.put,List.setIfInBounds_toArray,List.set_cons_zero,List.set_cons_succ];refine Qqm 10 (by kernel_rfl) rfl (fun K hK=>?_)
  go_simp
  refine hK _ _ ⟨fun _=>?_,Q7e rfl⟩ (fun hG=>?_)
  ·obtain ⟨_,_,k0,_,f,_⟩:=Qxy (w5:=w5) (World.grownBy.refl _ none) (W:=(((w5.alloc (.cells #[.slice none 0 0,.slice none 0 0] 32)).alloc (.cells #[.slice (some ⟨w5.heap.size,0,none⟩) 2 2] 45)).alloc (.cells #[.int .i64 0,.int .i64 0,.int .i64 0] 51)).drew.alloc (.cells #[.int .i64 0] 3)) rfl;exact ⟨k0,f⟩
  clear hK K
  try simp only [Act.put,List.setIfInBounds_toArray,List.set_cons_zero,List.set_cons_succ]
  refine Qqm 11 (by kernel_rfl) rfl (fun K hK=>?_);refine Tryz.step17 rfl rfl rfl rfl rfl rfl rfl rfl ?_;rintro g6 cap6 w6 ⟨n0,fN,i1,x0,x2,hc⟩;refine hK _ _ ⟨fun _=>⟨n0,fN⟩,i1,x0,x2⟩ (fun hG=>?_);clear hK K
  try simp only [Act.put,List.setIfInBounds_toArray,List.set_cons_zero,List.set_cons_succ]
  refine Qqm 12 (by kernel_rfl) rfl (fun K hK=>?_)
  go_simp
  refine hK _ _ ⟨fun _=>⟨n0,fN⟩,i1,x0,x2⟩ (fun hG=>?_);clear hK K
  try simp only [Act.put,List.setIfInBounds_toArray,List.set_cons_zero,List.set_cons_succ]
  refine Qqm 13 (by kernel_rfl) rfl (fun K hK=>?_)
  go_simp
  refine hK _ _ ⟨fun h=>absurd h (by decide),(Qmo _ _ _ _ _ (by simp)).trans i1,(Qmo _ _ _ _ _ (by simp;omega)).trans x0,(Qmo _ _ _ _ _ (by simp;omega)).trans x2⟩ (fun hG=>?_);clear hK K;refine Qz5 (by kernel_rfl) ?_ _;refine NoPanic.normal ?_
  go_wp2_with fail
  go_meet
  exact ⟨g6,cap6,hc _⟩
 case rest =>
  obtain ⟨g6,cap6,b6,q6,q6',q6c,r0,hN6,hI6⟩:=hcut;clear mk45;have hb6:=hb5.trans (b6.mono (by omega));obtain ⟨g0,g1,g2,g3⟩:=Qr2 hb6;have z6:=b6.size;have k1:w.heap.size<wc.heap.size:=by omega
  have k2:w.heap.size<wc.heap.size+1:=by omega
  have k3:w.heap.size<wc.heap.size+1+1:=by omega
  have k4:w.heap.size≠wc.heap.size:=by omega
  have k5:w.heap.size≠wc.heap.size+1:=by omega
  go_wp2
  rw [rounds_succ]
  go_wp2
  have cO0:=(b6.cell (p:=⟨g5,0,none⟩) (by simp;omega)).trans o0;have cO1:=(b6.cell (p:=⟨g5,1,none⟩) (by simp;omega)).trans o1;refine (wpIn_wide (n:=6)).1 ?_;refine' wpIn_rangeFunc_ownG rfl (by omega) (gf:=130) (lb:=#[.pointer (some ⟨wc.heap.size+1+1+1,0,none⟩)]) rfl trivial (enters_of Tryz.func130 (by kernel_rfl) rfl)
   (Tryz.back_stops Fence.wide 5 trivial rfl (by omega) (wc.heap.size+1+1+1) g5 cap5 _ (by simp) (by simp;omega) ?bs ?p0 ?p1) (fun h k=>Keep2.trans h k) ?kb (Below.refl _ _) (fun _=>rfl)
   (CompI wc wc.heap.size) (fun _ _ _=>False) ?own (fun _ _ _ _ _ hs _ _=>hs) ?start _ ?assign ?body ?done ?stop
  case bs=>exact Qhg (Qey _ _ _ (by simp))
  case p0=>exact (((((Below.refl wc.heap.size wc).alloc (Nat.le_refl _) _).alloc (by simp) _).alloc (by simp;omega) _).alloc (by simp;omega) _ |>.cell (p:=⟨_,_,none⟩) (by simp;omega)).trans cO0
  case p1=>exact (((((Below.refl wc.heap.size wc).alloc (Nat.le_refl _) _).alloc (by simp) _).alloc (by simp;omega) _).alloc (by simp;omega) _ |>.cell (p:=⟨_,_,none⟩) (by simp;omega)).trans cO1
  case kb =>
   intro W l o o' hl _ _ _;simp at hl;exact ⟨World.putObj_heap_other (by omega),World.putObj_heap_other (by omega)⟩
  case own =>
   have e:((((wc.alloc (Obj.cells #[Value.int IntKind.i64 0,Value.int IntKind.i64 0] 3)).alloc (Obj.cells #[Value.slice (some { block:=wc.heap.size,off:=0 }) 2 2] 32)).alloc (Obj.cells #[Value.slice none 0 0] 45)).alloc (Obj.cells #[Value.slice (some { block:=g5,off:=0 }) 2 cap5] 32)).heap.size=wc.heap.size+4:=by simp
   rw [e];exact CompI.own
  case start =>
   refine ⟨((((Below.refl wc.heap.size wc).alloc (Nat.le_refl _) _).alloc (by simp) _).alloc (by simp<;>omega) _).alloc (by simp<;>omega) _,by simp,?_,⟨_,Qey _ _ _ (by simp)⟩,?_,.slice none 0 0,[],?_,⟨rfl,.inl ⟨rfl,rfl⟩⟩,fun i b hi=>by simp [Qhl] at hi⟩
   ·exact (Qbf _ _ _ (by simp<;>omega)).trans ((Qbf _ _ _ (by simp<;>omega)).trans ((Qbf _ _ _ (by simp)).trans (Qey _ _ _ rfl)))
   ·exact (Qbf _ _ _ (by simp<;>omega)).trans ((Qbf _ _ _ (by simp)).trans (Qey _ _ _ (by simp)))
   ·exact (Qbf _ _ _ (by simp)).trans (Qey _ _ _ (by simp))
  case assign =>
   intro l x W K hK
   gi_wp2
   exact hK
  case stop =>
   rintro D c pre W _ _ h _;exact h.elim
  case body =>
   intro l pre x W hI hlt;have hz:=hI.size;have hb:=hI.below;obtain ⟨gv,rows,hgb,hown,hrows⟩:=hI.gb;have t0:=(hb.cell (p:=⟨w5.heap.size+1,0,none⟩) (by simp;omega)).trans (Qhg hI6);obtain ⟨n0,n1⟩:=Qvz hN6;have t1:=(hb.cell (p:=⟨w5.heap.size,0,none⟩) (by simp;omega)).trans n0;have t2:=(hb.cell (p:=⟨w5.heap.size,1,none⟩) (by simp;omega)).trans n1;have t3:=(hb.cell (p:=⟨g6,0,none⟩) (by simp;omega)).trans r0;obtain ⟨c0,c1⟩:=Qvz hI.cl;have f0:W.frozen? ⟨wc.heap.size,0,none⟩=false:=by simp [World.frozen?,hI.cl]
   have f1:W.frozen? ⟨wc.heap.size,1,none⟩=false:=by simp [World.frozen?,hI.cl]
   have fg:W.frozen? ⟨wc.heap.size+1+1,0,none⟩=false:=by simp [World.frozen?,hgb]
   have d0:=Qhg hI.cb;have d1:=Qhg hgb;have u1:wc.heap.size<W.heap.size:=by omega
   have u2:wc.heap.size+1<W.heap.size:=by omega
   have u3:wc.heap.size+1+1<W.heap.size:=by omega
   have u4:w5.heap.size<W.heap.size:=by omega
   have u5:w5.heap.size+1<W.heap.size:=by omega
   have u6:g6<W.heap.size:=by omega
   have v1:wc.heap.size≠W.heap.size:=by omega
   have v2:wc.heap.size+1≠W.heap.size:=by omega
   have v3:wc.heap.size+1+1≠W.heap.size:=by omega
   have v4:w5.heap.size≠W.heap.size:=by omega
   have v5:w5.heap.size+1≠W.heap.size:=by omega
   have v6:g6≠W.heap.size:=by omega
   have n1' : w5.heap.size≠wc.heap.size:=by omega
   have n2' : w5.heap.size+1≠wc.heap.size:=by omega
   have n3' : g6≠wc.heap.size:=by omega
   have n4' : wc.heap.size+1≠wc.heap.size:=by omega
   have n5' : wc.heap.size+1+1≠wc.heap.size:=by omega
   match pre,hlt with
   | [],_ =>
    have hgv:∃ a cap,gv = .slice a 0 cap:=by
     rcases hown.2 with ⟨rfl,_⟩|⟨g,cap,cur,rfl,_⟩
     ·exact ⟨_,_,rfl⟩
     ·exact ⟨_,_,rfl⟩
    obtain ⟨gva,gvc,rfl⟩:=hgv;cases x with
    | true =>
     simp only [Qhl,clOf,stN,if_true] at c0 c1 ⊢
     gi_wp2
     refine wpIn_loop_rounds 2 ?_;rw [roundsIn_succ]
     gi_wp2
     refine Qee rfl (by kernel_rfl) (by kernel_rfl) (by kernel_rfl) ?_
     repeat (quiet_step_in (fail))
     refine wpQuietIn_nil ?_;rintro _ ⟨nq,rfl⟩
     gi_wp2
     refine wpIn_loop_rounds 1 ?_;rw [roundsIn_succ]
     gi_wp2
     rw [roundsIn_succ]
     gi_wp2_with fail
     refine ⟨trivial,(CallsIn.inRound l (callsIn_wide.2 (Tryz.sortI_few 1 (by omega) _ _ _))).mono ?_⟩;rintro e' w' ⟨rfl,rfl⟩;have hne:=Qp7 hown (b:=wc.heap.size) (by omega);have hown':=(ownsRow_setCell_other hown hne (a:=⟨wc.heap.size,1,none⟩) (.int .i64 1)).alloc (.cells #[.int .i64 1] 3);have m7:0+1≤maxLen:=by simp only [maxLen];omega
     gi_wp2_with (gi_at_builtin;refine wpListIn_append_own _ rfl (.tmp 126) (.tmp 128) 45 rfl (wc.heap.size+4) 32 i1 (.slice none 0 0) 1 24 Tryz.underlying45 hj0 hj1 hj2 hj3 rfl (by omega) (.slice gva 0 gvc) 0 rows rfl (hown'.alloc _) ⟨W.heap.size+1,0,none⟩ 1 1 [.slice (some ⟨W.heap.size,0,none⟩) 1 1] rfl rfl (Qum _ _ _ _ (by simp)) (by simp [Value.oneCell']) m7 (by omega) (by simp;omega) ?_;intro v' w7 hown7 hgrow7 hnil7;obtain ⟨g7,cap7,rfl⟩:=ownsRow_succ hown7;have gb7:=(Qmp hgrow7 rfl (k:=wc.heap.size+1+1) (by omega) (Qp7 hown (by omega)).symm).trans ((Qc5 _ _ _ _ (by simp<;>omega)).trans hgb);have gc7:=Qhg gb7;have gf7:w7.frozen? ⟨wc.heap.size+1+1,0,none⟩=false:=by simp [World.frozen?,gb7])
     exact CompI.next (pre:=[]) (x:=true) hI rfl (heap_setCell_same _ _ _ _ _ _ hI.cl) hgb hown hrows hgrow7 rfl rfl rfl rfl hown7 rfl rfl (by omega)
    | false =>
     simp only [Qhl,clOf,stN,Bool.false_eq_true,if_false] at c0 c1 ⊢
     gi_wp2
     refine wpIn_loop_rounds 2 ?_;rw [roundsIn_succ]
     gi_wp2
     refine Qee rfl (by kernel_rfl) (by kernel_rfl) (by kernel_rfl) ?_
     repeat (quiet_step_in (fail))
     refine wpQuietIn_nil ?_;rintro _ ⟨nq,rfl⟩
     gi_wp2
     refine wpIn_loop_rounds 2 ?_;rw [roundsIn_succ]
     gi_wp2
     rw [roundsIn_succ]
     gi_wp2
     rw [roundsIn_succ]
     gi_wp2_with fail
     refine ⟨trivial,(CallsIn.inRound l (callsIn_wide.2 (Tryz.sortI_few 1 (by omega) _ _ _))).mono ?_⟩;rintro e' w' ⟨rfl,rfl⟩;have hne:=Qp7 hown (b:=wc.heap.size) (by omega);have hown':=(ownsRow_setCell_other hown hne (a:=⟨wc.heap.size,0,none⟩) (.int .i64 1)).alloc (.cells #[.int .i64 0] 3);have m7:0+1≤maxLen:=by simp only [maxLen];omega
     gi_wp2_with (gi_at_builtin;refine wpListIn_append_own _ rfl (.tmp 126) (.tmp 128) 45 rfl (wc.heap.size+4) 32 i1 (.slice none 0 0) 1 24 Tryz.underlying45 hj0 hj1 hj2 hj3 rfl (by omega) (.slice gva 0 gvc) 0 rows rfl (hown'.alloc _) ⟨W.heap.size+1,0,none⟩ 1 1 [.slice (some ⟨W.heap.size,0,none⟩) 1 1] rfl rfl (Qum _ _ _ _ (by simp)) (by simp [Value.oneCell']) m7 (by omega) (by simp;omega) ?_;intro v' w7 hown7 hgrow7 hnil7;obtain ⟨g7,cap7,rfl⟩:=ownsRow_succ hown7;have gb7:=(Qmp hgrow7 rfl (k:=wc.heap.size+1+1) (by omega) (Qp7 hown (by omega)).symm).trans ((Qc5 _ _ _ _ (by simp<;>omega)).trans hgb);have gc7:=Qhg gb7;have gf7:w7.frozen? ⟨wc.heap.size+1+1,0,none⟩=false:=by simp [World.frozen?,gb7])
     exact CompI.next (pre:=[]) (x:=false) hI rfl (heap_setCell_same _ _ _ _ _ _ hI.cl) hgb hown hrows hgrow7 rfl rfl rfl rfl hown7 rfl rfl (by omega)
   | [y],_ =>
    have hgv:∃ gg gcap,gv = .slice (some ⟨gg,0,none⟩) 1 gcap:=by
     cases y
     ·obtain ⟨g,c,h⟩:=ownsRow_succ (k:=0) hown;exact ⟨g,c,h⟩
     ·obtain ⟨g,c,h⟩:=ownsRow_succ (k:=0) hown;exact ⟨g,c,h⟩
    obtain ⟨gg,gcap,rfl⟩:=hgv;cases y with
    | true =>
     cases x with
     | true =>
      simp only [Qhl,clOf,stN,if_true,Bool.false_eq_true,if_false] at c0 c1 ⊢
      gi_wp2
      exact ⟨⟨Nat.le_refl _,fun _ _ _ h _=>h⟩,Keep2.refl _,hI.same rfl⟩
     | false =>
      simp only [Qhl,clOf,stN,if_true,Bool.false_eq_true,if_false] at c0 c1 ⊢
      gi_wp2
      refine wpIn_loop_rounds 2 ?_;rw [roundsIn_succ]
      gi_wp2
      refine Qee rfl (by kernel_rfl) (by kernel_rfl) (by kernel_rfl) ?_
      repeat (quiet_step_in (fail))
      refine wpQuietIn_nil ?_;rintro _ ⟨nq,rfl⟩
      gi_wp2
      refine wpIn_loop_rounds 2 ?_;rw [roundsIn_succ]
      gi_wp2
      rw [roundsIn_succ]
      gi_wp2
      rw [roundsIn_succ]
      gi_wp2_with fail
      refine ⟨trivial,(CallsIn.inRound l (callsIn_wide.2 (Tryz.sortI_few 1 (by omega) _ _ _))).mono ?_⟩;rintro e' w' ⟨rfl,rfl⟩;have hne:=Qp7 hown (b:=wc.heap.size) (by omega);have hown':=(ownsRow_setCell_other hown hne (a:=⟨wc.heap.size,0,none⟩) (.int .i64 2)).alloc (.cells #[.int .i64 0] 3);have m7:1+1≤maxLen:=by simp only [maxLen];omega
      gi_wp2_with (gi_at_builtin;refine wpListIn_append_own _ rfl (.tmp 126) (.tmp 128) 45 rfl (wc.heap.size+4) 32 i1 (.slice none 0 0) 1 24 Tryz.underlying45 hj0 hj1 hj2 hj3 rfl (by omega) (.slice (some ⟨gg,0,none⟩) 1 gcap) 1 rows rfl (hown'.alloc _) ⟨W.heap.size+1,0,none⟩ 1 1 [.slice (some ⟨W.heap.size,0,none⟩) 1 1] rfl rfl (Qum _ _ _ _ (by simp)) (by simp [Value.oneCell']) m7 (by omega) (by simp;omega) ?_;intro v' w7 hown7 hgrow7 hnil7;obtain ⟨g7,cap7,rfl⟩:=ownsRow_succ hown7;have gb7:=(Qmp hgrow7 rfl (k:=wc.heap.size+1+1) (by omega) (Qp7 hown (by omega)).symm).trans ((Qc5 _ _ _ _ (by simp<;>omega)).trans hgb);have gc7:=Qhg gb7;have gf7:w7.frozen? ⟨wc.heap.size+1+1,0,none⟩=false:=by simp [World.frozen?,gb7])
      exact CompI.next (pre:=[true]) (x:=false) hI rfl (heap_setCell_same _ _ _ _ _ _ hI.cl) hgb hown hrows hgrow7 rfl rfl rfl rfl hown7 rfl rfl (by omega)
    | false =>
     cases x with
     | false =>
      simp only [Qhl,clOf,stN,if_true,Bool.false_eq_true,Bool.true_eq_false,reduceCtorEq,if_false] at c0 c1 ⊢
      gi_wp2
      exact ⟨⟨Nat.le_refl _,fun _ _ _ h _=>h⟩,Keep2.refl _,hI.same rfl⟩
     | true =>
      simp only [Qhl,clOf,stN,if_true,Bool.false_eq_true,Bool.true_eq_false,reduceCtorEq,if_false] at c0 c1 ⊢
      gi_wp2
      refine wpIn_loop_rounds 2 ?_;rw [roundsIn_succ]
      gi_wp2
      refine Qee rfl (by kernel_rfl) (by kernel_rfl) (by kernel_rfl) ?_
      repeat (quiet_step_in (fail))
      refine wpQuietIn_nil ?_;rintro _ ⟨nq,rfl⟩
      gi_wp2
      refine wpIn_loop_rounds 1 ?_;rw [roundsIn_succ]
      gi_wp2
      rw [roundsIn_succ]
      gi_wp2_with fail
      refine ⟨trivial,(CallsIn.inRound l (callsIn_wide.2 (Tryz.sortI_few 1 (by omega) _ _ _))).mono ?_⟩;rintro e' w' ⟨rfl,rfl⟩;have hne:=Qp7 hown (b:=wc.heap.size) (by omega);have hown':=(ownsRow_setCell_other hown hne (a:=⟨wc.heap.size,1,none⟩) (.int .i64 2)).alloc (.cells #[.int .i64 1] 3);have m7:1+1≤maxLen:=by simp only [maxLen];omega
      gi_wp2_with (gi_at_builtin;refine wpListIn_append_own _ rfl (.tmp 126) (.tmp 128) 45 rfl (wc.heap.size+4) 32 i1 (.slice none 0 0) 1 24 Tryz.underlying45 hj0 hj1 hj2 hj3 rfl (by omega) (.slice (some ⟨gg,0,none⟩) 1 gcap) 1 rows rfl (hown'.alloc _) ⟨W.heap.size+1,0,none⟩ 1 1 [.slice (some ⟨W.heap.size,0,none⟩) 1 1] rfl rfl (Qum _ _ _ _ (by simp)) (by simp [Value.oneCell']) m7 (by omega) (by simp;omega) ?_;intro v' w7 hown7 hgrow7 hnil7;obtain ⟨g7,cap7,rfl⟩:=ownsRow_succ hown7;have gb7:=(Qmp hgrow7 rfl (k:=wc.heap.size+1+1) (by omega) (Qp7 hown (by omega)).symm).trans ((Qc5 _ _ _ _ (by simp<;>omega)).trans hgb);have gc7:=Qhg gb7;have gf7:w7.frozen? ⟨wc.heap.size+1+1,0,none⟩=false:=by simp [World.frozen?,gb7])
      exact CompI.next (pre:=[false]) (x:=true) hI rfl (heap_setCell_same _ _ _ _ _ _ hI.cl) hgb hown hrows hgrow7 rfl rfl rfl rfl hown7 rfl rfl (by omega)
  case done =>
   intro D ys W hD hys hI hK;subst hys;obtain ⟨gv,rows,hgb,hown,hrows⟩:=hI.gb;obtain ⟨gg,gcap,rfl⟩ : ∃ gg gcap,gv = .slice (some ⟨gg,0,none⟩) 2 gcap:=ownsRow_succ (k:=1) hown;have d1:=Qhg hgb;obtain ⟨R1,r11,r12,r13,r14,r15⟩:=hrows 0 true rfl;obtain ⟨R0,r01,r02,r03,r04,r05⟩:=hrows 1 false rfl;have k0:=Qsw hown (i:=0) r11;have k1:=Qsw hown (i:=1) r01;obtain ⟨q1,q2,q3⟩:=Q1a hown (by decide);have hgc:∃ c,W.heap[gg]? = some (.cells c 32 (0,0)):=by
    rcases hown.2 with ⟨h,_⟩|⟨g,cap,cur,hv,hb,hg,hc,_⟩
    ·cases h
    ·cases hv;exact ⟨_,hg⟩
   obtain ⟨gcur,hgc⟩:=hgc;have hDg:D≠gg:=by rintro rfl;rw [hgc] at hK;cases hK
   have n1:R1≠gg:=fun e=>r14 (by simp [Value.ownBlock,e]);have n0:R0≠gg:=fun e=>r04 (by simp [Value.ownBlock,e])
   go_wp2_with (go_at_call 60;refine (Tryz.two_sorted gg gcap R0 R1 1 1 W (Qhg r05) (Qhg r15) n0 n1 r03 r13 q2 k0 k1 (fun i=>by simp [World.frozen?,hgc])).mono ?_;rintro e' w' ⟨rfl,hF,s0,s1⟩;have d1':=(hF.cell (by omega) (by omega) 0).trans d1)
   have hK':=(hF.block D (Array.getElem?_eq_some_iff.1 hK).1 hDg).trans hK;refine ⟨by simp,.inl ⟨_,_,rfl,run_takeDeferred hK',?_⟩⟩;have hsz:(w'.putObj D (.deferred none)).heap.size=w'.heap.size:=by simp [World.putObj]
   have hz:=hI.size;have hzF:=hF.size;have z6':=hb6.size;simp at z6';have hD' : wc.heap.size+4≤D:=by simpa using hD
   have pc:∀ k i,k≠D→(w'.putObj D (.deferred none)).cell? ⟨k,i,none⟩=w'.cell? ⟨k,i,none⟩:=fun k i h=>by simp only [World.cell?,World.putObj_heap_other h]
   have nR1:R1≠D:=by rintro rfl;rw [r15] at hK;cases hK
   have nR0:R0≠D:=by rintro rfl;rw [r05] at hK;cases hK
   have b7:Below wc.heap.size wc (w'.putObj D (.deferred none)):=⟨hF.os.trans hI.below.os,hF.tape.trans hI.below.tape,hF.output.trans hI.below.output,by omega,fun k hk=>(World.putObj_heap_other (by omega)).trans ((hF.block k (by omega) (by omega)).trans (hI.below.block k hk))⟩;refine ⟨_,results_tmp2 rfl _ _ _,gg,gcap,R0,R1,1,1,rfl,(h0.trans (hb6.mono (by omega))).trans (b7.mono (by omega)),by omega,by omega,by omega,q3,Nat.le_refl _,Nat.le_refl _,(pc _ _ (Ne.symm hDg)).trans s0,(pc _ _ (Ne.symm hDg)).trans s1,?_,?_⟩
   ·exact (pc _ _ nR0).trans ((hF.cell r03 n0 0).trans (Qhg r05))
   ·exact (pc _ _ nR1).trans ((hF.cell r13 n1 0).trans (Qhg r15))
end Go.Proofs
end
section
namespace Go.Proofs
open Go.RowKit Go.Lib Go.Sort Go.Abs
theorem Tryz.componentsK:Go.Abs.K_reach_Components Tryz.prog 57 Q6c:=by
 intro a1 r h M nb;unfold Q6c at h;split at h<;>cases h;rename_i ha;subst ha;refine ACalls.mk' (by kernel_rfl) (Nat.le_refl _) rfl fun w g us hm hMon hus hfl hons=>?_;obtain ⟨u,us',rfl,hu,hus'⟩:=hus;simp only [RFs] at hus';subst hus';have hu:=hu .free;simp only [Q1,eI,RV,RVs,RD,RDL,RDc,List.map_cons,List.map_nil,List.length_cons,List.length_nil] at hu;obtain ⟨vs,rfl,⟨u1,us1,rfl,⟨p1,ca,rfl,hc1,hl1⟩,u2,us2,rfl,rfl,u3,us3,rfl,⟨mk,cm,rfl,-,-⟩,u4,us4,rfl,⟨p4,ce,rfl,hc4,hl4⟩,rfl⟩,-⟩:=hu;obtain ⟨ba,oa,rfl,-,⟨i1,⟨_,a0,rfl⟩,-⟩,-,⟨i2,⟨_,a1,rfl⟩,-⟩,-⟩:=hl1.resolve_left (by simp);obtain ⟨be,oe,rfl,-,⟨j1,⟨_,e0,rfl⟩,j2,⟨_,e1,rfl⟩,j3,⟨_,e2,rfl⟩,-⟩,-⟩:=hl4.resolve_left (by simp);refine Calls.mono (Tryz.comp_walk ba oa ca be oe ce cm mk w (hm.imm _ _ i1).1 (hm.imm _ _ j1).1 a0 a1 e0 e1 e2) ?_;rintro e w' ⟨gb,cap,A0,A1,c0,c1,rfl,hB,hg,hA0,hA1,k1,k2,k3,m0,m1,m2,m3⟩;let g' : G:={ box:=g.box,imm:=fun b o=>g.imm b o∨(b=gb∧o<2)∨((b=A0∨b=A1)∧o=0),own:=fun b=>if b<w.heap.size then g.own b else .ext };have hI:Imm g.imm g'.imm w w':=⟨fun b o h=>.inl h,fun b o hi=>Qcz (hB.block b (hm.imm b o hi).1)⟩;have hown:∀ b,b<w.heap.size→g'.own b=g.own b∧w'.heap[b]? = w.heap[b]? ∧ ∀ o,g'.imm b o↔g.imm b o:=fun b hb=>⟨by simp [g',hb],hB.block b hb,fun o=>by simp only [g'];grind⟩;have hk:Kept g w g' w' (There M) (fun _=>True):=⟨hI,fun _ _=>rfl,fun b _ hlt=>hown b hlt⟩;have hnew:∀ b,w.heap.size≤b→g'.own b = .ext:=fun b h=>by simp only [g'];rw [if_neg (by omega)]
 have l0:gb<w'.heap.size:=Qzh (o:=0) (by rw [m0];rfl);have l1:A0<w'.heap.size:=Qzh (o:=0) (by rw [m2];rfl);have l2:A1<w'.heap.size:=Qzh (o:=0) (by rw [m3];rfl);refine ⟨_,g',rfl,hm.kept hk hMon (fun _ _ _=>trivial) trivial (fun _ _=>trivial) (fun b o hi=>?_),?_,?_,hMon,hB.os,hB.tape,hB.output,hB.size,hI,fun _ _=>rfl,fun b hb _=>hown b hb⟩
 ·rcases hi with hi|⟨rfl,_⟩|⟨rfl|rfl,_⟩
  ·obtain ⟨h1,h2⟩:=hm.imm b o hi;exact ⟨Nat.lt_of_lt_of_le h1 hB.size,fun k=>by rw [(hown b h1).1];exact h2 k⟩
  ·exact ⟨l0,fun k=>by rw [hnew _ hg];simp⟩
  ·exact ⟨l1,fun k=>by rw [hnew _ hA0];simp⟩
  ·exact ⟨l2,fun k=>by rw [hnew _ hA1];simp⟩
 ·have t0:g'.imm gb 0:=.inr (.inl ⟨rfl,by decide⟩);have t1:g'.imm gb 1:=.inr (.inl ⟨rfl,by decide⟩);have t2:g'.imm A0 0:=.inr (.inr ⟨.inl rfl,rfl⟩);have t3:g'.imm A1 0:=.inr (.inr ⟨.inr rfl,rfl⟩);simp only [RV,RVs,RD,RDL,RDc,eL,eI,List.map_cons,List.map_nil,List.length_cons,List.length_nil];refine ⟨[_,_],rfl,_,_,rfl,⟨_,_,rfl,k1,.inr ⟨gb,0,rfl,trivial,⟨t0,⟨_,m0,_,_,rfl,k2,.inr ⟨A0,0,rfl,trivial,⟨t2,⟨_,m2,rfl⟩,trivial⟩,trivial⟩⟩,trivial⟩,trivial,⟨t1,⟨_,m1,_,_,rfl,k3,.inr ⟨A1,0,rfl,trivial,⟨t3,⟨_,m3,rfl⟩,trivial⟩,trivial⟩⟩,trivial⟩,trivial⟩⟩,_,_,rfl,rfl,rfl⟩
 ·trivial
end Go.Proofs
end
section
namespace Go.Proofs
open Go Go.Abs
set_option maxRecDepth 10000
set_option maxHeartbeats 4000000
theorem Qo7:Qgr Tryz.prog 50 Qj2:=Qnk Qp0
theorem Qsy:Qi8 Tryz.prog 112 Qns:=Qqp Qtq Qeg
theorem Qny:Qhp Tryz.prog 80 Qkj:=Qru Qsy Qt9 Qeg
theorem Qp8:Qhb Tryz.prog 110 Qks:=Qoh Qq4 Qeg
theorem Qr3:Qic Tryz.prog 118 Qml:=Qps Qsr Qeg
theorem Qcx:Qb3 Tryz.prog 87 Qcl:=Qnl Qr3 Qp2
theorem Qoo:Qf7 Tryz.prog 111 Qi0:=Qmu Qcx Qo6 Qeg
theorem Qmq:Qg4 Tryz.prog 79 Qji:=Qqq Qp8 Qoo Qto
theorem Qii:Qff Tryz.prog 36 Qg5:=Qqr Qmq Qny Qtl
theorem Qq5:Qhs Tryz.prog 125 Ql2:=Qox Qr0
theorem Qsz:Qi9 Tryz.prog 129 Qnt:=Qqs Qtr Qeg
theorem Qo8:Qgs Tryz.prog 90 Qj3:=Qnm Qny Qq5 Qsz Qp4
theorem Qft:Qdh Tryz.prog 54 Qem:=Qmv Qo8 Qo2
theorem Qts:Qkd Tryz.prog 106 Qow:=Qrv Qua Qeg
theorem Qop:Qf8 Tryz.prog 107 Qi1:=Qmw Qo4
theorem Qp9:Qhc Tryz.prog 74 Qkt:=Qoi Qts Qop Qq3
theorem Qub:Qlt Tryz.prog 162 Qp5:=Qsl Qvu
theorem Qv0:Qmt Tryz.prog 143 Qrg:=Qth Qub Qv7
theorem Qr4:Qid Tryz.prog 144 Qmm:=Qpt Qss
theorem Ql9:Qe0 Tryz.prog 100 Qhk:=Qk4 Qv0 Qr4 Qm0 Qeg
theorem Qkw:Qfr Tryz.prog 64 Qhx:=Qoy Ql9 Qrz
theorem Qoq:Qf9 Tryz.prog 76 Qi2:=Qmx Qkw Qo3
theorem Qor:Qga Tryz.prog 108 Qi3:=Qmy Qo5 Qeg
theorem Qer:Qcy Tryz.prog 75 Qds:=Qk5 Qor Qmz
theorem Ql5:Qgd Tryz.prog 63 Qig:=Qpu Qsp
theorem Quc:Qlv Tryz.prog 65 Qp6:=Qsm Qvt
theorem Qij:Qfg Tryz.prog 18 Qg6:=Qqt Qii Ql5 Qkw Quc Qtk Qeg
theorem Qo9:Qgt Tryz.prog 101 Qj4:=Qnn Qp3 Qeg
theorem Qhz:Qew Tryz.prog 67 Qgi:=Qpv Qmq Qo9 Qsq
theorem Qg1:Qd9 Tryz.prog 68 Qe8:=Qoj Qcx Qq2 Qeg
theorem Qj7:Qd5 Tryz.prog 109 Qf0:=Qin Qcx Qkf
theorem Qgk:Qc8 Tryz.prog 77 Qei:=Qjy Qer Qj7 Ql0
theorem Qj8:Qd6 Tryz.prog 145 Qf1:=Qio Qkg
theorem Qgl:Qc9 Tryz.prog 102 Qej:=Qjz Qcx Tryz.rowK94 Qj8 Ql1 Qeg
theorem Qgm:Qda Tryz.prog 69 Qek:=Qj0 Qgl Qlz
theorem Qg2:Qdg Tryz.prog 72 Qeq:=Qke Qgl Ql8 Qeg
theorem Qpa:Qgx Tryz.prog 29 Qj5:=Qno Qhz Qg1 Qgm Qg2 Qgk Qpz Qeg
theorem Ql6:Qge Tryz.prog 55 Qih:=Qpw Qsn Qeg
theorem Qj9:Qe7 Tryz.prog 27 Qhf:=Qok Qij Qpa Qii Qft Ql6 Qp9 Qer Qoq Qq1
theorem Qik:Qde Tryz.prog 105 Qe4:=Qhv Qcx Qir
theorem Qjj:Qdz Tryz.prog 71 Qfo:=Qif Qer Qik Qj1
theorem Qqa:Qhd Tryz.prog 20 Qku:=Qol Qhz Qg1 Qgm Tryz.keyK Qjj Qg2 Qqz Qeg
theorem Qs0:Qja Tryz.prog 13 Qnu:=Qqu Qij Qqa Qft Ql6 Qti Qeg
theorem Qil:Qfh Tryz.prog 56 Qg7:=Qqv Qtm
theorem Qs1:Qjb Tryz.prog 78 Qnv:=Qqw Qtn Qeg
theorem Qkx:Qfs Tryz.prog 31 Qhy:=Qoz Qil Qs1 Qrw
theorem Qq6:Qht Tryz.prog 61 Ql3:=Qo0 Qry
theorem Qs2:Qjc Tryz.prog 15 Qnw:=Qqx Qkx Qil Tryz.componentsK Tryz.overK Tryz.valuesK Tryz.sortRK Qq6 Qtj Qeg
theorem Qs3:Qjd Tryz.prog 82 Qnx:=Qqy Ql5 Qhz Qg1 Qgk Qcx Qtp Qeg
theorem Qpb:Qgy Tryz.prog 81 Qj6:=Qnp Qft Qs3 Qp1 Qeg
theorem Qq7:Qhu Tryz.prog 34 Ql4:=Qo1 Qij Qj9 Qkx Qii Qil Qpb Qrx
theorem Qqb:Qhe Tryz.prog 23 Qkv:=Qom Qq0 Qeg
theorem Qr5:Qie Tryz.prog 62 Qmn:=Qpx Qso Qeg
theorem Qxz:Qpr Tryz.prog 17 Qt6:=Qvs Qr5 Qzb
theorem Qpc:Qgz Tryz.prog 11 Qg0:=Qnq Qs0 Qs2 Qxz Qqb Qj9 Qq7 Qo7 Qpy
theorem Qka:Qd7 Tryz.prog 37 Qf2:=Qip Qkh
theorem Qit:Qdq Tryz.prog 38 Qfk:=Qh5 Qjg
theorem Qiu:Qdr Tryz.prog 39 Qfl:=Qh6 Qjh
theorem Qim:Qdf Tryz.prog 40 Qe5:=Qhw Qis
theorem Qkk:Qeb Tryz.prog 41 Qgj:=Qje Qk7
theorem Qkb:Qd8 Tryz.prog 42 Qf3:=Qiq Qki
theorem Qud:Qgg Tryz.prog 7 Qed:=Qjf Qpc Qka Qit Qiu Qim Qkk Qkb Qk6
end Go.Proofs
end
section
namespace Go.Abs
open Go Go.ChangeShapes Go.WideShapes Go.ChangeAt Go.RowKit
def live (w:World):Nat→Nat→Prop:=fun b o=>(w.cell? ⟨b,o,none⟩).isSome=true
def RDs (w:World):List D→List Value→Prop
 | [],vs=>vs=[]
 | x::xs,vs=>∃ u us,vs=u::us∧RD (live w) w x u∧RDs w xs us
theorem Qw5 {w:World}:∀ {xs ys:List D} {us vs:List Value},RDs w xs us→RDs w ys vs→RDs w (xs++ys) (us++vs)
 | [],ys,us,vs,h,k=>by grind [RDs]
 | x::xs,ys,us,vs,⟨u,us',e,r,h⟩,k=>by subst e;exact ⟨u,us'++vs,by simp,r,Qw5 h k⟩
def RDat (w:World) (cs:List Value) (off:Nat) (xs:List D):Prop:=RDs w xs ((cs.drop off).take xs.length)
theorem RDat.app {w:World} {cs:List Value} {off:Nat} {xs ys:List D} (h:RDat w cs off xs) {n:Nat} (hn:n=off+xs.length) (k:RDat w cs n ys):RDat w cs off (xs++ys):=by
 grind [Qw5,RDat,List.length_append,List.drop_drop]
theorem RDat.nil {w:World} {cs:List Value} {off:Nat}:RDat w cs off []:=by simp [RDat,RDs]
theorem RDat.all {w:World} {cs:List Value} {xs:List D} (h:RDat w cs 0 xs) (hl:cs.length=xs.length):RDs w xs cs:=by
 grind [RDat,List.take_length]
def Q6g {α:Type} (P:Program) (t:TypeId) (e:α→List D) (wf:α→Prop):Prop :=
 ∀ {H:Type} {enc:TypeId×Value→H} {w:World} {base:Nat} {spare:Nat→Bool} {held:Bool} {fuel:Nat} {cs:List Value} {x:DataW H×List MemPlace},
  DataW.trod enc P w base spare held fuel t cs=some x→∃ a,wf a∧RDs w (e a) cs
def wfI (k:IntKind) (n:Int):Prop:=(Lit.int k n).wf=true
variable {P:Program} {t:TypeId}
theorem Q3w {k:IntKind} (ht:P.underlying t=some (.int k)):Q6g P t (fun n:Int=>[.int k n]) (wfI k):=by
 intro H enc w base spare held fuel cs x h;obtain ⟨n,rfl,_,hw⟩:=DataW.trod_int ht h;exact ⟨n,hw,_,_,rfl,by simp [RD],rfl⟩
def Qun {α:Type} (P:Program) (t:TypeId) (v:α→V) (wf:α→Prop):Prop :=
 ∀ {H:Type} {enc:TypeId×Value→H} {w:World} {base b0:Nat} {spare:Nat→Bool} {held:Bool} {u:Value} {d:DataW H} {ps:List MemPlace},
  Value.okWide P w .any b0 t u→DataW.Trod enc P w base spare held t u d ps→∃ a,wf a∧RF ⟨fun _=>0,live w,fun _=>.ext⟩ w (v a) u
theorem Q6h {α:Type} {e:α→D} {wf:α→Prop} (he:Q6g P t (fun a=>[e a]) wf) (hone:∀ w b0 u,Value.okWide P w .any b0 t u→u.cells = #[u]):Qun P t (fun a=>.d (e a)) wf:=by
 intro H enc w base b0 spare held u d ps hok hd;obtain ⟨fuel,hf⟩:=hd;rw [hone _ _ _ hok] at hf;obtain ⟨a,h1,u',us,h2,h3,h4⟩:=he hf;simp only [RDs] at h4;subst h4;simp at h2;subst h2;exact ⟨a,h1,fun ℓ=>by simpa [RV] using h3⟩
theorem Q6i {k:IntKind} (ht:P.underlying t=some (.int k)):∀ w b0 u,Value.okWide P w .any b0 t u→u.cells = #[u]:=by
 intro w b0 u h;simp only [Value.okWide,ht] at h;cases u<;>first|rfl|(simp [Cell.okWide,Cell.ok,ht] at h)
def Q7g (P:Program) (f:FuncId) (ts:List TypeId):Prop :=
 ∀ {H:Type} {enc:TypeId×Value→H} {w:World} {b0:Nat} {us:List Value} {ds:List (DataW H)} {ps:List MemPlace},
  (∀ (j:Nat) t u,ts[j]? = some t→us[j]? = some u→Value.okWide P w .any b0 t u)→DataW.TrodAll enc P w 0 (fun _=>true) true ts us ds ps →
  ∃ vs,RFs ⟨fun _=>0,live w,fun _=>.ext⟩ w vs us∧(∀ x∈vs,Flat x)∧V.lt.go 0 vs=true∧∀ M nb,ACalls P f vs M nb (.d (.bool true)) M nb
theorem Qs4 (hl:laidOutB P=true) {W W' : World} {sp:Nat→Bool} {H:Type} {enc:TypeId×Value→H}:∀ {ts:List TypeId} {us:List Value} {ds:List (DataW H)} {ps:List MemPlace},
  (∀ t∈ts,P.readableRec t=true∧t<P.types.size)→DataW.TrodAll enc P W 0 (fun _=>true) true ts us ds ps→(∀ p∈ps,W.sameAt W' p)→(∀ p∈ps,sp p.block=true)→DataW.TrodAll enc P W' 0 sp true ts us ds ps
 | [],[],[],ps,_,h,_,_=>h
 | t::ts,u::us,d::ds,ps,hr,⟨p,q,h1,h2,e⟩,hs,hp=>by
  subst e;obtain ⟨r1,r2⟩:=hr t (by simp);exact ⟨p,q,WideElems.Trod_stays hl r1 r2 h1 (fun x hx=>hs x (by simp [hx])) (fun x hx=>hp x (by simp [hx])),Qs4 hl (fun t ht=>hr t (by simp [ht])) h2 (fun x hx=>hs x (by simp [hx])) (fun x hx=>hp x (by simp [hx])),rfl⟩
 | [],[],_::_,_,_,h,_,_=>h.elim
 | [],_::_,_,_,_,h,_,_=>h.elim
 | _::_,[],_,_,_,h,_,_=>h.elim
 | _::_,_::_,[],_,_,h,_,_=>h.elim
theorem Qv1 {W:World} {sp:Nat→Bool} {held:Bool} {base:Nat} {H:Type} {enc:TypeId×Value→H}:∀ {ts:List TypeId} {us:List Value} {ds:List (DataW H)} {ps:List MemPlace},
  DataW.TrodAll enc P W base sp held ts us ds ps→ds.length=ts.length∧us.length=ts.length
 | [],[],[],ps,h=>⟨rfl,rfl⟩
 | t::ts,u::us,d::ds,ps,⟨p,q,h1,h2,e⟩=>by have:=Qv1 h2;simp [this.1,this.2]
 | [],[],_::_,_,h=>h.elim
 | [],_::_,_,_,h=>h.elim
 | _::_,[],_,_,h=>h.elim
 | _::_,_::_,[],_,h=>h.elim
theorem Q7h {P : Program} (h : P.globalNamed "internal/strconv.uint64pow10" = none) {X : World → Array Value → Prop} : ∀ W args, X W args → Tab P ⟨fun _ => 0, live W, fun _ => .ext⟩ W := fun _ _ _ gl hg => by rw [h] at hg; cases hg
theorem Q6j {C:Checked} {f:FuncId} {fn:Func} {s:ChangeSpec} {conds:List PathCond} {bt:TypeId} {os:Os} {H:Type} {enc:TypeId×Value→H}
  (own:ownKnob C.prog.godebug=none) (started:os.Started) (noInit:C.prog.inits.idxOf? f=none) (hfn:C.prog.funcs[f]? = some fn)
  (witness:∃ (w:World) (tape:Tape) (i:Input),w.os=os∧(w.forCall tape i).Shaped C.prog∧i.vars=[]∧Input.okWide C.prog (w.forCall tape i) .any w.heap.size f i ∧
   s.pre6 enc C.prog fn conds false (w.forCall tape i).memory i.args∧({}:Assume).holds C.prog (lone (Frame.enter C.prog f i.args .normal) [] (w.forCall tape i)))
  (hvars:s.vars=[]) (hres:fn.resultTypes = #[bt]) (hbt:C.prog.underlying bt=some .bool)
  (hl:laidOutB C.prog=true) (hread:∀ t∈fn.params.toList,C.prog.readableRec t=true∧t<C.prog.types.size)
  (hspec:∀ ds:List (DataW H),ds.length=fn.params.size→s.fn H ds={ results:=[.lit (.bool true)],args:=ds })
  (ht:∀ (W:World) (args:Array Value),True→Tab C.prog ⟨fun _=>0,live W,fun _=>.ext⟩ W) (law:Q7g C.prog f fn.params.toList) :
  ReturnsInHanded {} C os f .any (s.pre6 enc C.prog fn conds false) (s.post enc C.prog fn false true false false):=by
 refine returnsInHanded_of_change own started noInit hfn witness ?_;intro W base args ds gs before hval hW hcnd _;have hW':=hW;obtain ⟨p,q,hA,hV,hps,hfz,hnd⟩:=hW;rw [hvars] at hV;obtain ⟨rfl,rfl⟩ : gs=[]∧q=[]:=by
  cases gs with
  | nil=>exact ⟨rfl,hV⟩
  | cons _ _=>exact hV.elim
 obtain ⟨vs,h1,h2,h3,h4⟩:=law (fun j t u ht hu=>hval j t u (by simpa using ht) (by simpa using hu)) hA;obtain ⟨hb,_,h5⟩:=h4 (fun _=>none) 0;have hlv:∀ b o,live W b o→b<W.heap.size:=by
  grind [live,Option.isSome_iff_exists,Go.World.cell?,Array.getElem?_eq_some_iff]
 have hmr:MR ⟨fun _=>0,live W,fun _=>.ext⟩ W (fun _=>none) 0:=⟨fun k b h=>(by cases h),fun b o h=>⟨hlv b o h,fun k h=>by cases h⟩⟩;have h6:=h5 W ⟨fun _=>0,live W,fun _=>.ext⟩ args.toList (ht W args trivial) hmr (fun k cs h=>by cases h) (RAs.of_flat h1) (ons_mono (fun k hk=>absurd hk (Nat.not_lt_zero k)) _ (ons_lt vs h3));refine Calls.mono h6 fun e W' ⟨v,g',he,_,hr,_,_,hf⟩=>?_;subst he;have hv:v = .bool true:=by simpa [RV,RD] using hr
 subst hv;have hbelow:Below W.heap.size W W':=⟨hf.os,hf.tape,hf.output,hf.size,fun k hk=>(hf.old k hk trivial).2.1⟩;have hrl:(Value.bool true).resultList fn.resultTypes.size=[.bool true]:=by rw [hres];rfl
 have hsp:s.fn H (ds++[])={ results:=[.lit (.bool true)],args:=ds }:=by
  rw [List.append_nil];exact hspec ds (by have:=(Qv1 hA).1;simpa using this)
 have hlt:∀ p∈before,p.block<W.heap.size:=fun x hx=>hW'.lt x hx;have hst:∀ sp:Nat→Bool,(∀ p∈before,sp p.block=true)→DataW.TrodAll enc C.prog W' 0 sp true fn.params.toList args.toList ds before:=by
  intro sp hsp';have e:p=before:=by grind
  subst e;exact Qs4 hl hread hA (fun x hx=>hbelow.same (hlt x hx)) hsp'
 refine ⟨_,rfl,ds,[],before,[],before,[],hW',?_,?_,?_,World.keptBut_mono (fun p hp=>⟨hp,.inr (.inl hp)⟩) (hbelow.frame (· ∈ before)),fun h=>by cases h⟩
 ·rw [hsp,hrl,hres];exact ⟨[],[],⟨1,by simp [DataW.trod,Value.cells,hbt]⟩,rfl,rfl⟩
 ·grind
 ·rw [hsp,hvars];rfl
section
variable {α β γ δ:Type} {f:FuncId} {ta tb tc td:TypeId} {va:α→V} {vb:β→V} {vc:γ→V} {vd:δ→V} {wa:α→Prop} {wb:β→Prop} {wc:γ→Prop} {wd:δ→Prop}
theorem Qv2 {H:Type} {enc:TypeId×Value→H} {w:World} {base:Nat} {sp:Nat→Bool} {held:Bool} {t:TypeId} {ts:List TypeId} {us:List Value} {ds:List (DataW H)} {ps:List MemPlace} (h:DataW.TrodAll enc P w base sp held (t::ts) us ds ps) :
  ∃ u us' d ds' p q,us=u::us'∧ds=d::ds'∧DataW.Trod enc P w base sp held t u d p∧DataW.TrodAll enc P w base sp held ts us' ds' q:=by
 match us,ds,h with
 | u::us',d::ds',⟨p,q,h1,h2,_⟩=>grind
 | [],[],h=>exact h.elim
 | [],_::_,h=>exact h.elim
 | _::_,[],h=>exact h.elim
theorem Qz7 {H:Type} {enc:TypeId×Value→H} {w:World} {base:Nat} {sp:Nat→Bool} {held:Bool} {us:List Value} {ds:List (DataW H)} {ps:List MemPlace} (h:DataW.TrodAll enc P w base sp held [] us ds ps):us=[]:=by
 match us,ds,h with
 | [],[],_=>rfl
 | [],_::_,h=>exact h.elim
 | _::_,[],h=>exact h.elim
 | _::_,_::_,h=>exact h.elim
theorem Q7s (ra:Qun P ta va wa) (fa:∀ a,(va a).dem=va a) (la:∀ a,(va a).lt 0=true) (rb:Qun P tb vb wb) (fb:∀ a,(vb a).dem=vb a) (lb:∀ a,(vb a).lt 0=true)
  (law:∀ a b,wa a→wb b→∀ M nb,ACalls P f [va a,vb b] M nb (.d (.bool true)) M nb):Q7g P f [ta,tb]:=by
 intro H enc w b0 us ds ps hok hT;obtain ⟨u,us',d,ds',p,q,rfl,rfl,h1,hT⟩:=Qv2 hT;obtain ⟨u2,us',d2,ds',p2,q2,rfl,rfl,h2,hT⟩:=Qv2 hT;obtain rfl:=Qz7 hT;obtain ⟨a,ha,hra⟩:=ra (hok 0 _ _ rfl rfl) h1;obtain ⟨b,hb,hrb⟩:=rb (hok 1 _ _ rfl rfl) h2;refine ⟨[va a,vb b],⟨u,_,rfl,hra,u2,_,rfl,hrb,rfl⟩,?_,by simp [V.lt.go,la,lb],law a b ha hb⟩;intro x hx;simp only [List.mem_cons,List.not_mem_nil,or_false] at hx;rcases hx with rfl|rfl
 ·exact fa a
 ·exact fb b
end
end Go.Abs
end
section
namespace Go.Proofs
open Go Go.Abs
set_option maxRecDepth 100000
def W_3 (x:Int):Prop:=wfI .i64 x
theorem R_3:Q6g Tryz.prog 3 (eI .i64) W_3:=Q3w Tryz.underlying3
theorem A_3:Qun Tryz.prog 3 (fun (a:Int)=>.d (.int .i64 a)) W_3:=Q6h R_3 (Q6i Tryz.underlying3)
end Go.Proofs
end
section
namespace Go.Abs
open Go
set_option maxRecDepth 100000
set_option maxHeartbeats 4000000
theorem Q1u:Qg0=some true:=by kernel_rfl
end Go.Abs
end
section
namespace Go.Abs
open Go
theorem Q3x (event class_:Int):Qed event class_=some true:=by
 unfold Qed Qec;rw [Q1u]
 rfl
end Go.Abs
end
