/-
  Part 6 of the proof: see the last text.
-/
import Derived.Test.YthlopjpofmcdmaaP5
import Derived.Test.YthlopjpofmcdmaaProg
import Derived.KernelRfl
set_option linter.unusedVariables false
set_option linter.unusedSimpArgs false
set_option linter.unusedSectionVars false
section
namespace Go.Proofs
open Go Go.Abs
set_option maxRecDepth 100000
def W_22 (x:Int):Prop:=wfI .u8 x
theorem R_22:Q9s Try.prog 22 (eI .u8) W_22:=Qbc5 Try.underlying22
def W_5 (x:Int):Prop:=wfI .u8 x
theorem R_5:Q9s Try.prog 5 (eI .u8) W_5:=Qbc5 Try.underlying5
def W_23 (x:Int×Int×Int×Int×Int):Prop:=W_5 x.1∧W_5 x.2.1∧W_5 x.2.2.1∧W_5 x.2.2.2.1∧W_5 x.2.2.2.2
theorem R_23:Q9s Try.prog 23 (fun p:Int×Int×Int×Int×Int=>[.int .u8 p.1,.int .u8 p.2.1,.int .u8 p.2.2.1,.int .u8 p.2.2.2.1,.int .u8 p.2.2.2.2]) W_23:=by
  intro H enc w base spare held fuel cs x h
  obtain ⟨hl,n,hf⟩:=Qbju (sz:=1) Try.underlying23 (by kernel_rfl) h
  obtain ⟨y0,h0⟩:=hf 0 (by decide)
  obtain ⟨a0,w0,r0⟩:=Qe0 (off:=0 * 1) (sz:=1) R_5 (by kernel_rfl) (fun _=>rfl) h0
  obtain ⟨y1,h1⟩:=hf 1 (by decide)
  obtain ⟨a1,w1,r1⟩:=Qe0 (off:=1 * 1) (sz:=1) R_5 (by kernel_rfl) (fun _=>rfl) h1
  obtain ⟨y2,h2⟩:=hf 2 (by decide)
  obtain ⟨a2,w2,r2⟩:=Qe0 (off:=2 * 1) (sz:=1) R_5 (by kernel_rfl) (fun _=>rfl) h2
  obtain ⟨y3,h3⟩:=hf 3 (by decide)
  obtain ⟨a3,w3,r3⟩:=Qe0 (off:=3 * 1) (sz:=1) R_5 (by kernel_rfl) (fun _=>rfl) h3
  obtain ⟨y4,h4⟩:=hf 4 (by decide)
  obtain ⟨a4,w4,r4⟩:=Qe0 (off:=4 * 1) (sz:=1) R_5 (by kernel_rfl) (fun _=>rfl) h4
  exact ⟨(a0,a1,a2,a3,a4),⟨w0,w1,w2,w3,w4⟩,RDat.all (xs:=(fun p:Int×Int×Int×Int×Int=>[.int .u8 p.1,.int .u8 p.2.1,.int .u8 p.2.2.1,.int .u8 p.2.2.2.1,.int .u8 p.2.2.2.2]) (a0,a1,a2,a3,a4)) (RDat.app r0 rfl (RDat.app r1 rfl (RDat.app r2 rfl (RDat.app r3 rfl r4)))) (hl.trans (by kernel_rfl))⟩
def W_24 (x:(Int×Int×Int×Int×Int)×(Int×Int×Int×Int×Int)×(Int×Int×Int×Int×Int)×(Int×Int×Int×Int×Int)×(Int×Int×Int×Int×Int)):Prop:=W_23 x.1∧W_23 x.2.1∧W_23 x.2.2.1∧W_23 x.2.2.2.1∧W_23 x.2.2.2.2
theorem R_24:Q9s Try.prog 24 (fun p:(Int×Int×Int×Int×Int)×(Int×Int×Int×Int×Int)×(Int×Int×Int×Int×Int)×(Int×Int×Int×Int×Int)×(Int×Int×Int×Int×Int)=>[.int .u8 p.1.1,.int .u8 p.1.2.1,.int .u8 p.1.2.2.1,.int .u8 p.1.2.2.2.1,.int .u8 p.1.2.2.2.2,.int .u8 p.2.1.1,.int .u8 p.2.1.2.1,.int .u8 p.2.1.2.2.1,.int .u8 p.2.1.2.2.2.1,.int .u8 p.2.1.2.2.2.2,.int .u8 p.2.2.1.1,.int .u8 p.2.2.1.2.1,.int .u8 p.2.2.1.2.2.1,.int .u8 p.2.2.1.2.2.2.1,.int .u8 p.2.2.1.2.2.2.2,.int .u8 p.2.2.2.1.1,.int .u8 p.2.2.2.1.2.1,.int .u8 p.2.2.2.1.2.2.1,.int .u8 p.2.2.2.1.2.2.2.1,.int .u8 p.2.2.2.1.2.2.2.2,.int .u8 p.2.2.2.2.1,.int .u8 p.2.2.2.2.2.1,.int .u8 p.2.2.2.2.2.2.1,.int .u8 p.2.2.2.2.2.2.2.1,.int .u8 p.2.2.2.2.2.2.2.2]) W_24:=by
  intro H enc w base spare held fuel cs x h
  obtain ⟨hl,n,hf⟩:=Qbju (sz:=5) Try.underlying24 (by kernel_rfl) h
  obtain ⟨y0,h0⟩:=hf 0 (by decide)
  obtain ⟨a0,w0,r0⟩:=Qe0 (off:=0 * 5) (sz:=5) R_23 (by kernel_rfl) (fun _=>rfl) h0
  obtain ⟨y1,h1⟩:=hf 1 (by decide)
  obtain ⟨a1,w1,r1⟩:=Qe0 (off:=1 * 5) (sz:=5) R_23 (by kernel_rfl) (fun _=>rfl) h1
  obtain ⟨y2,h2⟩:=hf 2 (by decide)
  obtain ⟨a2,w2,r2⟩:=Qe0 (off:=2 * 5) (sz:=5) R_23 (by kernel_rfl) (fun _=>rfl) h2
  obtain ⟨y3,h3⟩:=hf 3 (by decide)
  obtain ⟨a3,w3,r3⟩:=Qe0 (off:=3 * 5) (sz:=5) R_23 (by kernel_rfl) (fun _=>rfl) h3
  obtain ⟨y4,h4⟩:=hf 4 (by decide)
  obtain ⟨a4,w4,r4⟩:=Qe0 (off:=4 * 5) (sz:=5) R_23 (by kernel_rfl) (fun _=>rfl) h4
  exact ⟨(a0,a1,a2,a3,a4),⟨w0,w1,w2,w3,w4⟩,RDat.all (xs:=(fun p:(Int×Int×Int×Int×Int)×(Int×Int×Int×Int×Int)×(Int×Int×Int×Int×Int)×(Int×Int×Int×Int×Int)×(Int×Int×Int×Int×Int)=>[.int .u8 p.1.1,.int .u8 p.1.2.1,.int .u8 p.1.2.2.1,.int .u8 p.1.2.2.2.1,.int .u8 p.1.2.2.2.2,.int .u8 p.2.1.1,.int .u8 p.2.1.2.1,.int .u8 p.2.1.2.2.1,.int .u8 p.2.1.2.2.2.1,.int .u8 p.2.1.2.2.2.2,.int .u8 p.2.2.1.1,.int .u8 p.2.2.1.2.1,.int .u8 p.2.2.1.2.2.1,.int .u8 p.2.2.1.2.2.2.1,.int .u8 p.2.2.1.2.2.2.2,.int .u8 p.2.2.2.1.1,.int .u8 p.2.2.2.1.2.1,.int .u8 p.2.2.2.1.2.2.1,.int .u8 p.2.2.2.1.2.2.2.1,.int .u8 p.2.2.2.1.2.2.2.2,.int .u8 p.2.2.2.2.1,.int .u8 p.2.2.2.2.2.1,.int .u8 p.2.2.2.2.2.2.1,.int .u8 p.2.2.2.2.2.2.2.1,.int .u8 p.2.2.2.2.2.2.2.2]) (a0,a1,a2,a3,a4)) (RDat.app r0 rfl (RDat.app r1 rfl (RDat.app r2 rfl (RDat.app r3 rfl r4)))) (hl.trans (by kernel_rfl))⟩
def W_26 (x:Qbh):Prop:=W_5 x.zM∧W_5 x.Marks∧W_24 x.To
theorem R_26:Q9s Try.prog 26 Qnd W_26:=by
  intro H enc w base spare held fuel cs x h
  obtain ⟨hl,n,hf⟩:=Q9b Try.underlying26 h
  obtain ⟨y0,h0⟩:=hf 0 _ rfl
  obtain ⟨a0,w0,r0⟩:=Qe0 (off:=0) (sz:=1) R_5 (by kernel_rfl) (fun _=>rfl) h0
  obtain ⟨y1,h1⟩:=hf 1 _ rfl
  obtain ⟨a1,w1,r1⟩:=Qe0 (off:=1) (sz:=1) R_5 (by kernel_rfl) (fun _=>rfl) h1
  obtain ⟨y2,h2⟩:=hf 2 _ rfl
  obtain ⟨a2,w2,r2⟩:=Qe0 (off:=2) (sz:=25) R_24 (by kernel_rfl) (fun _=>rfl) h2
  exact ⟨⟨a0,a1,a2⟩,⟨w0,w1,w2⟩,RDat.all (xs:=Qnd ⟨a0,a1,a2⟩) (RDat.app r0 rfl (RDat.app r1 rfl r2)) (hl.trans (by kernel_rfl))⟩
def W_28 (x:Qem):Prop:=W_22 x.Events∧W_26 x.Graph
theorem R_28:Q9s Try.prog 28 Qqg W_28:=by
  intro H enc w base spare held fuel cs x h
  obtain ⟨hl,n,hf⟩:=Q9b Try.underlying28 h
  obtain ⟨y0,h0⟩:=hf 0 _ rfl
  obtain ⟨a0,w0,r0⟩:=Qe0 (off:=0) (sz:=1) R_22 (by kernel_rfl) (fun _=>rfl) h0
  obtain ⟨y1,h1⟩:=hf 1 _ rfl
  obtain ⟨a1,w1,r1⟩:=Qe0 (off:=1) (sz:=27) R_26 (by kernel_rfl) (fun _=>rfl) h1
  exact ⟨⟨a0,a1⟩,⟨w0,w1⟩,RDat.all (xs:=Qqg ⟨a0,a1⟩) (RDat.app r0 rfl r1) (hl.trans (by kernel_rfl))⟩
def W_30 (x:Q2):Prop:=W_28 x.Part∧W_5 x.zC∧W_22 x.zB∧W_22 x.zD
theorem R_30:Q9s Try.prog 30 Qmi W_30:=by
  intro H enc w base spare held fuel cs x h
  obtain ⟨hl,n,hf⟩:=Q9b Try.underlying30 h
  obtain ⟨y0,h0⟩:=hf 0 _ rfl
  obtain ⟨a0,w0,r0⟩:=Qe0 (off:=0) (sz:=28) R_28 (by kernel_rfl) (fun _=>rfl) h0
  obtain ⟨y1,h1⟩:=hf 1 _ rfl
  obtain ⟨a1,w1,r1⟩:=Qe0 (off:=28) (sz:=1) R_5 (by kernel_rfl) (fun _=>rfl) h1
  obtain ⟨y2,h2⟩:=hf 2 _ rfl
  obtain ⟨a2,w2,r2⟩:=Qe0 (off:=29) (sz:=1) R_22 (by kernel_rfl) (fun _=>rfl) h2
  obtain ⟨y3,h3⟩:=hf 3 _ rfl
  obtain ⟨a3,w3,r3⟩:=Qe0 (off:=30) (sz:=1) R_22 (by kernel_rfl) (fun _=>rfl) h3
  exact ⟨⟨a0,a1,a2,a3⟩,⟨w0,w1,w2,w3⟩,RDat.all (xs:=Qmi ⟨a0,a1,a2,a3⟩) (RDat.app r0 rfl (RDat.app r1 rfl (RDat.app r2 rfl r3))) (hl.trans (by kernel_rfl))⟩
theorem A_30:Qbbt Try.prog 30 (fun (a:Q2)=>.agg [.d (.int .u8 a.Part.Events),.d (.int .u8 a.Part.Graph.zM),.d (.int .u8 a.Part.Graph.Marks),.d (.int .u8 a.Part.Graph.To.1.1),.d (.int .u8 a.Part.Graph.To.1.2.1),.d (.int .u8 a.Part.Graph.To.1.2.2.1),.d (.int .u8 a.Part.Graph.To.1.2.2.2.1),.d (.int .u8 a.Part.Graph.To.1.2.2.2.2),.d (.int .u8 a.Part.Graph.To.2.1.1),.d (.int .u8 a.Part.Graph.To.2.1.2.1),.d (.int .u8 a.Part.Graph.To.2.1.2.2.1),.d (.int .u8 a.Part.Graph.To.2.1.2.2.2.1),.d (.int .u8 a.Part.Graph.To.2.1.2.2.2.2),.d (.int .u8 a.Part.Graph.To.2.2.1.1),.d (.int .u8 a.Part.Graph.To.2.2.1.2.1),.d (.int .u8 a.Part.Graph.To.2.2.1.2.2.1),.d (.int .u8 a.Part.Graph.To.2.2.1.2.2.2.1),.d (.int .u8 a.Part.Graph.To.2.2.1.2.2.2.2),.d (.int .u8 a.Part.Graph.To.2.2.2.1.1),.d (.int .u8 a.Part.Graph.To.2.2.2.1.2.1),.d (.int .u8 a.Part.Graph.To.2.2.2.1.2.2.1),.d (.int .u8 a.Part.Graph.To.2.2.2.1.2.2.2.1),.d (.int .u8 a.Part.Graph.To.2.2.2.1.2.2.2.2),.d (.int .u8 a.Part.Graph.To.2.2.2.2.1),.d (.int .u8 a.Part.Graph.To.2.2.2.2.2.1),.d (.int .u8 a.Part.Graph.To.2.2.2.2.2.2.1),.d (.int .u8 a.Part.Graph.To.2.2.2.2.2.2.2.1),.d (.int .u8 a.Part.Graph.To.2.2.2.2.2.2.2.2),.d (.int .u8 a.zC),.d (.int .u8 a.zB),.d (.int .u8 a.zD)]) W_30:=Qbkt R_30 (.inl ⟨_,Try.underlying30⟩)
end Go.Proofs
end
section
namespace Go.Abs
open Go
theorem Qit {X R:Type} {F:(X→Option R)→X→Option R} (I:X→Prop) (m:X→Nat) (Q:X→Option R→Prop)
  (step:∀ (k:X→Option R) (x:X),I x→(∀ y,I y→m y < m x→Q y (k y))→Q x (F k x)):∀ (fuel:Nat) (x:X),I x→m x < fuel→Q x (Qcm F fuel x)
 | 0,x,_,h=>absurd h (Nat.not_lt_zero _)
 | fuel + 1,x,hi,h=>step _ x hi fun y hy hm=>Qit I m Q step fuel y hy (by omega)
theorem Q6b {X R:Type} {F:(X→Option R)→X→Option R} {fuel:Nat} {x:X} (I:X→Prop) (m:X→Nat) (q:Option R) (hi:I x) (hm:m x < fuel)
  (step:∀ (k:X→Option R) (x:X),I x→(∀ y,I y→m y < m x→k y = q)→F k x = q):Qcm F fuel x = q :=
 Qit I m (fun _ r=>r = q) step fuel x hi hm
theorem Qqe {x:Int} (h1 : -9223372036854775808≤x) (h2:x≤9223372036854775807):IntKind.wrap .i64 x = x:=by
 simp [IntKind.wrap,IntKind.bits,IntKind.signed]; omega
theorem Qce {n:Nat} (h:n < 9223372036854775807):IntKind.wrap .i64 ((n:Int) + 1) = ((n + 1:Nat):Int):=by
 rw [Qqe (by omega) (by omega)]; omega
theorem Qcc {α:Type} {l:List α} {n:Nat} (h:n < l.length):getO l (n:Int) = some l[n]:=by
 simp [getO,h]
theorem Qbc6 {α:Type} {l:List α} {i:Int} {x:α}:getO l i = some x↔0≤i∧l[i.toNat]? = some x:=by
 unfold getO; split
 ·rename_i h; simp [h]
 ·rename_i h; simp only [reduceCtorEq,false_iff,not_and]; exact fun h'=>absurd h' h
theorem Qdg {α:Type} {l m:List α} (h:l.length + m.length≤lim):appO l m = some (l ++ m):=by
 unfold appO; rw [if_pos h]
theorem Qbc7 {α:Type} {s t:List α} {k:Nat} (hs:k < s.length) (ht:k < t.length) (h:s.take k = t.take k) (he:s[k] = t[k]):s.take (k + 1) = t.take (k + 1):=by
 rw [List.take_add_one,List.take_add_one,h,List.getElem?_eq_getElem hs,List.getElem?_eq_getElem ht,he]
theorem Qtd {R:Type} {F:(Int→Option R)→Int→Option R} {len fuel:Nat} (G:Nat→Option R) (hf:len < fuel)
  (step:∀ (k:Int→Option R) (n:Nat),n < len→k ((n + 1:Nat):Int) = G (n + 1)→F k (n:Int) = G n) (last:∀ k:Int→Option R,F k (len:Int) = G len):Qcm F fuel 0 = G 0:=by
 have:=Qit (F:=F) (fun x=>∃ n:Nat,x = (n:Int)∧n≤len) (fun x=>len - x.toNat) (fun x r=>∀ n:Nat,x = (n:Int)→r = G n) (fun k x hx ih=>by
  obtain ⟨n,rfl,hn⟩:=hx
  intro m hm
  obtain rfl:n = m:=by omega
  by_cases h:n < len
  ·exact step k n h (ih _ ⟨n + 1,rfl,by omega⟩ (by omega) (n + 1) rfl)
  ·obtain rfl:n = len:=by omega
   exact last k) fuel 0 ⟨0,rfl,by omega⟩ (by simpa using hf)
 exact this 0 rfl
theorem Q9d {n:Nat} (h0:0 < n) (h:n < 9223372036854775807):IntKind.wrap .i64 ((n:Int) - 1) = ((n - 1:Nat):Int):=by
 rw [Qqe (by omega) (by omega)]; omega
theorem Qbiw {X S R:Type} {F:(X→Option R)→X→Option R} {len:Nat} (mk:Nat→S→X) (G:Nat→S→Option R)
  (step:∀ (k:X→Option R) (n:Nat) (s:S),n < len→(∀ s',k (mk (n + 1) s') = G (n + 1) s')→F k (mk n s) = G n s) (last:∀ (k:X→Option R) (s:S),F k (mk len s) = G len s) :
  ∀ (fuel n:Nat) (s:S),n≤len→len - n < fuel→Qcm F fuel (mk n s) = G n s
 | 0,n,s,_,h=>by omega
 | fuel + 1,n,s,hn,h=>by
  show F (Qcm F fuel) (mk n s) = _
  by_cases hlt:n < len
  ·exact step _ n s hlt fun s'=>Qbiw mk G step last fuel (n + 1) s' (by omega) (by omega)
  ·obtain rfl:n = len:=by omega
   exact last _ s
theorem Qbln {i j:Nat} (hi:i < 1000000000000) (hj:j < 1000000000000):IntKind.wrap .i64 (Int.fdiv (IntKind.wrap .u64 (IntKind.wrap .i64 ((i:Int) + j))) (2 ^ (min (Int.toNat 1) (IntKind.bits .u64)))) = (((i + j) / 2:Nat):Int):=by
 have h1:IntKind.wrap .i64 ((i:Int) + j) = ((i + j:Nat):Int):=by rw [Qqe (by omega) (by omega)]; omega
 have h2:IntKind.wrap .u64 ((i + j:Nat):Int) = ((i + j:Nat):Int):=by
  simp [IntKind.wrap,IntKind.bits,IntKind.signed]; omega
 have h3:(2:Int) ^ (min (Int.toNat 1) (IntKind.bits .u64)) = 2:=by decide
 rw [h1,h2,h3,Int.fdiv_eq_ediv_of_nonneg _ (by omega),show ((i + j:Nat):Int) / 2 = (((i + j) / 2:Nat):Int) from by omega,Qqe (by omega) (by omega)]
theorem Qbix {α:Type} {l:List α} {i j:Nat} (h:i≤j) (hj:j≤l.length):slcO l (i:Int) (j:Int) = some ((l.take j).drop i):=by
 simp [slcO,h,hj]
theorem Qbfz:∀ {l m:List Int},l.Pairwise (· < ·)→m.Pairwise (· < ·)→(∀ x,x∈l↔x∈m)→l = m
 | l,m,h1,h2,h=>by
  have n1:l.Nodup:=h1.imp fun h=>by omega
  have n2:m.Nodup:=h2.imp fun h=>by omega
  have hp:l.Perm m:=(List.perm_ext_iff_of_nodup n1 n2).2 h
  exact List.Perm.eq_of_pairwise (le:=(· < ·)) (fun a b _ _ h1 h2=>by omega) h1 h2 hp
section
variable {α:Type} {p:α→Bool}
theorem Qbam:∀ {l:List α},l.Pairwise (fun a b=>p b = true→p a = true)→∀ (n:Nat) (h:n < l.length),p l[n] = true↔n < (l.filter p).length
 | [],_,n,h=>by simp at h
 | x :: xs,hs,n,h=>by
  obtain ⟨h1,h2⟩:=List.pairwise_cons.1 hs
  cases n with
  | zero =>
   cases hx:p x with
   | true=>simp [hx]
   | false =>
    have:xs.filter p = []:=List.filter_eq_nil_iff.2 fun y hy hp=>by have:=h1 y hy hp; rw [hx] at this; cases this
    simp [hx,this]
  | succ n =>
   have ih:=Qbam h2 n (by simpa using h)
   cases hx:p x with
   | true=>simp [hx,ih]
   | false =>
    have:xs.filter p = []:=List.filter_eq_nil_iff.2 fun y hy hp=>by have:=h1 y hy hp; rw [hx] at this; cases this
    rw [this] at ih
    simp [hx,this] at ih ⊢
    exact ih
end
theorem Ql8 {X S R:Type} {F:(X→Option R)→X→Option R} {len:Nat} (mk:Nat→S→X) (I:Nat→S→Prop) (G:Nat→S→Option R)
  (step:∀ (k:X→Option R) (n:Nat) (s:S),n < len→I n s→(∀ s',I (n + 1) s' → k (mk (n + 1) s') = G (n + 1) s')→F k (mk n s) = G n s) (last:∀ (k:X→Option R) (s:S),I len s→F k (mk len s) = G len s) :
  ∀ (fuel n:Nat) (s:S),n≤len→len - n < fuel→I n s→Qcm F fuel (mk n s) = G n s
 | 0,n,s,_,h,_=>by omega
 | fuel + 1,n,s,hn,h,hi=>by
  show F (Qcm F fuel) (mk n s) = _
  by_cases hlt:n < len
  ·exact step _ n s hlt hi fun s' hi'=>Ql8 mk I G step last fuel (n + 1) s' (by omega) (by omega) hi'
  ·obtain rfl:n = len:=by omega
   exact last _ s hi
theorem Qiu:∀ {l:List Int} {a b:Int},l.Pairwise (· < ·)→(∀ x∈l,a≤x∧x < b)→l.length≤(b - a).toNat
 | [],_,_,_,_=>by simp
 | x :: xs,a,b,h,hr=>by
  obtain ⟨h1,h2⟩:=List.pairwise_cons.1 h
  have:=Qiu (a:=x + 1) (b:=b) h2 fun y hy=>⟨by have:=h1 y hy; omega,(hr y (by simp [hy])).2⟩
  have:=hr x (by simp)
  simp only [List.length_cons]
  omega
end Go.Abs
end
section
namespace Go.Abs
abbrev big : Nat := 1000000000000
def small (a : Qe) : Prop := a.zJ.length < big ∧ a.zK.length < big ∧ a.zL.length < big
end Go.Abs
end
section
namespace Go.Abs
open Go
def Qda (n:Int):Option Int→List Int→Int
 | _,[]=>0
 | p,x :: xs=>if x < 0∨x≥n then 2 else if ∃ y,p = some y∧x≤y then 5 else Qda n (some x) xs
def Qjd (al:List Int) (st:Int):Option Qc→List Qc→Int
 | _,[]=>0
 | p,x :: xs=>if x.From < 0∨x.From≥st∨x.To < 0∨x.To≥st then 2 else if x.Event∉al then 9 else if ∃ y,p = some y∧(x.From < y.From∨x.From = y.From∧x.Event≤y.Event) then 5 else Qjd al st (some x) xs
def Qtv (a:Qe):Int :=
 if Qda 32 none a.zJ≠0 then Qda 32 none a.zJ else if a.zM < 0 then 2 else if a.zM > 4096 then 3 else
 if Qda a.zM none a.zK≠0 then Qda a.zM none a.zK else Qjd a.zJ a.zM none a.zL
def ahead {α:Type} (l:List α) (n:Nat):Option α:=if n = 0 then none else l[n - 1]?
theorem Qry {α:Type} (l:List α):ahead l 0 = none:=rfl
theorem Qban {α:Type} (l:List α) {n:Nat} (h:n < l.length):ahead l (n + 1) = some l[n]:=by simp [ahead,h]
theorem Q9e {α:Type} (l:List α) {n:Nat} (h0:0 < n) (h:n≤l.length):ahead l n = some (l[n - 1]'(by omega)):=by
 simp [ahead,show n≠0 from by omega,show n - 1 < l.length from by omega]
theorem Q7l {n:Int} {l:List Int} {k:Nat} (h:k < l.length):Qda n (ahead l k) (l.drop k) = if l[k] < 0∨l[k]≥n then 2 else if ∃ y,ahead l k = some y∧l[k]≤y then 5 else Qda n (ahead l (k + 1)) (l.drop (k + 1)):=by
 rw [List.drop_eq_getElem_cons h,Qda,Qban l h]
theorem Qbbu {al:List Int} {n:Int} {l:List Qc} {k:Nat} (h:k < l.length):Qjd al n (ahead l k) (l.drop k) = if l[k].From < 0∨l[k].From≥n∨l[k].To < 0∨l[k].To≥n then 2 else if l[k].Event∉al then 9 else if ∃ y,ahead l k = some y∧(l[k].From < y.From∨l[k].From = y.From∧l[k].Event≤y.Event) then 5 else Qjd al n (ahead l (k + 1)) (l.drop (k + 1)):=by
 rw [List.drop_eq_getElem_cons h,Qjd,Qban l h]
theorem Q9f {l:List Int} {n:Int} (hl:l.length < big):Qf7 l n = some (Qda n none l):=by
 unfold Qf7 Qb3
 refine (Qtd (len:=l.length) (fun k=>some (Qda n (ahead l k) (l.drop k))) (by unfold Qb4; unfold big at hl; omega) ?_ ?_).trans (by simp [Qry])
 ·intro k i hi ih
  have hb:i < 1000000000000:=by unfold big at hl; omega
  rw [Q7l hi]
  try dsimp only
  rw [if_pos (by omega),Qcc hi,Qce (by omega),ih]
  simp only [Option.bind_some]
  by_cases h1:l[i] < 0
  ·simp [h1]
  ·by_cases h2:l[i]≥n
   ·simp [h1,h2]
   ·by_cases h0:0 < i
    ·rw [Q9d h0 (by omega),Qcc (by omega:i - 1 < l.length),Q9e l h0 (by omega)]
     by_cases h3:l[i]≤l[i - 1] <;> simp [h1,h2,h3,h0]
    ·obtain rfl:i = 0:=by omega
     simp [h1,h2,Qry]
 ·intro k; simp [Qda]
theorem Qbiy {l:List Int} {v:Int} (hl:l.length < big):Qht l v = some (if v∈l then (l.idxOf v:Int) else -1):=by
 unfold Qht Qct
 refine (Qtd (len:=l.length) (fun k=>some (if v∈l.drop k then ((k + (l.drop k).idxOf v:Nat):Int) else -1)) (by unfold Qb4; unfold big at hl; omega) ?_ ?_).trans (by simp)
 ·intro k i hi ih
  have hb:i < 1000000000000:=by unfold big at hl; omega
  try dsimp only
  rw [if_pos (by omega),Qcc hi,Qce (by omega),ih,List.drop_eq_getElem_cons hi]
  simp only [Option.bind_some,List.mem_cons,List.idxOf_cons]
  by_cases h:v = l[i]
  ·simp [← h]
  ·have:¬ l[i] = v:=fun e=>h e.symm
   have hbq:(l[i] == v) = false:=by simp [this]
   by_cases h2:v∈l.drop (i + 1) <;> simp [h,h2,hbq]
   omega
 ·intro k; simp
theorem Qbea {l:List Int} {v:Int} (hl:l.length < big):Qfs l v = some (decide (v∈l)):=by
 unfold Qfs Qb6
 rw [Qbiy hl]
 simp only [Option.bind_some,Option.some.injEq]
 by_cases h:v∈l <;> simp [h]
theorem Qbjv {l:List Int} {v:Int} (hl:l.length < big):Qc2 l v = some (decide (v∈l)):=by
 unfold Qc2 Qbk
 refine (Qtd (len:=l.length) (fun k=>some (decide (v∈l.drop k))) (by unfold Qb4; unfold big at hl; omega) ?_ ?_).trans (by simp)
 ·intro k i hi ih
  have hb:i < 1000000000000:=by unfold big at hl; omega
  try dsimp only
  rw [if_pos (by omega),Qcc hi,Qce (by omega),ih,List.drop_eq_getElem_cons hi]
  simp only [Option.bind_some,List.mem_cons]
  by_cases h:l[i] = v
  ·simp [h]
  ·have:¬ v = l[i]:=fun e=>h e.symm
   simp [h,this]
 ·intro k; simp
theorem Qbbv {a:Qe} (h:small a):Qfi a = some (Qjd a.zJ a.zM none a.zL):=by
 obtain ⟨hal,_,hl⟩:=h
 unfold Qfi Qb1
 refine (Qtd (len:=a.zL.length) (fun k=>some (Qjd a.zJ a.zM (ahead a.zL k) (a.zL.drop k))) (by unfold Qb4; unfold big at hl; omega) ?_ ?_).trans (by simp [Qry])
 ·intro k i hi ih
  have hb:i < 1000000000000:=by unfold big at hl; omega
  rw [Qbbu hi]
  unfold letJ
  try dsimp only
  rw [if_pos (by omega),Qcc hi,Qce (by omega),ih]
  simp only [Option.bind_some,Qbea hal]
  generalize a.zL[i] = x
  by_cases h1:x.From < 0
  ·simp [h1]
  by_cases h2:x.From≥a.zM
  ·simp [h1,h2]
  by_cases h3:x.To < 0
  ·simp [h1,h2,h3]
  by_cases h4:x.To≥a.zM
  ·simp [h1,h2,h3,h4]
  by_cases h5:x.Event∈a.zJ
  ·by_cases h0:0 < i
   ·rw [Q9d h0 (by omega),Qcc (by omega:i - 1 < a.zL.length),Q9e a.zL h0 (by omega)]
    generalize a.zL[i - 1] = y
    have hi0:i≠0:=by omega
    by_cases h6:x.From < y.From
    ·simp [h1,h2,h3,h4,h5,h6,hi0]
    by_cases h7:y.From = x.From
    ·by_cases h8:x.Event≤y.Event <;> simp [h1,h2,h3,h4,h5,h6,h7,h8,hi0]
    ·have h7' : ¬ x.From = y.From:=fun e=>h7 e.symm
     simp [h1,h2,h3,h4,h5,h6,h7,hi0,h7']
   ·obtain rfl:i = 0:=by omega
    simp [h1,h2,h3,h4,h5,Qry]
  ·simp [h1,h2,h3,h4,h5]
 ·intro k; unfold letJ; simp [Qjd]
theorem Qbiz {a:Qe} (h:small a):Qir a = some (Qtv a):=by
 unfold Qir Qc5 Qtv
 rw [Q9f h.1,Q9f h.2.1,Qbbv h]
 simp only [Option.bind_some]
 by_cases h1:Qda 32 none a.zJ = 0
 ·by_cases h2:a.zM < 0
  ·simp [h1,h2]
  by_cases h3:a.zM > 4096
  ·simp [h1,h2,h3]
  by_cases h4:Qda a.zM none a.zK = 0 <;> simp [h1,h2,h3,h4]
 ·simp [h1]
end Go.Abs
end
section
namespace Go.Abs
open Go
def Qte (x y:Qc):Prop:=x.From < y.From∨x.From = y.From∧x.Event < y.Event
instance (x y:Qc):Decidable (Qte x y):=by unfold Qte; infer_instance
structure Right (a:Qe):Prop where
 al0:∀ x∈a.zJ,0≤x∧x < 32
 al:a.zJ.Pairwise (· < ·)
 st:0≤a.zM∧a.zM≤4096
 ma0:∀ x∈a.zK,0≤x∧x < a.zM
 ma:a.zK.Pairwise (· < ·)
 ed0:∀ x∈a.zL,0≤x.From∧x.From < a.zM∧0≤x.To∧x.To < a.zM∧x.Event∈a.zJ
 ed:a.zL.Pairwise Qte
theorem Qgj {n:Int}:∀ {l:List Int} {p:Option Int},Qda n p l = 0↔(∀ x∈l,0≤x∧x < n)∧l.Pairwise (· < ·)∧∀ y,p = some y→∀ x∈l,y < x
 | [],p=>by simp [Qda]
 | x :: xs,p=>by
  rw [Qda]
  split
  ·rename_i h
   refine ⟨fun h=>by omega,fun hh=>?_⟩
   have:=hh.1 x (by simp); omega
  ·rename_i h
   split
   ·rename_i h2
    obtain ⟨y,hy,hxy⟩:=h2
    refine ⟨fun h=>by omega,fun hh=>?_⟩
    have:=hh.2.2 y hy x (by simp); omega
   ·rename_i h2
    rw [Qgj]
    constructor
    ·rintro ⟨k1,k2,k3⟩
     refine ⟨fun z hz=>?_,List.pairwise_cons.2 ⟨fun z hz=>k3 x rfl z hz,k2⟩,fun y hy z hz=>?_⟩
     ·rcases List.mem_cons.1 hz with rfl | hz
      ·omega
      ·exact k1 z hz
     ·have hyx:y < x:=by
       rcases Int.lt_or_le y x with h | h
       ·exact h
       ·exact absurd ⟨y,hy,h⟩ h2
      rcases List.mem_cons.1 hz with rfl | hz
      ·exact hyx
      ·have:=k3 x rfl z hz; omega
    ·rintro ⟨k1,k2,k3⟩
     obtain ⟨k4,k5⟩:=List.pairwise_cons.1 k2
     exact ⟨fun z hz=>k1 z (by simp [hz]),k5,fun y hy z hz=>by cases hy; exact k4 z hz⟩
theorem Qy7 {al:List Int} {n:Int}:∀ {l:List Qc} {p:Option Qc},Qjd al n p l = 0↔(∀ x∈l,0≤x.From∧x.From < n∧0≤x.To∧x.To < n∧x.Event∈al)∧l.Pairwise Qte∧∀ y,p = some y→∀ x∈l,Qte y x
 | [],p=>by simp [Qjd]
 | x :: xs,p=>by
  have tr:∀ a b c:Qc,Qte a b→Qte b c→Qte a c:=fun a b c h k=>by unfold Qte at *; omega
  rw [Qjd]
  split
  ·rename_i h
   refine ⟨fun h=>by omega,fun hh=>?_⟩
   have:=hh.1 x (by simp); omega
  ·rename_i h
   split
   ·rename_i h2
    refine ⟨fun h=>by omega,fun hh=>?_⟩
    exact absurd (hh.1 x (by simp)).2.2.2.2 h2
   ·rename_i hal
    split
    ·rename_i h2
     obtain ⟨y,hy,hxy⟩:=h2
     refine ⟨fun h=>by omega,fun hh=>?_⟩
     have:=hh.2.2 y hy x (by simp)
     unfold Qte at this; omega
    ·rename_i h2
     rw [Qy7]
     constructor
     ·rintro ⟨k1,k2,k3⟩
      refine ⟨fun z hz=>?_,List.pairwise_cons.2 ⟨fun z hz=>k3 x rfl z hz,k2⟩,fun y hy z hz=>?_⟩
      ·rcases List.mem_cons.1 hz with rfl | hz
       ·exact ⟨by omega,by omega,by omega,by omega,Decidable.not_not.1 hal⟩
       ·exact k1 z hz
      ·have hyx:Qte y x:=by
        apply Decidable.byContradiction
        intro h
        exact h2 ⟨y,hy,by unfold Qte at h; omega⟩
       rcases List.mem_cons.1 hz with rfl | hz
       ·exact hyx
       ·exact tr _ _ _ hyx (k3 x rfl z hz)
     ·rintro ⟨k1,k2,k3⟩
      obtain ⟨k4,k5⟩:=List.pairwise_cons.1 k2
      exact ⟨fun z hz=>k1 z (by simp [hz]),k5,fun y hy z hz=>by cases hy; exact k4 z hz⟩
theorem Qbc8 {a:Qe}:Qtv a = 0↔Right a:=by
 unfold Qtv
 constructor
 ·intro h
  split at h
  ·rename_i h1; exact absurd h h1
  rename_i h1
  split at h
  ·omega
  split at h
  ·omega
  split at h
  ·rename_i h4; exact absurd h h4
  rename_i h4
  have q1:=Qgj.1 (Decidable.not_not.1 h1)
  have q2:=Qgj.1 (Decidable.not_not.1 h4)
  have q3:=Qy7.1 h
  exact ⟨q1.1,q1.2.1,⟨by omega,by omega⟩,q2.1,q2.2.1,q3.1,q3.2.1⟩
 ·intro h
  have q1:Qda 32 none a.zJ = 0:=Qgj.2 ⟨h.al0,h.al,fun y hy=>by cases hy⟩
  have q2:Qda a.zM none a.zK = 0:=Qgj.2 ⟨h.ma0,h.ma,fun y hy=>by cases hy⟩
  have q3:Qjd a.zJ a.zM none a.zL = 0:=Qy7.2 ⟨h.ed0,h.ed,fun y hy=>by cases hy⟩
  have:=h.st
  rw [if_neg (by simp [q1]),if_neg (by omega),if_neg (by omega),if_neg (by simp [q2]),q3]
def outP (a:Qe) (s:Int):List Qc:=a.zL.filter fun x=>x.From == s
def Ql9 (a:Qe) (s e:Int):Int:=match a.zL.find? fun x=>x.From == s && x.Event == e with
 | some x=>x.To
 | none=>-1
section
variable {a:Qe} (h:Right a) (hs:small a)
include h hs
omit h in
theorem Qbao {s e:Int}:Qcj a s e = some (Ql9 a s e):=by
 have hb:a.zL.length < 1000000000000:=hs.2.2
 unfold Qcj Qbc
 refine (Qtd (len:=a.zL.length) (fun k=>some (match (a.zL.drop k).find? (fun x=>x.From == s && x.Event == e) with | some x=>x.To | none=>-1)) (by unfold Qb4; omega) ?_ ?_).trans (by simp [Ql9])
 ·intro k i hi ih
  rw [if_pos (by omega),Qcc hi,Qce (by omega),ih,List.drop_eq_getElem_cons hi]
  simp only [Option.bind_some,List.find?_cons]
  cases h1:a.zL[i].From == s <;> cases h2:a.zL[i].Event == e <;> simp [h1,h2]
 ·intro k; simp
end
theorem Qbeb {a:Qe} (h:Right a) (s e:Int):Ql9 a s e = -1∨0≤Ql9 a s e∧Ql9 a s e < a.zM∧0≤s∧s < a.zM∧e∈a.zJ:=by
 unfold Ql9
 split
 ·rename_i x hx
  have hm:=List.mem_of_find?_eq_some hx
  have hp:=List.find?_some hx
  obtain ⟨k1,k2,k3,k4,k5⟩:=h.ed0 x hm
  simp at hp
  exact .inr ⟨k3,k4,by omega,by omega,hp.2 ▸ k5⟩
 ·exact .inl rfl
theorem Qbc9 {a:Qe} (h:Right a) {s e:Int}:0≤Ql9 a s e↔∃ x∈outP a s,x.Event = e:=by
 unfold Ql9 outP
 split
 ·rename_i x hx
  have hm:=List.mem_of_find?_eq_some hx
  have hp:=List.find?_some hx
  simp at hp
  refine ⟨fun _=>⟨x,by simp [hm,hp.1],hp.2⟩,fun _=>(h.ed0 x hm).2.2.1⟩
 ·rename_i hx
  have:=List.find?_eq_none.1 hx
  refine ⟨fun h=>by omega,?_⟩
  rintro ⟨x,h1,h2⟩
  simp at h1
  exact absurd (by simp [h1.2,h2]) (this x h1.1)
theorem Q45 {a:Qe} (h:Right a) (s:Int):(outP a s).map (·.Event) = a.zJ.filter fun e=>decide (0≤Ql9 a s e):=by
 refine Qbfz ?_ (h.al.filter _) fun e=>?_
 ·rw [List.pairwise_map]
  have h1:(outP a s).Pairwise Qte:=h.ed.filter _
  have h2:∀ x∈outP a s,x.From = s:=fun x hx=>by unfold outP at hx; simp at hx; exact hx.2
  exact List.Pairwise.imp_of_mem (fun {x y} hx hy hk=>by have:=h2 x hx; have:=h2 y hy; unfold Qte at hk; omega) h1
 ·simp only [List.mem_map,List.mem_filter,decide_eq_true_eq,Qbc9 h]
  constructor
  ·rintro ⟨x,hx,rfl⟩
   refine ⟨?_,x,hx,rfl⟩
   unfold outP at hx; simp at hx; exact (h.ed0 x hx.1).2.2.2.2
  ·rintro ⟨_,x,hx,rfl⟩; exact ⟨x,hx,rfl⟩
theorem Qbda {a:Qe} (h:Right a) {s:Int} {x:Qc} (hx:x∈outP a s):Ql9 a s x.Event = x.To:=by
 unfold outP at hx
 simp at hx
 unfold Ql9
 split
 ·rename_i y hy
  have hm:=List.mem_of_find?_eq_some hy
  have hp:=List.find?_some hy
  simp at hp
  have:x = y:=by
   rcases Classical.em (x = y) with e | hne
   ·exact e
   ·exfalso
    have hk:Qte x y∨Qte y x:=by
     have:=List.pairwise_iff_getElem.1 h.ed
     obtain ⟨i,hi,rfl⟩:=List.getElem_of_mem hx.1
     obtain ⟨j,hj,rfl⟩:=List.getElem_of_mem hm
     rcases Nat.lt_trichotomy i j with hij | hij | hij
     ·exact .inl (this i j hi hj hij)
     ·subst hij; exact absurd rfl hne
     ·exact .inr (this j i hj hi hij)
    unfold Qte at hk; omega
  rw [this]
 ·rename_i hn
  exact absurd (by simp [hx.2]) (List.find?_eq_none.1 hn x hx.1)
end Go.Abs
end
section
namespace Go.Abs
open Go
theorem Right.small {a:Qe} (h:Right a):small a∧a.zJ.length≤32∧a.zK.length≤4096∧a.zL.length≤131072:=by
 have h1:=Qiu h.al h.al0
 have h2:=Qiu h.ma h.ma0
 have h3:(a.zL.map fun x=>x.From * 32 + x.Event).Pairwise (· < ·):=by
  rw [List.pairwise_map]
  refine List.Pairwise.imp_of_mem (fun {x y} hx hy hk=>?_) h.ed
  have:=h.al0 _ (h.ed0 x hx).2.2.2.2
  have:=h.al0 _ (h.ed0 y hy).2.2.2.2
  unfold Qte at hk; omega
 have h4:=Qiu (a:=0) (b:=131072) h3 (by
  intro z hz
  obtain ⟨x,hx,rfl⟩:=List.mem_map.1 hz
  have:=h.al0 _ (h.ed0 x hx).2.2.2.2
  have:=h.ed0 x hx
  have:=h.st
  omega)
 rw [List.length_map] at h4
 have:=h.st
 refine ⟨⟨?_,?_,?_⟩,?_,?_,?_⟩ <;> (try unfold big) <;> omega
theorem Qbdb {α β:Type} {l:List α} {f:α→Option β} {fuel:Nat} (hl:l.length < big) (hf:l.length < fuel) {F:(List β×Int→Option (List β))→List β×Int→Option (List β)}
  (hF:∀ (k:List β×Int→Option (List β)) (acc:List β) (n:Nat) (h:n < l.length),acc.length≤n→F k (acc,(n:Int)) = k (acc ++ (f l[n]).toList,IntKind.wrap .i64 ((n:Int) + 1)))
  (hlast:∀ (k:List β×Int→Option (List β)) (acc:List β),F k (acc,(l.length:Int)) = some acc):Qcm F fuel ([],0) = some (l.filterMap f):=by
 have hb:l.length < 1000000000000:=hl
 refine (Ql8 (len:=l.length) (fun n (acc:List β)=>(acc,(n:Int))) (fun n acc=>acc.length≤n) (fun n acc=>some (acc ++ (l.drop n).filterMap f)) ?_ ?_ fuel 0 [] (Nat.zero_le _) (by omega) (Nat.le_refl _)).trans (by simp)
 ·intro k n acc hn hi ih
  have hlen:(f l[n]).toList.length≤1:=by cases f l[n] <;> simp
  rw [hF k acc n hn hi,Qce (by omega),ih _ (by simp only [List.length_append]; omega),List.drop_eq_getElem_cons hn]
  rw [List.filterMap_cons]
  cases f l[n] <;> simp only [Option.toList_none,Option.toList_some,List.append_nil,List.append_assoc,List.cons_append,List.nil_append]
 ·intro k acc _; rw [hlast]; simp
end Go.Abs
end
section
namespace Go.Abs
open Go
def ins (o:List Int) (t:Int):List Int:=if t∈o then o else o ++ [t]
def Q7t (a:Qe) (s:Int):List Int:=(outP a s).map (·.To)
def bfs (a:Qe):Nat→Nat→List Int→List Int
 | 0,_,o=>o
 | fuel + 1,i,o=>match o[i]? with
  | some s=>bfs a fuel (i + 1) ((Q7t a s).foldl ins o)
  | none=>o
def Qtw (a:Qe):List Int:=bfs a (a.zM.toNat + 1) 0 (if 0 < a.zM then [0] else [])
structure Fnd (a:Qe) (o:List Int):Prop where
 nd:o.Nodup
 rg:∀ s∈o,0≤s∧s < a.zM
theorem Fnd.len {a:Qe} {o:List Int} (h:Fnd a o):o.length≤a.zM.toNat:=by
 have hO:Go.Sort.SWO Qi8:=⟨fun x=>by simp [Qi8],fun x y z h1 h2=>by simp [Qi8] at *; omega,fun x y z h1 h2=>by simp [Qi8] at *; omega⟩
 have hp:=Qy1 Qi8 o
 have hs:=Qy3 hO o
 have hn:(Q18 Qi8 o).Nodup:=(hp.nodup_iff).2 h.nd
 have hlt:(Q18 Qi8 o).Pairwise (· < ·):=by
  have:(Q18 Qi8 o).Pairwise fun x y=>Qi8 y x = false∧x≠y:=hs.and hn
  exact this.imp fun ⟨h1,h2⟩=>by simp [Qi8] at h1; omega
 have:=Qiu hlt (a:=0) (b:=a.zM) fun x hx=>h.rg x (hp.mem_iff.1 hx)
 rw [Qy2] at this
 simpa using this
theorem Qbec {o:List Int} {t x:Int}:x∈ins o t↔x∈o∨x = t:=by
 unfold ins; split
 ·rename_i h; constructor
  ·exact .inl
  ·rintro (h' | rfl)
   ·exact h'
   ·exact h
 ·simp
theorem Qbhv (o:List Int) (t:Int):o <+: ins o t:=by
 unfold ins; split
 ·exact List.prefix_refl o
 ·exact List.prefix_append o [t]
theorem Fnd.ins {a:Qe} {o:List Int} (h:Fnd a o) {t:Int} (ht:0≤t∧t < a.zM):Fnd a (ins o t):=by
 refine ⟨?_,fun s hs=>?_⟩
 ·unfold Go.Abs.ins; split
  ·exact h.nd
  ·rename_i hn
   rw [List.nodup_append]
   exact ⟨h.nd,by simp,fun x hx y hy=>by simp at hy; subst hy; exact fun e=>hn (e ▸ hx)⟩
 ·rcases Qbec.1 hs with hs | rfl
  ·exact h.rg s hs
  ·exact ht
theorem Q9g {a:Qe}:∀ {ts o:List Int},Fnd a o→(∀ t∈ts,0≤t∧t < a.zM)→Fnd a (ts.foldl ins o)∧o <+: ts.foldl ins o∧(∀ t∈ts,t∈ts.foldl ins o)∧∀ x∈ts.foldl ins o,x∈o∨x∈ts
 | [],o,h,_=>⟨h,List.prefix_refl o,by simp,fun x hx=>.inl hx⟩
 | t :: ts,o,h,ht=>by
  obtain ⟨h1,h2,h3,h4⟩:=Q9g (ts:=ts) (h.ins (ht t (by simp))) fun t ht'=>ht t (by simp [ht'])
  refine ⟨h1,(Qbhv o t).trans h2,fun x hx=>?_,fun x hx=>?_⟩
  ·rcases List.mem_cons.1 hx with rfl | hx
   ·exact h2.subset (Qbec.2 (.inr rfl))
   ·exact h3 x hx
  ·rcases h4 x hx with h5 | h5
   ·rcases Qbec.1 h5 with h6 | rfl
    ·exact .inl h6
    ·exact .inr (by simp)
   ·exact .inr (by simp [h5])
theorem Q9h {a:Qe} (h:Right a) (s:Int):∀ t∈Q7t a s,0≤t∧t < a.zM:=by
 intro t ht
 unfold Q7t outP at ht
 obtain ⟨x,hx,rfl⟩:=List.mem_map.1 ht
 have:=h.ed0 x ((List.mem_filter.1 hx).1)
 omega
theorem Q67 {α:Type} {l m:List α} (h:l <+: m) {i:Nat} {x:α} (hx:l[i]? = some x):m[i]? = some x:=by
 obtain ⟨t,rfl⟩:=h
 have:=(List.getElem?_eq_some_iff.1 hx).1
 rw [List.getElem?_append_left this]; exact hx
theorem Qbe7 {a:Qe} (h:Right a):∀ (fuel i:Nat) (o:List Int),Fnd a o→i≤o.length→a.zM.toNat + 1≤fuel + i→(∀ j s,j < i→o[j]? = some s→∀ t∈Q7t a s,t∈o) →
  Fnd a (bfs a fuel i o)∧o <+: bfs a fuel i o∧∀ s∈bfs a fuel i o,∀ t∈Q7t a s,t∈bfs a fuel i o
 | 0,i,o,hf,hi,hfu,_=>by have:=hf.len; omega
 | fuel + 1,i,o,hf,hi,hfu,hc=>by
  unfold bfs
  cases hg:o[i]? with
  | none =>
   dsimp only
   refine ⟨hf,List.prefix_refl o,fun s hs t ht=>?_⟩
   obtain ⟨j,hj⟩:=List.getElem?_of_mem hs
   have hlt:=(List.getElem?_eq_some_iff.1 hj).1
   exact hc j s (by have:=List.getElem?_eq_none_iff.1 hg; omega) hj t ht
  | some s =>
   dsimp only
   obtain ⟨h1,h2,h3,_⟩:=Q9g hf (Q9h h s)
   have hlen:i < o.length:=(List.getElem?_eq_some_iff.1 hg).1
   have hle:=h2.length_le
   obtain ⟨k1,k2,k3⟩:=Qbe7 h fuel (i + 1) ((Q7t a s).foldl ins o) h1 (by omega) (by omega) (fun j s' hj hs' t ht=>by
    by_cases hji:j < i
    ·have hjl:j < o.length:=by omega
     have:o[j]? = some s':=by
      have:=Q67 h2 (List.getElem?_eq_getElem hjl)
      rw [hs'] at this; rw [List.getElem?_eq_getElem hjl]; exact this.symm
     exact h2.subset (hc j s' hji this t ht)
    ·obtain rfl:j = i:=by omega
     have:=Q67 h2 hg
     rw [hs'] at this; cases this
     exact h3 t ht)
   exact ⟨k1,h2.trans k2,k3⟩
theorem Q68 {a:Qe} (h:Right a):Fnd a (Qtw a)∧(if 0 < a.zM then [0] else []) <+: Qtw a∧∀ s∈Qtw a,∀ t∈Q7t a s,t∈Qtw a :=
 Qbe7 h _ 0 _ ⟨by split <;> simp,fun s hs=>by split at hs <;> simp at hs; subst hs; omega⟩ (Nat.zero_le _) (by omega) fun j s hj=>by omega
def Q33 (m:List Int):Nat→List Int→List Int
 | _,[]=>[]
 | i,s :: t=>(if s∈m then [(i:Int)] else []) ++ Q33 m (i + 1) t
def rowP (a:Qe) (F:List Int) (i:Nat) (s:Int):List Qc:=(outP a s).map fun x=>⟨(i:Int),x.Event,(F.idxOf x.To:Int)⟩
def Q34 (a:Qe) (F:List Int):Nat→List Int→List Qc
 | _,[]=>[]
 | i,s :: t=>rowP a F i s ++ Q34 a F (i + 1) t
def Q35 (a:Qe):Qe:=⟨a.zJ,((Qtw a).length:Int),Q33 a.zK 0 (Qtw a),Q34 a (Qtw a) 0 (Qtw a)⟩
theorem Q2d {m:List Int}:∀ {l:List Int} {i:Nat},∀ x∈Q33 m i l,(i:Int)≤x∧x < (i + l.length:Nat)
 | [],i,x,hx=>by simp [Q33] at hx
 | s :: t,i,x,hx=>by
  simp only [Q33,List.mem_append] at hx
  rcases hx with hx | hx
  ·split at hx <;> simp at hx
   subst hx; simp only [List.length_cons]; omega
  ·have:=Q2d x hx; simp only [List.length_cons]; omega
theorem Q6c {m:List Int}:∀ {l:List Int} {i:Nat},(Q33 m i l).Pairwise (· < ·)
 | [],i=>.nil
 | s :: t,i=>by
  simp only [Q33]
  rw [List.pairwise_append]
  refine ⟨by split <;> simp,Q6c,fun x hx y hy=>?_⟩
  have:=Q2d y hy
  split at hx <;> simp at hx
  omega
theorem Q46 {a:Qe} {F:List Int}:∀ {l:List Int} {i:Nat},∀ x∈Q34 a F i l,(i:Int)≤x.From∧x.From < (i + l.length:Nat)∧∃ s∈l,∃ y∈outP a s,x.Event = y.Event∧x.To = (F.idxOf y.To:Int)
 | [],i,x,hx=>by simp [Q34] at hx
 | s :: t,i,x,hx=>by
  simp only [Q34,List.mem_append] at hx
  rcases hx with hx | hx
  ·obtain ⟨y,hy,rfl⟩:=List.mem_map.1 hx
   simp only [List.length_cons]
   exact ⟨by omega,by omega,s,by simp,y,hy,rfl,rfl⟩
  ·obtain ⟨h1,h2,s',h3,h4⟩:=Q46 x hx
   simp only [List.length_cons]
   exact ⟨by omega,by omega,s',by simp [h3],h4⟩
theorem Q6d {a:Qe} (h:Right a) {F:List Int}:∀ {l:List Int} {i:Nat},(Q34 a F i l).Pairwise Qte
 | [],i=>.nil
 | s :: t,i=>by
  simp only [Q34]
  rw [List.pairwise_append]
  refine ⟨?_,Q6d h,fun x hx y hy=>?_⟩
  ·unfold rowP
   rw [List.pairwise_map]
   have h1:(outP a s).Pairwise Qte:=h.ed.filter _
   have h2:∀ x∈outP a s,x.From = s:=fun x hx=>by unfold outP at hx; simp at hx; exact hx.2
   exact List.Pairwise.imp_of_mem (fun {x y} hx hy hk=>by have:=h2 x hx; have:=h2 y hy; unfold Qte at hk; exact .inr ⟨rfl,by show x.Event < y.Event; omega⟩) h1
  ·obtain ⟨z,_,rfl⟩:=List.mem_map.1 hx
   have:=(Q46 y hy).1
   unfold Qte; simp only; omega
theorem Qbdc {a:Qe} (h:Right a):Right (Q35 a):=by
 obtain ⟨h1,h2,h3⟩:=Q68 h
 have hl:=h1.len
 have hst:=h.st
 refine ⟨h.al0,h.al,⟨by simp only [Q35]; omega,by simp only [Q35]; omega⟩,fun x hx=>?_,Q6c,fun x hx=>?_,Q6d h⟩
 ·have:=Q2d x hx; simp only [Q35]; omega
 ·obtain ⟨k1,k2,s,hs,y,hy,k3,k4⟩:=Q46 x hx
  have hy' : y.To∈Qtw a:=h3 s hs y.To (List.mem_map.2 ⟨y,hy,rfl⟩)
  have:=List.idxOf_lt_length_iff.2 hy'
  simp only [Q35]
  refine ⟨by omega,by omega,by omega,by omega,?_⟩
  rw [k3]
  unfold outP at hy
  exact (h.ed0 y ((List.mem_filter.1 hy).1)).2.2.2.2
end Go.Abs
end
section
namespace Go.Abs
open Go
theorem Qbe8 {l:List Int} (hl:l.length≤lim):Qej l = some ⟨l,0,[],[]⟩:=by
 unfold Qej Q3
 rw [Qdg (by simpa using hl)]; rfl
theorem Qbed {l:List Int} {v:Int} (hl:l.length < big):Qek l v = some (if v∈l then (l.idxOf v:Int) else -1):=by
 have hb:l.length < 1000000000000:=hl
 unfold Qek Qb8
 refine (Qtd (len:=l.length) (fun k=>some (if v∈l.drop k then ((k + (l.drop k).idxOf v:Nat):Int) else -1)) (by unfold Qb4; omega) ?_ ?_).trans (by simp)
 ·intro k i hi ih
  rw [if_pos (by omega),Qcc hi,Qce (by omega),ih,List.drop_eq_getElem_cons hi]
  simp only [Option.bind_some,List.mem_cons,List.idxOf_cons]
  by_cases h:v = l[i]
  ·simp [← h]
  ·have h' : ¬ l[i] = v:=fun e=>h e.symm
   have hbq:(l[i] == v) = false:=by simp [h']
   by_cases h2:v∈l.drop (i + 1) <;> simp [h,h2,hbq]
   omega
 ·intro k; simp
theorem Q7m {a:Qe} (h:Right a) (s:Int):Q7t a s = (a.zJ.filter fun e=>decide (0≤Ql9 a s e)).map (Ql9 a s):=by
 rw [← Q45 h,List.map_map]
 unfold Q7t
 exact List.map_congr_left fun x hx=>(Qbda h hx).symm
theorem Qbap {a:Qe} (s:Int):∀ (al o:List Int),al.foldl (fun o e=>if 0≤Ql9 a s e then ins o (Ql9 a s e) else o) o = ((al.filter fun e=>decide (0≤Ql9 a s e)).map (Ql9 a s)).foldl ins o
 | [],o=>rfl
 | e :: al,o=>by
  by_cases hx:0≤Ql9 a s e <;> simp [List.filter_cons,hx,Qbap s al]
theorem Qbi0 {a:Qe} {fuel i:Nat} {o:List Int} (hi:i < o.length):bfs a (fuel + 1) i o = bfs a fuel (i + 1) ((Q7t a o[i]).foldl ins o):=by
 conv=>lhs; unfold bfs
 rw [List.getElem?_eq_getElem hi]
theorem Qbkv {a:Qe} {fuel:Nat} {o:List Int}:bfs a fuel o.length o = o:=by
 cases fuel with
 | zero=>rfl
 | succ n=>unfold bfs; simp
section
variable {a:Qe} (h:Right a)
include h
theorem Qbf0 (fuel:Nat) (hfu:1099511627776≤fuel) {s:Int} {o:List Int} {i:Nat} (hf:Fnd a o) (hi:o[i]? = some s) :
  Qcm (fun k12 ((out10,k11):(List Int)×Int)=>(if (k11 < (a.zJ.length:Int)) then ((((getO out10 (i:Int)).bind fun x14=>((getO a.zJ k11).bind fun x16=>((Qcj a x14 x16).bind fun x19=>(((if (x19≥0) then ((Qc2 out10 x19).bind fun x22=>some (!x22)) else some false)).bind fun (x23:Bool)=>(if x23 then ((appO out10 [x19]).bind fun x25=>some x25) else some out10)))))).bind fun (out27:List Int)=>k12 (out27,(IntKind.wrap .i64 (k11 + 1)))) else some out10)) fuel (o,0) = some ((Q7t a s).foldl ins o):=by
 have hs:=h.small.1
 have hst:=h.st
 have hb:a.zJ.length < 1000000000000:=hs.1
 rw [Q7m h,← Qbap]
 refine (Ql8 (len:=a.zJ.length) (fun n (acc:List Int)=>(acc,(n:Int))) (fun n acc=>Fnd a acc∧acc[i]? = some s) (fun n acc=>some ((a.zJ.drop n).foldl (fun o e=>if 0≤Ql9 a s e then ins o (Ql9 a s e) else o) acc)) ?_ ?_ fuel 0 o (Nat.zero_le _) (by omega) ⟨hf,hi⟩).trans (by simp)
 ·intro k n acc hn ⟨k1,k2⟩ ih
  have hlen:=k1.len
  have hg:getO acc (i:Int) = some s:=by rw [Qbc6]; exact ⟨by omega,by simpa using k2⟩
  dsimp only
  rw [if_pos (by omega),hg,Qcc hn]
  simp only [Option.bind_some]
  rw [Qbao hs,Qce (by omega)]
  simp only [Option.bind_some]
  rw [Qbjv (by unfold big; omega),List.drop_eq_getElem_cons hn,List.foldl_cons]
  rcases Qbeb h s a.zJ[n] with hr | hr
  ·rw [hr]; simp only [show ¬ ((-1:Int)≥0) from by omega,show ¬ ((0:Int) ≤ -1) from by omega,if_false,Option.bind_some,Bool.false_eq_true]
   exact ih _ ⟨k1,k2⟩
  ·have hge:Ql9 a s a.zJ[n]≥0:=hr.1
   by_cases hm:Ql9 a s a.zJ[n]∈acc
   ·simp only [hge,hm,decide_true,Bool.not_true,if_true,Option.bind_some,Bool.false_eq_true,if_false,hr.1,ins]
    exact ih _ ⟨k1,k2⟩
   ·simp only [hge,hm,decide_false,Bool.not_false,if_true,Option.bind_some,hr.1,ins,if_false]
    rw [Qdg (by simp only [List.length_cons,List.length_nil]; unfold lim; omega)]
    simp only [Option.bind_some]
    have hi':=k1.ins (t:=Ql9 a s a.zJ[n]) ⟨hr.1,hr.2.1⟩
    unfold ins at hi'
    rw [if_neg hm] at hi'
    exact ih _ ⟨hi',Q67 (List.prefix_append acc _) k2⟩
 ·intro k acc _
  dsimp only
  rw [if_neg (by omega)]; simp
theorem Qbee:Qft a = some (Qtw a):=by
 have hs:=h.small.1
 have hst:=h.st
 unfold Qft Qb7
 obtain ⟨fuel,hfu,hge⟩ : ∃ f,Qb4 = f∧1099511627776≤f:=⟨_,rfl,Nat.le_refl _⟩
 rw [hfu]
 have hloop:∀ o:List Int,Fnd a o→Qcm (fun (k8:List Int×Int→Option (List Int)) ((out6,i7):(List Int)×Int)=>(if (i7 < (out6.length:Int)) then ((Qcm (fun k12 ((out10,k11):(List Int)×Int)=>(if (k11 < (a.zJ.length:Int)) then ((((getO out10 i7).bind fun x14=>((getO a.zJ k11).bind fun x16=>((Qcj a x14 x16).bind fun x19=>(((if (x19≥0) then ((Qc2 out10 x19).bind fun x22=>some (!x22)) else some false)).bind fun (x23:Bool)=>(if x23 then ((appO out10 [x19]).bind fun x25=>some x25) else some out10)))))).bind fun (out27:List Int)=>k12 (out27,(IntKind.wrap .i64 (k11 + 1)))) else some out10)) fuel (out6,0)).bind fun (out28:List Int)=>k8 (out28,(IntKind.wrap .i64 (i7 + 1)))) else some out6)) fuel (o,0) = some (bfs a (a.zM.toNat + 1) 0 o):=by
  intro o ho
  have:=Qit (F:=fun (k8:List Int×Int→Option (List Int)) ((out6,i7):(List Int)×Int)=>(if (i7 < (out6.length:Int)) then ((Qcm (fun k12 ((out10,k11):(List Int)×Int)=>(if (k11 < (a.zJ.length:Int)) then ((((getO out10 i7).bind fun x14=>((getO a.zJ k11).bind fun x16=>((Qcj a x14 x16).bind fun x19=>(((if (x19≥0) then ((Qc2 out10 x19).bind fun x22=>some (!x22)) else some false)).bind fun (x23:Bool)=>(if x23 then ((appO out10 [x19]).bind fun x25=>some x25) else some out10)))))).bind fun (out27:List Int)=>k12 (out27,(IntKind.wrap .i64 (k11 + 1)))) else some out10)) fuel (out6,0)).bind fun (out28:List Int)=>k8 (out28,(IntKind.wrap .i64 (i7 + 1)))) else some out6))
   (fun x=>∃ i:Nat,x.2 = (i:Int)∧i≤x.1.length∧Fnd a x.1) (fun x=>a.zM.toNat + 1 - x.2.toNat) (fun x r=>r = some (bfs a (a.zM.toNat + 1 - x.2.toNat) x.2.toNat x.1)) (by
    rintro k ⟨o,i⟩ ⟨i,rfl,hi,hf⟩ ih
    replace hi:i≤o.length:=hi
    replace hf:Fnd a o:=hf
    have hl:=hf.len
    dsimp only
    by_cases hlt:i < o.length
    ·rw [if_pos (by omega),Qbf0 h fuel hge hf (List.getElem?_eq_getElem hlt),Option.bind_some,Qce (by omega)]
     obtain ⟨q1,q2,_,_⟩:=Q9g hf (Q9h h o[i])
     have hle:=q2.length_le
     rw [ih _ ⟨i + 1,rfl,by simp only; omega,q1⟩ (by simp only; omega)]
     simp only [Int.toNat_natCast]
     rw [show a.zM.toNat + 1 - i = (a.zM.toNat + 1 - (i + 1)) + 1 from by omega,Qbi0 hlt]
    ·rw [if_neg (by omega)]
     obtain rfl:i = o.length:=by omega
     simp only [Int.toNat_natCast,Qbkv]) fuel (o,0) ⟨0,rfl,Nat.zero_le _,ho⟩ (by simp only; omega)
  simpa using this
 by_cases h0:0 < a.zM
 ·rw [if_pos (by omega),Qdg (by simp only [List.length_cons,List.length_nil]; unfold lim; omega)]
  simp only [Option.bind_some]
  rw [show ([] ++ [0]:List Int) = [0] from rfl,hloop [0] ⟨by simp,fun s hs=>by simp at hs; subst hs; omega⟩]
  simp only [Option.bind_some,Qtw,if_pos h0]
 ·rw [if_neg (by omega)]
  simp only [Option.bind_some]
  rw [hloop [] ⟨by simp,fun s hs=>by simp at hs⟩]
  simp only [Option.bind_some,Qtw,if_neg h0]
theorem Qbaq (fuel:Nat) (hfu:1099511627776≤fuel) {F:List Int} (hF:Fnd a F) (hcl:∀ s∈F,∀ t∈Q7t a s,t∈F) {s:Int} {i:Nat} (hi:F[i]? = some s) (ms:List Int) (es:List Qc) (hes:es.length≤200000) :
  Qcm (fun (k24:Int×List Qc→Option (List Int×List Qc)) ((k22,out23):Int×(List Qc))=>(if (k22 < (a.zJ.length:Int)) then ((((getO F (i:Int)).bind fun x26=>((getO a.zJ k22).bind fun x28=>((Qcj a x26 x28).bind fun x31=>(if (x31≥0) then ((getO a.zJ k22).bind fun x33=>((Qek F x31).bind fun x36=>((appO out23 [(Qc.mk (i:Int) x33 x36)]).bind fun x37=>some x37))) else some out23))))).bind fun (out39:List Qc)=>k24 ((IntKind.wrap .i64 (k22 + 1)),out39)) else some (ms,out23))) fuel (0,es) = some (ms,es ++ rowP a F i s):=by
 have hs:=h.small.1
 have hst:=h.st
 have hal:=h.small.2.1
 have hb:a.zJ.length < 1000000000000:=hs.1
 have hFl:=hF.len
 have hrow:rowP a F i s = (a.zJ.filter fun e=>decide (0≤Ql9 a s e)).map fun e=>⟨(i:Int),e,(F.idxOf (Ql9 a s e):Int)⟩:=by
  rw [← Q45 h,List.map_map]
  unfold rowP
  exact List.map_congr_left fun x hx=>by simp only [Function.comp]; rw [Qbda h hx]
 rw [hrow]
 refine (Ql8 (len:=a.zJ.length) (fun n (acc:List Qc)=>((n:Int),acc)) (fun n acc=>acc.length≤200000 + n) (fun n acc=>some (ms,acc ++ ((a.zJ.drop n).filter fun e=>decide (0≤Ql9 a s e)).map fun e=>⟨(i:Int),e,(F.idxOf (Ql9 a s e):Int)⟩)) ?_ ?_ fuel 0 es (Nat.zero_le _) (by omega) (by omega)).trans (by simp)
 ·intro k n acc hn k1 ih
  have hg:getO F (i:Int) = some s:=by rw [Qbc6]; exact ⟨by omega,by simpa using hi⟩
  dsimp only
  rw [if_pos (by omega),hg,Qcc hn]
  simp only [Option.bind_some]
  rw [Qbao hs,Qce (by omega)]
  simp only [Option.bind_some]
  rw [List.drop_eq_getElem_cons hn,List.filter_cons]
  by_cases hr:0≤Ql9 a s a.zJ[n]
  ·have hm:Ql9 a s a.zJ[n]∈F:=hcl s (List.mem_of_getElem? hi) _ (by rw [Q7m h]; exact List.mem_map.2 ⟨_,List.mem_filter.2 ⟨List.getElem_mem hn,by simpa using hr⟩,rfl⟩)
   rw [if_pos hr,Qbed (by unfold big; omega),if_pos hm]
   simp only [Option.bind_some]
   rw [Qdg (by simp only [List.length_cons,List.length_nil]; unfold lim; omega)]
   simp only [Option.bind_some]
   rw [ih _ (by simp only [List.length_append,List.length_cons,List.length_nil]; omega)]
   simp only [hr,decide_true,if_true,List.map_cons,List.append_assoc,List.cons_append,List.nil_append]
  ·rw [if_neg (by omega)]
   simp only [Option.bind_some]
   rw [ih _ (by omega)]
   simp only [hr,decide_false,Bool.false_eq_true,if_false]
 ·intro k acc _
  dsimp only
  rw [if_neg (by omega)]; simp
theorem Qbi1 {F:List Int} {i:Nat} {s:Int}:(rowP a F i s).length≤32:=by
 have:=h.small.2.1
 have h1:(rowP a F i s).length = ((outP a s).map (·.Event)).length:=by simp [rowP]
 rw [h1,Q45 h]
 exact Nat.le_trans (List.length_filter_le _ _) this
theorem Q9i:Qd8 a = some (Q35 a):=by
 have hs:=h.small.1
 have hst:=h.st
 have hal:=h.small.2.1
 have hb:a.zJ.length < 1000000000000:=hs.1
 obtain ⟨hF,_,hcl⟩:=Q68 h
 have hFl:=hF.len
 unfold Qd8 Qbq
 obtain ⟨fuel,hfu,hge⟩ : ∃ f,Qb4 = f∧1099511627776≤f:=⟨_,rfl,Nat.le_refl _⟩
 rw [hfu,Qbee h,Option.bind_some,Qbe8 (by unfold lim; omega),Option.bind_some]
 unfold Q35
 generalize Qtw a = F at hF hcl hFl
 show Option.bind (Qcm _ fuel (((0:Nat):Int),[],[],[],[],[])) _ = _
 rw [Ql8 (len:=F.length) (R:=List Int×List Int×List Qc×List Int×List Qc) (fun n (acc:List Int×List Qc)=>((n:Int),([]:List Int),([]:List Int),([]:List Qc),acc.1,acc.2)) (fun n acc=>acc.1.length≤n∧acc.2.length≤32 * n)
  (fun n acc=>some (([]:List Int),([]:List Int),([]:List Qc),acc.1 ++ Q33 a.zK n (F.drop n),acc.2 ++ Q34 a F n (F.drop n))) ?_ ?_ fuel 0 ([],[]) (Nat.zero_le _) (by omega) ⟨Nat.zero_le _,Nat.zero_le _⟩]
 ·simp
 ·rintro k n ⟨ms,es⟩ hn ⟨k1,k2⟩ ih
  replace k1:ms.length≤n:=k1
  replace k2:es.length≤32 * n:=k2
  have hg:=List.getElem?_eq_getElem hn
  dsimp only
  rw [if_pos (by omega),Qcc hn]
  simp only [Option.bind_some]
  rw [Qbjv hs.2.1]
  simp only [Option.bind_some]
  have hrl:=Qbi1 h (F:=F) (i:=n) (s:=F[n])
  rw [List.drop_eq_getElem_cons hn]
  simp only [Q33,Q34]
  by_cases hm:F[n]∈a.zK
  ·simp only [hm,decide_true,if_true]
   rw [Qdg (by simp only [List.length_cons,List.length_nil]; unfold lim; omega)]
   simp only [Option.bind_some]
   have:=Qbaq h fuel hge hF hcl hg (ms ++ [(n:Int)]) es (by omega)
   rw [Qcc hn] at this
   simp only [Option.bind_some] at this
   rw [this]
   simp only [Option.bind_some]
   rw [Qce (by omega),ih (ms ++ [(n:Int)],es ++ rowP a F n F[n]) ⟨by simp only [List.length_append,List.length_cons,List.length_nil]; omega,by simp only [List.length_append]; omega⟩]
   simp only [List.append_assoc]
  ·simp only [hm,decide_false,Bool.false_eq_true,if_false,Option.bind_some]
   have:=Qbaq h fuel hge hF hcl hg ms es (by omega)
   rw [Qcc hn] at this
   simp only [Option.bind_some] at this
   rw [this]
   simp only [Option.bind_some]
   rw [Qce (by omega),ih (ms,es ++ rowP a F n F[n]) ⟨by simp only; omega,by simp only [List.length_append]; omega⟩]
   simp only [List.append_assoc,List.nil_append]
 ·rintro k ⟨ms,es⟩ _
  dsimp only
  rw [if_neg (by omega)]
  simp [Q33,Q34]
end
end Go.Abs
end
section
namespace Go.Abs
open Go
structure Evs (l:List Int):Prop where
 rg:∀ x∈l,0≤x∧x < 5
 so:l.Pairwise (· < ·)
theorem Evs.len {l:List Int} (h:Evs l):l.length≤5:=by have:=Qiu h.so h.rg; simpa using this
def Qbhw:List Int→Bool
 | []=>true
 | x :: xs=>xs.all (fun y=>decide (x < y)) && Qbhw xs
theorem Q9j:∀ {l:List Int},Qbhw l = true→l.Pairwise (· < ·)
 | [],_=>.nil
 | x :: xs,h=>by
  simp only [Qbhw,Bool.and_eq_true,List.all_eq_true,decide_eq_true_eq] at h
  exact List.pairwise_cons.2 ⟨h.1,Q9j h.2⟩
def evB (s:Nat):Bool:=match Qcq (s:Int) with
 | some l=>Qbhw l && l.all fun x=>decide (0≤x) && decide (x < 5)
 | none=>false
theorem Qbkw:(List.range 256).all evB = true:=by kernel_rfl
theorem Qbhx {s:Int} (h0:0≤s) (h1:s < 256):∃ l,Qcq s = some l∧Evs l:=by
 have:=List.all_eq_true.1 Qbkw s.toNat (List.mem_range.2 (by omega))
 unfold evB at this
 rw [show ((s.toNat:Nat):Int) = s from by omega] at this
 split at this
 ·rename_i l hl
  simp only [Bool.and_eq_true,List.all_eq_true,decide_eq_true_eq] at this
  exact ⟨l,hl,fun x hx=>this.2 x hx,Q9j this.1⟩
 ·cases this
structure Mks (n:Nat) (ms:List Int):Prop where
 rg:∀ x∈ms,0≤x∧x < n
 so:ms.Pairwise (· < ·)
structure Eds (al:List Int) (N:Int) (i k:Nat) (es:List Qc):Prop where
 rg:∀ x∈es,0≤x.From∧0≤x.To∧x.To < N∧x.Event∈al∧(x.From < i∨x.From = i∧∃ j:Nat,j < k∧al[j]? = some x.Event)
 so:es.Pairwise Qte
 ln:es.length≤5 * i + k
theorem Mks.up {n:Nat} {ms:List Int} (h:Mks n ms):Mks (n + 1) ms:=⟨fun x hx=>by have:=h.rg x hx; omega,h.so⟩
theorem Mks.add {n:Nat} {ms:List Int} (h:Mks n ms):Mks (n + 1) (ms ++ [(n:Int)]):=by
 refine ⟨fun x hx=>?_,?_⟩
 ·rcases List.mem_append.1 hx with hx | hx
  ·have:=h.rg x hx; omega
  ·simp at hx; omega
 ·rw [List.pairwise_append]
  exact ⟨h.so,by simp,fun x hx y hy=>by simp at hy; have:=h.rg x hx; omega⟩
theorem Mks.len {n:Nat} {ms:List Int} (h:Mks n ms):ms.length≤n:=by have:=Qiu h.so h.rg; simpa using this
section
variable {al:List Int} (hal:Evs al) {N:Int} {i k:Nat} {es:List Qc}
theorem Eds.up (h:Eds al N i k es):Eds al N i (k + 1) es:=⟨fun x hx=>by
 obtain ⟨h1,h2,h3,h4,h5⟩:=h.rg x hx
 refine ⟨h1,h2,h3,h4,?_⟩
 rcases h5 with h5 | ⟨h5,j,h6,h7⟩
 ·exact .inl h5
 ·exact .inr ⟨h5,j,by omega,h7⟩,h.so,by have:=h.ln; omega⟩
theorem Eds.next (h:Eds al N i k es) (hk:k≤5):Eds al N (i + 1) 0 es:=⟨fun x hx=>by
 obtain ⟨h1,h2,h3,h4,h5⟩:=h.rg x hx
 exact ⟨h1,h2,h3,h4,.inl (by rcases h5 with h5 | ⟨h5,_⟩ <;> omega)⟩,h.so,by have:=h.ln; omega⟩
include hal in
theorem Eds.add (h:Eds al N i k es) (hk:k < al.length) {t:Int} (ht:0≤t∧t < N):Eds al N i (k + 1) (es ++ [⟨(i:Int),al[k],t⟩]):=by
 refine ⟨fun x hx=>?_,?_,by have:=h.ln; simp only [List.length_append,List.length_cons,List.length_nil]; omega⟩
 ·rcases List.mem_append.1 hx with hx | hx
  ·exact h.up.rg x hx
  ·simp at hx; subst hx
   exact ⟨by simp only; omega,ht.1,ht.2,List.getElem_mem hk,.inr ⟨rfl,k,by omega,List.getElem?_eq_getElem hk⟩⟩
 ·rw [List.pairwise_append]
  refine ⟨h.so,by simp,fun x hx y hy=>?_⟩
  simp at hy; subst hy
  obtain ⟨_,_,_,_,h5⟩:=h.rg x hx
  rcases h5 with h5 | ⟨h5,j,h6,h7⟩
  ·exact .inl h5
  ·refine .inr ⟨h5,?_⟩
   obtain ⟨h8,h9⟩:=List.getElem?_eq_some_iff.1 h7
   rw [← h9]
   exact List.pairwise_iff_getElem.1 hal.so j k h8 hk h6
end
structure Qbhy (g:Qbh):Prop where
 st:0≤g.zM∧g.zM < 256
 to:∀ x∈[g.To.1.1,g.To.1.2.1,g.To.1.2.2.1,g.To.1.2.2.2.1,g.To.1.2.2.2.2,g.To.2.1.1,g.To.2.1.2.1,g.To.2.1.2.2.1,g.To.2.1.2.2.2.1,g.To.2.1.2.2.2.2,g.To.2.2.1.1,g.To.2.2.1.2.1,g.To.2.2.1.2.2.1,g.To.2.2.1.2.2.2.1,g.To.2.2.1.2.2.2.2,g.To.2.2.2.1.1,g.To.2.2.2.1.2.1,g.To.2.2.2.1.2.2.1,g.To.2.2.2.1.2.2.2.1,g.To.2.2.2.1.2.2.2.2,g.To.2.2.2.2.1,g.To.2.2.2.2.2.1,g.To.2.2.2.2.2.2.1,g.To.2.2.2.2.2.2.2.1,g.To.2.2.2.2.2.2.2.2],0≤x∧x < 256
theorem Qbe9 {al:List Int} (hal:Evs al) (fuel:Nat) (hfu:1099511627776≤fuel) {L:List Int} (hL:L.length = 25) (hL2:∀ x∈L,0≤x∧x < 256) {N:Int} (hN:1≤N∧N≤5) {i:Nat} (hi:(i:Int) < N) {ms:List Int} {es:List Qc} (hes:Eds al N i 0 es) :
  ∃ es',Eds al N (i + 1) 0 es' ∧ Qcm (fun (k25:Int×List Qc→Option (List Int×List Qc)) ((k23,a24):Int×(List Qc))=>(((if (k23 < (al.length:Int)) then some (decide (k23 < 5)) else some false)).bind fun (x27:Bool)=>(if x27 then ((((inO 5 (i:Int)).bind fun _=>((inO 5 k23).bind fun _=>((rowO L (Int.toNat (i:Int) * 5 + Int.toNat k23 * 1)).bind fun x31=>((remO .i64 (IntKind.wrap .i64 x31) (IntKind.wrap .i64 (N + 2))).bind fun s33=>(if (s33 < N) then ((getO al k23).bind fun x36=>((appO a24 [(Qc.mk (i:Int) x36 s33)]).bind fun x38=>some x38)) else some a24)))))).bind fun (a40:List Qc)=>k25 ((IntKind.wrap .i64 (k23 + 1)),a40)) else some (ms,a24)))) fuel (0,es) = some (ms,es'):=by
 have hl:=hal.len
 have:=Qit (F:=fun (k25:Int×List Qc→Option (List Int×List Qc)) ((k23,a24):Int×(List Qc))=>(((if (k23 < (al.length:Int)) then some (decide (k23 < 5)) else some false)).bind fun (x27:Bool)=>(if x27 then ((((inO 5 (i:Int)).bind fun _=>((inO 5 k23).bind fun _=>((rowO L (Int.toNat (i:Int) * 5 + Int.toNat k23 * 1)).bind fun x31=>((remO .i64 (IntKind.wrap .i64 x31) (IntKind.wrap .i64 (N + 2))).bind fun s33=>(if (s33 < N) then ((getO al k23).bind fun x36=>((appO a24 [(Qc.mk (i:Int) x36 s33)]).bind fun x38=>some x38)) else some a24)))))).bind fun (a40:List Qc)=>k25 ((IntKind.wrap .i64 (k23 + 1)),a40)) else some (ms,a24))))
  (fun x=>∃ k:Nat,x.1 = (k:Int)∧k≤al.length∧Eds al N i k x.2) (fun x=>al.length - x.1.toNat) (fun _ r=>∃ es',r = some (ms,es')∧Eds al N (i + 1) 0 es') (by
   rintro kk ⟨k,es⟩ ⟨k,rfl,hk,he⟩ ih
   replace he:Eds al N i k es:=he
   replace hk:k≤al.length:=hk
   dsimp only
   by_cases hlt:k < al.length
   ·rw [if_pos (by omega)]
    simp only [Option.bind_some,show decide ((k:Int) < 5) = true from by simp; omega,if_true]
    rw [show inO 5 (i:Int) = some () from by unfold inO; rw [if_pos (by omega)],show inO 5 (k:Int) = some () from by unfold inO; rw [if_pos (by omega)]]
    simp only [Option.bind_some,Int.toNat_natCast]
    have hidx:i * 5 + k * 1 < L.length:=by omega
    have hx:=hL2 _ (List.getElem_mem hidx)
    rw [show rowO L (i * 5 + k * 1) = some L[i * 5 + k * 1] from by unfold rowO; exact List.getElem?_eq_getElem hidx]
    simp only [Option.bind_some]
    rw [Qqe (x:=L[i * 5 + k * 1]) (by omega) (by omega),Qqe (x:=N + 2) (by omega) (by omega),show remO .i64 L[i * 5 + k * 1] (N + 2) = some (L[i * 5 + k * 1].tmod (N + 2)) from by unfold remO; rw [if_neg (by omega)]]
    simp only [Option.bind_some]
    have hmod:0≤L[i * 5 + k * 1].tmod (N + 2):=Int.tmod_nonneg _ hx.1
    have hln:=he.ln
    by_cases hm:L[i * 5 + k * 1].tmod (N + 2) < N
    ·rw [if_pos hm,Qcc hlt]
     simp only [Option.bind_some]
     rw [Qdg (by simp only [List.length_cons,List.length_nil]; unfold lim; omega)]
     simp only [Option.bind_some]
     rw [Qce (by omega)]
     exact ih _ ⟨k + 1,rfl,hlt,he.add hal hlt ⟨hmod,hm⟩⟩ (by simp only; omega)
    ·rw [if_neg hm]
     simp only [Option.bind_some]
     rw [Qce (by omega)]
     exact ih _ ⟨k + 1,rfl,hlt,he.up⟩ (by simp only; omega)
   ·rw [if_neg (by omega)]
    exact ⟨es,rfl,he.next (by omega)⟩) fuel (0,es) ⟨0,rfl,Nat.zero_le _,hes⟩ (by simp only; omega)
 obtain ⟨es',h1,h2⟩:=this
 exact ⟨es',h2,h1⟩
theorem Qbef {al:List Int} (hal:Evs al):Right ⟨al,0,[],[]⟩ :=
 ⟨fun x hx=>by have:=hal.rg x hx; omega,hal.so,⟨by simp,by simp⟩,by simp,.nil,by simp,.nil⟩
theorem Qbkx {al:List Int} (hal:Evs al) {g:Qbh} (hg:Qbhy g):∃ m,Right m∧m.zJ = al∧Qf8 al g = some (Q35 m)∧m.zM≤5:=by
 have hl:=hal.len
 obtain ⟨hst,hto⟩:=hg
 unfold Qf8 Qch
 obtain ⟨fuel,hfu,hge⟩ : ∃ f,Qb4 = f∧1099511627776≤f:=⟨_,rfl,Nat.le_refl _⟩
 rw [hfu,Qbe8 (by unfold lim; omega)]
 simp only [Option.bind_some]
 by_cases h250:g.zM≥250
 ·rw [if_pos h250]
  exact ⟨⟨al,0,[],[]⟩,Qbef hal,rfl,rfl,by simp⟩
 rw [if_neg h250]
 have hL:[g.To.1.1,g.To.1.2.1,g.To.1.2.2.1,g.To.1.2.2.2.1,g.To.1.2.2.2.2,g.To.2.1.1,g.To.2.1.2.1,g.To.2.1.2.2.1,g.To.2.1.2.2.2.1,g.To.2.1.2.2.2.2,g.To.2.2.1.1,g.To.2.2.1.2.1,g.To.2.2.1.2.2.1,g.To.2.2.1.2.2.2.1,g.To.2.2.1.2.2.2.2,g.To.2.2.2.1.1,g.To.2.2.2.1.2.1,g.To.2.2.2.1.2.2.1,g.To.2.2.2.1.2.2.2.1,g.To.2.2.2.1.2.2.2.2,g.To.2.2.2.2.1,g.To.2.2.2.2.2.1,g.To.2.2.2.2.2.2.1,g.To.2.2.2.2.2.2.2.1,g.To.2.2.2.2.2.2.2.2].length = 25:=rfl
 generalize [g.To.1.1,g.To.1.2.1,g.To.1.2.2.1,g.To.1.2.2.2.1,g.To.1.2.2.2.2,g.To.2.1.1,g.To.2.1.2.1,g.To.2.1.2.2.1,g.To.2.1.2.2.2.1,g.To.2.1.2.2.2.2,g.To.2.2.1.1,g.To.2.2.1.2.1,g.To.2.2.1.2.2.1,g.To.2.2.1.2.2.2.1,g.To.2.2.1.2.2.2.2,g.To.2.2.2.1.1,g.To.2.2.2.1.2.1,g.To.2.2.2.1.2.2.1,g.To.2.2.2.1.2.2.2.1,g.To.2.2.2.1.2.2.2.2,g.To.2.2.2.2.1,g.To.2.2.2.2.2.1,g.To.2.2.2.2.2.2.1,g.To.2.2.2.2.2.2.2.1,g.To.2.2.2.2.2.2.2.2] = L at hto hL ⊢
 have hmod:0≤g.zM.tmod 5∧g.zM.tmod 5 < 5:=⟨Int.tmod_nonneg _ hst.1,Int.tmod_lt_of_pos _ (by omega)⟩
 have hN:1≤IntKind.wrap .i64 (1 + (IntKind.wrap .i64 (Int.tmod g.zM 5)))∧IntKind.wrap .i64 (1 + (IntKind.wrap .i64 (Int.tmod g.zM 5)))≤5:=by
  rw [Qqe (x:=g.zM.tmod 5) (by omega) (by omega),Qqe (by omega) (by omega)]; omega
 generalize IntKind.wrap .i64 (1 + (IntKind.wrap .i64 (Int.tmod g.zM 5))) = N at hN ⊢
 have hloop:=Qit (F:=(fun (k15:Int×List Int×List Int×List Qc×Int×List Int×List Qc→Option (List Int×List Int×List Qc×Int×List Int×List Qc)) ((i8,c9,c10,c11,a12,a13,a14):Int×(List Int)×(List Int)×(List Qc)×Int×(List Int)×(List Qc))=>(if (i8 < a12) then ((((((shrO .u8 g.Marks i8).bind fun s17=>(if ((andI .u8 s17 1) == 1) then ((appO a13 [i8]).bind fun x20=>some x20) else some a13))).bind fun (a22:List Int)=>Qcm (fun k25 ((k23,a24):Int×(List Qc))=>(((if (k23 < (al.length:Int)) then some (decide (k23 < 5)) else some false)).bind fun (x27:Bool)=>(if x27 then ((((inO 5 i8).bind fun _=>((inO 5 k23).bind fun _=>((rowO L (Int.toNat i8 * 5 + Int.toNat k23 * 1)).bind fun x31=>((remO .i64 (IntKind.wrap .i64 x31) (IntKind.wrap .i64 (a12 + 2))).bind fun s33=>(if (s33 < a12) then ((getO al k23).bind fun x36=>((appO a24 [(Qc.mk i8 x36 s33)]).bind fun x38=>some x38)) else some a24)))))).bind fun (a40:List Qc)=>k25 ((IntKind.wrap .i64 (k23 + 1)),a40)) else some (a22,a24)))) fuel (0,a14))).bind fun ((a41,a42):(List Int)×(List Qc))=>k15 ((IntKind.wrap .i64 (i8 + 1)),c9,c10,c11,a12,a41,a42)) else some (c9,c10,c11,a12,a13,a14))))
  (fun x=>∃ (i:Nat) (ms:List Int) (es:List Qc),x = ((i:Int),[],[],[],N,ms,es)∧(i:Int)≤N∧Mks i ms∧Eds al N i 0 es) (fun x=>(N - x.1).toNat)
  (fun _ r=>∃ (i:Nat) (ms:List Int) (es:List Qc),r = some ([],[],[],N,ms,es)∧(i:Int) = N∧Mks i ms∧Eds al N i 0 es) (by
   rintro k _ ⟨i,ms,es,rfl,hi,hm,he⟩ ih
   dsimp only
   by_cases hlt:(i:Int) < N
   ·rw [if_pos hlt,show shrO .u8 g.Marks (i:Int) = some (g.Marks.fdiv (2 ^ (min (Int.toNat (i:Int)) (IntKind.bits .u8)))) from by unfold shrO; rw [if_neg (by omega)]]
    simp only [Option.bind_some]
    have hml:=hm.len
    by_cases hb:(andI .u8 (g.Marks.fdiv (2 ^ (min (Int.toNat (i:Int)) (IntKind.bits .u8)))) 1 == 1) = true
    ·rw [if_pos hb,Qdg (by simp only [List.length_cons,List.length_nil]; unfold lim; omega)]
     simp only [Option.bind_some]
     obtain ⟨es',h1,h2⟩:=Qbe9 hal fuel hge hL hto hN hlt (ms:=ms ++ [(i:Int)]) he
     rw [h2]
     simp only [Option.bind_some]
     rw [Qce (by omega)]
     exact ih _ ⟨i + 1,_,_,rfl,by omega,hm.add,h1⟩ (by simp only; omega)
    ·rw [if_neg hb]
     simp only [Option.bind_some]
     obtain ⟨es',h1,h2⟩:=Qbe9 hal fuel hge hL hto hN hlt (ms:=ms) he
     rw [h2]
     simp only [Option.bind_some]
     rw [Qce (by omega)]
     exact ih _ ⟨i + 1,_,_,rfl,by omega,hm.up,h1⟩ (by simp only; omega)
   ·rw [if_neg hlt]
    exact ⟨i,ms,es,rfl,by omega,hm,he⟩) fuel (0,[],[],[],N,[],[]) ⟨0,[],[],rfl,by omega,⟨by simp,.nil⟩,⟨by simp,.nil,by simp⟩⟩ (by simp only; omega)
 obtain ⟨i,ms,es,h1,h2,h3,h4⟩:=hloop
 rw [h1]
 simp only [Option.bind_some]
 have hr:Right ⟨al,N,ms,es⟩:=⟨fun x hx=>by have:=hal.rg x hx; omega,hal.so,⟨by simp only; omega,by simp only; omega⟩,fun x hx=>by have:=h3.rg x hx; simp only; omega,h3.so,fun x hx=>by
  obtain ⟨k1,k2,k3,k4,k5⟩:=h4.rg x hx
  refine ⟨k1,?_,k2,k3,k4⟩
  rcases k5 with k5 | ⟨_,j,k6,_⟩
  ·simp only; omega
  ·omega,h4.so⟩
 rw [Q9i hr]
 exact ⟨_,hr,rfl,rfl,by simp only; omega⟩
end Go.Abs
end
section
namespace Go.Abs
open Go
theorem Qbbw {α β:Type} {o:Option α} {K:α→Option β} {r:Option β} {P:α→Prop} (h:∃ v,o = some v∧P v) (hk:∀ v,P v→K v = r):o.bind K = r:=by
 obtain ⟨v,rfl,hv⟩:=h
 exact hk v hv
def upto (n:Int):List Int:=(List.range n.toNat).map fun (i:Nat)=>(i:Int)
theorem Qgp {n x:Int}:x∈upto n↔0≤x∧x < n:=by
 simp only [upto,List.mem_map,List.mem_range]
 constructor
 ·rintro ⟨i,hi,rfl⟩; omega
 ·rintro ⟨h1,h2⟩; exact ⟨x.toNat,by omega,by omega⟩
theorem Qxj (n:Int):(upto n).Pairwise (· < ·):=by
 unfold upto
 rw [List.pairwise_map]
 exact List.pairwise_lt_range.imp fun h=>by omega
theorem Qbw (n:Int):(upto n).length = n.toNat:=by simp [upto]
theorem Qje {n:Int} {i:Nat} (h:i < (upto n).length):(upto n)[i] = (i:Int):=by simp [upto]
theorem Qgh {X S R α:Type} {F:(X→Option R)→X→Option R} {fuel:Nat} {l:List α} (mk:Int→S→X) (stp:S→α→S) (I:Nat→S→Prop) (K:S→Option R) (hl:l.length < big) (hf:1099511627776≤fuel)
  (step:∀ (k:X→Option R) (n:Nat) (s:S) (h:n < l.length),I n s→F k (mk n s) = k (mk (IntKind.wrap .i64 ((n:Int) + 1)) (stp s l[n])))
  (keep:∀ (n:Nat) (s:S) (h:n < l.length),I n s→I (n + 1) (stp s l[n]))
  (last:∀ (k:X→Option R) (s:S),I l.length s→F k (mk l.length s) = K s) {s0:S} (h0:I 0 s0):Qcm F fuel (mk 0 s0) = K (l.foldl stp s0):=by
 have hb:l.length < 1000000000000:=hl
 have:=Ql8 (F:=F) (len:=l.length) (fun n s=>mk n s) I (fun n s=>K ((l.drop n).foldl stp s)) (fun k n s hn hi ih=>by
  rw [step k n s hn hi,Qce (by omega),ih _ (keep n s hn hi),List.drop_eq_getElem_cons hn,List.foldl_cons]) (fun k s hi=>by rw [last k s hi]; simp) fuel 0 s0 (Nat.zero_le _) (by omega) h0
 simpa using this
theorem Qbfa {S α:Type} {l:List α} {stp:S→α→S} {I:Nat→S→Prop} (keep:∀ (n:Nat) (s:S) (h:n < l.length),I n s→I (n + 1) (stp s l[n])) {s0:S} (h0:I 0 s0):I l.length (l.foldl stp s0):=by
 have:∀ (m n:Nat) (s:S),n + m = l.length→I n s→I l.length ((l.drop n).foldl stp s):=by
  intro m
  induction m with
  | zero =>
   intro n s hn hi
   obtain rfl:n = l.length:=by omega
   simpa using hi
  | succ m ih =>
   intro n s hn hi
   have hlt:n < l.length:=by omega
   rw [List.drop_eq_getElem_cons hlt,List.foldl_cons]
   exact ih (n + 1) _ (by omega) (keep n s hlt hi)
 simpa using this l.length 0 s0 (by omega) h0
theorem Q6e {X R α:Type} {F:(X→Option R)→X→Option R} {fuel:Nat} {l:List α} (mk:Int→X) (p:α→Bool) (hit:α→Option R) (K:Option R) (hl:l.length < big) (hf:1099511627776≤fuel)
  (step:∀ (k:X→Option R) (n:Nat) (h:n < l.length),F k (mk n) = if p l[n] then hit l[n] else k (mk (IntKind.wrap .i64 ((n:Int) + 1))))
  (last:∀ (k:X→Option R),F k (mk l.length) = K):Qcm F fuel (mk 0) = match l.find? p with | some x=>hit x | none=>K:=by
 have hb:l.length < 1000000000000:=hl
 have:=Ql8 (F:=F) (len:=l.length) (fun n (_:Unit)=>mk n) (fun _ _=>True) (fun n _=>match (l.drop n).find? p with | some x=>hit x | none=>K) (fun k n s hn hi ih=>by
  rw [step k n hn,Qce (by omega),ih () trivial,List.drop_eq_getElem_cons hn,List.find?_cons]
  cases p l[n] <;> simp) (fun k s hi=>by rw [last k]; simp) fuel 0 () (Nat.zero_le _) (by omega) trivial
 simpa using this
theorem Qbfb {X α:Type} {F:(X→Option Bool)→X→Option Bool} {fuel:Nat} {l:List α} (mk:Int→X) (p:α→Bool) (hl:l.length < big) (hf:1099511627776≤fuel)
  (step:∀ (k:X→Option Bool) (n:Nat) (h:n < l.length),F k (mk n) = if p l[n] then some true else k (mk (IntKind.wrap .i64 ((n:Int) + 1))))
  (last:∀ (k:X→Option Bool),F k (mk l.length) = some false):Qcm F fuel (mk 0) = some (l.any p):=by
 rw [Q6e mk p (fun _=>some true) (some false) hl hf step last]
 cases h:l.find? p with
 | none =>
  show some false = some (l.any p)
  rw [List.any_eq_false.2 (List.find?_eq_none.1 h)]
 | some x =>
  show some true = some (l.any p)
  rw [List.any_eq_true.2 ⟨x,List.mem_of_find?_eq_some h,List.find?_some h⟩]
def at0 {α:Type} (d:α) (l:List α) (x:Int):α:=l.getD x.toNat d
abbrev lf (L:List Bool) (x:Int):Bool:=at0 false L x
abbrev ati (l:List Int) (x:Int):Int:=at0 0 l x
theorem Qm3 {α:Type} {d:α} {l:List α} {x:Int} (h0:0≤x) (h1:x < l.length):getO l x = some (at0 d l x):=by
 have h:x.toNat < l.length:=by omega
 unfold getO at0
 rw [if_pos h0,List.getD_eq_getElem?_getD,List.getElem?_eq_getElem h]; rfl
theorem Qm4 {α:Type} {l:List α} {x:Int} {y:α} (h0:0≤x) (h1:x < l.length):setO l x y = some (l.set x.toNat y):=by
 unfold setO; rw [if_pos ⟨h0,by omega⟩]
theorem Qml {n:Nat} {x:Int} (h0:0≤x) (h1:x < n):inO n x = some ():=by
 unfold inO; rw [if_pos ⟨h0,h1⟩]
theorem Q2e {α:Type} {l:List α} {n:Nat} (h:l.length = n):lenO l n = some ():=by
 unfold lenO; rw [if_pos h]
theorem Qbhz {α:Type} {d:α} {l:List α} {x y:Int} {v:α} (hx:0≤x∧x < l.length) (hy:0≤y):at0 d (l.set x.toNat v) y = if y = x then v else at0 d l y:=by
 unfold at0
 simp only [List.getD_eq_getElem?_getD,List.getElem?_set]
 by_cases h:y = x
 ·subst h; rw [if_pos rfl,if_pos (by omega),if_pos rfl]; rfl
 ·rw [if_neg (by omega),if_neg h]
theorem Qbbx {l:List Int} {x y v:Int} (hx:0≤x∧x < l.length) (hy:0≤y):ati (l.set x.toNat v) y = if y = x then v else ati l y:=Qbhz hx hy
theorem Qblo {l:List Bool} {x y:Int} {v:Bool} (hx:0≤x∧x < l.length) (hy:0≤y):lf (l.set x.toNat v) y = if y = x then v else lf l y:=Qbhz hx hy
theorem Qblp {α β:Type} {d:α} {e:β} {f:α→β} {l:List α} {x:Int} (h0:0≤x) (h1:x < l.length):at0 e (l.map f) x = f (at0 d l x):=by
 have h:x.toNat < l.length:=by omega
 unfold at0
 simp [List.getD_eq_getElem?_getD,h]
theorem Qbh0 {α:Type} {d:α} {v:α} {n:Nat} {x:Int} (h0:0≤x) (h1:x < n):at0 d (List.replicate n v) x = v:=by
 have h:x.toNat < n:=by omega
 unfold at0
 simp [List.getD_eq_getElem?_getD,h]
theorem Q2f {α:Type} {d:α} {f:Int→α} {n x:Int} (h0:0≤x) (h1:x < n):at0 d ((upto n).map f) x = f x:=by
 have h:x.toNat < n.toNat:=by omega
 unfold at0 upto
 simp only [List.map_map,List.getD_eq_getElem?_getD,List.getElem?_map,List.getElem?_range h,Option.map_some,Option.getD_some,Function.comp]
 congr 1; omega
theorem Qbjw {α:Type} {d:α} {l:List α} {n:Nat} (h:n < l.length):at0 d l (n:Int) = l[n]:=by
 unfold at0; simp [List.getD_eq_getElem?_getD,h]
theorem Qbdd {α:Type} {d:α} {l m:List α} (hl:l.length = m.length) (h:∀ x:Int,0≤x→x < l.length→at0 d l x = at0 d m x):l = m:=by
 apply List.ext_getElem hl
 intro i h1 h2
 have:=h i (by omega) (by omega)
 rwa [Qbjw h1,Qbjw h2] at this
theorem Q9k {α:Type} {f:Int→α} {n:Int} {l:List α} (hl:l.length = n.toNat):(upto n).foldl (fun c i=>c.set i.toNat (f i)) l = (upto n).map f:=by
 have key:∀ (m:Nat),m≤n.toNat→((upto n).take m).foldl (fun c i=>c.set i.toNat (f i)) l = ((upto n).take m).map f ++ l.drop m:=by
  intro m
  induction m with
  | zero=>intro _; simp
  | succ m ih =>
   intro hm
   have h1:m < (upto n).length:=by rw [Qbw]; omega
   rw [List.take_succ_eq_append_getElem h1,List.foldl_append,ih (by omega),List.foldl_cons,List.foldl_nil,List.map_append,Qje h1]
   simp only [Int.toNat_natCast,List.map_cons,List.map_nil]
   have h2:(((upto n).take m).map f).length = m:=by rw [List.length_map,List.length_take,Qbw]; omega
   rw [List.set_append_right _ _ (by omega),h2,Nat.sub_self]
   have h3:m < l.length:=by omega
   rw [List.drop_eq_getElem_cons h3,List.set_cons_zero,List.append_assoc,List.singleton_append]
 have:=key n.toNat (Nat.le_refl _)
 rw [List.take_of_length_le (by rw [Qbw]; omega)] at this
 rw [this,List.drop_of_length_le (by omega),List.append_nil]
theorem Qbby {α β:Type} {f:β→Nat} {g:β→α}:∀ {l:List β} {c:List α},(l.foldl (fun c x=>c.set (f x) (g x)) c).length = c.length
 | [],c=>rfl
 | x :: l,c=>by rw [List.foldl_cons,Qbby (l:=l),List.length_set]
end Go.Abs
end
section
namespace Go.Abs
open Go
theorem Qbf1:Qin = some true:=by kernel_rfl
end Go.Abs
end
section
namespace Go.Abs
open Go
theorem Qbh1 {α:Type} [DecidableEq α] {s t:List α} {ne:α→α→Bool} (hne:∀ x y,ne x y = decide (x≠y)) (hl:s.length = t.length) (h:s.length < 1000000000000) :
  Qcm (fun k5 (i4:Int)=>(if (i4 < (s.length:Int)) then ((getO s i4).bind fun x7=>((getO t i4).bind fun x9=>(if ne x7 x9 then some false else k5 (IntKind.wrap .i64 (i4 + 1))))) else some true)) Qb4 0 = some (decide (s = t)):=by
 refine Q6b (fun i:Int=>∃ n:Nat,i = n∧n≤s.length∧s.take n = t.take n) (fun i=>s.length - i.toNat) _ ⟨0,rfl,by omega,by simp⟩ (by unfold Qb4; omega) ?_
 rintro k _ ⟨n,rfl,hn,he⟩ ih
 by_cases hlt:n < s.length
 ·rw [if_pos (by omega),Qcc hlt,Qcc (by omega:n < t.length)]
  simp only [Option.bind_some,hne]
  by_cases hx:s[n] = t[n]
  ·rw [if_neg (by simp [hx]),Qce (by omega)]
   exact ih _ ⟨n + 1,rfl,by omega,Qbc7 hlt (by omega) he hx⟩ (by omega)
  ·rw [if_pos (by simp [hx])]
   have:s≠t:=fun e=>hx (by subst e; rfl)
   simp [this]
 ·rw [if_neg (by omega)]
  have e:n = s.length:=by omega
  have:s = t:=by
   rw [e,List.take_length,hl,List.take_length] at he; exact he
  simp [this]
theorem Qbh2 {s t:List Int} (h:s.length < 1000000000000):Qhw s t = some (decide (s = t)):=by
 unfold Qhw Qcv
 by_cases hl:s.length = t.length
 ·rw [if_neg (by simp [hl])]
  exact Qbh1 (ne:=fun x y=>x != y) (fun x y=>by rw [Bool.eq_iff_iff]; simp) hl h
 ·rw [if_pos (by simp; omega)]
  have:s≠t:=fun e=>hl (by rw [e])
  simp [this]
end Go.Abs
end
section
namespace Go.Abs
open Go
theorem Qbky (x y:Int):Qi9 x y = some (decide (x < y)):=by
 unfold Qi9 Qd6 Qta Qdf
 simp
theorem Qbi2 (x:Int):Qhu x = some false:=by
 unfold Qhu Qcn
 simp
theorem Qbh3 {l:List Int} (h:l.Pairwise (· < ·)) (v:Int):l.Pairwise fun a b=>decide (b < v) = true→decide (a < v) = true :=
 h.imp fun h=>by simp; omega
theorem Qbh4 {l:List Int} {v:Int} (hs:l.Pairwise (· < ·)) (hl:l.length < big):∃ n,Qd7 l v = some (n,decide (v∈l)):=by
 have hc:=fun n h=>Qbam (p:=fun x:Int=>decide (x < v)) (Qbh3 hs v) n h
 have hcl:(l.filter fun x=>decide (x < v)).length≤l.length:=List.length_filter_le _ _
 generalize (l.filter fun x=>decide (x < v)).length = c at hc hcl
 have hb:l.length < 1000000000000:=hl
 unfold Qd7 Qbp
 obtain ⟨fuel,hfu,hge⟩ : ∃ f,Qb4 = f∧1099511627776≤f:=⟨_,rfl,Nat.le_refl _⟩
 rw [hfu]
 have hloop:=Qit (F:=fun (k5:Int×Int→Option Int) ((i3,j4):Int×Int)=>(if (i3 < j4) then ((getO l (IntKind.wrap .i64 (Int.fdiv (IntKind.wrap .u64 (IntKind.wrap .i64 (i3 + j4))) (2 ^ (min (Int.toNat 1) (IntKind.bits .u64)))))).bind fun x7=>((Qi9 x7 v).bind fun x10=>(if x10 then k5 ((IntKind.wrap .i64 ((IntKind.wrap .i64 (Int.fdiv (IntKind.wrap .u64 (IntKind.wrap .i64 (i3 + j4))) (2 ^ (min (Int.toNat 1) (IntKind.bits .u64))))) + 1)),j4) else k5 (i3,(IntKind.wrap .i64 (Int.fdiv (IntKind.wrap .u64 (IntKind.wrap .i64 (i3 + j4))) (2 ^ (min (Int.toNat 1) (IntKind.bits .u64))))))))) else some i3))
  (fun x=>∃ i j:Nat,x = ((i:Int),(j:Int))∧i≤c∧c≤j∧j≤l.length) (fun x=>(x.2 - x.1).toNat) (fun _ r=>r = some (c:Int)) (by
   rintro k _ ⟨i,j,rfl,h1,h2,h3⟩ ih
   dsimp only
   by_cases hij:i < j
   ·rw [if_pos (by omega),Qbln (by omega) (by omega)]
    have hm:(i + j) / 2 < l.length:=by omega
    rw [Qcc hm]
    simp only [Option.bind_some]
    rw [Qbky]
    simp only [Option.bind_some]
    have hcm:=hc ((i + j) / 2) hm
    by_cases hlt:l[(i + j) / 2] < v
    ·rw [if_pos (by simpa using hlt),Qce (by omega)]
     have:(i + j) / 2 < c:=hcm.1 (by simpa using hlt)
     exact ih _ ⟨_,_,rfl,by omega,h2,h3⟩ (by simp only; omega)
    ·rw [if_neg (by simpa using hlt)]
     have:¬ (i + j) / 2 < c:=fun h=>hlt (by simpa using hcm.2 h)
     exact ih _ ⟨_,_,rfl,h1,by omega,by omega⟩ (by simp only; omega)
   ·rw [if_neg (by omega)]
    have:i = c:=by omega
    rw [this]) fuel (0,(l.length:Int)) ⟨0,l.length,rfl,by omega,hcl,Nat.le_refl _⟩ (by simp only; omega)
 rw [hloop]
 simp only [Option.bind_some]
 have hmem:v∈l↔∃ h:c < l.length,l[c] = v:=by
  constructor
  ·intro hv
   obtain ⟨j,hj,rfl⟩:=List.getElem_of_mem hv
   have h1:¬ j < c:=fun h=>by have:=(hc j hj).2 h; simp at this
   have h2:c < l.length:=by omega
   refine ⟨h2,?_⟩
   have h3:¬ l[c] < l[j]:=fun h=>by have:=(hc c h2).1 (by simpa using h); omega
   rcases Nat.lt_or_ge c j with h | h
   ·have:=List.pairwise_iff_getElem.1 hs c j h2 hj h; omega
   ·have:c = j:=by omega
    subst this; rfl
  ·rintro ⟨h,rfl⟩; exact List.getElem_mem h
 by_cases hlt:c < l.length
 ·rw [if_pos (by omega),Qcc hlt]
  simp only [Option.bind_some]
  by_cases he:l[c] = v
  ·rw [if_pos (by simpa using he)]
   exact ⟨_,by rw [decide_eq_true (hmem.2 ⟨hlt,he⟩)]⟩
  ·rw [if_neg (by simpa using he),Qbi2]
   exact ⟨_,by rw [decide_eq_false (fun h=>he (hmem.1 h).2)]; rfl⟩
 ·rw [if_neg (by omega)]
  exact ⟨_,by rw [decide_eq_false (fun h=>hlt (hmem.1 h).1)]⟩
theorem Qbi3 {l:List Int} (hl:l.length≤lim):Qhv l = some l:=by
 unfold Qhv Qcu
 rw [Qdg (by simpa using hl)]
 cases l <;> simp [nilO]
structure Num (a:Qe) (o num:List Int):Prop where
 len:num.length = a.zM.toNat
 at1:∀ s:Nat,s < a.zM.toNat→num[s]? = some (if (s:Int)∈o then (o.idxOf (s:Int):Int) else -1)
theorem Num.set {a:Qe} {o num:List Int} (h:Num a o num) {t:Int} (ht:0≤t∧t < a.zM) (hn:t∉o):∃ num',setO num t (o.length:Int) = some num' ∧ Num a (o ++ [t]) num':=by
 refine ⟨num.set t.toNat (o.length:Int),by unfold setO; rw [if_pos ⟨ht.1,by rw [h.len]; omega⟩],by rw [List.length_set]; exact h.len,fun s hs=>?_⟩
 rw [List.getElem?_set]
 by_cases he:t.toNat = s
 ·subst he
  rw [if_pos rfl,if_pos (by rw [h.len]; omega),show ((t.toNat:Nat):Int) = t from by omega,if_pos (by simp),List.idxOf_append,if_neg hn]
  simp
 ·rw [if_neg he,h.at1 s hs]
  have hne:(s:Int)≠t:=by omega
  by_cases hm:(s:Int)∈o
  ·rw [if_pos hm,if_pos (by simp [hm]),List.idxOf_append,if_pos hm]
  ·rw [if_neg hm,if_neg (by simp [hm,hne])]
section
variable {a:Qe} (h:Right a)
include h
end
end Go.Abs
end
section
namespace Go.Abs
open Go
theorem Qcr {l:List Int} {v:Int} (hs:l.Pairwise (· < ·)) (hl:l.length < big):Qbz l v = some (decide (v∈l)):=by
 unfold Qbz Qj
 obtain ⟨n,h⟩:=Qbh4 (v:=v) hs hl
 rw [h]; rfl
theorem Qy8 {l:List Int} {n:Int} (hl:l.length < big):Qfb l n = some (Qda n none l):=by
 unfold Qfb Qbb
 refine (Qtd (len:=l.length) (fun k=>some (Qda n (ahead l k) (l.drop k))) (by unfold Qb4; unfold big at hl; omega) ?_ ?_).trans (by simp [Qry])
 ·intro k i hi ih
  have hb:i < 1000000000000:=by unfold big at hl; omega
  rw [Q7l hi]
  try dsimp only
  rw [if_pos (by omega),Qcc hi,Qce (by omega),ih]
  simp only [Option.bind_some]
  by_cases h1:l[i] < 0
  ·simp [h1]
  ·by_cases h2:l[i]≥n
   ·simp [h1,h2]
   ·by_cases h0:0 < i
    ·rw [Q9d h0 (by omega),Qcc (by omega:i - 1 < l.length),Q9e l h0 (by omega)]
     by_cases h3:l[i]≤l[i - 1] <;> simp [h1,h2,h3,h0]
    ·obtain rfl:i = 0:=by omega
     simp [h1,h2,Qry]
 ·intro k; simp [Qda]
theorem Q72 {l:List Int} {v:Int} (hl:l.length < big):Qdm l v = some (decide (v∈l)):=by
 have hb:l.length < 1000000000000:=hl
 unfold Qdm Qt
 obtain ⟨fuel,hfu,hge⟩ : ∃ f,Qb4 = f∧1099511627776≤f:=⟨_,rfl,Nat.le_refl _⟩
 rw [hfu]
 refine (Qbfb (fun x=>x) (fun y=>y == v) hl hge (fun k n hn=>?_) (fun k=>?_)).trans ?_
 ·try dsimp only
  rw [if_pos (by omega),Qcc hn]; rfl
 ·try dsimp only
  rw [if_neg (by omega)]
 ·congr 1; rw [Bool.eq_iff_iff,List.any_eq_true]; simp
theorem Qbar {α:Type} {l:List α} {f:α→Option Bool} {p:α→Bool} (hf:∀ x∈l,f x = some (p x)) (hl:l.length < big) {fuel:Nat} (hge:1099511627776≤fuel) :
  ∃ i:Int,Qcm (fun (k:Int→Option Int) (x:Int)=>(if (x < (l.length:Int)) then ((getO l x).bind fun x6=>((f x6).bind fun x9=>(if x9 then some x else k (IntKind.wrap .i64 (x + 1))))) else some (-1))) fuel 0 = some i∧decide (i≥0) = l.any p:=by
 have hb:l.length < 1000000000000:=hl
 have:=Qit (F:=fun (k:Int→Option Int) (x:Int)=>(if (x < (l.length:Int)) then ((getO l x).bind fun x6=>((f x6).bind fun x9=>(if x9 then some x else k (IntKind.wrap .i64 (x + 1))))) else some (-1)))
  (fun x=>∃ n:Nat,x = n∧n≤l.length) (fun x=>l.length - x.toNat) (fun x r=>∀ n:Nat,x = n→∃ i:Int,r = some i∧decide (i≥0) = (l.drop n).any p) (by
   rintro k _ ⟨n,rfl,hn⟩ ih m hm
   obtain rfl:n = m:=by omega
   by_cases hlt:n < l.length
   ·rw [if_pos (by omega),Qcc hlt]
    simp only [Option.bind_some,hf _ (List.getElem_mem hlt)]
    rw [List.drop_eq_getElem_cons hlt,List.any_cons]
    cases hp:p l[n] with
    | true=>exact ⟨n,by simp,by simp⟩
    | false =>
     rw [Qce (by omega)]
     obtain ⟨i,h1,h2⟩:=ih ((n + 1:Nat):Int) ⟨n + 1,rfl,hlt⟩ (by omega) (n + 1) rfl
     exact ⟨i,by simpa using h1,by rw [h2]; simp⟩
   ·rw [if_neg (by omega)]
    exact ⟨-1,rfl,by rw [List.drop_of_length_le (by omega)]; rfl⟩) fuel 0 ⟨0,rfl,Nat.zero_le _⟩ (by simp; omega) 0 rfl
 simpa using this
theorem Q2g {l:List Qc} {f:Qc→Option Bool} {p:Qc→Bool} (hf:∀ x∈l,f x = some (p x)) (hl:l.length < big):Qcp l f = some (l.any p):=by
 unfold Qcp Qq Qgo Qbv
 obtain ⟨fuel,hfu,hge⟩ : ∃ f,Qb4 = f∧1099511627776≤f:=⟨_,rfl,Nat.le_refl _⟩
 rw [hfu]
 obtain ⟨i,h1,h2⟩:=Qbar hf hl hge
 rw [h1,Option.bind_some,h2]
theorem Qbde {l:List Int} {f:Int→Option Bool} {p:Int→Bool} (hf:∀ x∈l,f x = some (p x)) (hl:l.length < big):Qd9 l f = some (l.any p):=by
 unfold Qd9 Qbr Qhq Qb2
 obtain ⟨fuel,hfu,hge⟩ : ∃ f,Qb4 = f∧1099511627776≤f:=⟨_,rfl,Nat.le_refl _⟩
 rw [hfu]
 obtain ⟨i,h1,h2⟩:=Qbar hf hl hge
 rw [h1,Option.bind_some,h2]
structure SetP (n:Int) (l:List Int):Prop where
 rg:∀ x∈l,0≤x∧x < n
 so:l.Pairwise (· < ·)
theorem Qrt {n:Int} {l:List Int}:Qda n none l = 0↔SetP n l :=
 ⟨fun h=>⟨(Qgj.1 h).1,(Qgj.1 h).2.1⟩,fun h=>Qgj.2 ⟨h.rg,h.so,fun _ h=>by cases h⟩⟩
structure RightP (p:Qb):Prop where
 a:Right p.zA
 fo:SetP p.zA.zM p.zC
 un:SetP 32 p.zB
 fc:SetP 32 p.zD
 ti:0≤p.Tick∧p.Tick < 32
 tu:p.Tick∉p.zB
 tf:p.Tick∉p.zD
def Qbjx (p:Qb):Prop:=small p.zA∧p.zC.length < big∧p.zB.length < big∧p.zD.length < big
theorem SetP.small {n:Int} {l:List Int} (h:SetP n l) (hn:n≤4096):l.length≤4096:=by
 have:=Qiu h.so h.rg; omega
theorem RightP.small {p:Qb} (h:RightP p):Qbjx p:=by
 have h1:=h.fo.small h.a.st.2
 have h2:=h.un.small (by omega)
 have h3:=h.fc.small (by omega)
 refine ⟨h.a.small.1,?_,?_,?_⟩ <;> (unfold big; omega)
def Qbfc (p:Qb):Int :=
 if Qtv p.zA≠0 then Qtv p.zA else if Qda p.zA.zM none p.zC≠0 then Qda p.zA.zM none p.zC else
 if Qda 32 none p.zB≠0 then Qda 32 none p.zB else if Qda 32 none p.zD≠0 then Qda 32 none p.zD else
 if p.Tick < 0∨p.Tick≥32 then 2 else if p.Tick∈p.zB∨p.Tick∈p.zD then 13 else 0
theorem Qbas {p:Qb}:Qbfc p = 0↔RightP p:=by
 unfold Qbfc
 constructor
 ·intro h
  by_cases h1:Qtv p.zA = 0
  ·by_cases h2:Qda p.zA.zM none p.zC = 0
   ·by_cases h3:Qda 32 none p.zB = 0
    ·by_cases h4:Qda 32 none p.zD = 0
     ·by_cases h5:p.Tick < 0∨p.Tick≥32
      ·rw [if_neg (by simp [h1]),if_neg (by simp [h2]),if_neg (by simp [h3]),if_neg (by simp [h4]),if_pos h5] at h; omega
      ·by_cases h6:p.Tick∈p.zB∨p.Tick∈p.zD
       ·rw [if_neg (by simp [h1]),if_neg (by simp [h2]),if_neg (by simp [h3]),if_neg (by simp [h4]),if_neg h5,if_pos h6] at h; omega
       ·exact ⟨Qbc8.1 h1,Qrt.1 h2,Qrt.1 h3,Qrt.1 h4,by omega,fun h=>h6 (.inl h),fun h=>h6 (.inr h)⟩
     ·rw [if_neg (by simp [h1]),if_neg (by simp [h2]),if_neg (by simp [h3]),if_pos h4] at h; exact absurd h h4
    ·rw [if_neg (by simp [h1]),if_neg (by simp [h2]),if_pos h3] at h; exact absurd h h3
   ·rw [if_neg (by simp [h1]),if_pos h2] at h; exact absurd h h2
  ·rw [if_pos h1] at h; exact absurd h h1
 ·intro h
  have:=h.ti
  rw [if_neg (by simp [Qbc8.2 h.a]),if_neg (by simp [Qrt.2 h.fo]),if_neg (by simp [Qrt.2 h.un]),if_neg (by simp [Qrt.2 h.fc]),if_neg (by omega),if_neg (fun hh=>hh.elim h.tu h.tf)]
theorem Q6f {p:Qb} (h:Qbjx p):Qdz p = some (Qbfc p):=by
 obtain ⟨hs,hf,hu,hc⟩:=h
 have nb:∀ x:Int,x = 0→¬ ((x != 0) = true):=fun x h=>by simp [h]
 have pb:∀ x:Int,x≠0→((x != 0) = true):=fun x h=>by simpa using h
 have nn:∀ x:Int,x = 0→¬ (x≠0):=fun x h=>by simp [h]
 unfold Qdz Q4 Qbfc
 rw [Qbiz hs,Option.bind_some]
 by_cases h1:Qtv p.zA = 0
 ·rw [if_neg (nb _ h1),if_neg (nn _ h1),Qy8 hf,Option.bind_some]
  by_cases h2:Qda p.zA.zM none p.zC = 0
  ·rw [if_neg (nb _ h2),if_neg (nn _ h2)]
   obtain ⟨n,hn⟩ : ∃ n,Qb4 = n + 3:=⟨1099511627773,rfl⟩
   rw [hn]
   simp only [Qcm]
   have e0:getO [p.zB,p.zD] 0 = some p.zB:=rfl
   have e1:IntKind.wrap .i64 ((0:Int) + 1) = 1:=by decide
   have e2:getO [p.zB,p.zD] 1 = some p.zD:=rfl
   have e3:IntKind.wrap .i64 ((1:Int) + 1) = 2:=by decide
   simp only [e0,e1,e2,e3]
   rw [if_pos (show (0:Int) < 2 by omega),Option.bind_some,Qy8 hu,Option.bind_some]
   by_cases h3:Qda 32 none p.zB = 0
   ·rw [if_neg (nb _ h3),if_neg (nn _ h3),if_pos (show (1:Int) < 2 by omega),Option.bind_some,Qy8 hc,Option.bind_some]
    by_cases h4:Qda 32 none p.zD = 0
    ·rw [if_neg (nb _ h4),if_neg (nn _ h4),if_neg (show ¬ (2:Int) < 2 by omega)]
     unfold Qfj Qy
     by_cases h5:p.Tick < 0
     ·rw [if_neg (show ¬ p.Tick≥0 by omega),if_pos (show p.Tick < 0∨p.Tick≥32 from .inl h5)]; rfl
     ·rw [if_pos (show p.Tick≥0 by omega),Option.bind_some]
      by_cases h6:p.Tick≥32
      ·rw [if_neg (show ¬ decide (p.Tick < 32) = true by simpa using h6),if_pos (show p.Tick < 0∨p.Tick≥32 from .inr h6)]
      ·rw [if_pos (show decide (p.Tick < 32) = true by simpa using h6),if_neg (show ¬ (p.Tick < 0∨p.Tick≥32) by omega),Qcr (Qrt.1 h3).so hu,Qcr (Qrt.1 h4).so hc]
       by_cases h7:p.Tick∈p.zB
       ·simp [h7]
       ·by_cases h8:p.Tick∈p.zD <;> simp [h7,h8]
    ·rw [if_pos (pb _ h4),if_pos h4]
   ·rw [if_pos (pb _ h3),if_pos h3]
  ·rw [if_pos (pb _ h2),if_pos h2]
 ·rw [if_pos (pb _ h1),if_pos h1]
def Q47 (p:Qb):List (List Qc):=(upto p.zA.zM).map (outP p.zA)
def tsk (p:Qb) (L:List Bool):Qf:=⟨p,Q47 p,L⟩
def Qgq (p:Qb) (L:List Bool) (s:Int):Bool:=(outP p.zA s).any fun y=>lf L y.To && decide (y.Event∈p.zD)
def Qjb (p:Qb) (L:List Bool) (s:Int):Bool:=(outP p.zA s).any fun y=>(y.Event == p.Tick) && !lf L y.To
def escP (p:Qb) (L:List Bool) (s:Int):Int×Int :=
 match (outP p.zA s).find? (fun y=>!lf L y.To && decide (y.Event∈p.zB)) with
 | some y=>(2,y.Event)
 | none=>if Qjb p L s && !Qgq p L s then (4,p.Tick) else (0,-1)
section
variable {p:Qb} (hp:RightP p) {L:List Bool} (hL:L.length = p.zA.zM.toNat) {s:Int} (hs:0≤s∧s < p.zA.zM)
include hp
theorem Qvm:∀ y∈outP p.zA s,(0≤y.To∧y.To < p.zA.zM)∧y.From = s∧y∈p.zA.zL:=fun y hy=>by
 have h1:=List.mem_filter.1 hy
 have h2:=hp.a.ed0 y h1.1
 exact ⟨⟨h2.2.2.1,h2.2.2.2.1⟩,by simpa using h1.2,h1.1⟩
theorem Q6g (s:Int):(outP p.zA s).length < big:=Nat.lt_of_le_of_lt (List.length_filter_le _ _) hp.a.small.1.2.2
include hs
omit hp in
theorem Q69:inO (Q47 p).length s = some ()∧getO (Q47 p) s = some (outP p.zA s):=by
 have hl:(Q47 p).length = p.zA.zM.toNat:=by unfold Q47; rw [List.length_map,Qbw]
 refine ⟨Qml hs.1 (by omega),?_⟩
 rw [Qm3 (d:=[]) hs.1 (by omega)]
 unfold Q47
 rw [Q2f hs.1 hs.2]
omit hp hs in
include hL in
theorem Qqf {x:Int} (hx:0≤x∧x < p.zA.zM):inO L.length x = some ()∧getO L x = some (lf L x) :=
 ⟨Qml hx.1 (by omega),Qm3 hx.1 (by omega)⟩
include hL
theorem Qbh5:Qdp (tsk p L) s = some (Qgq p L s):=by
 unfold Qdp Qbe tsk
 simp only [Q69 hs,Option.bind_some]
 rw [Q2g (p:=fun y=>lf L y.To && decide (y.Event∈p.zD)) (fun y hy=>?_) (Q6g hp s)]
 ·rfl
 ·have h1:=Qqf hL (Qvm hp y hy).1
  unfold Qei Q8
  simp only [h1,Option.bind_some]
  rw [Qcr hp.fc.so hp.small.2.2.2]
  cases lf L y.To <;> simp
theorem Qbdf:Qcw (tsk p L) s = some (escP p L s):=by
 unfold Qcw Qv
 obtain ⟨fuel,hfu,hge⟩ : ∃ f,Qb4 = f∧1099511627776≤f:=⟨_,rfl,Nat.le_refl _⟩
 rw [hfu]
 rw [show (tsk p L).from_ = Q47 p from rfl,show (tsk p L).left_ = L from rfl,show (tsk p L).zN = p from rfl]
 simp only [Q69 hs,Option.bind_some]
 rw [Qbh5 hp hL hs]
 rw [Q2g (p:=fun y=>(y.Event == p.Tick) && !lf L y.To) (fun y hy=>by
  have h1:=Qqf hL (Qvm hp y hy).1
  unfold Qeh Q7
  rw [show (tsk p L).left_ = L from rfl,show (tsk p L).zN = p from rfl]
  simp only [h1,Option.bind_some]
  cases hq:y.Event == p.Tick <;> simp) (Q6g hp s)]
 refine (Q6e (fun x=>x) (fun y=>!lf L y.To && decide (y.Event∈p.zB)) (fun y=>some (2,y.Event)) (some (if Qjb p L s && !Qgq p L s then (4,p.Tick) else (0,-1))) (Q6g hp s) hge (fun k n hn=>?_) (fun k=>?_)).trans ?_
 ·try dsimp only
  have h1:=Qqf hL (Qvm hp _ (List.getElem_mem hn)).1
  rw [if_pos (by omega),Qcc hn]
  simp only [h1,Option.bind_some]
  rw [Qcr hp.un.so hp.small.2.2.1]
  cases lf L (outP p.zA s)[n].To <;> simp
 ·try dsimp only
  rw [if_neg (by omega)]
  show (((if Qjb p L s then _ else _):Option Bool).bind _) = _
  cases Qjb p L s <;> cases Qgq p L s <;> rfl
 ·unfold escP
  cases (outP p.zA s).find? _ <;> rfl
end
end Go.Abs
end
section
namespace Go.Abs
open Go
def Qd1 (R:List Int):List Bool:=R.map (· == 0)
theorem Qbdg (R:List Int):(Qd1 R).length = R.length:=List.length_map ..
theorem Qbfd {R:List Int} {x:Int} (h0:0≤x) (h1:x < R.length):lf (Qd1 R) x = (ati R x == 0):=by
 unfold Qd1; exact Qblp h0 h1
structure Qbi4 (p:Qb) (R:List Int):Prop where
 ln:R.length = p.zA.zM.toNat
 nn:∀ x:Int,0≤x→x < p.zA.zM→0≤ati R x
def Qbi5 (p:Qb) (R:List Int) (s:Int):Int×Int:=if (escP p (Qd1 R) s).1 = 0 then (0,0) else escP p (Qd1 R) s
section
variable {p:Qb} (hp:RightP p) {R:List Int} (hR:Qbi4 p R) {s:Int} (T:List Qd) (r:Int)
include hR in
theorem Q7a {x:Int} (hx:0≤x∧x < p.zA.zM):inO R.length x = some ()∧getO R x = some (ati R x)∧(ati R x == 0) = lf (Qd1 R) x∧decide (ati R x > 0) = !lf (Qd1 R) x:=by
 have h1:=hR.ln
 have h2:=hR.nn x hx.1 hx.2
 have h3:=Qbfd (R:=R) hx.1 (by omega)
 refine ⟨Qml hx.1 (by omega),Qm3 hx.1 (by omega),h3.symm,?_⟩
 rw [h3,Bool.eq_iff_iff]
 simp; omega
include hp hR
theorem Qbh6:Qdq ⟨p,R,T,r⟩ s = some (Qgq p (Qd1 R) s):=by
 unfold Qdq Qbf
 obtain ⟨fuel,hfu,hge⟩ : ∃ f,Qb4 = f∧1099511627776≤f:=⟨_,rfl,Nat.le_refl _⟩
 rw [hfu]
 refine (Qbfb (l:=p.zA.zL) (fun x=>x) (fun y=>(y.From == s) && (lf (Qd1 R) y.To && decide (y.Event∈p.zD))) hp.a.small.1.2.2 hge (fun k n hn=>?_) (fun k=>?_)).trans ?_
 ·have h1:=hp.a.ed0 _ (List.getElem_mem hn)
  have h2:=Q7a hR ⟨h1.2.2.1,h1.2.2.2.1⟩
  dsimp only
  rw [if_pos (by omega),Qcc hn]
  simp only [h2,Option.bind_some]
  rw [Q72 hp.small.2.2.2]
  cases p.zA.zL[n].From == s <;> cases lf (Qd1 R) p.zA.zL[n].To <;> by_cases h3:p.zA.zL[n].Event∈p.zD <;> simp [h3]
 ·dsimp only; rw [if_neg (by omega)]
 ·unfold Qgq outP
  rw [List.any_filter]
theorem Qbkz:Qdy ⟨p,R,T,r⟩ s = some (Qbi5 p R s):=by
 unfold Qdy Qbn
 obtain ⟨fuel,hfu,hge⟩ : ∃ f,Qb4 = f∧1099511627776≤f:=⟨_,rfl,Nat.le_refl _⟩
 rw [hfu,Qbh6 hp hR T r]
 have hin:Qcm (fun k23 (x22:Int)=>(if (x22 < (p.zA.zL.length:Int)) then ((getO p.zA.zL x22).bind fun x25=>(((if (x25.From == s) then (if (x25.Event == p.Tick) then ((inO R.length x25.To).bind fun u29=>((getO R x25.To).bind fun x31=>(if (x31 > 0) then ((some (Qgq p (Qd1 R) s)).bind fun x35=>some (!x35)) else some false))) else some false) else some false)).bind fun (x36:Bool)=>(if x36 then some ((4:Int),x25.Event) else k23 (IntKind.wrap .i64 (x22 + 1))))) else some (0,0))) fuel 0 = some (if Qjb p (Qd1 R) s && !Qgq p (Qd1 R) s then (4,p.Tick) else (0,0)):=by
  refine (Q6e (l:=p.zA.zL) (fun x=>x) (fun y=>(y.From == s) && ((y.Event == p.Tick) && (!lf (Qd1 R) y.To && !Qgq p (Qd1 R) s))) (fun y=>some (4,y.Event)) (some (0,0)) hp.a.small.1.2.2 hge (fun k n hn=>?_) (fun k=>?_)).trans ?_
  ·have h1:=hp.a.ed0 _ (List.getElem_mem hn)
   have h2:=Q7a hR ⟨h1.2.2.1,h1.2.2.2.1⟩
   rw [if_pos (by omega),Qcc hn]
   simp only [h2,Option.bind_some]
   have h3:=h2.2.2.2
   have h4:(ati R p.zA.zL[n].To > 0)↔lf (Qd1 R) p.zA.zL[n].To = false:=by
    rw [← decide_eq_true_iff (p:=ati R p.zA.zL[n].To > 0),h3]; simp
   simp only [h4]
   cases p.zA.zL[n].From == s <;> cases p.zA.zL[n].Event == p.Tick <;> cases lf (Qd1 R) p.zA.zL[n].To <;> cases Qgq p (Qd1 R) s <;> simp
  ·rw [if_neg (by omega)]
  ·cases hf:p.zA.zL.find? (fun y=>(y.From == s) && ((y.Event == p.Tick) && (!lf (Qd1 R) y.To && !Qgq p (Qd1 R) s))) with
   | none =>
    have:(Qjb p (Qd1 R) s && !Qgq p (Qd1 R) s) = false:=by
     rw [List.find?_eq_none] at hf
     rw [Bool.eq_false_iff]
     intro h
     rw [Bool.and_eq_true] at h
     obtain ⟨h1,h2⟩:=h
     unfold Qjb outP at h1
     rw [List.any_filter,List.any_eq_true] at h1
     obtain ⟨y,h3,h4⟩:=h1
     refine hf y h3 ?_
     simp only [Bool.and_eq_true] at h4 ⊢
     exact ⟨h4.1,h4.2.1,h4.2.2,h2⟩
    rw [this]; rfl
   | some y =>
    have h1:=List.find?_some hf
    have h2:=List.mem_of_find?_eq_some hf
    simp only [Bool.and_eq_true,beq_iff_eq] at h1
    have:(Qjb p (Qd1 R) s && !Qgq p (Qd1 R) s) = true:=by
     rw [Bool.and_eq_true]
     refine ⟨?_,h1.2.2.2⟩
     unfold Qjb outP
     rw [List.any_filter,List.any_eq_true]
     exact ⟨y,h2,by simp [h1.1,h1.2.1]; simpa using h1.2.2.1⟩
    rw [this]
    show some ((4:Int),y.Event) = some (4,p.Tick)
    rw [h1.2.1]
 refine (Q6e (l:=p.zA.zL) (fun x=>x) (fun y=>(y.From == s) && (!lf (Qd1 R) y.To && decide (y.Event∈p.zB))) (fun y=>some (2,y.Event)) (some (if Qjb p (Qd1 R) s && !Qgq p (Qd1 R) s then (4,p.Tick) else (0,0))) hp.a.small.1.2.2 hge (fun k n hn=>?_) (fun k=>?_)).trans ?_
 ·have h1:=hp.a.ed0 _ (List.getElem_mem hn)
  have h2:=Q7a hR ⟨h1.2.2.1,h1.2.2.2.1⟩
  dsimp only
  rw [if_pos (by omega),Qcc hn]
  simp only [h2,Option.bind_some]
  rw [Q72 hp.small.2.2.1]
  cases p.zA.zL[n].From == s <;> cases lf (Qd1 R) p.zA.zL[n].To <;> by_cases h3:p.zA.zL[n].Event∈p.zB <;> simp [h3]
 ·dsimp only; rw [if_neg (by omega)]; exact hin
 ·unfold Qbi5 escP outP
  rw [List.find?_filter]
  have:(fun x:Qc=>decide ((x.From == s) = true∧(!lf (Qd1 R) x.To && decide (x.Event∈p.zB)) = true)) = fun y=>(y.From == s) && (!lf (Qd1 R) y.To && decide (y.Event∈p.zB)):=by
   funext x; rw [Bool.eq_iff_iff]; simp
  rw [this]
  cases p.zA.zL.find? _ with
  | some y=>rfl
  | none =>
   simp only
   cases Qjb p (Qd1 R) s <;> cases Qgq p (Qd1 R) s <;> rfl
end
end Go.Abs
end
section
namespace Go.Abs
open Go
def Qbeg (p:Qb) (L:List Bool):List Int:=(upto p.zA.zM).map fun i=>if lf L i && decide (i∈p.zA.zK) then 0 else -1
def Q48 (L:List Bool) (d:Int) (out:List Int) (x:Qc):Bool:=lf L x.From && (lf L x.To && (decide (ati out x.From < 0) && (ati out x.To == d)))
def Qm5 (L:List Bool) (d:Int) (out:List Int) (x:Qc):List Int:=if Q48 L d out x then out.set x.From.toNat (d + 1) else out
def dN (p:Qb) (L:List Bool):Nat→List Int
 | 0=>Qbeg p L
 | k + 1=>p.zA.zL.foldl (Qm5 L (k:Int)) (dN p L k)
def Qk1 (p:Qb) (L:List Bool):List Int:=dN p L p.zA.zM.toNat
structure Grow (p:Qb) (L:List Bool) (d:Int) (out out' : List Int):Prop where
 ln:out'.length = out.length
 vl:∀ y,0≤y→y < p.zA.zM→ati out' y = ati out y∨(ati out y < 0∧ati out' y = d + 1∧lf L y = true∧∃ e∈p.zA.zL,e.From = y∧lf L e.To = true∧ati out e.To = d)
section
variable {p:Qb} (hp:RightP p) {L:List Bool} {d:Int} (hd:0≤d)
theorem Grow.refl (out:List Int):Grow p L d out out:=⟨rfl,fun _ _ _=>.inl rfl⟩
include hp hd
theorem Grow.trans {a b c:List Int} (h:Grow p L d a b) (k:Grow p L d b c):Grow p L d a c:=by
 refine ⟨k.ln.trans h.ln,fun y h0 h1=>?_⟩
 rcases k.vl y h0 h1 with e | ⟨k1,k2,k3,e,he,k4,k5,k6⟩
 ·rw [e]; exact h.vl y h0 h1
 ·rcases h.vl y h0 h1 with e1 | ⟨_,e1,_⟩
  ·refine .inr ⟨by omega,k2,k3,e,he,k4,k5,?_⟩
   have hr:=hp.a.ed0 e he
   rcases h.vl e.To hr.2.2.1 hr.2.2.2.1 with e2 | ⟨_,e2,_⟩ <;> omega
  ·omega
theorem Q2u {out:List Int} (hl:out.length = p.zA.zM.toNat) {x:Qc} (hx:x∈p.zA.zL):Grow p L d out (Qm5 L d out x):=by
 unfold Qm5
 cases hc:Q48 L d out x with
 | false=>exact Grow.refl out
 | true =>
  have hr:=hp.a.ed0 x hx
  unfold Q48 at hc
  simp only [Bool.and_eq_true,decide_eq_true_eq,beq_iff_eq] at hc
  refine ⟨by simp,fun y h0 h1=>?_⟩
  simp only [if_true]
  rw [Qbbx ⟨hr.1,by omega⟩ h0]
  by_cases hy:y = x.From
  ·subst hy
   rw [if_pos rfl]
   exact .inr ⟨hc.2.2.1,rfl,hc.1,x,hx,rfl,hc.2.1,hc.2.2.2⟩
  ·rw [if_neg hy]; exact .inl rfl
theorem Q6h:∀ {l:List Qc} {out:List Int},(∀ x∈l,x∈p.zA.zL)→out.length = p.zA.zM.toNat→Grow p L d out (l.foldl (Qm5 L d) out)
 | [],out,_,_=>Grow.refl out
 | x :: l,out,hm,hl=>by
  have h1:=Q2u (L:=L) hp hd hl (hm x (by simp))
  exact h1.trans hp hd (Q6h (l:=l) (fun y hy=>hm y (by simp [hy])) (by rw [h1.ln,hl]))
theorem Qbfe:∀ {l:List Qc} {out:List Int},(∀ x∈l,x∈p.zA.zL)→out.length = p.zA.zM.toNat→∀ e∈l,lf L e.From = true→lf L e.To = true→ati (l.foldl (Qm5 L d) out) e.To = d→0≤ati (l.foldl (Qm5 L d) out) e.From
 | [],_,_,_,_,he,_,_,_=>by cases he
 | x :: l,out,hm,hl,e,he,h1,h2,h3=>by
  have g1:=Q2u (L:=L) hp hd hl (hm x (by simp))
  have hl1:(Qm5 L d out x).length = p.zA.zM.toNat:=by rw [g1.ln,hl]
  have g2:=Q6h (L:=L) hp hd (l:=l) (fun y hy=>hm y (by simp [hy])) hl1
  rw [List.foldl_cons] at h3 ⊢
  rcases List.mem_cons.1 he with rfl | he
  ·have hr:=hp.a.ed0 e (hm e (by simp))
   have k1:ati out e.To = d:=by
    rcases g2.vl e.To hr.2.2.1 hr.2.2.2.1 with q | ⟨_,q,_⟩ <;> rcases g1.vl e.To hr.2.2.1 hr.2.2.2.1 with q' | ⟨_,q',_⟩ <;> omega
   have k2:0≤ati (Qm5 L d out e) e.From:=by
    by_cases hn:ati out e.From < 0
    ·have hc:Q48 L d out e = true:=by unfold Q48; simp [h1,h2,hn,k1]
     unfold Qm5
     rw [hc,if_pos rfl,Qbbx ⟨hr.1,by omega⟩ hr.1,if_pos rfl]; omega
    ·rcases g1.vl e.From hr.1 hr.2.1 with q | ⟨q,_⟩ <;> omega
   rcases g2.vl e.From hr.1 hr.2.1 with q | ⟨q,_⟩ <;> omega
  ·exact Qbfe (fun y hy=>hm y (by simp [hy])) hl1 e he h1 h2 h3
end
structure DI (p:Qb) (L:List Bool) (k:Int) (out:List Int):Prop where
 ln:out.length = p.zA.zM.toNat
 rg:∀ y,0≤y→y < p.zA.zM→ati out y = -1∨0≤ati out y∧ati out y≤k
 lv:∀ y,0≤y→y < p.zA.zM→0≤ati out y→lf L y = true
 z:∀ y,0≤y→y < p.zA.zM→(ati out y = 0↔lf L y = true∧y∈p.zA.zK)
 ps:∀ y,0≤y→y < p.zA.zM→0 < ati out y→∃ e∈p.zA.zL,e.From = y∧lf L e.To = true∧ati out e.To = ati out y - 1
 cl:∀ e∈p.zA.zL,lf L e.From = true→0≤ati out e.To→ati out e.To < k→0≤ati out e.From
section
variable {p:Qb} (hp:RightP p) (L:List Bool)
theorem Qbi6 {y:Int} (h0:0≤y) (h1:y < p.zA.zM):ati (Qbeg p L) y = if lf L y && decide (y∈p.zA.zK) then 0 else -1:=Q2f h0 h1
include hp
theorem Qbdh:∀ k:Nat,DI p L (k:Int) (dN p L k)
 | 0=>by
  refine ⟨by simp [dN,Qbeg,Qbw],fun y h0 h1=>?_,fun y h0 h1 h2=>?_,fun y h0 h1=>?_,fun y h0 h1 h2=>?_,fun e he h2 h3 h4=>by omega⟩
  all_goals simp only [dN] at *
  all_goals rw [Qbi6 L h0 h1] at *
  all_goals cases hl:lf L y <;> by_cases hm:y∈p.zA.zK <;> simp_all
 | k + 1=>by
  have ih:=Qbdh k
  have hd:(0:Int)≤(k:Int):=by omega
  have g:=Q6h (L:=L) hp hd (l:=p.zA.zL) (out:=dN p L k) (fun _ h=>h) ih.ln
  have c:=Qbfe (L:=L) hp hd (l:=p.zA.zL) (out:=dN p L k) (fun _ h=>h) ih.ln
  change Grow p L (k:Int) (dN p L k) (dN p L (k + 1)) at g
  have c:∀ e∈p.zA.zL,lf L e.From = true→lf L e.To = true→ati (dN p L (k + 1)) e.To = k→0≤ati (dN p L (k + 1)) e.From:=c
  refine ⟨by rw [g.ln,ih.ln],fun y h0 h1=>?_,fun y h0 h1 h2=>?_,fun y h0 h1=>?_,fun y h0 h1 h2=>?_,fun e he h2 h3 h4=>?_⟩
  ·rcases g.vl y h0 h1 with q | ⟨_,q,_⟩
   ·rw [q]; rcases ih.rg y h0 h1 with r | r
    ·exact .inl r
    ·exact .inr ⟨r.1,by omega⟩
   ·exact .inr ⟨by omega,by omega⟩
  ·rcases g.vl y h0 h1 with q | ⟨_,_,q,_⟩
   ·exact ih.lv y h0 h1 (by omega)
   ·exact q
  ·rw [← ih.z y h0 h1]
   rcases g.vl y h0 h1 with q | ⟨_,q,_⟩ <;> omega
  ·rcases g.vl y h0 h1 with q | ⟨_,q,_,e,he,q1,q2,q3⟩
   ·obtain ⟨e,he,q1,q2,q3⟩:=ih.ps y h0 h1 (by omega)
    have hr:=hp.a.ed0 e he
    refine ⟨e,he,q1,q2,?_⟩
    rcases g.vl e.To hr.2.2.1 hr.2.2.2.1 with r | ⟨r,_⟩ <;> omega
   ·have hr:=hp.a.ed0 e he
    refine ⟨e,he,q1,q2,?_⟩
    rcases g.vl e.To hr.2.2.1 hr.2.2.2.1 with r | ⟨r,_⟩ <;> omega
  ·have hr:=hp.a.ed0 e he
   by_cases hk:ati (dN p L (k + 1)) e.To = k
   ·refine c e he h2 ?_ hk
    rcases g.vl e.To hr.2.2.1 hr.2.2.2.1 with r | ⟨_,r,_⟩
    ·exact ih.lv e.To hr.2.2.1 hr.2.2.2.1 (by omega)
    ·omega
   ·have:0≤ati (dN p L k) e.From:=by
     refine ih.cl e he h2 ?_ ?_
     all_goals (rcases g.vl e.To hr.2.2.1 hr.2.2.2.1 with r | ⟨_,r,_⟩ <;> omega)
    rcases g.vl e.From hr.1 hr.2.1 with r | ⟨r,_⟩ <;> omega
theorem Qbdi {d:Int} {out:List Int}:∀ {l:List Qc},(∀ e∈l,Q48 L d out e = false)→l.foldl (Qm5 L d) out = out
 | [],_=>rfl
 | x :: l,h=>by
  rw [List.foldl_cons]
  have:Qm5 L d out x = out:=by unfold Qm5; rw [h x (by simp)]; rfl
  rw [this]
  exact Qbdi fun e he=>h e (by simp [he])
theorem Qbdj {k:Nat} (h:dN p L (k + 1) = dN p L k):∀ m:Nat,k≤m→dN p L m = dN p L k
 | 0,hm=>by
  obtain rfl:k = 0:=by omega
  rfl
 | m + 1,hm=>by
  by_cases hk:k = m + 1
  ·subst hk; rfl
  ·have ih:=Qbdj h m (by omega)
   show p.zA.zL.foldl (Qm5 L (m:Int)) (dN p L m) = _
   by_cases hkm:k = m
   ·subst hkm; exact h
   ·rw [ih]
    refine Qbdi hp L fun e he=>?_
    have hr:=hp.a.ed0 e he
    have:=(Qbdh hp L k).rg e.To hr.2.2.1 hr.2.2.2.1
    unfold Q48
    have:(ati (dN p L k) e.To == (m:Int)) = false:=by rw [beq_eq_false_iff_ne]; omega
    rw [this]; simp
theorem DI.bound {k:Int} {out:List Int} (h:DI p L k out) {y:Int} (h0:0≤y) (h1:y < p.zA.zM):ati out y < p.zA.zM:=by
 have key:∀ (v:Nat) (y:Int),0≤y→y < p.zA.zM→ati out y = v→∀ j:Nat,j≤v→∃ x,0≤x∧x < p.zA.zM∧ati out x = j:=by
  intro v
  induction v with
  | zero=>intro y h0 h1 hv j hj; exact ⟨y,h0,h1,by omega⟩
  | succ v ih =>
   intro y h0 h1 hv j hj
   by_cases hjv:j = v + 1
   ·exact ⟨y,h0,h1,by omega⟩
   ·obtain ⟨e,he,_,_,q⟩:=h.ps y h0 h1 (by omega)
    have hr:=hp.a.ed0 e he
    exact ih e.To hr.2.2.1 hr.2.2.2.1 (by omega) j (by omega)
 refine Decidable.byContradiction fun hc=>?_
 have hst:=hp.a.st
 have hk:=key (ati out y).toNat y h0 h1 (by omega)
 have hsub:∀ x∈upto (ati out y + 1),x∈(upto p.zA.zM).map (ati out):=fun x hx=>by
  rw [Qgp] at hx
  obtain ⟨z,k1,k2,k3⟩:=hk x.toNat (by omega)
  exact List.mem_map.2 ⟨z,Qgp.2 ⟨k1,k2⟩,by omega⟩
 have hnd:(upto (ati out y + 1)).Nodup:=(Qxj _).imp fun h=>by omega
 have hlen:∀ {l m:List Int},l.Nodup→(∀ x∈l,x∈m)→l.length≤m.length:=fun {l m} h hs=>by
  induction l generalizing m with
  | nil=>simp
  | cons x l ih =>
   obtain ⟨a1,a2⟩:=List.nodup_cons.1 h
   have hx:=hs x (by simp)
   have:=ih (m:=m.erase x) a2 fun y hy=>(List.mem_erase_of_ne (by rintro rfl; exact a1 hy)).2 (hs y (by simp [hy]))
   rw [List.length_erase_of_mem hx] at this
   have:0 < m.length:=List.length_pos_of_mem hx
   simp only [List.length_cons]; omega
 have:=hlen hnd hsub
 rw [Qbw,List.length_map,Qbw] at this
 omega
theorem Qtx:DI p L p.zA.zM (Qk1 p L):=by
 have:=Qbdh hp L p.zA.zM.toNat
 have hst:=hp.a.st
 rw [show ((p.zA.zM.toNat:Nat):Int) = p.zA.zM by omega] at this
 exact this
end
end Go.Abs
end
section
namespace Go.Abs
open Go
theorem Qio {n:Int} {k:Nat} (h:k < (upto n).length):k < n.toNat:=by rw [Qbw] at h; exact h
def Qvn (L:List Bool) (d:Int) (s:Bool×List Int) (x:Qc):Bool×List Int:=if Q48 L d s.2 x then (true,s.2.set x.From.toNat (d + 1)) else s
theorem Qbdk {L:List Bool} {d:Int}:∀ {l:List Qc} {s:Bool×List Int},(l.foldl (Qvn L d) s).2 = l.foldl (Qm5 L d) s.2
 | [],s=>rfl
 | x :: l,s=>by
  rw [List.foldl_cons,List.foldl_cons,Qbdk (l:=l)]
  congr 1
  unfold Qvn Qm5
  cases Q48 L d s.2 x <;> rfl
section
variable {p:Qb} (hp:RightP p) {L:List Bool} {d:Int} (hd:0≤d)
include hp hd
theorem Qbdl:∀ {l:List Qc} {s:Bool×List Int},(∀ x∈l,x∈p.zA.zL)→s.2.length = p.zA.zM.toNat→(l.foldl (Qvn L d) s).1 = true→s.1 = true∨∃ y,0≤y∧y < p.zA.zM∧ati (l.foldl (Qm5 L d) s.2) y = d + 1
 | [],s,_,_,h=>.inl h
 | x :: l,s,hm,hl,h=>by
  rw [List.foldl_cons] at h ⊢
  have hx:=hm x (by simp)
  have hr:=hp.a.ed0 x hx
  have g1:=Q2u (L:=L) hp hd hl hx
  have e2:(Qvn L d s x).2 = Qm5 L d s.2 x:=by unfold Qvn Qm5; cases Q48 L d s.2 x <;> rfl
  rcases Qbdl (l:=l) (s:=Qvn L d s x) (fun y hy=>hm y (by simp [hy])) (by rw [e2,g1.ln,hl]) h with q | q
  ·cases hc:Q48 L d s.2 x with
   | false =>
    have:Qvn L d s x = s:=by unfold Qvn; rw [hc]; rfl
    rw [this] at q; exact .inl q
   | true =>
    refine .inr ⟨x.From,hr.1,hr.2.1,?_⟩
    have k1:ati (Qm5 L d s.2 x) x.From = d + 1:=by
     unfold Qm5
     rw [hc,if_pos rfl,Qbbx ⟨hr.1,by omega⟩ hr.1,if_pos rfl]
    have g2:=Q6h (L:=L) hp hd (l:=l) (out:=Qm5 L d s.2 x) (fun y hy=>hm y (by simp [hy])) (by rw [g1.ln,hl])
    rcases g2.vl x.From hr.1 hr.2.1 with r | ⟨r,_⟩ <;> omega
  ·rw [e2] at q; exact .inr q
theorem Qbdm:∀ {l:List Qc} {s:Bool×List Int},(l.foldl (Qvn L d) s).1 = false→l.foldl (Qm5 L d) s.2 = s.2
 | [],s,_=>rfl
 | x :: l,s,h=>by
  rw [List.foldl_cons] at h ⊢
  have mono:∀ {l:List Qc} {s:Bool×List Int},s.1 = true→(l.foldl (Qvn L d) s).1 = true:=by
   intro l
   induction l with
   | nil=>intro s h; exact h
   | cons y l ih=>intro s h; rw [List.foldl_cons]; refine ih ?_; unfold Qvn; cases Q48 L d s.2 y <;> simp [h]
  cases hc:Q48 L d s.2 x with
  | true =>
   have:(Qvn L d s x).1 = true:=by unfold Qvn; rw [hc]; rfl
   rw [mono this] at h; cases h
  | false =>
   have e1:Qvn L d s x = s:=by unfold Qvn; rw [hc]; rfl
   have e2:Qm5 L d s.2 x = s.2:=by unfold Qm5; rw [hc]; rfl
   rw [e1] at h
   rw [e2]
   exact Qbdm h
end
section
variable {p:Qb} (hp:RightP p) {L:List Bool} (hL:L.length = p.zA.zM.toNat)
theorem Qbat {c:List Int} (hc:c.length = p.zA.zM.toNat):(upto p.zA.zM).foldl (fun c i=>c.set i.toNat (if lf L i && decide (i∈p.zA.zK) then 0 else -1)) c = Qbeg p L:=Q9k hc
include hp hL
theorem Q2h:Qby (tsk p L) = some (Qk1 p L):=by
 unfold Qby Qp
 obtain ⟨fuel,hfu,hge⟩ : ∃ f,Qb4 = f∧1099511627776≤f:=⟨_,rfl,Nat.le_refl _⟩
 rw [hfu]
 rw [show (tsk p L).left_ = L from rfl,show (tsk p L).zN = p from rfl]
 have hst:=hp.a.st
 have hsm:=hp.a.small
 rw [show mkO p.zA.zM (0:Int) = some (List.replicate p.zA.zM.toNat 0) from by unfold mkO lim; rw [if_pos (by omega)]]
 rw [Option.bind_some]
 refine Option.bind_eq_some_iff.2 ⟨Qbeg p L,?_,?_⟩
 ·refine (Qgh (l:=upto p.zA.zM) (fun i (c:List Int)=>(i,c)) (fun c i=>c.set i.toNat (if lf L i && decide (i∈p.zA.zK) then 0 else -1)) (fun _ c=>c.length = p.zA.zM.toNat) (fun c=>some c) (by rw [Qbw]; unfold big; omega) hge (fun k n s hn hs=>?_) (fun n s hn hs=>by rw [List.length_set]; exact hs) (fun k s hs=>?_) (by simp)).trans ?_
  ·have hn':=Qio hn
   dsimp only
   rw [Qje hn,if_pos (by omega),Qml (by omega) (by omega),Qm4 (by omega) (by omega)]
   simp only [Option.bind_some,Qqf hL (p:=p) (x:=(n:Int)) ⟨by omega,by omega⟩]
   rw [Qcr hp.a.ma hsm.1.2.1,Qm4 (by omega) (by rw [List.length_set]; omega)]
   cases lf L (n:Int) <;> by_cases hm:(n:Int)∈p.zA.zK <;> simp [hm]
  ·dsimp only
   rw [Qbw,if_neg (by omega)]
  ·rw [Qbat (by simp)]
 have hround:∀ (d:Nat) (c:List Int),c.length = p.zA.zM.toNat→d≤4096→Qcm (fun (k41:Bool×Int×List Int→Option (Bool×List Int)) ((more38,x39,c40):Bool×Int×(List Int))=>(if (x39 < (p.zA.zL.length:Int)) then ((((getO p.zA.zL x39).bind fun x43=>((((inO L.length x43.From).bind fun u45=>((getO L x43.From).bind fun x47=>(if x47 then ((inO L.length x43.To).bind fun u50=>((getO L x43.To).bind fun x52=>(if x52 then ((inO (Int.toNat p.zA.zM) x43.From).bind fun u55=>((getO c40 x43.From).bind fun x57=>(if (x57 < 0) then ((inO (Int.toNat p.zA.zM) x43.To).bind fun u60=>((getO c40 x43.To).bind fun x62=>some (x62 == (IntKind.wrap .i64 (((d:Int) + 1) - 1))))) else some false))) else some false))) else some false)))).bind fun (x64:Bool)=>(if x64 then ((inO (Int.toNat p.zA.zM) x43.From).bind fun u66=>((setO c40 x43.From ((d:Int) + 1)).bind fun x68=>some (true,x68,x43.From,x43.Event,x43.To))) else some (more38,c40,x43.From,x43.Event,x43.To))))).bind fun ((more70,c71,c72,c73,c74):Bool×(List Int)×Int×Int×Int)=>k41 (more70,(IntKind.wrap .i64 (x39 + 1)),c71)) else some (more38,c40))) fuel (false,0,c) = some (p.zA.zL.foldl (Qvn L d) (false,c)):=by
  intro d c hc hd
  refine (Qgh (l:=p.zA.zL) (fun i (s:Bool×List Int)=>(s.1,i,s.2)) (Qvn L d) (fun _ s=>s.2.length = p.zA.zM.toNat) (fun s=>some s) hsm.1.2.2 hge (fun k n s hn hs=>?_) (fun n s hn hs=>by unfold Qvn; split <;> simp [hs]) (fun k s hs=>?_) (s0:=(false,c)) hc)
  ·have hr:=hp.a.ed0 _ (List.getElem_mem hn)
   dsimp only
   rw [if_pos (by omega),Qcc hn]
   simp only [Option.bind_some,Qqf hL (p:=p) (x:=p.zA.zL[n].From) ⟨hr.1,hr.2.1⟩,Qqf hL (p:=p) (x:=p.zA.zL[n].To) ⟨hr.2.2.1,hr.2.2.2.1⟩]
   rw [Qml hr.1 (by omega),Qml hr.2.2.1 (by omega),Qm3 (d:=0) (l:=s.2) hr.1 (by omega),Qm3 (d:=0) (l:=s.2) hr.2.2.1 (by omega),Qm4 (l:=s.2) hr.1 (by omega),Qqe (x:=(d:Int) + 1 - 1) (by omega) (by omega)]
   unfold Qvn Q48
   simp only [Option.bind_some,show (d:Int) + 1 - 1 = d by omega]
   generalize p.zA.zL[n] = e at hr ⊢
   cases lf L e.From <;> cases lf L e.To <;> by_cases h1:ati s.2 e.From < 0 <;> by_cases h2:ati s.2 e.To = d <;> simp [h1,h2]
  ·dsimp only
   rw [if_neg (by omega)]
 have hlast:(lenO (Qk1 p L) (Int.toNat p.zA.zM)) = some ():=Q2e (Qtx hp L).ln
 refine Option.bind_eq_some_iff.2 ⟨Qk1 p L,?_,by rw [hlast]; rfl⟩
 refine Q6b (fun x=>∃ d:Nat,x.1 = (d:Int) + 1∧x.2.2 = dN p L d∧(x.2.1 = true∧d≤p.zA.zM.toNat∨x.2.1 = false∧dN p L d = Qk1 p L)) (fun x=>p.zA.zM.toNat + 4 - x.1.toNat) (some (Qk1 p L)) ⟨0,rfl,rfl,.inl ⟨rfl,by omega⟩⟩ (by dsimp only; omega) ?_
 rintro k ⟨r,more,c⟩ ⟨d,hr,hc,hm⟩ ih
 dsimp only at hr hc hm ih ⊢
 subst hr hc
 rcases hm with ⟨rfl,hdn⟩ | ⟨rfl,hq⟩
 ·rw [if_pos rfl]
  have hln:=(Qbdh hp L d).ln
  rw [hround d _ hln (by omega),Option.bind_some]
  have hsnd:(p.zA.zL.foldl (Qvn L d) (false,dN p L d)).2 = dN p L (d + 1):=Qbdk
  have hd0:(0:Int)≤(d:Int):=by omega
  have hwr:IntKind.wrap .i64 ((d:Int) + 1 + 1) = ((d + 1:Nat):Int) + 1:=by rw [Qqe (by omega) (by omega)]; omega
  generalize hgen:p.zA.zL.foldl (Qvn L d) (false,dN p L d) = R at hsnd
  obtain ⟨m,c'⟩:=R
  dsimp only at hsnd ⊢
  subst hsnd
  rw [hwr]
  refine ih _ ⟨d + 1,rfl,rfl,?_⟩ (by dsimp only; omega)
  cases m with
  | true =>
   left
   refine ⟨rfl,?_⟩
   rcases Qbdl hp hd0 (L:=L) (l:=p.zA.zL) (s:=(false,dN p L d)) (fun _ h=>h) hln (by rw [hgen]) with q | ⟨y,h0,h1,h2⟩
   ·cases q
   ·have:=(Qbdh hp L (d + 1)).bound hp L h0 h1
    have h2:ati (dN p L (d + 1)) y = (d:Int) + 1:=h2
    omega
  | false =>
   right
   refine ⟨rfl,?_⟩
   have hs:dN p L (d + 1) = dN p L d:=Qbdm hp hd0 (L:=L) (l:=p.zA.zL) (s:=(false,dN p L d)) (by rw [hgen])
   rw [hs]
   exact (Qbdj hp L hs _ hdn).symm
 ·rw [if_neg (by simp),hq]
end
section
variable {p:Qb} (hp:RightP p) {R:List Int} (hR:Qbi4 p R) (T:List Qd) (r:Int)
theorem Qbi7 {L:List Bool} {k:Nat} (hp:RightP p):p.zA.zL.foldl (fun out x=>if lf L x.From && (decide (ati out x.From < 0) && (ati out x.To == (k:Int))) then out.set x.From.toNat ((k:Int) + 1) else out) (dN p L k) = dN p L (k + 1):=by
 have hd:(0:Int)≤(k:Int):=by omega
 have key:∀ (l:List Qc) (out:List Int),(∀ x∈l,x∈p.zA.zL)→Grow p L k (dN p L k) out→l.foldl (fun out x=>if lf L x.From && (decide (ati out x.From < 0) && (ati out x.To == (k:Int))) then out.set x.From.toNat ((k:Int) + 1) else out) out = l.foldl (Qm5 L (k:Int)) out:=by
  intro l
  induction l with
  | nil=>intro out _ _; rfl
  | cons x l ih =>
   intro out hm hg
   have hx:=hm x (by simp)
   have hr:=hp.a.ed0 x hx
   have hln:out.length = p.zA.zM.toNat:=by rw [hg.ln,(Qbdh hp L k).ln]
   rw [List.foldl_cons,List.foldl_cons]
   have e:(if lf L x.From && (decide (ati out x.From < 0) && (ati out x.To == (k:Int))) then out.set x.From.toNat ((k:Int) + 1) else out) = Qm5 L (k:Int) out x:=by
    unfold Qm5 Q48
    by_cases ht:ati out x.To = (k:Int)
    ·have:lf L x.To = true:=by
      rcases hg.vl x.To hr.2.2.1 hr.2.2.2.1 with q | ⟨_,_,q,_⟩
      ·exact (Qbdh hp L k).lv x.To hr.2.2.1 hr.2.2.2.1 (by omega)
      ·exact q
     rw [this,Bool.true_and]
    ·have:(ati out x.To == (k:Int)) = false:=by simpa using ht
     rw [this]; simp
   rw [e]
   exact ih _ (fun y hy=>hm y (by simp [hy])) (hg.trans hp hd (Q2u hp hd hln hx))
 exact key p.zA.zL _ (fun _ h=>h) (Grow.refl _)
include hp hR
theorem Qbbz:Qc8 ⟨p,R,T,r⟩ = some (Qk1 p (Qd1 R)):=by
 unfold Qc8 Q6
 obtain ⟨fuel,hfu,hge⟩ : ∃ f,Qb4 = f∧1099511627776≤f:=⟨_,rfl,Nat.le_refl _⟩
 rw [hfu]
 dsimp only
 have hst:=hp.a.st
 have hsm:=hp.a.small
 rw [show mkO p.zA.zM (0:Int) = some (List.replicate p.zA.zM.toNat 0) from by unfold mkO lim; rw [if_pos (by omega)]]
 rw [Option.bind_some]
 refine Option.bind_eq_some_iff.2 ⟨Qbeg p (Qd1 R),?_,?_⟩
 ·refine (Qgh (l:=upto p.zA.zM) (fun i (c:List Int)=>(i,c)) (fun c i=>c.set i.toNat (if lf (Qd1 R) i && decide (i∈p.zA.zK) then 0 else -1)) (fun _ c=>c.length = p.zA.zM.toNat) (fun c=>some c) (by rw [Qbw]; unfold big; omega) hge (fun k n s hn hs=>?_) (fun n s hn hs=>by rw [List.length_set]; exact hs) (fun k s hs=>?_) (by simp)).trans ?_
  ·have hn':=Qio hn
   have hra:=Q7a hR (x:=(n:Int)) ⟨by omega,by omega⟩
   dsimp only
   rw [Qje hn,if_pos (by omega),Qml (by omega) (by omega),Qm4 (by omega) (by omega)]
   simp only [Option.bind_some,hra]
   rw [Q72 hsm.1.2.1,Qm4 (by omega) (by rw [List.length_set]; omega)]
   cases lf (Qd1 R) (n:Int) <;> by_cases hm:(n:Int)∈p.zA.zK <;> simp [hm]
  ·dsimp only
   rw [Qbw,if_neg (by omega)]
  ·rw [Qbat (by simp)]
 have hround:∀ (d:Nat) (c:List Int),c.length = p.zA.zM.toNat→d≤4096→Qcm (fun (k37:Int×List Int→Option (List Int)) ((x35,c36):Int×(List Int))=>(if (x35 < (p.zA.zL.length:Int)) then ((((getO p.zA.zL x35).bind fun x39=>((((inO R.length x39.From).bind fun u41=>((getO R x39.From).bind fun x43=>(if (x43 == 0) then ((inO (Int.toNat p.zA.zM) x39.From).bind fun u46=>((getO c36 x39.From).bind fun x48=>(if (x48 < 0) then ((inO (Int.toNat p.zA.zM) x39.To).bind fun u51=>((getO c36 x39.To).bind fun x53=>some (x53 == (d:Int)))) else some false))) else some false)))).bind fun (x55:Bool)=>(if x55 then ((inO (Int.toNat p.zA.zM) x39.From).bind fun u57=>((setO c36 x39.From (IntKind.wrap .i64 ((d:Int) + 1))).bind fun x59=>some (x59,x39.From,x39.Event,x39.To))) else some (c36,x39.From,x39.Event,x39.To))))).bind fun ((c61,y62,y63,y64):(List Int)×Int×Int×Int)=>k37 ((IntKind.wrap .i64 (x35 + 1)),c61)) else some c36)) fuel (0,c) = some (p.zA.zL.foldl (fun out x=>if lf (Qd1 R) x.From && (decide (ati out x.From < 0) && (ati out x.To == (d:Int))) then out.set x.From.toNat ((d:Int) + 1) else out) c):=by
  intro d c hc hd
  refine (Qgh (l:=p.zA.zL) (fun i (s:List Int)=>(i,s)) (fun out x=>if lf (Qd1 R) x.From && (decide (ati out x.From < 0) && (ati out x.To == (d:Int))) then out.set x.From.toNat ((d:Int) + 1) else out) (fun _ s=>s.length = p.zA.zM.toNat) (fun s=>some s) hsm.1.2.2 hge (fun k n s hn hs=>?_) (fun n s hn hs=>by split <;> simp [hs]) (fun k s hs=>?_) hc)
  ·have hr:=hp.a.ed0 _ (List.getElem_mem hn)
   have hra:=Q7a hR (x:=p.zA.zL[n].From) ⟨hr.1,hr.2.1⟩
   dsimp only
   rw [if_pos (by omega),Qcc hn]
   simp only [Option.bind_some,hra]
   rw [Qml hr.1 (by omega),Qml hr.2.2.1 (by omega),Qm3 (d:=0) (l:=s) hr.1 (by omega),Qm3 (d:=0) (l:=s) hr.2.2.1 (by omega),Qqe (x:=(d:Int) + 1) (by omega) (by omega),Qm4 (l:=s) hr.1 (by omega)]
   simp only [Option.bind_some]
   generalize p.zA.zL[n] = e at hr ⊢
   cases lf (Qd1 R) e.From <;> by_cases h1:ati s e.From < 0 <;> by_cases h2:ati s e.To = d <;> simp [h1,h2]
  ·dsimp only
   rw [if_neg (by omega)]
 have hlast:(lenO (Qk1 p (Qd1 R)) (Int.toNat p.zA.zM)) = some ():=Q2e (Qtx hp _).ln
 refine Option.bind_eq_some_iff.2 ⟨Qk1 p (Qd1 R),?_,by rw [hlast]; rfl⟩
 refine Ql8 (len:=p.zA.zM.toNat) (fun n (c:List Int)=>((n:Int),c)) (fun n c=>c = dN p (Qd1 R) n) (fun n c=>some (Qk1 p (Qd1 R))) ?_ ?_ fuel 0 (Qbeg p (Qd1 R)) (Nat.zero_le _) (by omega) rfl
 ·rintro k n c hn rfl ih
  dsimp only
  rw [if_pos (by omega),hround n _ (Qbdh hp _ n).ln (by omega),Option.bind_some,Qbi7 hp,Qce (by omega)]
  exact ih _ rfl
 ·rintro k c rfl
  dsimp only
  rw [if_neg (by omega)]; rfl
end
end Go.Abs
end
section
namespace Go.Abs
open Go
def remE (p:Qb) (L:List Bool) (rank i:Int):Option Qd:=if lf L i && ((escP p L i).1 != 0) then some ⟨i,rank,(escP p L i).1,(escP p L i).2⟩ else none
def remB (p:Qb) (L:List Bool) (rank i:Int):Option Qd:=if lf L i && decide (ati (Qk1 p L) i < 0) then some ⟨i,rank,3,-1⟩ else none
def Qbau (p:Qb) (L:List Bool) (rank:Int):List Qd:=(upto p.zA.zM).filterMap (remE p L rank)
def Qbjy (p:Qb) (L:List Bool) (rank:Int):List Qd:=(upto p.zA.zM).filterMap (remB p L rank)
def Qj6 (p:Qb) (L:List Bool) (rank:Int):List Qd:=if ((Qbau p L rank).length:Int) > 0 then Qbau p L rank else Qbjy p L rank
section
variable {p:Qb} (hp:RightP p) {L:List Bool} (hL:L.length = p.zA.zM.toNat) (rank:Int)
include hp hL
theorem Qbi8:Qc0 (tsk p L) rank = some (Qj6 p L rank):=by
 unfold Qc0 Qbj
 obtain ⟨fuel,hfu,hge⟩ : ∃ f,Qb4 = f∧1099511627776≤f:=⟨_,rfl,Nat.le_refl _⟩
 rw [hfu,Q2h hp hL]
 rw [show (tsk p L).left_ = L from rfl]
 have hst:=hp.a.st
 have hul:(upto p.zA.zM).length < big:=by rw [Qbw]; unfold big; omega
 have huf:(upto p.zA.zM).length < fuel:=by rw [Qbw]; omega
 rw [Qbdb (l:=upto p.zA.zM) (f:=remE p L rank) hul huf (fun k acc n hn ha=>by
  have hn':=Qio hn
  dsimp only
  rw [Qje hn,if_pos (by omega),Qbdf hp hL ⟨by omega,by omega⟩]
  simp only [Option.bind_some,Qqf hL (p:=p) (x:=(n:Int)) ⟨by omega,by omega⟩]
  rw [Qdg (by simp only [List.length_cons,List.length_nil]; unfold lim; omega)]
  unfold remE
  cases lf L (n:Int) <;> by_cases h1:(escP p L (n:Int)).1 = 0 <;> simp [h1]) (fun k acc=>by
  dsimp only
  rw [Qbw,if_neg (by omega)]),Option.bind_some]
 unfold Qj6
 by_cases hE:((Qbau p L rank).length:Int) > 0
 ·rw [if_pos hE,if_pos (show ((((upto p.zA.zM).filterMap (remE p L rank)).length:Nat):Int) > 0 from hE)]; rfl
 ·rw [if_neg hE,if_neg (show ¬ ((((upto p.zA.zM).filterMap (remE p L rank)).length:Nat):Int) > 0 from hE)]
  have hnil:(upto p.zA.zM).filterMap (remE p L rank) = []:=List.eq_nil_of_length_eq_zero (by unfold Qbau at hE; omega)
  rw [hnil]
  simp only [Option.bind_some]
  have hdl:=(Qtx hp L).ln
  rw [Qbdb (l:=upto p.zA.zM) (f:=remB p L rank) hul huf (fun k acc n hn ha=>by
   have hn':=Qio hn
   dsimp only
   rw [Qje hn,if_pos (by omega),Qm3 (d:=0) (l:=Qk1 p L) (by omega) (by omega)]
   simp only [Option.bind_some,Qqf hL (p:=p) (x:=(n:Int)) ⟨by omega,by omega⟩]
   rw [Qdg (by simp only [List.length_cons,List.length_nil]; unfold lim; omega)]
   unfold remB
   cases lf L (n:Int) <;> by_cases h1:ati (Qk1 p L) (n:Int) < 0 <;> simp [h1]) (fun k acc=>by
   dsimp only
   rw [Qbw,if_neg (by omega)])]
  rfl
end
section
variable {p:Qb} (hp:RightP p) {R:List Int} (hR:Qbi4 p R) (T:List Qd) (r rank:Int)
include hp hR
end
end Go.Abs
end
section
namespace Go.Abs
open Go
abbrev nS (p:Qb):Nat:=p.zA.zM.toNat
def Qb0 (p:Qb) (T:List Qd):List Bool:=T.foldl (fun c x=>c.set x.State.toNat false) (List.replicate (nS p) true)
def Q2i (p:Qb) (T:List Qd):List Qd:=T.foldl (fun c x=>c.set x.State.toNat x) (List.replicate (nS p) ⟨0,0,0,0⟩)
theorem Qip (p:Qb) (T:List Qd):(Qb0 p T).length = nS p:=by unfold Qb0; rw [Qbby (f:=fun x:Qd=>x.State.toNat) (g:=fun _=>false),List.length_replicate]
theorem Qbdn (p:Qb) (T:List Qd):(Q2i p T).length = nS p:=by unfold Q2i; rw [Qbby (f:=fun x:Qd=>x.State.toNat) (g:=fun x=>x),List.length_replicate]
structure Okt (p:Qb) (T:List Qd):Prop where
 rg:∀ x∈T,0≤x.State∧x.State < p.zA.zM
 rk:∀ x∈T,1≤x.Rank
 nd:(T.map (·.State)).Nodup
theorem Q2v {p:Qb} {T:List Qd} (h:∀ x∈T,0≤x.State∧x.State < p.zA.zM) {y:Int} (h0:0≤y) (h1:y < p.zA.zM):lf (Qb0 p T) y = !T.any fun x=>x.State == y:=by
 have key:∀ (T:List Qd) (c:List Bool),(∀ x∈T,0≤x.State∧x.State < p.zA.zM)→c.length = nS p→lf (T.foldl (fun c x=>c.set x.State.toNat false) c) y = (lf c y && !T.any fun x=>x.State == y):=by
  intro T
  induction T with
  | nil=>intro c _ _; simp
  | cons x T ih =>
   intro c hT hc
   have hx:=hT x (by simp)
   rw [List.foldl_cons,ih _ (fun z hz=>hT z (by simp [hz])) (by rw [List.length_set]; exact hc),Qblo ⟨hx.1,by unfold nS at hc; omega⟩ h0,List.any_cons]
   by_cases hq:y = x.State
   ·subst hq; simp
   ·rw [if_neg hq]
    have:(x.State == y) = false:=by rw [beq_eq_false_iff_ne]; exact fun e=>hq e.symm
    rw [this]; simp
 unfold Qb0
 rw [key T _ h (by simp)]
 have:lf (List.replicate (nS p) true) y = true:=Qbh0 h0 (by unfold nS; omega)
 rw [this,Bool.true_and]
theorem Q2w {p:Qb} {L:List Bool} {rank:Int} {x:Qd} (hx:x∈Qj6 p L rank):(0≤x.State∧x.State < p.zA.zM)∧lf L x.State = true∧x.Rank = rank:=by
 have hE:∀ x∈Qbau p L rank,(0≤x.State∧x.State < p.zA.zM)∧lf L x.State = true∧x.Rank = rank:=fun x hx=>by
  obtain ⟨i,hi,h⟩:=List.mem_filterMap.1 hx
  unfold remE at h
  split at h <;> cases h
  rename_i hc
  exact ⟨Qgp.1 hi,by simp only [Bool.and_eq_true] at hc; exact hc.1,rfl⟩
 have hB:∀ x∈Qbjy p L rank,(0≤x.State∧x.State < p.zA.zM)∧lf L x.State = true∧x.Rank = rank:=fun x hx=>by
  obtain ⟨i,hi,h⟩:=List.mem_filterMap.1 hx
  unfold remB at h
  split at h <;> cases h
  rename_i hc
  exact ⟨Qgp.1 hi,by simp only [Bool.and_eq_true] at hc; exact hc.1,rfl⟩
 unfold Qj6 at hx
 split at hx
 ·exact hE x hx
 ·exact hB x hx
theorem Qbh7 {f:Int→Option Qd} (hf:∀ i x,f i = some x→x.State = i) {l:List Int} (h:l.Pairwise (· < ·)):((l.filterMap f).map (·.State)).Pairwise (· < ·):=by
 rw [List.pairwise_map,List.pairwise_filterMap]
 refine h.imp fun {a b} hab x hx y hy=>?_
 rw [hf a x hx,hf b y hy]; exact hab
theorem Qbeh (p:Qb) (L:List Bool) (rank:Int):((Qj6 p L rank).map (·.State)).Pairwise (· < ·):=by
 unfold Qj6
 split
 ·exact Qbh7 (fun i x h=>by unfold remE at h; split at h <;> cases h; rfl) (Qxj _)
 ·exact Qbh7 (fun i x h=>by unfold remB at h; split at h <;> cases h; rfl) (Qxj _)
theorem Okt.round {p:Qb} {T:List Qd} (h:Okt p T) {rank:Int} (hr:1≤rank):Okt p (T ++ Qj6 p (Qb0 p T) rank):=by
 refine ⟨fun x hx=>?_,fun x hx=>?_,?_⟩
 ·rcases List.mem_append.1 hx with hx | hx
  ·exact h.rg x hx
  ·exact (Q2w hx).1
 ·rcases List.mem_append.1 hx with hx | hx
  ·exact h.rk x hx
  ·rw [(Q2w hx).2.2]; exact hr
 ·rw [List.map_append,List.nodup_append]
  refine ⟨h.nd,(Qbeh p _ rank).imp fun h=>by omega,fun a ha b hb=>?_⟩
  obtain ⟨x,hx,rfl⟩:=List.mem_map.1 ha
  obtain ⟨y,hy,rfl⟩:=List.mem_map.1 hb
  obtain ⟨k1,k2,_⟩:=Q2w hy
  intro e
  rw [Q2v h.rg k1.1 k1.2] at k2
  simp only [Bool.not_eq_true',List.any_eq_false] at k2
  exact k2 x hx (by simp [e])
theorem Okt.len {p:Qb} {T:List Qd} (h:Okt p T):T.length≤nS p:=by
 have hsub:∀ x∈T.map (·.State),x∈upto p.zA.zM:=fun x hx=>by
  obtain ⟨y,hy,rfl⟩:=List.mem_map.1 hx
  exact Qgp.2 (h.rg y hy)
 have hlen:∀ {l m:List Int},l.Nodup→(∀ x∈l,x∈m)→l.length≤m.length:=fun {l m} h hs=>by
  induction l generalizing m with
  | nil=>simp
  | cons x l ih =>
   obtain ⟨a1,a2⟩:=List.nodup_cons.1 h
   have hx:=hs x (by simp)
   have:=ih (m:=m.erase x) a2 fun y hy=>(List.mem_erase_of_ne (by rintro rfl; exact a1 hy)).2 (hs y (by simp [hy]))
   rw [List.length_erase_of_mem hx] at this
   have:0 < m.length:=List.length_pos_of_mem hx
   simp only [List.length_cons]; omega
 have:=hlen h.nd hsub
 rw [List.length_map,Qbw] at this
 exact this
def T0 (p:Qb):List Qd:=p.zC.map fun x=>⟨x,1,1,-1⟩
def r0 (p:Qb):Int:=if p.zC = [] then 0 else 1
def Qxk (p:Qb):Nat→Int→List Qd→Int→List Qd×Int
 | 0,_,T,r=>(T,r)
 | f + 1,rank,T,r=>if Qj6 p (Qb0 p T) rank = [] then (T,r) else Qxk p f (rank + 1) (T ++ Qj6 p (Qb0 p T) rank) rank
def solP (p:Qb):List Qd×Int:=Qxk p (nS p + 1) 2 (T0 p) (r0 p)
theorem Qbf2 {p:Qb} (hp:RightP p):Okt p (T0 p):=by
 unfold T0
 refine ⟨fun x hx=>?_,fun x hx=>?_,?_⟩
 ·obtain ⟨y,hy,rfl⟩:=List.mem_map.1 hx; exact hp.fo.rg y hy
 ·obtain ⟨y,hy,rfl⟩:=List.mem_map.1 hx; exact Int.le_refl _
 ·rw [List.map_map]
  have:((fun x:Qd=>x.State) ∘ fun x:Int=>(⟨x,1,1,-1⟩ : Qd)) = id:=rfl
  rw [this,List.map_id]
  exact hp.fo.so.imp fun h=>by omega
end Go.Abs
end
section
namespace Go.Abs
open Go
theorem Q6i {α β γ:Type} {f:α→γ→α} {g:β→γ→β}:∀ {l:List γ} {a:α} {b:β},l.foldl (fun s x=>(f s.1 x,g s.2 x)) (a,b) = (l.foldl f a,l.foldl g b)
 | [],_,_=>rfl
 | x :: l,a,b=>by rw [List.foldl_cons,Q6i (l:=l)]; rfl
theorem Qbf3 {p:Qb} {T l:List Qd}:l.foldl (fun c x=>c.set x.State.toNat false) (Qb0 p T) = Qb0 p (T ++ l):=by unfold Qb0; rw [List.foldl_append]
theorem Qbf4 {p:Qb} {T l:List Qd}:l.foldl (fun c x=>c.set x.State.toNat x) (Q2i p T) = Q2i p (T ++ l):=by unfold Q2i; rw [List.foldl_append]
theorem Qblq {p:Qb} (hp:RightP p):(upto p.zA.zM).map (fun i=>!decide (i∈p.zC)) = Qb0 p (T0 p):=by
 refine Qbdd (d:=false) (by rw [Qip,List.length_map,Qbw]) fun x h0 h1=>?_
 rw [List.length_map,Qbw] at h1
 have h2:x < p.zA.zM:=by omega
 rw [Q2f h0 h2]
 have:=Q2v (Qbf2 hp).rg h0 h2
 rw [show at0 false (Qb0 p (T0 p)) x = lf (Qb0 p (T0 p)) x from rfl,this]
 congr 1
 unfold T0
 rw [List.any_map,Bool.eq_iff_iff,List.any_eq_true]
 simp
section
variable {p:Qb} (hp:RightP p)
include hp
theorem Qbff:Qd0 p = some (tsk p (Qb0 p (T0 p))):=by
 unfold Qd0 Q5
 obtain ⟨fuel,hfu,hge⟩ : ∃ f,Qb4 = f∧1099511627776≤f:=⟨_,rfl,Nat.le_refl _⟩
 rw [hfu]
 have hst:=hp.a.st
 have hsm:=hp.a.small
 have hpl:=hp.small
 have hmk:∀ {α:Type} (v:α),mkO p.zA.zM v = some (List.replicate (nS p) v):=fun v=>by unfold mkO lim; rw [if_pos (by omega)]
 rw [hmk,hmk]
 simp only [Option.bind_some]
 refine Option.bind_eq_some_iff.2 ⟨Q47 p,?_,?_⟩
 ·refine (Ql8 (len:=p.zA.zL.length) (fun n (c:List (List Qc))=>((n:Int),c)) (fun n c=>c = (upto p.zA.zM).map fun i=>(p.zA.zL.take n).filter fun x=>x.From == i) (fun n c=>some (Q47 p)) ?_ ?_ fuel 0 (List.replicate (nS p) []) (Nat.zero_le _) (by have:=hsm.1.2.2; unfold big at this; omega) ?_)
  ·rintro k n c hn hc ih
   have hr:=hp.a.ed0 _ (List.getElem_mem hn)
   have hcl:c.length = nS p:=by rw [hc,List.length_map,Qbw]
   have hb:=hsm.2.2.2
   have hlen:((p.zA.zL.take n).filter fun x=>x.From == p.zA.zL[n].From).length≤n:=Nat.le_trans (List.length_filter_le _ _) (by rw [List.length_take]; omega)
   dsimp only
   rw [if_pos (by omega),Qcc hn,Option.bind_some,Qml hr.1 (by omega),Option.bind_some,Qm3 (d:=[]) hr.1 (by unfold nS at hcl; omega),Option.bind_some]
   have hat:at0 [] c p.zA.zL[n].From = (p.zA.zL.take n).filter fun x=>x.From == p.zA.zL[n].From:=by rw [hc,Q2f hr.1 hr.2.1]
   rw [hat,Qdg (by simp only [List.length_cons,List.length_nil]; unfold lim; omega),Option.bind_some,Option.bind_some,Qm4 hr.1 (by unfold nS at hcl; omega),Option.bind_some,Qce (by omega)]
   refine ih _ ?_
   refine Qbdd (d:=[]) (by rw [List.length_set,hcl,List.length_map,Qbw]) fun y h0 h1=>?_
   rw [List.length_set,hcl] at h1
   have h2:y < p.zA.zM:=by unfold nS at h1; omega
   rw [Qbhz ⟨hr.1,by unfold nS at hcl; omega⟩ h0,Q2f h0 h2,List.take_succ_eq_append_getElem hn,List.filter_append]
   by_cases hq:y = p.zA.zL[n].From
   ·rw [if_pos hq,← hq]; simp [hq]
   ·rw [if_neg hq,hc,Q2f h0 h2]
    have:(p.zA.zL[n].From == y) = false:=by rw [beq_eq_false_iff_ne]; exact fun e=>hq e.symm
    simp [this]
  ·rintro k c hc
   dsimp only
   rw [if_neg (by omega),hc,List.take_length]
   rfl
  ·refine Qbdd (d:=[]) (by rw [List.length_replicate,List.length_map,Qbw]) fun y h0 h1=>?_
   rw [List.length_replicate] at h1
   have h2:y < p.zA.zM:=by unfold nS at h1; omega
   rw [Qbh0 h0 (by unfold nS at h1 ⊢; omega),Q2f h0 h2]; simp
 refine Option.bind_eq_some_iff.2 ⟨Qb0 p (T0 p),?_,?_⟩
 ·refine (Qgh (l:=upto p.zA.zM) (fun i (c:List Bool)=>(i,c)) (fun c i=>c.set i.toNat (!decide (i∈p.zC))) (fun _ c=>c.length = nS p) (fun c=>some c) (by rw [Qbw]; unfold big; omega) hge (fun k n s hn hs=>?_) (fun n s hn hs=>by rw [List.length_set]; exact hs) (fun k s hs=>?_) (s0:=List.replicate (nS p) false) (by simp)).trans ?_
  ·have hn':=Qio hn
   dsimp only
   rw [Qje hn,if_pos (by omega),Qcr hp.fo.so hpl.2.1,Option.bind_some,Qml (by omega) (by omega),Option.bind_some,Qm4 (by omega) (by unfold nS at hs; omega),Option.bind_some]
  ·dsimp only
   rw [Qbw,if_neg (by omega)]
  ·rw [Q9k (by simp),Qblq hp]
 rw [Q2e (by unfold Q47; rw [List.length_map,Qbw]),Option.bind_some,Q2e (Qip p _),Option.bind_some]
 rfl
theorem Qbf5 {fuel:Nat} (hge:1099511627776≤fuel) {S:List Qd×Int} {f:Nat} (hS:Qxk p f 2 (T0 p) (r0 p) = S) (hf:nS p + 1≤f + (T0 p).length) :
  Qcm (fun (k26:Int×Int×List Qd×List Bool→Option (Int×List Qd×List Bool)) ((rank22,r23,c24,c25):Int×Int×(List Qd)×(List Bool))=>((lenO c25 (nS p)).bind fun _=>((Qc0 (tsk p c25) rank22).bind fun x29=>(if ((x29.length:Int) == 0) then some (r23,c24,c25) else ((Qcm (fun k34 ((x31,c32,c33):Int×(List Qd)×(List Bool))=>(if (x31 < (x29.length:Int)) then ((getO x29 x31).bind fun x36=>((inO (nS p) x36.State).bind fun u38=>((setO c33 x36.State false).bind fun x40=>((inO (Int.toNat ((nS p:Nat):Int)) x36.State).bind fun u42=>((setO c32 x36.State x36).bind fun x44=>k34 ((IntKind.wrap .i64 (x31 + 1)),x44,x40)))))) else some (c32,c33))) fuel (0,c24,c25)).bind fun ((c46,c47):(List Qd)×(List Bool))=>k26 ((IntKind.wrap .i64 (rank22 + 1)),rank22,c46,c47)))))) fuel (2,r0 p,Q2i p (T0 p),Qb0 p (T0 p)) = some (S.2,Q2i p S.1,Qb0 p S.1):=by
 have hst:=hp.a.st
 have hnS:nS p≤4096:=by unfold nS; omega
 refine Q6b (fun x:Int×Int×List Qd×List Bool=>∃ (f:Nat) (T:List Qd),x.2.2.1 = Q2i p T∧x.2.2.2 = Qb0 p T∧Okt p T∧Qxk p f x.1 T x.2.1 = S∧nS p + 1≤f + T.length∧2≤x.1∧x.1≤T.length + 2) (fun x=>(6000 - x.1).toNat) (some (S.2,Q2i p S.1,Qb0 p S.1)) ⟨f,T0 p,rfl,rfl,Qbf2 hp,hS,hf,by dsimp only; omega,by dsimp only; omega⟩ (by dsimp only; omega) ?_
 rintro k ⟨rank,r,c,L⟩ ⟨f,T,hc,hL,hT,hS,hf,h2,hrk⟩ ih
 dsimp only at hc hL hS hf h2 hrk ih ⊢
 subst hc hL
 have hTl:=hT.len
 rw [Q2e (Qip p T),Option.bind_some,Qbi8 hp (Qip p T),Option.bind_some]
 obtain ⟨f,rfl⟩ : ∃ g,f = g + 1:=⟨f - 1,by omega⟩
 rw [Qxk] at hS
 by_cases he:Qj6 p (Qb0 p T) rank = []
 ·rw [if_pos he] at hS
  rw [if_pos (by rw [he]; rfl)]
  subst hS; rfl
 ·rw [if_neg he] at hS
  have hpos:0 < (Qj6 p (Qb0 p T) rank).length:=List.length_pos_iff.2 he
  rw [if_neg (by simp only [beq_iff_eq]; omega)]
  have hok:=hT.round (rank:=rank) (by omega)
  have hmem:∀ x∈Qj6 p (Qb0 p T) rank,0≤x.State∧x.State < p.zA.zM:=fun x hx=>(Q2w hx).1
  have hol:=hok.len
  rw [List.length_append] at hol
  generalize Qj6 p (Qb0 p T) rank = l at *
  have hin:Qcm (fun (k34:Int×List Qd×List Bool→Option (List Qd×List Bool)) ((x31,c32,c33):Int×(List Qd)×(List Bool))=>(if (x31 < (l.length:Int)) then ((getO l x31).bind fun x36=>((inO (nS p) x36.State).bind fun u38=>((setO c33 x36.State false).bind fun x40=>((inO (Int.toNat ((nS p:Nat):Int)) x36.State).bind fun u42=>((setO c32 x36.State x36).bind fun x44=>k34 ((IntKind.wrap .i64 (x31 + 1)),x44,x40)))))) else some (c32,c33))) fuel (0,Q2i p T,Qb0 p T) = some (Q2i p (T ++ l),Qb0 p (T ++ l)):=by
   refine (Qgh (l:=l) (fun i (s:List Qd×List Bool)=>(i,s.1,s.2)) (fun s x=>(s.1.set x.State.toNat x,s.2.set x.State.toNat false)) (fun _ s=>s.1.length = nS p∧s.2.length = nS p) (fun s=>some s) (by unfold big; omega) hge (fun k n s hn hs=>?_) (fun n s hn hs=>by simp only [List.length_set]; exact hs) (fun k s hs=>?_) (s0:=(Q2i p T,Qb0 p T)) ⟨Qbdn p T,Qip p T⟩).trans ?_
   ·have hr:=hmem _ (List.getElem_mem hn)
    obtain ⟨hs1,hs2⟩:=hs
    unfold nS at hs1 hs2 ⊢
    dsimp only
    rw [if_pos (by omega),Qcc hn,Option.bind_some,Qml hr.1 (by omega),Option.bind_some,Qm4 hr.1 (by omega),Option.bind_some,Int.toNat_natCast,Qml hr.1 (by omega),Option.bind_some,Qm4 hr.1 (by omega),Option.bind_some]
   ·dsimp only
    rw [if_neg (by omega)]
   ·rw [← Qbf4,← Qbf3]
    exact congrArg some (Q6i (f:=fun (c:List Qd) (x:Qd)=>c.set x.State.toNat x) (g:=fun (c:List Bool) (x:Qd)=>c.set x.State.toNat false))
  rw [hin,Option.bind_some,Qqe (by omega) (by omega)]
  refine ih _ ⟨f,T ++ l,rfl,rfl,hok,hS,by rw [List.length_append]; omega,by dsimp only; omega,by dsimp only; rw [List.length_append]; omega⟩ (by dsimp only; omega)
end
end Go.Abs
end
section
namespace Go.Abs
open Go
theorem Qbb0 {β:Type} {z v:β} {k k' : Int}:∀ {m:List (Int×β)},getM (setM m k v) k' z = if k' = k then v else getM m k' z
 | []=>by simp [setM,getM]
 | (q,w) :: m=>by
  by_cases h1:k = q
  ·subst h1
   by_cases h2:k' = k <;> simp [setM,getM,h2]
  ·have h1' : (k == q) = false:=by simp [h1]
   simp only [setM,h1',Bool.false_eq_true,if_false,getM]
   rw [Qbb0 (m:=m)]
   by_cases h2:k' = q
   ·subst h2
    have:k' ≠ k:=fun e=>h1 e.symm
    simp [this]
   ·simp [h2]
theorem Qbb1 {β:Type} {v:β} {k k' : Int}:∀ {m:List (Int×β)},hasM (setM m k v) k' = (decide (k' = k) || hasM m k')
 | []=>by
  simp only [setM,hasM,List.any_cons,List.any_nil,Bool.or_false]
  rw [Bool.eq_iff_iff]; simp
 | (q,w) :: m=>by
  by_cases h1:k = q
  ·subst h1
   simp only [setM,beq_self_eq_true,if_true,Q82]
   rw [Bool.eq_iff_iff]; simp
  ·have h1' : (k == q) = false:=by simp [h1]
   simp only [setM,h1',Bool.false_eq_true,if_false,Q82]
   rw [Qbb1 (m:=m)]
   cases (k' == q) <;> cases decide (k' = k) <;> simp
def MapOk (m:List (Int×Int)) (st:List Int):Prop:=∀ r,hasM m r = decide (r∈st)∧(r∈st→getM m r 0 = (st.idxOf r:Int))
theorem MapOk.ins {m:List (Int×Int)} {st:List Int} (h:MapOk m st) {r:Int} (hr:r∉st):MapOk (setM m r (st.length:Int)) (st ++ [r]):=by
 intro x
 obtain ⟨h1,h2⟩:=h x
 refine ⟨?_,fun hx=>?_⟩
 ·rw [Qbb1,h1,Bool.eq_iff_iff]; simp; exact Or.comm
 ·rw [Qbb0]
  by_cases hxr:x = r
  ·subst hxr
   rw [if_pos rfl,List.idxOf_append]
   simp [hr]
  ·rw [if_neg hxr]
   have hx' : x∈st:=by
    rcases List.mem_append.1 hx with hx | hx
    ·exact hx
    ·simp at hx; exact absurd hx hxr
   rw [h2 hx',List.idxOf_append,if_pos hx']
def Qj3 (L:List Bool) (i:Nat) (s:List Int×List Qc) (x:Qc):List Int×List Qc :=
 if lf L x.To then (ins s.1 x.To,s.2 ++ [⟨(i:Int),x.Event,((ins s.1 x.To).idxOf x.To:Int)⟩]) else s
def bldS (p:Qb) (L:List Bool):Nat→Nat→List Int→List Int→List Qc→List Int×List Int×List Qc
 | 0,_,st,ms,es=>(st,ms,es)
 | f + 1,i,st,ms,es=>match st[i]? with
  | none=>(st,ms,es)
  | some s=>bldS p L f (i + 1) ((outP p.zA s).foldl (Qj3 L i) (st,es)).1 (if s∈p.zA.zK then ms ++ [(i:Int)] else ms) ((outP p.zA s).foldl (Qj3 L i) (st,es)).2
def st0 (p:Qb) (L:List Bool):List Int:=if 0 < p.zA.zM∧lf L 0 = true then [0] else []
def supP (p:Qb) (L:List Bool):List Int×List Int×List Qc:=bldS p L (nS p + 1) 0 (st0 p L) [] []
section
variable {p:Qb} (hp:RightP p) {L:List Bool}
include hp
theorem Qbb2 {i:Nat}:∀ {l:List Qc} {s:List Int×List Qc},(∀ x∈l,0≤x.To∧x.To < p.zA.zM)→Fnd p.zA s.1→Fnd p.zA (l.foldl (Qj3 L i) s).1∧s.1 <+: (l.foldl (Qj3 L i) s).1∧(l.foldl (Qj3 L i) s).2.length≤s.2.length + l.length
 | [],s,_,h=>⟨h,List.prefix_refl _,by simp⟩
 | x :: l,s,hl,h=>by
  rw [List.foldl_cons]
  have hx:=hl x (by simp)
  unfold Qj3
  cases hq:lf L x.To with
  | false =>
   rw [if_neg (by simp)]
   obtain ⟨h1,h2,h3⟩:=Qbb2 (i:=i) (l:=l) (s:=s) (fun y hy=>hl y (by simp [hy])) h
   exact ⟨h1,h2,by simp only [List.length_cons]; unfold Qj3 at h3; omega⟩
  | true =>
   rw [if_pos rfl]
   obtain ⟨h1,h2,h3⟩:=Qbb2 (i:=i) (l:=l) (s:=(ins s.1 x.To,s.2 ++ [⟨(i:Int),x.Event,((ins s.1 x.To).idxOf x.To:Int)⟩])) (fun y hy=>hl y (by simp [hy])) (h.ins hx)
   refine ⟨h1,List.IsPrefix.trans (Qbhv _ _) h2,?_⟩
   simp only [List.length_append,List.length_cons,List.length_nil] at h3 ⊢
   unfold Qj3 at h3; omega
theorem Qbav (s:Int):(outP p.zA s).length≤131072:=Nat.le_trans (List.length_filter_le _ _) hp.a.small.2.2.2
theorem Qbk0:Fnd p.zA (st0 p L):=by
 unfold st0
 split
 ·rename_i h
  exact ⟨by simp,fun x hx=>by simp only [List.mem_singleton] at hx; subst hx; exact ⟨Int.le_refl _,h.1⟩⟩
 ·exact ⟨by simp,fun x hx=>by cases hx⟩
variable (hL:L.length = nS p)
include hL
theorem Qbk1 {fuel:Nat} (hge:1099511627776≤fuel) {i:Nat} (hi:i≤4096) {s:Int} {st ms:List Int} {es:List Qc} {c:List (Int×Int)} (hf:Fnd p.zA st) (hc:MapOk c st) (he:es.length≤131072 * 4096) :
  ∃ c',MapOk c' ((outP p.zA s).foldl (Qj3 L i) (st,es)).1∧Qcm (fun (k49:List Int×Int×List Qc×List (Int×Int)→Option (List Int×List Int×List Qc×List (Int×Int))) ((origins45,x46,a47,c48):(List Int)×Int×(List Qc)×(List (Int×Int)))=>(if (x46 < ((outP p.zA s).length:Int)) then ((((getO (outP p.zA s) x46).bind fun x51=>((inO L.length x51.To).bind fun u53=>((getO L x51.To).bind fun x55=>(if x55 then (((if (hasM c48 x51.To) then some (origins45,c48) else ((appO origins45 [x51.To]).bind fun x59=>some (x59,(setM c48 x51.To (origins45.length:Int)))))).bind fun ((origins61,c62):(List Int)×(List (Int×Int)))=>((appO a47 [(Qc.mk (i:Int) x51.Event (getM c62 x51.To 0))]).bind fun x63=>some (origins61,x63,c62,x51.From,x51.Event,x51.To))) else some (origins45,a47,c48,x51.From,x51.Event,x51.To)))))).bind fun ((origins65,a66,c67,c68,c69,c70):(List Int)×(List Qc)×(List (Int×Int))×Int×Int×Int)=>k49 (origins65,(IntKind.wrap .i64 (x46 + 1)),a66,c67)) else some (origins45,ms,a47,c48))) fuel (st,0,es,c) = some (((outP p.zA s).foldl (Qj3 L i) (st,es)).1,ms,((outP p.zA s).foldl (Qj3 L i) (st,es)).2,c'):=by
 have hst:=hp.a.st
 have hnS:nS p≤4096:=by unfold nS; omega
 have hol:=Qbav hp s
 let stp:(List Int×List Qc)×List (Int×Int)→Qc→(List Int×List Qc)×List (Int×Int):=fun s x=>(Qj3 L i s.1 x,if lf L x.To && decide (x.To∉s.1.1) then setM s.2 x.To (s.1.1.length:Int) else s.2)
 have hproj:∀ (l:List Qc) (s:(List Int×List Qc)×List (Int×Int)),(l.foldl stp s).1 = l.foldl (Qj3 L i) s.1:=by
  intro l
  induction l with
  | nil=>intro s; rfl
  | cons x l ih=>intro s; rw [List.foldl_cons,List.foldl_cons,ih]
 have hI:∀ (n:Nat) (q:(List Int×List Qc)×List (Int×Int)) (hn:n < (outP p.zA s).length),(Fnd p.zA q.1.1∧MapOk q.2 q.1.1∧q.1.2.length≤131072 * 4096 + n)→(Fnd p.zA (stp q (outP p.zA s)[n]).1.1∧MapOk (stp q (outP p.zA s)[n]).2 (stp q (outP p.zA s)[n]).1.1∧(stp q (outP p.zA s)[n]).1.2.length≤131072 * 4096 + (n + 1)):=by
  rintro n q hn ⟨h1,h2,h3⟩
  have hr:=(Qvm hp _ (List.getElem_mem hn)).1
  generalize (outP p.zA s)[n] = x at hr
  simp only [stp,Qj3]
  cases hq:lf L x.To with
  | false=>simp only [Bool.false_eq_true,if_false,Bool.false_and]; exact ⟨h1,h2,by omega⟩
  | true =>
   simp only [if_true,Bool.true_and]
   refine ⟨h1.ins hr,?_,by simp only [List.length_append,List.length_cons,List.length_nil]; omega⟩
   by_cases hm:x.To∈q.1.1
   ·have:ins q.1.1 x.To = q.1.1:=by unfold ins; rw [if_pos hm]
    rw [this,if_neg (by simpa using hm)]; exact h2
   ·have:ins q.1.1 x.To = q.1.1 ++ [x.To]:=by unfold ins; rw [if_neg hm]
    rw [this,if_pos (by simpa using hm)]; exact h2.ins hm
 have h0:Fnd p.zA ((st,es),c).1.1∧MapOk ((st,es),c).2 ((st,es),c).1.1∧((st,es),c).1.2.length≤131072 * 4096 + 0:=⟨hf,hc,he⟩
 have hend:=Qbfa (l:=outP p.zA s) (stp:=stp) (I:=fun n q=>Fnd p.zA q.1.1∧MapOk q.2 q.1.1∧q.1.2.length≤131072 * 4096 + n) hI h0
 refine ⟨((outP p.zA s).foldl stp ((st,es),c)).2,?_,?_⟩
 ·have:=hend.2.1
  rw [hproj] at this; exact this
 ·refine (Qgh (l:=outP p.zA s) (fun j (q:(List Int×List Qc)×List (Int×Int))=>(q.1.1,j,q.1.2,q.2)) stp (fun n q=>Fnd p.zA q.1.1∧MapOk q.2 q.1.1∧q.1.2.length≤131072 * 4096 + n) (fun q=>some (q.1.1,ms,q.1.2,q.2)) (Q6g hp s) hge (fun k n q hn hq=>?_) hI (fun k q hq=>?_) (s0:=((st,es),c)) h0).trans ?_
  ·obtain ⟨h1,h2,h3⟩:=hq
   have hr:=(Qvm hp _ (List.getElem_mem hn)).1
   have hfl:=h1.len
   dsimp only
   rw [if_pos (by omega),Qcc hn]
   generalize (outP p.zA s)[n] = x at hr
   simp only [Option.bind_some,Qqf hL hr,stp,Qj3]
   cases hq:lf L x.To with
   | false=>simp
   | true =>
    simp only [if_true,Bool.true_and]
    rw [(h2 x.To).1]
    by_cases hm:x.To∈q.1.1
    ·have hins:ins q.1.1 x.To = q.1.1:=by unfold ins; rw [if_pos hm]
     rw [hins]
     simp only [hm,decide_true,if_true,Option.bind_some,(h2 x.To).2 hm,not_true_eq_false,decide_false,Bool.false_eq_true,if_false]
     rw [Qdg (by simp only [List.length_cons,List.length_nil]; unfold lim; omega)]; rfl
    ·have hins:ins q.1.1 x.To = q.1.1 ++ [x.To]:=by unfold ins; rw [if_neg hm]
     have hidx:(q.1.1 ++ [x.To]).idxOf x.To = q.1.1.length:=by rw [List.idxOf_append,if_neg hm]; simp
     rw [hins,hidx]
     simp only [hm,decide_false,Bool.false_eq_true,if_false,not_false_eq_true,decide_true,if_true]
     rw [Qdg (l:=q.1.1) (by simp only [List.length_cons,List.length_nil]; unfold lim; omega)]
     simp only [Option.bind_some,Qbb0,if_true]
     rw [Qdg (by simp only [List.length_cons,List.length_nil]; unfold lim; omega)]; rfl
  ·dsimp only
   rw [if_neg (by omega)]
  ·rw [hproj]
theorem Qblr:Qcx (tsk p L) = some (⟨p.zA.zJ,((supP p L).1.length:Int),(supP p L).2.1,(supP p L).2.2⟩,(supP p L).1):=by
 unfold Qcx Q1
 obtain ⟨fuel,hfu,hge⟩ : ∃ f,Qb4 = f∧1099511627776≤f:=⟨_,rfl,Nat.le_refl _⟩
 rw [hfu]
 rw [show (tsk p L).left_ = L from rfl,show (tsk p L).zN = p from rfl,show (tsk p L).from_ = Q47 p from rfl]
 have hst:=hp.a.st
 have hnS:nS p≤4096:=by unfold nS; omega
 have hsm:=hp.a.small
 rw [Qbi3 (by unfold lim; omega),Option.bind_some]
 obtain ⟨c0,hc0,hstart⟩ : ∃ c0,MapOk c0 (st0 p L)∧(((if ((L.length:Int) > 0) then ((inO L.length 0).bind fun u11=>((getO L 0).bind fun x13=>some x13)) else some false)).bind fun (x15:Bool)=>(if x15 then ((appO [] [(0:Int)]).bind fun x17=>some (x17,(setM ([]:List (Int×Int)) 0 0))) else some ([],[]))) = some (st0 p L,c0):=by
  unfold st0
  by_cases h1:(L.length:Int) > 0
  ·have hn0:0 < p.zA.zM:=by unfold nS at hL; omega
   rw [if_pos h1]
   simp only [Qqf hL (p:=p) (x:=0) ⟨Int.le_refl _,hn0⟩,Option.bind_some,hn0,true_and]
   cases lf L 0 with
   | true =>
    refine ⟨setM [] 0 0,fun r=>⟨?_,fun hr=>?_⟩,rfl⟩
    ·rw [Qbb1]; simp [hasM]
    ·simp only [if_true,List.mem_singleton] at hr; subst hr; rfl
   | false=>exact ⟨[],fun r=>⟨by simp [hasM],fun hr=>by simp at hr⟩,rfl⟩
  ·have hn0:¬ (0 < p.zA.zM):=by unfold nS at hL; omega
   rw [if_neg h1]
   simp only [hn0,false_and,if_false]
   exact ⟨[],fun r=>⟨by simp [hasM],fun hr=>by cases hr⟩,rfl⟩
 rw [hstart,Option.bind_some]
 dsimp only
 generalize hA:supP p L = A
 refine Qbbw (P:=fun r=>∃ c' : List (Int×Int),r = (A.1,[],[],[],A.2.1,A.2.2,c')) ?_ ?_
 ·refine Qit (fun x:List Int×Int×List Int×List Int×List Qc×List Int×List Qc×List (Int×Int)=>∃ (n f:Nat),x.2.1 = n∧x.2.2.1 = []∧x.2.2.2.1 = []∧x.2.2.2.2.1 = []∧n + f = nS p + 1∧n≤x.1.length∧Fnd p.zA x.1∧x.2.2.2.2.2.1.length≤n∧x.2.2.2.2.2.2.1.length≤131072 * n∧MapOk x.2.2.2.2.2.2.2 x.1∧bldS p L f n x.1 x.2.2.2.2.2.1 x.2.2.2.2.2.2.1 = A)
   (fun x=>5001 - x.2.1.toNat) (fun _ r=>∃ v,r = some v∧∃ c' : List (Int×Int),v = (A.1,[],[],[],A.2.1,A.2.2,c')) ?_ fuel (st0 p L,0,[],[],[],[],[],c0) ⟨0,nS p + 1,rfl,rfl,rfl,rfl,by omega,Nat.zero_le _,Qbk0 hp,Nat.zero_le _,Nat.zero_le _,hc0,hA⟩ (by dsimp only; omega)
  rintro k ⟨st,x,c1,c2,c3,ms,es,c⟩ ⟨n,f,hx,h1,h2,h3,hf,hnl,hfd,hms,hes,hc,hB⟩ ih
  dsimp only at hx h1 h2 h3 hnl hfd hms hes hc hB ih ⊢
  subst hx h1 h2 h3
  have hfl:=hfd.len
  by_cases hlt:n < st.length
  ·obtain ⟨f,rfl⟩ : ∃ g,f = g + 1:=⟨f - 1,by unfold nS at *; omega⟩
   have hi:st[n]? = some st[n]:=List.getElem?_eq_getElem hlt
   have hr:=hfd.rg _ (List.getElem_mem hlt)
   rw [if_pos (by omega),Qcc hlt,Option.bind_some,Qcr hp.a.ma hsm.1.2.1,Option.bind_some]
   have hmk:(if decide (st[n]∈p.zA.zK) = true then (appO ms [(n:Int)]).bind fun x36=>some x36 else some ms) = some (if st[n]∈p.zA.zK then ms ++ [(n:Int)] else ms):=by
    rw [Qdg (by simp only [List.length_cons,List.length_nil]; unfold lim; unfold nS at *; omega)]
    by_cases hm:st[n]∈p.zA.zK <;> simp [hm]
   rw [hmk,Option.bind_some,Option.bind_some,(Q69 hr).1,Option.bind_some,(Q69 hr).2,Option.bind_some]
   rw [bldS,hi] at hB
   dsimp only at hB
   obtain ⟨k1,k2,k3⟩:=Qbb2 hp (i:=n) (L:=L) (l:=outP p.zA st[n]) (s:=(st,es)) (fun x hx=>(Qvm hp x hx).1) hfd
   have hol:=Qbav hp st[n]
   have hn4:n≤4096:=by unfold nS at *; omega
   obtain ⟨c',hc',hrow⟩:=Qbk1 hp hL hge (i:=n) hn4 (s:=st[n]) (ms:=if st[n]∈p.zA.zK then ms ++ [(n:Int)] else ms) (es:=es) hfd hc (by omega)
   rw [hrow,Option.bind_some,Qce (by omega)]
   have hk2:=k2.length_le
   refine ih _ ⟨n + 1,f,rfl,rfl,rfl,rfl,by omega,by dsimp only at hk2 ⊢; omega,k1,?_,by dsimp only at k3 ⊢; omega,hc',hB⟩ (by simp only [Int.toNat_natCast]; unfold nS at *; omega)
   dsimp only
   split
   ·simp only [List.length_append,List.length_cons,List.length_nil]; omega
   ·omega
  ·rw [if_neg (by omega)]
   have hB' : (st,ms,es) = A:=by
    cases f with
    | zero=>exact hB
    | succ f=>rw [bldS,List.getElem?_eq_none (by omega)] at hB; exact hB
   subst hB'
   exact ⟨_,rfl,c,rfl⟩
 ·rintro _ ⟨c',rfl⟩
  rfl
end
end Go.Abs
end
section
namespace Go.Abs
open Go
abbrev zR:Qd:=⟨0,0,0,0⟩
def remF (p:Qb) (T:List Qd) (i:Int):Option Qd:=if lf (Qb0 p T) i then none else some (at0 zR (Q2i p T) i)
def resP (p:Qb) (T:List Qd) (r:Int):Qbm :=
 ⟨⟨(upto p.zA.zM).filter (lf (Qb0 p T)),((upto p.zA.zM).filter (lf (Qb0 p T))).map (ati (Qk1 p (Qb0 p T))),(upto p.zA.zM).filterMap (remF p T)⟩,r,
  ⟨p.zA.zJ,((supP p (Qb0 p T)).1.length:Int),(supP p (Qb0 p T)).2.1,(supP p (Qb0 p T)).2.2⟩,(supP p (Qb0 p T)).1,
  (upto p.zA.zM).filter fun i=>lf (Qb0 p T) i && Qjb p (Qb0 p T) i⟩
def Qy9 (p:Qb) (T:List Qd) (s:List Int×List Int×List Qd×List Int) (i:Int):List Int×List Int×List Qd×List Int :=
 if lf (Qb0 p T) i then (s.1 ++ [i],s.2.1 ++ [ati (Qk1 p (Qb0 p T)) i],s.2.2.1,if Qjb p (Qb0 p T) i then s.2.2.2 ++ [i] else s.2.2.2) else (s.1,s.2.1,s.2.2.1 ++ [at0 zR (Q2i p T) i],s.2.2.2)
theorem Qbfg {p:Qb} {T:List Qd}:∀ {l:List Int} {s:List Int×List Int×List Qd×List Int},l.foldl (Qy9 p T) s =
  (s.1 ++ l.filter (lf (Qb0 p T)),s.2.1 ++ (l.filter (lf (Qb0 p T))).map (ati (Qk1 p (Qb0 p T))),s.2.2.1 ++ l.filterMap (remF p T),s.2.2.2 ++ l.filter fun i=>lf (Qb0 p T) i && Qjb p (Qb0 p T) i)
 | [],s=>by simp
 | x :: l,s=>by
  rw [List.foldl_cons,Qbfg (l:=l)]
  unfold Qy9
  cases h:lf (Qb0 p T) x with
  | true =>
   cases h2:Qjb p (Qb0 p T) x <;> simp [List.filter_cons,List.filterMap_cons,h,h2,remF]
  | false=>simp [List.filter_cons,List.filterMap_cons,h,remF]
theorem Qbk2 {p:Qb} {T:List Qd} {s:List Int×List Int×List Qd×List Int} {i:Int} {n:Nat} (h:s.1.length≤n∧s.2.1.length≤n∧s.2.2.1.length≤n∧s.2.2.2.length≤n) :
  (Qy9 p T s i).1.length≤n + 1∧(Qy9 p T s i).2.1.length≤n + 1∧(Qy9 p T s i).2.2.1.length≤n + 1∧(Qy9 p T s i).2.2.2.length≤n + 1:=by
 unfold Qy9
 split
 ·refine ⟨?_,?_,?_,?_⟩
  ·simp; omega
  ·simp; omega
  ·simp; omega
  ·dsimp only
   split
   ·simp; omega
   ·omega
 ·simp; omega
section
variable {p:Qb} (hp:RightP p)
include hp
theorem Qbb3:Qc1 p = some (resP p (solP p).1 (solP p).2,0):=by
 unfold Qc1 Qu
 obtain ⟨fuel,hfu,hge⟩ : ∃ f,Qb4 = f∧1099511627776≤f:=⟨_,rfl,Nat.le_refl _⟩
 rw [hfu]
 have hst:=hp.a.st
 have hnS:nS p≤4096:=by unfold nS; omega
 have hpl:=hp.small
 have hfl:=hp.fo.small hst.2
 have hT0:=Qbf2 hp
 rw [Q6f hpl,Qbas.2 hp,Option.bind_some,if_neg (by simp),Qbff hp,Option.bind_some]
 rw [show (tsk p (Qb0 p (T0 p))).left_ = Qb0 p (T0 p) from rfl,show (tsk p (Qb0 p (T0 p))).zN = p from rfl,show (tsk p (Qb0 p (T0 p))).from_ = Q47 p from rfl,Qip]
 rw [show mkO ((nS p:Nat):Int) (Qd.mk 0 0 0 0) = some (List.replicate (nS p) zR) from by unfold mkO lim; rw [if_pos (by omega),Int.toNat_natCast]]
 rw [Option.bind_some]
 refine Option.bind_eq_some_iff.2 ⟨(r0 p,Q2i p (T0 p)),?_,?_⟩
 ·refine (Qgh (l:=p.zC) (fun i (s:Int×List Qd)=>(i,s.1,s.2)) (fun s x=>(1,s.2.set x.toNat ⟨x,1,1,-1⟩)) (fun _ s=>s.2.length = nS p) (fun s=>some s) hpl.2.1 hge (fun k n s hn hs=>?_) (fun n s hn hs=>by simp only [List.length_set]; exact hs) (fun k s hs=>?_) (s0:=((0:Int),List.replicate (nS p) zR)) (by simp)).trans ?_
  ·have hr:=hp.fo.rg _ (List.getElem_mem hn)
   have hs:s.2.length = nS p:=hs
   unfold nS at hs hnS ⊢
   dsimp only
   rw [if_pos (by omega),Qcc hn,Option.bind_some,Int.toNat_natCast,Qml hr.1 (by omega),Option.bind_some,Qm4 hr.1 (by omega),Option.bind_some]
  ·dsimp only
   rw [if_neg (by omega)]
  ·have e1:p.zC.foldl (fun (s:Int×List Qd) x=>((1:Int),s.2.set x.toNat (⟨x,1,1,-1⟩ : Qd))) (0,List.replicate (nS p) zR) = (p.zC.foldl (fun (_:Int) _=>(1:Int)) 0,p.zC.foldl (fun (c:List Qd) x=>c.set x.toNat ⟨x,1,1,-1⟩) (List.replicate (nS p) zR)):=Q6i (f:=fun _ _=>(1:Int)) (g:=fun (c:List Qd) (x:Int)=>c.set x.toNat ⟨x,1,1,-1⟩)
   rw [e1]
   congr 2
   ·unfold r0
    cases p.zC with
    | nil=>rfl
    | cons x l =>
     rw [if_neg (by simp),List.foldl_cons]
     have:∀ l:List Int,l.foldl (fun (_:Int) _=>(1:Int)) 1 = 1:=fun l=>by induction l with | nil=>rfl | cons y l ih=>rw [List.foldl_cons,ih]
     exact this l
   ·unfold Q2i T0
    rw [List.foldl_map]
 dsimp only
 have hS:=Qbf5 hp hge (S:=solP p) (f:=nS p + 1) rfl (by omega)
 have hSok:Okt p (solP p).1:=by
  have:∀ (f:Nat) (rank:Int) (T:List Qd) (r:Int),1≤rank→Okt p T→Okt p (Qxk p f rank T r).1:=by
   intro f
   induction f with
   | zero=>intro rank T r _ h; exact h
   | succ f ih =>
    intro rank T r hr h
    rw [Qxk]
    split
    ·exact h
    ·exact ih _ _ _ (by omega) (h.round hr)
  exact this _ _ _ _ (by omega) hT0
 generalize solP p = S at hS hSok ⊢
 obtain ⟨T,r⟩:=S
 dsimp only at hS hSok ⊢
 refine Option.bind_eq_some_iff.2 ⟨_,hS,?_⟩
 dsimp only
 have hlL:=Qip p T
 have hD:=(Qtx hp (Qb0 p T)).ln
 rw [Q2e hlL]
 simp only [Option.bind_some]
 rw [show Qf.mk p (Q47 p) (Qb0 p T) = tsk p (Qb0 p T) from rfl,Q2h hp hlL,Option.bind_some,Qblr hp hlL]
 refine Option.bind_eq_some_iff.2 ⟨([],[],[],[],[],[],[],[],(resP p T r).zE.Kept,(resP p T r).zE.zF,(resP p T r).zE.zG,[],[],[],[],(resP p T r).zI),?_,rfl⟩
 refine (Qgh (l:=upto p.zA.zM) (fun i (s:List Int×List Int×List Qd×List Int)=>(i,[],[],[],[],[],[],[],[],s.1,s.2.1,s.2.2.1,[],[],[],[],s.2.2.2)) (Qy9 p T) (fun n s=>s.1.length≤n∧s.2.1.length≤n∧s.2.2.1.length≤n∧s.2.2.2.length≤n) (fun s=>some ([],[],[],[],[],[],[],[],s.1,s.2.1,s.2.2.1,[],[],[],[],s.2.2.2)) (by rw [Qbw]; unfold big; omega) hge (fun k n s hn hs=>?_) (fun n s hn hs=>Qbk2 hs) (fun k s hs=>?_) (s0:=([],[],[],[])) (by simp)).trans ?_
 ·have hn':=Qio hn
  obtain ⟨a1,a2,a3,a4⟩:=hs
  have hx:0≤(n:Int)∧(n:Int) < p.zA.zM:=⟨by omega,by omega⟩
  have hlt:∀ {l:List Int} {x:Int},l.length≤n→appO l [x] = some (l ++ [x]):=fun h=>Qdg (by simp only [List.length_cons,List.length_nil]; unfold lim; omega)
  have hlr:∀ {l:List Qd} {x:Qd},l.length≤n→appO l [x] = some (l ++ [x]):=fun h=>Qdg (by simp only [List.length_cons,List.length_nil]; unfold lim; omega)
  dsimp only
  rw [Qje hn,if_pos (by omega),Qm3 (d:=0) (l:=Qk1 p (Qb0 p T)) hx.1 (by omega),Option.bind_some]
  have hla:=Qqf hlL hx
  rw [hlL] at hla
  simp only [hla,Option.bind_some]
  unfold Qy9
  cases hq:lf (Qb0 p T) (n:Int) with
  | true =>
   simp only [if_true]
   rw [hlt a1,Option.bind_some,hlt a2,Option.bind_some,(Q69 hx).1,Option.bind_some,(Q69 hx).2,Option.bind_some]
   rw [Q2g (p:=fun y=>(y.Event == p.Tick) && !lf (Qb0 p T) y.To) (fun y hy=>by
    have h1:=Qqf hlL (Qvm hp y hy).1
    unfold Qeq Q9
    rw [show (tsk p (Qb0 p T)).left_ = Qb0 p T from rfl]
    simp only [h1,Option.bind_some]
    cases hq:y.Event == p.Tick <;> simp) (Q6g hp _),Option.bind_some,hlt a4]
   show ((if Qjb p (Qb0 p T) (n:Int) = true then _ else _:Option _).bind _) = _
   cases Qjb p (Qb0 p T) (n:Int) <;> rfl
  | false =>
   simp only [Bool.false_eq_true,if_false]
   rw [Int.toNat_natCast,Qml hx.1 (by unfold nS; omega),Option.bind_some,Qm3 (d:=zR) (l:=Q2i p T) hx.1 (by rw [Qbdn]; unfold nS; omega),Option.bind_some,hlr a3]
   rfl
 ·dsimp only
  rw [Qbw,if_neg (by omega)]
 ·rw [Qbfg]
  simp only [List.nil_append]
  rfl
end
end Go.Abs
end
section
namespace Go.Abs
open Go
theorem Q49 {α β:Type} {c:α→Bool} {g:α→β}:∀ {l:List α} {acc:List β},l.foldl (fun acc x=>if c x then acc ++ [g x] else acc) acc = acc ++ (l.filter c).map g
 | [],acc=>by simp
 | x :: l,acc=>by
  rw [List.foldl_cons,Q49 (l:=l)]
  cases h:c x <;> simp [List.filter_cons,h]
section
variable {p:Qb} (hp:RightP p) {T:List Qd} (hT:Okt p T) (r:Int)
include hp
include hT
end
end Go.Abs
end
section
namespace Go.Abs
open Go
structure Qbei (k:Q2):Prop where
 ev:0≤k.Part.Events∧k.Part.Events < 256
 gr:Qbhy k.Part.Graph
 fo:0≤k.zC∧k.zC < 256
 un:0≤k.zB∧k.zB < 256
 fc:0≤k.zD∧k.zD < 256
def evB4 (s:Nat):Bool:=match Qcq (andI .u8 (s:Int) 15) with
 | some l=>Qbhw l && l.all fun x=>decide (0≤x) && decide (x < 4)
 | none=>false
theorem Qbi9:(List.range 256).all evB4 = true:=by kernel_rfl
theorem Qbaw {s:Int} (h0:0≤s) (h1:s < 256):∃ l,Qcq (andI .u8 s 15) = some l∧SetP 32 l∧(4:Int)∉l∧l.length≤4:=by
 have:=List.all_eq_true.1 Qbi9 s.toNat (List.mem_range.2 (by omega))
 unfold evB4 at this
 rw [show ((s.toNat:Nat):Int) = s from by omega] at this
 split at this
 ·rename_i l hl
  simp only [Bool.and_eq_true,List.all_eq_true,decide_eq_true_eq] at this
  have hso:=Q9j this.1
  refine ⟨l,hl,⟨fun x hx=>?_,hso⟩,fun hx=>?_,?_⟩
  ·have:=this.2 x hx; omega
  ·have:=this.2 4 hx; omega
  ·have:=Qiu hso this.2; omega
 ·cases this
def bitP (s i:Int):Bool:=andI .u8 (s.fdiv (2 ^ (min (Int.toNat i) (IntKind.bits .u8)))) 1 == 1
theorem Qbh8 {k:Q2} (hk:Qbei k):∃ p,Qf9 k = some p∧RightP p∧p.Tick = 4∧p.zA.zM≤5:=by
 unfold Qf9 Qci
 obtain ⟨fuel,hfu,hge⟩ : ∃ f,Qb4 = f∧1099511627776≤f:=⟨_,rfl,Nat.le_refl _⟩
 obtain ⟨ev,hE,hev⟩:=Qbhx hk.ev.1 hk.ev.2
 obtain ⟨m,hm,hmal,hM,hm5⟩:=Qbkx hev hk.gr
 obtain ⟨un,hU,hun,hu4,_⟩:=Qbaw hk.un.1 hk.un.2
 obtain ⟨fc,hF,hfc,hf4,_⟩:=Qbaw hk.fc.1 hk.fc.2
 have ha:=Qbdc hm
 have h5:(Q35 m).zM≤5:=by
  have:=(Q68 hm).1.len
  show ((Qtw m).length:Int)≤5
  omega
 generalize Q35 m = a at ha hM h5
 have hst:=ha.st
 rw [hfu]
 refine ⟨⟨a,(upto a.zM).filter (bitP k.zC),un,fc,4⟩,Option.bind_eq_some_iff.2 ⟨ev,hE,Option.bind_eq_some_iff.2 ⟨a,hM,Option.bind_eq_some_iff.2 ⟨un,hU,Option.bind_eq_some_iff.2 ⟨fc,hF,?_⟩⟩⟩⟩,⟨ha,⟨fun x hx=>?_,(Qxj _).filter _⟩,hun,hfc,by simp only; omega,hu4,hf4⟩,rfl,h5⟩
 ·refine Option.bind_eq_some_iff.2 ⟨([],[],[],[],[],[],(upto a.zM).filter (bitP k.zC)),?_,rfl⟩
  refine (Qgh (l:=upto a.zM) (fun i (acc:List Int)=>(i,[],[],[],[],[],[],acc)) (fun acc i=>if bitP k.zC i then acc ++ [i] else acc) (fun n acc=>acc.length≤n) (fun acc=>some ([],[],[],[],[],[],acc)) (by rw [Qbw]; unfold big; omega) hge (fun k' n acc hn ha'=>?_) (fun n acc hn ha'=>by split <;> first | (simp only [List.length_append,List.length_cons,List.length_nil]; omega) | omega) (fun k' acc ha'=>?_) (s0:=[]) (by simp)).trans ?_
  ·have hn':=Qio hn
   dsimp only
   rw [Qje hn,if_pos (by omega)]
   rw [show shrO .u8 k.zC (n:Int) = some (k.zC.fdiv (2 ^ (min (Int.toNat (n:Int)) (IntKind.bits .u8)))) from by unfold shrO; rw [if_neg (by omega)]]
   rw [Option.bind_some,Qdg (by simp only [List.length_cons,List.length_nil]; unfold lim; omega)]
   show ((if bitP k.zC (n:Int) = true then _ else _:Option _).bind _) = _
   cases bitP k.zC (n:Int) <;> rfl
  ·dsimp only
   rw [Qbw,if_neg (by omega)]
  ·have:=Q49 (c:=bitP k.zC) (g:=id) (l:=upto a.zM) (acc:=([]:List Int))
   rw [List.map_id,List.nil_append] at this
   exact congrArg (fun z=>some (([]:List Int),([]:List Int),([]:List Qc),([]:List Int),([]:List Int),([]:List Int),z)) this
 ·exact Qgp.1 (List.mem_filter.1 hx).1
section
variable {p:Qb} (hp:RightP p)
include hp
end
theorem Qbh9 {a b:List Int} (h:a.length < big):Qo1 a b = some (decide (a = b)):=by
 unfold Qo1 Qcz
 rw [Qbh2 h]; rfl
end Go.Abs
end
section
namespace Go.Proofs
open Go Go.Abs
theorem Qbf6 {x:Int} (h:wfI .u8 x):0≤x∧x < 256:=by
 unfold wfI at h
 simp [Lit.wf,IntKind.min,IntKind.max,IntKind.bits,IntKind.signed] at h
 omega
theorem Qbja {g:Qbh} (h:W_26 g):Qbhy g:=by
 unfold W_26 W_24 W_23 W_5 at h
 obtain ⟨h1,h2,⟨a1,a2,a3,a4,a5⟩,⟨b1,b2,b3,b4,b5⟩,⟨c1,c2,c3,c4,c5⟩,⟨d1,d2,d3,d4,d5⟩,⟨e1,e2,e3,e4,e5⟩⟩:=h
 refine ⟨Qbf6 h1,fun x hx=>?_⟩
 simp only [List.mem_cons,List.not_mem_nil,or_false] at hx
 rcases hx with rfl | rfl | rfl | rfl | rfl | rfl | rfl | rfl | rfl | rfl | rfl | rfl | rfl | rfl | rfl | rfl | rfl | rfl | rfl | rfl | rfl | rfl | rfl | rfl | rfl <;> exact Qbf6 (by assumption)
theorem Qbls {k:Q2} (h:W_30 k):Qbei k :=
 ⟨Qbf6 h.1.1,Qbja h.1.2,Qbf6 h.2.1,Qbf6 h.2.2.1,Qbf6 h.2.2.2⟩
end Go.Proofs
end
section
namespace Go.Abs
open Go
theorem Qbjb {l m:List Int} (hl:l.Pairwise (· < ·)) (hm:m.Pairwise (· < ·)) (h1:l.length < big) (h2:m.length < 1000000):Qjc l m = some (l.filter fun x=>decide (x∉m)):=by
 unfold Qjc Qdi Qqb Qdh
 obtain ⟨fuel,hfu,hge⟩ : ∃ f,Qb4 = f∧1099511627776≤f:=⟨_,rfl,Nat.le_refl _⟩
 rw [hfu]
 have hg:∀ (x:Int) (l:List Int),getO (x :: l) 0 = some x:=fun x l=>Qcc (l:=x :: l) (n:=0) (by simp)
 have hd:∀ (x:Int) (l:List Int),slcO (x :: l) 1 ((x :: l).length:Int) = some l:=fun x l=>by
  have:=Qbix (l:=x :: l) (i:=1) (j:=(x :: l).length) (by simp) (by simp)
  rw [List.take_length] at this
  exact this
 have hk:∀ p q,Ql3 p q = some (p && !q):=fun p q=>by cases p <;> cases q <;> rfl
 rw [Q6b (fun x:List Int×List Int×List Int=>x.1.Pairwise (· < ·)∧x.2.1.Pairwise (· < ·)∧x.2.2.length + x.1.length < big∧x.2.2 ++ x.1.filter (fun z=>decide (z∉x.2.1)) = l.filter fun z=>decide (z∉m)) (fun x=>x.1.length + x.2.1.length) (some (l.filter fun z=>decide (z∉m))) ⟨hl,hm,by simpa using h1,by simp⟩ (by unfold big at h1; dsimp only; omega) ?_]
 ·rfl
 rintro k ⟨a,b,out⟩ ⟨ha,hb,ho,he⟩ ih
 dsimp only at ha hb ho he ih ⊢
 match a,b with
 | [],[]=>simpa using he
 | [],y :: ys =>
  rw [show ((([]:List Int).length:Nat):Int) = 0 from rfl]
  have hp:(((y :: ys).length:Nat):Int) > 0:=by simp only [List.length_cons]; omega
  rw [if_neg (by omega),Option.bind_some,if_pos (by simp)]
  rw [if_neg (by omega),Option.bind_some,if_pos hp,if_pos (by rfl),Option.bind_some,if_neg (by simp),Option.bind_some,if_pos rfl,hg,hd]
  simp only [Option.bind_some,hk,Bool.false_and,Bool.false_eq_true,if_false]
  exact ih ([],ys,out) ⟨ha,(List.pairwise_cons.1 hb).2,ho,by simpa using he⟩ (by simp)
 | x :: xs,[] =>
  rw [show ((([]:List Int).length:Nat):Int) = 0 from rfl]
  have hp:(((x :: xs).length:Nat):Int) > 0:=by simp only [List.length_cons]; omega
  rw [if_pos hp,Option.bind_some,if_pos rfl,if_pos hp,if_pos (by rfl),Option.bind_some,if_neg (by omega),Option.bind_some,if_pos rfl,hg,hd]
  simp only [Option.bind_some,hk,Bool.true_and,Bool.not_false,Bool.false_eq_true,if_false,if_true]
  simp only [List.length_cons] at ho
  rw [Qdg (by simp only [List.length_cons,List.length_nil]; unfold lim; unfold big at ho; omega),Option.bind_some]
  exact ih (xs,[],out ++ [x]) ⟨(List.pairwise_cons.1 ha).2,hb,by simp only [List.length_append,List.length_cons,List.length_nil]; omega,by simpa using he⟩ (by simp)
 | x :: xs,y :: ys =>
  obtain ⟨ha1,ha2⟩:=List.pairwise_cons.1 ha
  obtain ⟨hb1,hb2⟩:=List.pairwise_cons.1 hb
  have hp:(((x :: xs).length:Nat):Int) > 0:=by simp only [List.length_cons]; omega
  have hq:(((y :: ys).length:Nat):Int) > 0:=by simp only [List.length_cons]; omega
  have hp0:((((x :: xs).length:Nat):Int) == 0) = false:=by simp only [beq_eq_false_iff_ne]; omega
  have hq0:((((y :: ys).length:Nat):Int) == 0) = false:=by simp only [beq_eq_false_iff_ne]; omega
  rw [if_pos hp,Option.bind_some,if_pos rfl,if_pos hp,if_neg (by rw [hq0]; simp),hg,hg,Option.bind_some,Option.bind_some,Option.bind_some,if_pos hq,if_neg (by rw [hp0]; simp),Option.bind_some,Option.bind_some,Option.bind_some,hd,hd]
  simp only [List.length_cons] at ho
  rcases Int.lt_trichotomy x y with hxy | rfl | hxy
  ·have e1:decide (x≤y) = true:=decide_eq_true (by omega)
   have e2:decide (y≤x) = false:=decide_eq_false (by omega)
   simp only [e1,e2,Option.bind_some,hk,Bool.not_false,Bool.true_and,if_true,Bool.false_eq_true,if_false]
   rw [Qdg (by simp only [List.length_cons,List.length_nil]; unfold lim; unfold big at ho; omega),Option.bind_some]
   have:x∉y :: ys:=fun hm=>by
    rcases List.mem_cons.1 hm with rfl | hm
    ·omega
    ·have:=hb1 _ hm; omega
   rw [List.filter_cons_of_pos (by simpa using this)] at he
   exact ih (xs,y :: ys,out ++ [x]) ⟨ha2,hb,by simp only [List.length_append,List.length_cons,List.length_nil]; omega,by rw [← he]; simp⟩ (by simp)
  ·have e1:decide (x≤x) = true:=decide_eq_true (by omega)
   simp only [e1,Option.bind_some,hk,Bool.not_true,Bool.and_false,if_true,Bool.false_eq_true,if_false]
   rw [List.filter_cons_of_neg (by simp)] at he
   refine ih (xs,ys,out) ⟨ha2,hb2,by simp only; omega,?_⟩ (by simp; omega)
   rw [← he]
   congr 1
   refine List.filter_congr fun z hz=>?_
   have:=ha1 z hz
   have hne:z≠x:=by omega
   simp [hne]
  ·have e1:decide (x≤y) = false:=decide_eq_false (by omega)
   have e2:decide (y≤x) = true:=decide_eq_true (by omega)
   simp only [e1,e2,Option.bind_some,hk,Bool.false_and,if_true,Bool.false_eq_true,if_false]
   refine ih (x :: xs,ys,out) ⟨ha,hb2,by simp only [List.length_cons]; omega,?_⟩ (by simp)
   rw [← he]
   congr 1
   refine List.filter_congr fun z hz=>?_
   have hne:z≠y:=by
    rcases List.mem_cons.1 hz with rfl | hz
    ·omega
    ·have:=ha1 z hz; omega
   simp [hne]
theorem Qbia {l m:List Int} (hl:l.Pairwise (· < ·)) (hm:m.Pairwise (· < ·)) (h1:l.length < big) (h2:m.length < 1000000):Qis l m = some (decide (∀ x∈l,x∈m)):=by
 unfold Qis Qc6
 rw [Qbjb hl hm h1 h2,Option.bind_some]
 congr 1
 rw [Bool.eq_iff_iff]
 simp only [beq_iff_eq,decide_eq_true_eq]
 constructor
 ·intro h x hx
  have:l.filter (fun x=>decide (x∉m)) = []:=List.eq_nil_of_length_eq_zero (by omega)
  have:=List.filter_eq_nil_iff.1 this x hx
  simpa using this
 ·intro h
  have:l.filter (fun x=>decide (x∉m)) = []:=List.filter_eq_nil_iff.2 fun x hx=>by simpa using h x hx
  rw [this]; rfl
def rowL (p:Qb) (l:List Int):List Bool:=(upto p.zA.zM).map fun i=>decide (i∈l)
theorem Q73 (p:Qb) (l:List Int):(rowL p l).length = nS p:=by unfold rowL; rw [List.length_map,Qbw]
theorem Q7b {p:Qb} {l:List Int} {x:Int} (h0:0≤x) (h1:x < p.zA.zM):lf (rowL p l) x = decide (x∈l):=Q2f h0 h1
def okS (p:Qb) (L:List Bool) (i:Int):Bool:=((escP p L i).1 == 0) && (!decide (i∈p.zC) && decide (0≤ati (Qk1 p L) i))
section
variable {p:Qb} (hp:RightP p)
include hp
theorem Qbej {l:List Int} (hl:SetP p.zA.zM l):Qea p l = some (l.all (okS p (rowL p l)),0):=by
 unfold Qea Qbs
 obtain ⟨fuel,hfu,hge⟩ : ∃ f,Qb4 = f∧1099511627776≤f:=⟨_,rfl,Nat.le_refl _⟩
 have hst:=hp.a.st
 have hpl:=hp.small
 have hll:=hl.small hst.2
 have hlb:l.length < big:=by unfold big; omega
 rw [hfu,Q6f hpl,Qbas.2 hp,Option.bind_some,if_neg (by simp),Qy8 hlb,Qrt.2 hl,Option.bind_some,if_neg (by simp),Qbff hp,Option.bind_some]
 rw [show (tsk p (Qb0 p (T0 p))).left_ = Qb0 p (T0 p) from rfl,show (tsk p (Qb0 p (T0 p))).zN = p from rfl,show (tsk p (Qb0 p (T0 p))).from_ = Q47 p from rfl,Qip]
 refine Option.bind_eq_some_iff.2 ⟨rowL p l,?_,?_⟩
 ·refine (Qgh (l:=upto p.zA.zM) (fun i (c:List Bool)=>(i,c)) (fun c i=>c.set i.toNat (decide (i∈l))) (fun _ c=>c.length = nS p) (fun c=>some c) (by rw [Qbw]; unfold big; omega) hge (fun k n s hn hs=>?_) (fun n s hn hs=>by rw [List.length_set]; exact hs) (fun k s hs=>?_) (s0:=Qb0 p (T0 p)) (Qip p _)).trans ?_
  ·have hn':=Qio hn
   dsimp only
   rw [Qje hn,if_pos (by unfold nS; omega),Qcr hl.so hlb,Option.bind_some,Qml (by omega) (by unfold nS; omega),Option.bind_some,Qm4 (by omega) (by unfold nS at hs; omega),Option.bind_some]
  ·dsimp only
   rw [Qbw,if_neg (by unfold nS; omega)]
  ·rw [Q9k (Qip p _)]; rfl
 ·have hrl:=Q73 p l
  rw [Q2e hrl,Option.bind_some,show Qf.mk p (Q47 p) (rowL p l) = tsk p (rowL p l) from rfl,Q2h hp hrl,Option.bind_some,Option.bind_some]
  have hD:=(Qtx hp (rowL p l)).ln
  rw [Qbde (p:=fun i=>!okS p (rowL p l) i) (fun i hi=>by
   have hr:=hl.rg i hi
   unfold Qfc Qbl
   rw [Qbdf hp hrl hr,Option.bind_some]
   dsimp only
   rw [Qm3 (d:=0) (l:=Qk1 p (rowL p l)) hr.1 (by omega),Qcr hp.fo.so hpl.2.1]
   unfold okS
   by_cases q1:(escP p (rowL p l) i).1 = 0
   ·by_cases q2:ati (Qk1 p (rowL p l)) i < 0
    ·have:¬ 0≤ati (Qk1 p (rowL p l)) i:=by omega
     simp [q1,q2,this]
    ·have:0≤ati (Qk1 p (rowL p l)) i:=by omega
     by_cases q3:i∈p.zC <;> simp [q1,q2,this,q3]
   ·simp [q1]) hlb,Option.bind_some]
  congr 2
  rw [List.any_eq_not_all_not]
  simp
def SubL (p:Qb) (L L' : List Bool):Prop:=∀ i,0≤i→i < p.zA.zM→lf L i = true→lf L' i = true
theorem Qbjc {L L' : List Bool} (h:SubL p L L') {i:Int} (he:(escP p L i).1 = 0):(escP p L' i).1 = 0:=by
 unfold escP at he ⊢
 cases hf:(outP p.zA i).find? (fun y=>!lf L y.To && decide (y.Event∈p.zB)) with
 | some y=>rw [hf] at he; simp at he
 | none =>
  rw [hf] at he
  rw [List.find?_eq_none] at hf
  have hf' : (outP p.zA i).find? (fun y=>!lf L' y.To && decide (y.Event∈p.zB)) = none:=by
   rw [List.find?_eq_none]
   intro y hy hq
   have hr:=(Qvm hp y hy).1
   simp only [Bool.and_eq_true,Bool.not_eq_true',decide_eq_true_eq] at hq
   refine hf y hy ?_
   simp only [Bool.and_eq_true,Bool.not_eq_true',decide_eq_true_eq]
   refine ⟨?_,hq.2⟩
   cases hl:lf L y.To with
   | false=>rfl
   | true=>rw [h y.To hr.1 hr.2 hl] at hq; exact hq.1
  rw [hf']
  dsimp only at he ⊢
  have ht:Qjb p L' i = true→Qjb p L i = true:=by
   unfold Qjb
   rw [List.any_eq_true,List.any_eq_true]
   rintro ⟨y,hy,hq⟩
   have hr:=(Qvm hp y hy).1
   refine ⟨y,hy,?_⟩
   simp only [Bool.and_eq_true,Bool.not_eq_true'] at hq ⊢
   refine ⟨hq.1,?_⟩
   cases hl:lf L y.To with
   | false=>rfl
   | true=>rw [h y.To hr.1 hr.2 hl] at hq; exact hq.2
  have hfo:Qgq p L i = true→Qgq p L' i = true:=by
   unfold Qgq
   rw [List.any_eq_true,List.any_eq_true]
   rintro ⟨y,hy,hq⟩
   have hr:=(Qvm hp y hy).1
   simp only [Bool.and_eq_true] at hq
   exact ⟨y,hy,by simp only [Bool.and_eq_true]; exact ⟨h y.To hr.1 hr.2 hq.1,hq.2⟩⟩
  cases h1:Qjb p L' i with
  | false=>simp
  | true =>
   rw [ht h1] at he
   cases h2:Qgq p L i with
   | true=>rw [hfo h2]; simp
   | false=>rw [h2] at he; simp at he
theorem Qbib {L L' : List Bool} (h:SubL p L L') {i:Int} (h0:0≤i) (h1:i < p.zA.zM) (hd:0≤ati (Qk1 p L) i):0≤ati (Qk1 p L') i:=by
 have D:=Qtx hp L
 have D':=Qtx hp L'
 have key:∀ (v:Nat) (i:Int),0≤i→i < p.zA.zM→ati (Qk1 p L) i = v→0≤ati (Qk1 p L') i:=by
  intro v
  induction v with
  | zero =>
   intro i h0 h1 hv
   obtain ⟨k1,k2⟩:=(D.z i h0 h1).1 (by omega)
   have:=(D'.z i h0 h1).2 ⟨h i h0 h1 k1,k2⟩
   omega
  | succ v ih =>
   intro i h0 h1 hv
   obtain ⟨e,he,k1,k2,k3⟩:=D.ps i h0 h1 (by omega)
   have hr:=hp.a.ed0 e he
   have k4:=ih e.To hr.2.2.1 hr.2.2.2.1 (by omega)
   have k5:=D.lv i h0 h1 (by omega)
   have k6:=D'.bound hp L' hr.2.2.1 hr.2.2.2.1
   have:=D'.cl e he (by rw [k1]; exact h i h0 h1 k5) k4 k6
   rw [k1] at this; exact this
 exact key (ati (Qk1 p L) i).toNat i h0 h1 (by omega)
theorem Qbf7 {L:List Bool} (hok:∀ i,0≤i→i < p.zA.zM→lf L i = true→okS p L i = true) {T:List Qd} (hT:Okt p T) (h:SubL p L (Qb0 p T)) {rank:Int} (hr:1≤rank):SubL p L (Qb0 p (T ++ Qj6 p (Qb0 p T) rank)):=by
 intro i h0 h1 hl
 have hT':=hT.round hr
 have k0:=h i h0 h1 hl
 rw [Q2v hT.rg h0 h1] at k0
 rw [Q2v hT'.rg h0 h1]
 simp only [Bool.not_eq_true',List.any_eq_false] at k0 ⊢
 intro x hx
 rcases List.mem_append.1 hx with hx | hx
 ·exact k0 x hx
 ·intro hb
  have hq:x.State = i:=by simpa using hb
  clear hb
  have hk:=hok i h0 h1 hl
  unfold okS at hk
  simp only [Bool.and_eq_true,beq_iff_eq,decide_eq_true_eq] at hk
  have e1:=Qbjc hp h hk.1
  have e2:=Qbib hp h h0 h1 hk.2.2
  unfold Qj6 at hx
  split at hx
  ·obtain ⟨j,hj,hz⟩:=List.mem_filterMap.1 hx
   unfold remE at hz
   by_cases hc:(lf (Qb0 p T) j && ((escP p (Qb0 p T) j).1 != 0)) = true
   ·rw [if_pos hc] at hz
    cases hz
    have hq:j = i:=hq
    subst hq
    simp only [Bool.and_eq_true,bne_iff_ne] at hc
    exact hc.2 e1
   ·rw [if_neg hc] at hz; cases hz
  ·obtain ⟨j,hj,hz⟩:=List.mem_filterMap.1 hx
   unfold remB at hz
   by_cases hc:(lf (Qb0 p T) j && decide (ati (Qk1 p (Qb0 p T)) j < 0)) = true
   ·rw [if_pos hc] at hz
    cases hz
    have hq:j = i:=hq
    subst hq
    simp only [Bool.and_eq_true,decide_eq_true_eq] at hc
    omega
   ·rw [if_neg hc] at hz; cases hz
theorem Qbax {L:List Bool} (hok:∀ i,0≤i→i < p.zA.zM→lf L i = true→okS p L i = true):∀ {f:Nat} {rank:Int} {T:List Qd} {r:Int},Okt p T→SubL p L (Qb0 p T)→1≤rank→SubL p L (Qb0 p (Qxk p f rank T r).1)
 | 0,_,_,_,_,h,_=>h
 | f + 1,rank,T,r,hT,h,hr=>by
  rw [Qxk]
  split
  ·exact h
  ·exact Qbax hok (hT.round hr) (Qbf7 hp hok hT h hr) (by omega)
theorem Qbay:∀ {f:Nat} {rank:Int} {T:List Qd} {r:Int},Okt p T→nS p + 1≤f + T.length→1≤rank→Okt p (Qxk p f rank T r).1∧(∃ rk,Qj6 p (Qb0 p (Qxk p f rank T r).1) rk = [])∧T <+: (Qxk p f rank T r).1
 | 0,rank,T,r,hT,hf,_=>absurd hT.len (by omega)
 | f + 1,rank,T,r,hT,hf,hr=>by
  rw [Qxk]
  split
  ·rename_i he; exact ⟨hT,⟨rank,he⟩,List.prefix_refl _⟩
  ·rename_i he
   have hpos:0 < (Qj6 p (Qb0 p T) rank).length:=List.length_pos_iff.2 he
   obtain ⟨h1,h2,h3⟩:=Qbay (f:=f) (rank:=rank + 1) (T:=T ++ Qj6 p (Qb0 p T) rank) (r:=rank) (hT.round hr) (by rw [List.length_append]; omega) (by omega)
   exact ⟨h1,h2,List.IsPrefix.trans (List.prefix_append _ _) h3⟩
theorem Qbjd:Okt p (solP p).1∧(∃ rk,Qj6 p (Qb0 p (solP p).1) rk = [])∧T0 p <+: (solP p).1:=Qbay hp (Qbf2 hp) (by omega) (by omega)
theorem Qbje {i:Int} (h0:0≤i) (h1:i < p.zA.zM) (hl:lf (Qb0 p (solP p).1) i = true):okS p (Qb0 p (solP p).1) i = true:=by
 obtain ⟨hT,⟨rk,hrk⟩,hpre⟩:=Qbjd hp
 generalize (solP p).1 = T at hT hrk hpre hl ⊢
 have hfor:i∉p.zC:=fun hm=>by
  have:(⟨i,1,1,-1⟩ : Qd)∈T:=hpre.subset (List.mem_map.2 ⟨i,hm,rfl⟩)
  rw [Q2v hT.rg h0 h1] at hl
  simp only [Bool.not_eq_true',List.any_eq_false] at hl
  exact hl _ this (by simp)
 unfold Qj6 at hrk
 split at hrk
 ·rename_i hE; rw [hrk] at hE; simp at hE
 ·rename_i hE
  have hE' : Qbau p (Qb0 p T) rk = []:=List.eq_nil_of_length_eq_zero (by omega)
  have e1:=List.filterMap_eq_nil_iff.1 hE' i (Qgp.2 ⟨h0,h1⟩)
  have e2:=List.filterMap_eq_nil_iff.1 hrk i (Qgp.2 ⟨h0,h1⟩)
  unfold remE at e1
  unfold remB at e2
  rw [hl] at e1 e2
  unfold okS
  simp only [Bool.true_and] at e1 e2
  split at e1
  ·cases e1
  ·rename_i q1
   split at e2
   ·cases e2
   ·rename_i q2
    simp only [bne_iff_ne,ne_eq,Decidable.not_not] at q1
    simp only [decide_eq_true_eq] at q2
    have:0≤ati (Qk1 p (Qb0 p T)) i:=by omega
    simp [q1,hfor,this]
end
end Go.Abs
end
section
namespace Go.Abs
open Go
def bq (b i:Int):Bool:=andI .i64 (b.fdiv (2 ^ (min (Int.toNat i) (IntKind.bits .i64)))) 1 == 1
def Qvo (p:Qb) (b:Int):List Int:=(upto p.zA.zM).foldl (fun c i=>if bq b i then c else c.set i.toNat 1) (List.replicate (nS p) 0)
theorem Qbfh {α:Type} {f:α→Bool}:∀ {l:List α} {w:Bool},l.foldl (fun w i=>w && f i) w = (w && l.all f)
 | [],w=>by simp
 | x :: l,w=>by rw [List.foldl_cons,Qbfh,List.all_cons,Bool.and_assoc]
section
variable {p:Qb} (hp:RightP p) (b:Int)
theorem Q74:(Qvo p b).length = nS p∧∀ x:Int,0≤x→x < p.zA.zM→ati (Qvo p b) x = if bq b x then 0 else 1:=by
 have:=Qbfa (l:=upto p.zA.zM) (stp:=fun (c:List Int) i=>if bq b i then c else c.set i.toNat 1) (I:=fun m c=>c.length = nS p∧∀ x:Int,0≤x→x < p.zA.zM→ati c x = if x < m∧bq b x = false then 1 else 0) (s0:=List.replicate (nS p) 0) (fun m c hm hc=>?_) ⟨by simp,fun x h0 h1=>by rw [show ati (List.replicate (nS p) 0) x = 0 from Qbh0 h0 (by unfold nS; omega),if_neg (by omega)]⟩
 ·refine ⟨this.1,fun x h0 h1=>?_⟩
  rw [show ati (Qvo p b) x = _ from this.2 x h0 h1,Qbw]
  cases bq b x with
  | true=>simp
  | false=>rw [if_pos ⟨by omega,rfl⟩]; simp
 ·have hm':=Qio hm
  obtain ⟨c1,c2⟩:=hc
  rw [Qje hm]
  split
  ·rename_i hb
   refine ⟨c1,fun x h0 h1=>?_⟩
   rw [c2 x h0 h1]
   by_cases hx:x = m
   ·subst hx; rw [hb]; simp
   ·have:(x < (m:Int))↔(x < ((m + 1:Nat):Int)):=by omega
    simp only [this]
  ·rename_i hb
   refine ⟨by rw [List.length_set]; exact c1,fun x h0 h1=>?_⟩
   rw [Qbbx ⟨by omega,by unfold nS at c1; omega⟩ h0,c2 x h0 h1]
   by_cases hx:x = m
   ·subst hx
    rw [if_pos rfl,if_pos ⟨by omega,by simpa using hb⟩]
   ·rw [if_neg hx]
    have:(x < (m:Int))↔(x < ((m + 1:Nat):Int)):=by omega
    simp only [this]
theorem Qbk3:Qbi4 p (Qvo p b):=⟨(Q74 b).1,fun x h0 h1=>by rw [(Q74 b).2 x h0 h1]; split <;> omega⟩
theorem Qbf8:Qd1 (Qvo p b) = rowL p ((upto p.zA.zM).filter (bq b)):=by
 have hl:=(Q74 (p:=p) b).1
 refine Qbdd (d:=false) (by rw [Qbdg,Q73,hl]) fun x h0 h1=>?_
 rw [Qbdg,hl] at h1
 have h2:x < p.zA.zM:=by unfold nS at h1; omega
 have e1:lf (Qd1 (Qvo p b)) x = (ati (Qvo p b) x == 0):=Qbfd h0 (by unfold nS at hl; omega)
 have e2:lf (rowL p ((upto p.zA.zM).filter (bq b))) x = decide (x∈(upto p.zA.zM).filter (bq b)):=Q7b h0 h2
 show lf _ x = lf _ x
 rw [e1,e2,(Q74 b).2 x h0 h2]
 cases hq:bq b x with
 | true=>simp [hq,Qgp,h0,h2]
 | false=>simp [hq]
theorem Qbek:SetP p.zA.zM ((upto p.zA.zM).filter (bq b)):=⟨fun x hx=>Qgp.1 (List.mem_filter.1 hx).1,(Qxj _).filter _⟩
include hp
theorem Qbjf {l:List Int} (hl:SetP p.zA.zM l) (h:l.all (okS p (rowL p l)) = true):∀ x∈l,x∈(upto p.zA.zM).filter (lf (Qb0 p (solP p).1)):=by
 have hok:∀ i,0≤i→i < p.zA.zM→lf (rowL p l) i = true→okS p (rowL p l) i = true:=fun i h0 h1 hi=>by
  rw [Q7b h0 h1] at hi
  exact List.all_eq_true.1 h i (by simpa using hi)
 have hsub:SubL p (rowL p l) (Qb0 p (T0 p)):=fun i h0 h1 hi=>by
  have:=hok i h0 h1 hi
  unfold okS at this
  simp only [Bool.and_eq_true,Bool.not_eq_true',decide_eq_false_iff_not] at this
  rw [Q2v (Qbf2 hp).rg h0 h1]
  simp only [Bool.not_eq_true',List.any_eq_false]
  intro x hx
  obtain ⟨y,hy,rfl⟩:=List.mem_map.1 hx
  intro hq
  have hq:y = i:=by simpa using hq
  subst hq
  exact this.2.1 hy
 have:=Qbax hp hok (f:=nS p + 1) (rank:=2) (r:=r0 p) (Qbf2 hp) hsub (by omega)
 intro x hx
 have hr:=hl.rg x hx
 refine List.mem_filter.2 ⟨Qgp.2 hr,this x hr.1 hr.2 ?_⟩
 rw [Q7b hr.1 hr.2]; simpa using hx
theorem Qbk4:((upto p.zA.zM).filter (lf (Qb0 p (solP p).1))).all (okS p (rowL p ((upto p.zA.zM).filter (lf (Qb0 p (solP p).1))))) = true:=by
 have e:rowL p ((upto p.zA.zM).filter (lf (Qb0 p (solP p).1))) = Qb0 p (solP p).1:=by
  refine Qbdd (d:=false) (by rw [Q73,Qip]) fun x h0 h1=>?_
  rw [Q73] at h1
  have h2:x < p.zA.zM:=by unfold nS at h1; omega
  have e2:lf (rowL p ((upto p.zA.zM).filter (lf (Qb0 p (solP p).1)))) x = decide (x∈(upto p.zA.zM).filter (lf (Qb0 p (solP p).1))):=Q7b h0 h2
  show lf _ x = lf _ x
  rw [e2,Bool.eq_iff_iff]
  simp [Qgp,h0,h2]
 rw [e,List.all_eq_true]
 intro x hx
 obtain ⟨h1,h2⟩:=List.mem_filter.1 hx
 have:=Qgp.1 h1
 exact Qbje hp this.1 this.2 h2
end
theorem Q9t {k:Q2} (hk:Qbei k):Qc9 k = some true:=by
 unfold Qc9 Qcb
 rw [Qbf1]
 simp only [Option.bind_some,if_true]
 obtain ⟨p,hM,hp,_,h5⟩:=Qbh8 hk
 refine Option.bind_eq_some_iff.2 ⟨p,hM,?_⟩
 rw [Qbb3 hp,Option.bind_some]
 obtain ⟨fuel,hfu,hge⟩ : ∃ f,Qb4 = f∧1099511627776≤f:=⟨_,rfl,Nat.le_refl _⟩
 rw [hfu]
 dsimp only
 rw [if_neg (by simp)]
 have hst:=hp.a.st
 have hnS:nS p≤5:=by unfold nS; omega
 obtain ⟨S,hS,hS32⟩ : ∃ S,shlO .i64 1 p.zA.zM = some S∧S≤32:=by
  have:p.zA.zM = 0∨p.zA.zM = 1∨p.zA.zM = 2∨p.zA.zM = 3∨p.zA.zM = 4∨p.zA.zM = 5:=by omega
  rcases this with h | h | h | h | h | h <;> rw [h] <;> exact ⟨_,rfl,by decide⟩
 have hKs:((upto p.zA.zM).filter (lf (Qb0 p (solP p).1))).Pairwise (· < ·):=(Qxj _).filter _
 have hKl:((upto p.zA.zM).filter (lf (Qb0 p (solP p).1))).length≤5:=by
  have:=List.length_filter_le (lf (Qb0 p (solP p).1)) (upto p.zA.zM)
  rw [Qbw] at this; unfold nS at hnS; omega
 have hkept:(resP p (solP p).1 (solP p).2).zE.Kept = (upto p.zA.zM).filter (lf (Qb0 p (solP p).1)):=rfl
 have hset:=fun (l:List Int) hl h=>Qbjf hp (l:=l) hl h
 have hkok:=Qbk4 hp
 rw [hkept]
 generalize (upto p.zA.zM).filter (lf (Qb0 p (solP p).1)) = Kept at hKs hKl hset hkok
 refine Q6b (fun x:Int=>∃ b:Nat,x = b∧b≤32) (fun x=>40 - x.toNat) (some true) ⟨0,rfl,by omega⟩ (by omega) ?_
 rintro k' _ ⟨b,rfl,hb⟩ ih
 rw [hS,Option.bind_some]
 by_cases hlt:(b:Int) < S
 ·rw [if_pos hlt,show mkO p.zA.zM (0:Int) = some (List.replicate (nS p) 0) from by unfold mkO lim; rw [if_pos (by omega)],Option.bind_some]
  have hsl:((upto p.zA.zM).filter (bq (b:Int))).length≤5:=by
   have:=List.length_filter_le (bq (b:Int)) (upto p.zA.zM)
   rw [Qbw] at this; unfold nS at hnS; omega
  have hsP:=Qbek (p:=p) (b:Int)
  have hR:=Qbk3 (p:=p) (b:Int)
  have hRl:=Qbf8 (p:=p) (b:Int)
  refine Qbbw (P:=fun v=>v = ((upto p.zA.zM).filter (bq (b:Int)),Qvo p (b:Int))) ⟨_,?_,rfl⟩ (fun v hv=>?_)
  ·refine (Qgh (l:=upto p.zA.zM) (fun i (s:List Int×List Int)=>(s.1,i,s.2)) (fun s i=>(if bq (b:Int) i then s.1 ++ [i] else s.1,if bq (b:Int) i then s.2 else s.2.set i.toNat 1)) (fun m s=>s.1.length≤m∧s.2.length = nS p) (fun s=>some s) (by rw [Qbw]; unfold big; omega) hge (fun k m s hm hs=>?_) (fun m s hm hs=>?_) (fun k s hs=>?_) (s0:=([],List.replicate (nS p) 0)) ⟨by simp,by simp⟩).trans ?_
   ·have hm':=Qio hm
    obtain ⟨a1,a2⟩:=hs
    dsimp only
    rw [Qje hm,if_pos (by omega),show shrO .i64 (b:Int) (m:Int) = some ((b:Int).fdiv (2 ^ (min (Int.toNat (m:Int)) (IntKind.bits .i64)))) from by unfold shrO; rw [if_neg (by omega)],Option.bind_some,Qdg (by simp only [List.length_cons,List.length_nil]; unfold lim; omega),Qml (by omega) (by omega),Qm4 (by omega) (by unfold nS at a2; omega)]
    show ((if bq (b:Int) (m:Int) = true then _ else _:Option _).bind _) = _
    cases bq (b:Int) (m:Int) <;> rfl
   ·obtain ⟨a1,a2⟩:=hs
    dsimp only
    split
    ·exact ⟨by rw [List.length_append]; simp; omega,a2⟩
    ·exact ⟨by omega,by rw [List.length_set]; exact a2⟩
   ·dsimp only
    rw [Qbw,if_neg (by omega)]
   ·rw [Q6i (f:=fun (c:List Int) (i:Int)=>if bq (b:Int) i then c ++ [i] else c) (g:=fun (c:List Int) (i:Int)=>if bq (b:Int) i then c else c.set i.toNat 1)]
    have e2:=Q49 (c:=bq (b:Int)) (g:=id) (l:=upto p.zA.zM) (acc:=[])
    rw [List.map_id,List.nil_append] at e2
    have e3:(upto p.zA.zM).foldl (fun (c:List Int) (i:Int)=>if bq (b:Int) i then c ++ [i] else c) [] = (upto p.zA.zM).filter (bq (b:Int)):=e2
    rw [e3]; rfl
  ·subst hv
   dsimp only
   generalize hgs:(upto p.zA.zM).filter (bq (b:Int)) = st at hsl hsP hRl
   rw [Qbej hp hsP,Option.bind_some]
   dsimp only
   have hL:=hR.ln
   rw [Q2e hL,Option.bind_some,Qbbz hp hR,Option.bind_some]
   have hD:=(Qtx hp (Qd1 (Qvo p (b:Int)))).ln
   have hwant:(upto p.zA.zM).all (fun i=>!lf (Qd1 (Qvo p (b:Int))) i || okS p (Qd1 (Qvo p (b:Int))) i) = st.all (okS p (rowL p st)):=by
    rw [hRl,Bool.eq_iff_iff,List.all_eq_true,List.all_eq_true]
    constructor
    ·intro h x hx
     have hr:=hsP.rg x hx
     have:=h x (Qgp.2 hr)
     rw [Q7b hr.1 hr.2] at this
     simpa [hx] using this
    ·intro h x hx
     have hr:=Qgp.1 hx
     rw [Q7b hr.1 hr.2]
     by_cases hm:x∈st
     ·simp [hm,h x hm]
     ·simp [hm]
   refine Qbbw (P:=fun v=>v = st.all (okS p (rowL p st))) ⟨_,?_,rfl⟩ (fun v hv=>?_)
   ·refine (Qgh (l:=upto p.zA.zM) (fun i (w:Bool)=>(w,i)) (fun w i=>w && (!lf (Qd1 (Qvo p (b:Int))) i || okS p (Qd1 (Qvo p (b:Int))) i)) (fun _ _=>True) (fun w=>some w) (by rw [Qbw]; unfold big; omega) hge (fun k m s hm _=>?_) (fun _ _ _ _=>trivial) (fun k s _=>?_) (s0:=true) trivial).trans ?_
    ·have hm':=Qio hm
     have hra:=Q7a hR (x:=(m:Int)) ⟨by omega,by omega⟩
     dsimp only
     rw [Qje hm,if_pos (by omega),Qbkz hp hR,Qml (by omega) (by omega)]
     have h4:(ati (Qvo p (b:Int)) (m:Int) > 0)↔lf (Qd1 (Qvo p (b:Int))) (m:Int) = false:=by
      rw [← decide_eq_true_iff (p:=ati (Qvo p (b:Int)) (m:Int) > 0),hra.2.2.2]; simp
     have h6:((Qbi5 p (Qvo p (b:Int)) (m:Int)).1 == 0) = ((escP p (Qd1 (Qvo p (b:Int))) (m:Int)).1 == 0):=by
      unfold Qbi5; split <;> simp_all
     simp only [Option.bind_some,hra.2.1,h4,h6]
     rw [Q72 hp.small.2.1,Qm3 (d:=0) (l:=Qk1 p (Qd1 (Qvo p (b:Int)))) (by omega) (by omega)]
     unfold okS
     cases s <;> cases lf (Qd1 (Qvo p (b:Int))) (m:Int) <;> cases (escP p (Qd1 (Qvo p (b:Int))) (m:Int)).1 == 0 <;> by_cases q3:(m:Int)∈p.zC <;> simp [q3]
    ·dsimp only
     rw [Qbw,if_neg (by omega)]
    ·rw [Qbfh,Bool.true_and,hwant]
   ·subst hv
    rw [Qbia hsP.so hKs (by unfold big; omega) (by omega),Qbh9 (by unfold big; omega)]
    have hno:(st.all (okS p (rowL p st))) = false→st≠Kept:=fun h e=>by subst e; rw [hkok] at h; cases h
    have hyes:=hset st hsP
    cases hc:st.all (okS p (rowL p st)) with
    | true =>
     have:=hyes hc
     have hd:decide (∀ x∈st,x∈Kept) = true:=decide_eq_true this
     rw [hd]
     by_cases hq:st = Kept
     ·simp only [hq,decide_true,Option.bind_some,if_true,Bool.not_true,beq_self_eq_true]
      rw [if_neg (by simp),Option.bind_some,if_neg (by simp),Qce (by omega)]
      exact ih _ ⟨b + 1,rfl,by omega⟩ (by omega)
     ·simp only [hq,decide_false,Option.bind_some,if_true,beq_self_eq_true,Bool.false_eq_true,if_false]
      rw [if_neg (by simp),Option.bind_some,if_neg (by simp),Qce (by omega)]
      exact ih _ ⟨b + 1,rfl,by omega⟩ (by omega)
    | false =>
     have hq:=hno hc
     simp only [hq,decide_false,Option.bind_some,if_true,beq_self_eq_true,Bool.false_eq_true,if_false]
     rw [if_neg (by simp),Option.bind_some,if_neg (by simp),Qce (by omega)]
     exact ih _ ⟨b + 1,rfl,by omega⟩ (by omega)
 ·rw [if_neg hlt]
end Go.Abs
end
