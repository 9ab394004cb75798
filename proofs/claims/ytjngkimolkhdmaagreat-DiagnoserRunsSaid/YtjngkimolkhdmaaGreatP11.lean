/-
  Part 11 of the proof: see the last text.
-/
import Derived.Test.YtjngkimolkhdmaaGreatP10
import Derived.Test.YtjngkimolkhdmaaGreatProg
import Derived.KernelRfl
set_option linter.unusedVariables false
set_option linter.unusedSimpArgs false
set_option linter.unusedSectionVars false
section
namespace Go.Proofs
open Go Go.Abs
set_option maxRecDepth 100000
def W_22 (x:Int):Prop:=wfI .u8 x
theorem R_22:Qxc Tryz.prog 22 (eI .u8) W_22:=Q2c Tryz.underlying22
def W_5 (x:Int):Prop:=wfI .u8 x
theorem R_5:Qxc Tryz.prog 5 (eI .u8) W_5:=Q2c Tryz.underlying5
def W_23 (x:Int×Int×Int×Int×Int):Prop:=W_5 x.1∧W_5 x.2.1∧W_5 x.2.2.1∧W_5 x.2.2.2.1∧W_5 x.2.2.2.2
theorem R_23:Qxc Tryz.prog 23 (fun p:Int×Int×Int×Int×Int=>[.int .u8 p.1,.int .u8 p.2.1,.int .u8 p.2.2.1,.int .u8 p.2.2.2.1,.int .u8 p.2.2.2.2]) W_23:=by
  intro H enc w base spare held fuel cs x h;obtain ⟨hl,n,hf⟩:=Qbc2 (sz:=1) Tryz.underlying23 (by kernel_rfl) h;obtain ⟨y0,h0⟩:=hf 0 (by decide);obtain ⟨a0,w0,r0⟩:=Qfj (off:=0*1) (sz:=1) R_5 (by kernel_rfl) (fun _=>rfl) h0;obtain ⟨y1,h1⟩:=hf 1 (by decide);obtain ⟨a1,w1,r1⟩:=Qfj (off:=1*1) (sz:=1) R_5 (by kernel_rfl) (fun _=>rfl) h1;obtain ⟨y2,h2⟩:=hf 2 (by decide);obtain ⟨a2,w2,r2⟩:=Qfj (off:=2*1) (sz:=1) R_5 (by kernel_rfl) (fun _=>rfl) h2;obtain ⟨y3,h3⟩:=hf 3 (by decide);obtain ⟨a3,w3,r3⟩:=Qfj (off:=3*1) (sz:=1) R_5 (by kernel_rfl) (fun _=>rfl) h3;obtain ⟨y4,h4⟩:=hf 4 (by decide);obtain ⟨a4,w4,r4⟩:=Qfj (off:=4*1) (sz:=1) R_5 (by kernel_rfl) (fun _=>rfl) h4;exact ⟨(a0,a1,a2,a3,a4),⟨w0,w1,w2,w3,w4⟩,RDat.all (xs:=(fun p:Int×Int×Int×Int×Int=>[.int .u8 p.1,.int .u8 p.2.1,.int .u8 p.2.2.1,.int .u8 p.2.2.2.1,.int .u8 p.2.2.2.2]) (a0,a1,a2,a3,a4)) (RDat.app r0 rfl (RDat.app r1 rfl (RDat.app r2 rfl (RDat.app r3 rfl r4)))) (hl.trans (by kernel_rfl))⟩
def W_24 (x:(Int×Int×Int×Int×Int)×(Int×Int×Int×Int×Int)×(Int×Int×Int×Int×Int)×(Int×Int×Int×Int×Int)×(Int×Int×Int×Int×Int)):Prop:=W_23 x.1∧W_23 x.2.1∧W_23 x.2.2.1∧W_23 x.2.2.2.1∧W_23 x.2.2.2.2
theorem R_24:Qxc Tryz.prog 24 (fun p:(Int×Int×Int×Int×Int)×(Int×Int×Int×Int×Int)×(Int×Int×Int×Int×Int)×(Int×Int×Int×Int×Int)×(Int×Int×Int×Int×Int)=>[.int .u8 p.1.1,.int .u8 p.1.2.1,.int .u8 p.1.2.2.1,.int .u8 p.1.2.2.2.1,.int .u8 p.1.2.2.2.2,.int .u8 p.2.1.1,.int .u8 p.2.1.2.1,.int .u8 p.2.1.2.2.1,.int .u8 p.2.1.2.2.2.1,.int .u8 p.2.1.2.2.2.2,.int .u8 p.2.2.1.1,.int .u8 p.2.2.1.2.1,.int .u8 p.2.2.1.2.2.1,.int .u8 p.2.2.1.2.2.2.1,.int .u8 p.2.2.1.2.2.2.2,.int .u8 p.2.2.2.1.1,.int .u8 p.2.2.2.1.2.1,.int .u8 p.2.2.2.1.2.2.1,.int .u8 p.2.2.2.1.2.2.2.1,.int .u8 p.2.2.2.1.2.2.2.2,.int .u8 p.2.2.2.2.1,.int .u8 p.2.2.2.2.2.1,.int .u8 p.2.2.2.2.2.2.1,.int .u8 p.2.2.2.2.2.2.2.1,.int .u8 p.2.2.2.2.2.2.2.2]) W_24:=by
  intro H enc w base spare held fuel cs x h;obtain ⟨hl,n,hf⟩:=Qbc2 (sz:=5) Tryz.underlying24 (by kernel_rfl) h;obtain ⟨y0,h0⟩:=hf 0 (by decide);obtain ⟨a0,w0,r0⟩:=Qfj (off:=0*5) (sz:=5) R_23 (by kernel_rfl) (fun _=>rfl) h0;obtain ⟨y1,h1⟩:=hf 1 (by decide);obtain ⟨a1,w1,r1⟩:=Qfj (off:=1*5) (sz:=5) R_23 (by kernel_rfl) (fun _=>rfl) h1;obtain ⟨y2,h2⟩:=hf 2 (by decide);obtain ⟨a2,w2,r2⟩:=Qfj (off:=2*5) (sz:=5) R_23 (by kernel_rfl) (fun _=>rfl) h2;obtain ⟨y3,h3⟩:=hf 3 (by decide);obtain ⟨a3,w3,r3⟩:=Qfj (off:=3*5) (sz:=5) R_23 (by kernel_rfl) (fun _=>rfl) h3;obtain ⟨y4,h4⟩:=hf 4 (by decide);obtain ⟨a4,w4,r4⟩:=Qfj (off:=4*5) (sz:=5) R_23 (by kernel_rfl) (fun _=>rfl) h4;exact ⟨(a0,a1,a2,a3,a4),⟨w0,w1,w2,w3,w4⟩,RDat.all (xs:=(fun p:(Int×Int×Int×Int×Int)×(Int×Int×Int×Int×Int)×(Int×Int×Int×Int×Int)×(Int×Int×Int×Int×Int)×(Int×Int×Int×Int×Int)=>[.int .u8 p.1.1,.int .u8 p.1.2.1,.int .u8 p.1.2.2.1,.int .u8 p.1.2.2.2.1,.int .u8 p.1.2.2.2.2,.int .u8 p.2.1.1,.int .u8 p.2.1.2.1,.int .u8 p.2.1.2.2.1,.int .u8 p.2.1.2.2.2.1,.int .u8 p.2.1.2.2.2.2,.int .u8 p.2.2.1.1,.int .u8 p.2.2.1.2.1,.int .u8 p.2.2.1.2.2.1,.int .u8 p.2.2.1.2.2.2.1,.int .u8 p.2.2.1.2.2.2.2,.int .u8 p.2.2.2.1.1,.int .u8 p.2.2.2.1.2.1,.int .u8 p.2.2.2.1.2.2.1,.int .u8 p.2.2.2.1.2.2.2.1,.int .u8 p.2.2.2.1.2.2.2.2,.int .u8 p.2.2.2.2.1,.int .u8 p.2.2.2.2.2.1,.int .u8 p.2.2.2.2.2.2.1,.int .u8 p.2.2.2.2.2.2.2.1,.int .u8 p.2.2.2.2.2.2.2.2]) (a0,a1,a2,a3,a4)) (RDat.app r0 rfl (RDat.app r1 rfl (RDat.app r2 rfl (RDat.app r3 rfl r4)))) (hl.trans (by kernel_rfl))⟩
def W_26 (x:Qcw):Prop:=W_5 x.zH∧W_5 x.Marks∧W_24 x.To
theorem R_26:Qxc Tryz.prog 26 Qmh W_26:=by
  intro H enc w base spare held fuel cs x h;obtain ⟨hl,n,hf⟩:=Q6s Tryz.underlying26 h;obtain ⟨y0,h0⟩:=hf 0 _ rfl;obtain ⟨a0,w0,r0⟩:=Qfj (off:=0) (sz:=1) R_5 (by kernel_rfl) (fun _=>rfl) h0;obtain ⟨y1,h1⟩:=hf 1 _ rfl;obtain ⟨a1,w1,r1⟩:=Qfj (off:=1) (sz:=1) R_5 (by kernel_rfl) (fun _=>rfl) h1;obtain ⟨y2,h2⟩:=hf 2 _ rfl;obtain ⟨a2,w2,r2⟩:=Qfj (off:=2) (sz:=25) R_24 (by kernel_rfl) (fun _=>rfl) h2;exact ⟨⟨a0,a1,a2⟩,⟨w0,w1,w2⟩,RDat.all (xs:=Qmh ⟨a0,a1,a2⟩) (RDat.app r0 rfl (RDat.app r1 rfl r2)) (hl.trans (by kernel_rfl))⟩
def W_27 (x:Int×Int×Int×Int×Int):Prop:=W_5 x.1∧W_5 x.2.1∧W_5 x.2.2.1∧W_5 x.2.2.2.1∧W_5 x.2.2.2.2
theorem R_27:Qxc Tryz.prog 27 (fun p:Int×Int×Int×Int×Int=>[.int .u8 p.1,.int .u8 p.2.1,.int .u8 p.2.2.1,.int .u8 p.2.2.2.1,.int .u8 p.2.2.2.2]) W_27:=by
  intro H enc w base spare held fuel cs x h;obtain ⟨hl,n,hf⟩:=Qbc2 (sz:=1) Tryz.underlying27 (by kernel_rfl) h;obtain ⟨y0,h0⟩:=hf 0 (by decide);obtain ⟨a0,w0,r0⟩:=Qfj (off:=0*1) (sz:=1) R_5 (by kernel_rfl) (fun _=>rfl) h0;obtain ⟨y1,h1⟩:=hf 1 (by decide);obtain ⟨a1,w1,r1⟩:=Qfj (off:=1*1) (sz:=1) R_5 (by kernel_rfl) (fun _=>rfl) h1;obtain ⟨y2,h2⟩:=hf 2 (by decide);obtain ⟨a2,w2,r2⟩:=Qfj (off:=2*1) (sz:=1) R_5 (by kernel_rfl) (fun _=>rfl) h2;obtain ⟨y3,h3⟩:=hf 3 (by decide);obtain ⟨a3,w3,r3⟩:=Qfj (off:=3*1) (sz:=1) R_5 (by kernel_rfl) (fun _=>rfl) h3;obtain ⟨y4,h4⟩:=hf 4 (by decide);obtain ⟨a4,w4,r4⟩:=Qfj (off:=4*1) (sz:=1) R_5 (by kernel_rfl) (fun _=>rfl) h4;exact ⟨(a0,a1,a2,a3,a4),⟨w0,w1,w2,w3,w4⟩,RDat.all (xs:=(fun p:Int×Int×Int×Int×Int=>[.int .u8 p.1,.int .u8 p.2.1,.int .u8 p.2.2.1,.int .u8 p.2.2.2.1,.int .u8 p.2.2.2.2]) (a0,a1,a2,a3,a4)) (RDat.app r0 rfl (RDat.app r1 rfl (RDat.app r2 rfl (RDat.app r3 rfl r4)))) (hl.trans (by kernel_rfl))⟩
def W_29 (x:Qbs):Prop:=W_22 x.Events∧W_26 x.Graph∧W_27 x.Flags
theorem R_29:Qxc Tryz.prog 29 Qmi W_29:=by
  intro H enc w base spare held fuel cs x h;obtain ⟨hl,n,hf⟩:=Q6s Tryz.underlying29 h;obtain ⟨y0,h0⟩:=hf 0 _ rfl;obtain ⟨a0,w0,r0⟩:=Qfj (off:=0) (sz:=1) R_22 (by kernel_rfl) (fun _=>rfl) h0;obtain ⟨y1,h1⟩:=hf 1 _ rfl;obtain ⟨a1,w1,r1⟩:=Qfj (off:=1) (sz:=27) R_26 (by kernel_rfl) (fun _=>rfl) h1;obtain ⟨y2,h2⟩:=hf 2 _ rfl;obtain ⟨a2,w2,r2⟩:=Qfj (off:=28) (sz:=5) R_27 (by kernel_rfl) (fun _=>rfl) h2;exact ⟨⟨a0,a1,a2⟩,⟨w0,w1,w2⟩,RDat.all (xs:=Qmi ⟨a0,a1,a2⟩) (RDat.app r0 rfl (RDat.app r1 rfl r2)) (hl.trans (by kernel_rfl))⟩
theorem A_29:Qme Tryz.prog 29 (fun (a:Qbs)=>.agg [.d (.int .u8 a.Events),.d (.int .u8 a.Graph.zH),.d (.int .u8 a.Graph.Marks),.d (.int .u8 a.Graph.To.1.1),.d (.int .u8 a.Graph.To.1.2.1),.d (.int .u8 a.Graph.To.1.2.2.1),.d (.int .u8 a.Graph.To.1.2.2.2.1),.d (.int .u8 a.Graph.To.1.2.2.2.2),.d (.int .u8 a.Graph.To.2.1.1),.d (.int .u8 a.Graph.To.2.1.2.1),.d (.int .u8 a.Graph.To.2.1.2.2.1),.d (.int .u8 a.Graph.To.2.1.2.2.2.1),.d (.int .u8 a.Graph.To.2.1.2.2.2.2),.d (.int .u8 a.Graph.To.2.2.1.1),.d (.int .u8 a.Graph.To.2.2.1.2.1),.d (.int .u8 a.Graph.To.2.2.1.2.2.1),.d (.int .u8 a.Graph.To.2.2.1.2.2.2.1),.d (.int .u8 a.Graph.To.2.2.1.2.2.2.2),.d (.int .u8 a.Graph.To.2.2.2.1.1),.d (.int .u8 a.Graph.To.2.2.2.1.2.1),.d (.int .u8 a.Graph.To.2.2.2.1.2.2.1),.d (.int .u8 a.Graph.To.2.2.2.1.2.2.2.1),.d (.int .u8 a.Graph.To.2.2.2.1.2.2.2.2),.d (.int .u8 a.Graph.To.2.2.2.2.1),.d (.int .u8 a.Graph.To.2.2.2.2.2.1),.d (.int .u8 a.Graph.To.2.2.2.2.2.2.1),.d (.int .u8 a.Graph.To.2.2.2.2.2.2.2.1),.d (.int .u8 a.Graph.To.2.2.2.2.2.2.2.2),.d (.int .u8 a.Flags.1),.d (.int .u8 a.Flags.2.1),.d (.int .u8 a.Flags.2.2.1),.d (.int .u8 a.Flags.2.2.2.1),.d (.int .u8 a.Flags.2.2.2.2)]) W_29:=Qbgy R_29 (.inl ⟨_,Tryz.underlying29⟩)
def W_3 (x:Int):Prop:=wfI .i64 x
theorem R_3:Qxc Tryz.prog 3 (eI .i64) W_3:=Q2c Tryz.underlying3
def W_32 (x:List Int):Prop:=wfL W_3 x
theorem R_32:Qxc Tryz.prog 32 (eL 1 (eI .i64)) W_32:=Q73 Tryz.underlying32 R_3 (by kernel_rfl) (by decide) (fun _=>rfl)
theorem A_32:Qme Tryz.prog 32 (fun (a:List Int)=>.d (.lst 1 (List.map (eI .i64) a))) W_32:=Qbcz R_32 (Qbc0 Tryz.underlying32)
theorem A_5:Qme Tryz.prog 5 (fun (a:Int)=>.d (.int .u8 a)) W_5:=Qbcz R_5 (Qbgx Tryz.underlying5)
end Go.Proofs
end
section
namespace Go.Abs
open Go
theorem Qdr {X R:Type} {F:(X→Option R)→X→Option R} (I:X→Prop) (m:X→Nat) (Q:X→Option R→Prop)
  (step:∀ (k:X→Option R) (x:X),I x→(∀ y,I y→m y<m x→Q y (k y))→Q x (F k x)):∀ (fuel:Nat) (x:X),I x→m x<fuel→Q x (Qct F fuel x)
 | 0,x,_,h=>absurd h (Nat.not_lt_zero _)
 | fuel+1,x,hi,h=>step _ x hi fun y hy hm=>Qdr I m Q step fuel y hy (by omega)
theorem Qbel {X R:Type} {F:(X→Option R)→X→Option R} {fuel:Nat} {x:X} (I:X→Prop) (m:X→Nat) (q:Option R) (hi:I x) (hm:m x<fuel)
  (step:∀ (k:X→Option R) (x:X),I x→(∀ y,I y→m y<m x→k y=q)→F k x=q):Qct F fuel x=q :=
 Qdr I m (fun _ r=>r=q) step fuel x hi hm
theorem Qnk {x:Int} (h1 : -9223372036854775808≤x) (h2:x≤9223372036854775807):IntKind.wrap .i64 x=x:=by
 simp [IntKind.wrap,IntKind.bits,IntKind.signed];omega
theorem Qbd {n:Nat} (h:n<9223372036854775807):IntKind.wrap .i64 ((n:Int)+1)=((n+1:Nat):Int):=by
 grind [Qnk]
theorem Qb3 {α:Type} {l:List α} {n:Nat} (h:n<l.length):getO l (n:Int)=some l[n]:=by
 simp [getO,h]
theorem Qjq {α:Type} {l:List α} {i:Int} {x:α}:getO l i=some x↔0≤i∧l[i.toNat]? = some x:=by
 simp_all [getO,reduceCtorEq,false_iff,not_and,absurd]
theorem Qck {α:Type} {l m:List α} (h:l.length+m.length≤lim):appO l m=some (l++m):=by
 unfold appO;rw [if_pos h]
theorem Q6t {α:Type} {s t:List α} {k:Nat} (hs:k<s.length) (ht:k<t.length) (h:s.take k=t.take k) (he:s[k]=t[k]):s.take (k+1)=t.take (k+1):=by
 grind [List.take_add_one,List.getElem?_eq_getElem]
theorem Qkj {R:Type} {F:(Int→Option R)→Int→Option R} {len fuel:Nat} (G:Nat→Option R) (hf:len<fuel)
  (step:∀ (k:Int→Option R) (n:Nat),n<len→k ((n+1:Nat):Int)=G (n+1)→F k (n:Int)=G n) (last:∀ k:Int→Option R,F k (len:Int)=G len):Qct F fuel 0=G 0:=by
 have:=Qdr (F:=F) (fun x=>∃ n:Nat,x=(n:Int)∧n≤len) (fun x=>len-x.toNat) (fun x r=>∀ n:Nat,x=(n:Int)→r=G n) (fun k x hx ih=>by
  obtain ⟨n,rfl,hn⟩:=hx;intro m hm;obtain rfl:n=m:=by omega
  by_cases h:n<len
  ·exact step k n h (ih _ ⟨n+1,rfl,by omega⟩ (by omega) (n+1) rfl)
  grind) fuel 0 ⟨0,rfl,by omega⟩ (by simpa using hf)
 exact this 0 rfl
theorem Q2f {n:Nat} (h0:0<n) (h:n<9223372036854775807):IntKind.wrap .i64 ((n:Int)-1)=((n-1:Nat):Int):=by
 grind [Qnk]
theorem Qbem {X S R:Type} {F:(X→Option R)→X→Option R} {len:Nat} (mk:Nat→S→X) (G:Nat→S→Option R)
  (step:∀ (k:X→Option R) (n:Nat) (s:S),n<len→(∀ s',k (mk (n+1) s')=G (n+1) s')→F k (mk n s)=G n s) (last:∀ (k:X→Option R) (s:S),F k (mk len s)=G len s) :
  ∀ (fuel n:Nat) (s:S),n≤len→len-n<fuel→Qct F fuel (mk n s)=G n s
 | 0,n,s,_,h=>by omega
 | fuel+1,n,s,hn,h=>by
  show F (Qct F fuel) (mk n s)=_;by_cases hlt:n<len
  ·exact step _ n s hlt fun s'=>Qbem mk G step last fuel (n+1) s' (by omega) (by omega)
  grind
theorem Qbid {i j:Nat} (hi:i<1000000000000) (hj:j<1000000000000):IntKind.wrap .i64 (Int.fdiv (IntKind.wrap .u64 (IntKind.wrap .i64 ((i:Int)+j))) (2 ^ (min (Int.toNat 1) (IntKind.bits .u64))))=(((i+j) / 2:Nat):Int):=by
 grind [Go.IntKind.wrap,Qnk,Go.IntKind.bits,Go.IntKind.signed,Min.min,Int.toNat,Int.fdiv_eq_ediv_of_nonneg]
theorem Q9j {α:Type} {l:List α} {i j:Nat} (h:i≤j) (hj:j≤l.length):slcO l (i:Int) (j:Int)=some ((l.take j).drop i):=by
 simp [slcO,h,hj]
theorem Qbai:∀ {l m:List Int},l.Pairwise (· < ·)→m.Pairwise (· < ·)→(∀ x,x∈l↔x∈m)→l=m
 | l,m,h1,h2,h=>by
  have n1:l.Nodup:=h1.imp fun h=>by omega
  have n2:m.Nodup:=h2.imp fun h=>by omega
  grind [List.perm_ext_iff_of_nodup,List.Perm.eq_of_pairwise]
section
variable {α:Type} {p:α→Bool}
theorem Q3y:∀ {l:List α},l.Pairwise (fun a b=>p b=true→p a=true)→∀ (n:Nat) (h:n<l.length),p l[n]=true↔n<(l.filter p).length
 | [],_,n,h=>by simp at h
 | x::xs,hs,n,h=>by
  obtain ⟨h1,h2⟩:=List.pairwise_cons.1 hs;cases n with
  | zero =>
   cases hx:p x with
   | true=>simp [hx]
   | false =>
    have:xs.filter p=[]:=List.filter_eq_nil_iff.2 fun y hy hp=>by have:=h1 y hy hp;rw [hx] at this;cases this
    simp [hx,this]
  | succ n =>
   have ih:=Q3y h2 n (by simpa using h);cases hx:p x with
   | true=>simp [hx,ih]
   | false =>
    have:xs.filter p=[]:=List.filter_eq_nil_iff.2 fun y hy hp=>by have:=h1 y hy hp;rw [hx] at this;cases this
    rw [this] at ih;simp [hx,this] at ih ⊢;exact ih
end
theorem Qh4 {X S R:Type} {F:(X→Option R)→X→Option R} {len:Nat} (mk:Nat→S→X) (I:Nat→S→Prop) (G:Nat→S→Option R)
  (step:∀ (k:X→Option R) (n:Nat) (s:S),n<len→I n s→(∀ s',I (n+1) s'→k (mk (n+1) s')=G (n+1) s')→F k (mk n s)=G n s) (last:∀ (k:X→Option R) (s:S),I len s→F k (mk len s)=G len s) :
  ∀ (fuel n:Nat) (s:S),n≤len→len-n<fuel→I n s→Qct F fuel (mk n s)=G n s
 | 0,n,s,_,h,_=>by omega
 | fuel+1,n,s,hn,h,hi=>by
  show F (Qct F fuel) (mk n s)=_;by_cases hlt:n<len
  ·exact step _ n s hlt hi fun s' hi'=>Qh4 mk I G step last fuel (n+1) s' (by omega) (by omega) hi'
  grind
theorem Qgl:∀ {l:List Int} {a b:Int},l.Pairwise (· < ·)→(∀ x∈l,a≤x∧x<b)→l.length≤(b-a).toNat
 | [],_,_,_,_=>by simp
 | x::xs,a,b,h,hr=>by
  obtain ⟨h1,h2⟩:=List.pairwise_cons.1 h;have:=Qgl (a:=x+1) (b:=b) h2 fun y hy=>⟨by have:=h1 y hy;omega,(hr y (by simp [hy])).2⟩;have:=hr x (by simp)
  grind
end Go.Abs
end
section
namespace Go.Abs
abbrev big : Nat := 1000000000000
def small (a : Qa) : Prop := a.zD.length < big ∧ a.zF.length < big ∧ a.zG.length < big
end Go.Abs
end
section
namespace Go.Abs
open Go
theorem Q6u {α:Type} [DecidableEq α] {s t:List α} {ne:α→α→Bool} (hne:∀ x y,ne x y=decide (x≠y)) (hl:s.length=t.length) (h:s.length<1000000000000) :
  Qct (fun k5 (i4:Int)=>(if (i4<(s.length:Int)) then ((getO s i4).bind fun x7=>((getO t i4).bind fun x9=>(if ne x7 x9 then some false else k5 (IntKind.wrap .i64 (i4+1))))) else some true)) Qbp 0=some (decide (s=t)):=by
 refine Qbel (fun i:Int=>∃ n:Nat,i=n∧n≤s.length∧s.take n=t.take n) (fun i=>s.length-i.toNat) _ ⟨0,rfl,by omega,by simp⟩ (by unfold Qbp;omega) ?_;rintro k _ ⟨n,rfl,hn,he⟩ ih;by_cases hlt:n<s.length
 ·rw [if_pos (by omega),Qb3 hlt,Qb3 (by omega:n<t.length)];simp only [Option.bind_some,hne];by_cases hx:s[n]=t[n]
  ·rw [if_neg (by simp [hx]),Qbd (by omega)];exact ih _ ⟨n+1,rfl,by omega,Q6t hlt (by omega) he hx⟩ (by omega)
  ·rw [if_pos (by simp [hx])];have:s≠t:=fun e=>hx (by subst e;rfl);simp [this]
 ·rw [if_neg (by omega)];have e:n=s.length:=by omega
  have:s=t:=by
   rw [e,List.take_length,hl,List.take_length] at he;exact he
  simp [this]
theorem Qbc3 {s t:List Int} (h:s.length<1000000000000):Qi2 s t=some (decide (s=t)):=by
 unfold Qi2 Qd8;by_cases hl:s.length=t.length
 ·rw [if_neg (by simp [hl])];exact Q6u (ne:=fun x y=>x != y) (fun x y=>by rw [Bool.eq_iff_iff];simp) hl h
 ·rw [if_pos (by simp;omega)];have:s≠t:=fun e=>hl (by rw [e]);simp [this]
theorem Qbie {R:Type} (b:Bool) (A B:R):(if b then A else B)=if (!b) then B else A:=by cases b<;>rfl
end Go.Abs
end
section
namespace Go.Abs
open Go
end Go.Abs
end
section
namespace Go.Abs
open Go
def Qgr (n:Int):Option Int→List Int→Int
 | _,[]=>0
 | p,x::xs=>if x<0∨x≥n then 2 else if ∃ y,p=some y∧x≤y then 5 else Qgr n (some x) xs
def Qko (al:List Int) (st:Int):Option Qf→List Qf→Int
 | _,[]=>0
 | p,x::xs=>if x.From<0∨x.From≥st∨x.To<0∨x.To≥st then 2 else if x.Event∉al then 9 else if ∃ y,p=some y∧(x.From<y.From∨x.From=y.From∧x.Event≤y.Event) then 5 else Qko al st (some x) xs
def Qsx (a:Qa):Int :=
 if Qgr 32 none a.zD≠0 then Qgr 32 none a.zD else if a.zH<0 then 2 else if a.zH>4096 then 3 else
 if Qgr a.zH none a.zF≠0 then Qgr a.zH none a.zF else Qko a.zD a.zH none a.zG
def ahead {α:Type} (l:List α) (n:Nat):Option α:=if n=0 then none else l[n-1]?
theorem Qvd {α:Type} (l:List α):ahead l 0=none:=rfl
theorem Q3z {α:Type} (l:List α) {n:Nat} (h:n<l.length):ahead l (n+1)=some l[n]:=by simp [ahead,h]
theorem Q6v {α:Type} (l:List α) {n:Nat} (h0:0<n) (h:n≤l.length):ahead l n=some (l[n-1]'(by omega)):=by
 simp [ahead,show n≠0 from by omega,show n-1<l.length from by omega]
theorem Q6w {n:Int} {l:List Int} {k:Nat} (h:k<l.length):Qgr n (ahead l k) (l.drop k)=if l[k]<0∨l[k]≥n then 2 else if ∃ y,ahead l k=some y∧l[k]≤y then 5 else Qgr n (ahead l (k+1)) (l.drop (k+1)):=by
 rw [List.drop_eq_getElem_cons h,Qgr,Q3z l h]
theorem Q45 {al:List Int} {n:Int} {l:List Qf} {k:Nat} (h:k<l.length):Qko al n (ahead l k) (l.drop k)=if l[k].From<0∨l[k].From≥n∨l[k].To<0∨l[k].To≥n then 2 else if l[k].Event∉al then 9 else if ∃ y,ahead l k=some y∧(l[k].From<y.From∨l[k].From=y.From∧l[k].Event≤y.Event) then 5 else Qko al n (ahead l (k+1)) (l.drop (k+1)):=by
 rw [List.drop_eq_getElem_cons h,Qko,Q3z l h]
theorem Qxd {l:List Int} {n:Int} (hl:l.length<big):Qhp l n=some (Qgr n none l):=by
 unfold Qhp Qc2;refine (Qkj (len:=l.length) (fun k=>some (Qgr n (ahead l k) (l.drop k))) (by unfold Qbp;unfold big at hl;omega) ?_ ?_).trans (by simp [Qvd])
 ·intro k i hi ih;have hb:i<1000000000000:=by unfold big at hl;omega
  rw [Q6w hi]
  try dsimp only
  rw [if_pos (by omega),Qb3 hi,Qbd (by omega),ih];simp only [Option.bind_some];by_cases h1:l[i]<0
  ·simp [h1]
  ·by_cases h2:l[i]≥n
   ·simp [h1,h2]
   ·by_cases h0:0<i
    ·rw [Q2f h0 (by omega),Qb3 (by omega:i-1<l.length),Q6v l h0 (by omega)];by_cases h3:l[i]≤l[i-1]<;>simp [h1,h2,h3,h0]
    ·obtain rfl:i=0:=by omega
     simp [h1,h2,Qvd]
 ·intro k;simp [Qgr]
theorem Qben {l:List Int} {v:Int} (hl:l.length<big):Qi0 l v=some (if v∈l then (l.idxOf v:Int) else -1):=by
 unfold Qi0 Qd7;refine (Qkj (len:=l.length) (fun k=>some (if v∈l.drop k then ((k+(l.drop k).idxOf v:Nat):Int) else -1)) (by unfold Qbp;unfold big at hl;omega) ?_ ?_).trans (by simp)
 ·intro k i hi ih;have hb:i<1000000000000:=by unfold big at hl;omega
  try dsimp only
  rw [if_pos (by omega),Qb3 hi,Qbd (by omega),ih,List.drop_eq_getElem_cons hi];simp only [Option.bind_some,List.mem_cons,List.idxOf_cons];by_cases h:v=l[i]
  ·simp [← h]
  ·have:¬ l[i]=v:=fun e=>h e.symm;have hbq:(l[i]==v)=false:=by simp [this]
   by_cases h2:v∈l.drop (i+1)<;>simp [h,h2,hbq];omega
 ·intro k;simp
theorem Qpq {l:List Int} {v:Int} (hl:l.length<big):Qbr l v=some (decide (v∈l)):=by
 unfold Qbr Ql;rw [Qben hl];simp only [Option.bind_some,Option.some.injEq];by_cases h:v∈l<;>simp [h]
theorem Qbfn {l:List Int} {v:Int} (hl:l.length<big):Qdw l v=some (decide (v∈l)):=by
 unfold Qdw Qb4;refine (Qkj (len:=l.length) (fun k=>some (decide (v∈l.drop k))) (by unfold Qbp;unfold big at hl;omega) ?_ ?_).trans (by simp)
 ·intro k i hi ih;have hb:i<1000000000000:=by unfold big at hl;omega
  try dsimp only
  rw [if_pos (by omega),Qb3 hi,Qbd (by omega),ih,List.drop_eq_getElem_cons hi];simp only [Option.bind_some,List.mem_cons];by_cases h:l[i]=v
  ·simp [h]
  ·have:¬ v=l[i]:=fun e=>h e.symm;simp [h,this]
 ·intro k;simp
theorem Q46 {a:Qa} (h:small a):Qgt a=some (Qko a.zD a.zH none a.zG):=by
 obtain ⟨hal,_,hl⟩:=h;unfold Qgt Qcz;refine (Qkj (len:=a.zG.length) (fun k=>some (Qko a.zD a.zH (ahead a.zG k) (a.zG.drop k))) (by unfold Qbp;unfold big at hl;omega) ?_ ?_).trans (by simp [Qvd])
 ·intro k i hi ih;have hb:i<1000000000000:=by unfold big at hl;omega
  rw [Q45 hi];unfold letJ
  try dsimp only
  rw [if_pos (by omega),Qb3 hi,Qbd (by omega),ih];simp only [Option.bind_some,Qpq hal];generalize a.zG[i]=x;by_cases h1:x.From<0
  ·simp [h1]
  by_cases h2:x.From≥a.zH
  ·simp [h1,h2]
  by_cases h3:x.To<0
  ·simp [h1,h2,h3]
  by_cases h4:x.To≥a.zH
  ·simp [h1,h2,h3,h4]
  by_cases h5:x.Event∈a.zD
  ·by_cases h0:0<i
   ·rw [Q2f h0 (by omega),Qb3 (by omega:i-1<a.zG.length),Q6v a.zG h0 (by omega)];generalize a.zG[i-1]=y;have hi0:i≠0:=by omega
    by_cases h6:x.From<y.From
    ·simp [h1,h2,h3,h4,h5,h6,hi0]
    by_cases h7:y.From=x.From
    ·by_cases h8:x.Event≤y.Event<;>simp [h1,h2,h3,h4,h5,h6,h7,h8,hi0]
    ·have h7' : ¬ x.From=y.From:=fun e=>h7 e.symm;simp [h1,h2,h3,h4,h5,h6,h7,hi0,h7']
   ·obtain rfl:i=0:=by omega
    simp [h1,h2,h3,h4,h5,Qvd]
  ·simp [h1,h2,h3,h4,h5]
 ·intro k;unfold letJ;simp [Qko]
theorem Q9k {a:Qa} (h:small a):Qgj a=some (Qsx a):=by
 unfold Qgj Qch Qsx;rw [Qxd h.1,Qxd h.2.1,Q46 h];simp only [Option.bind_some];by_cases h1:Qgr 32 none a.zD=0
 ·by_cases h2:a.zH<0
  ·simp [h1,h2]
  by_cases h3:a.zH>4096
  ·simp [h1,h2,h3]
  by_cases h4:Qgr a.zH none a.zF=0<;>simp [h1,h2,h3,h4]
 ·simp [h1]
end Go.Abs
end
section
namespace Go.Abs
open Go
def Qm9 (x y:Qf):Prop:=x.From<y.From∨x.From=y.From∧x.Event<y.Event
instance (x y:Qf):Decidable (Qm9 x y):=by unfold Qm9;infer_instance
structure Right (a:Qa):Prop where
 al0:∀ x∈a.zD,0≤x∧x<32
 al:a.zD.Pairwise (· < ·)
 st:0≤a.zH∧a.zH≤4096
 ma0:∀ x∈a.zF,0≤x∧x<a.zH
 ma:a.zF.Pairwise (· < ·)
 ed0:∀ x∈a.zG,0≤x.From∧x.From<a.zH∧0≤x.To∧x.To<a.zH∧x.Event∈a.zD
 ed:a.zG.Pairwise Qm9
theorem Qjr {n:Int}:∀ {l:List Int} {p:Option Int},Qgr n p l=0↔(∀ x∈l,0≤x∧x<n)∧l.Pairwise (· < ·)∧∀ y,p=some y→∀ x∈l,y<x
 | [],p=>by simp [Qgr]
 | x::xs,p=>by
  rw [Qgr];split
  ·rename_i h;refine ⟨fun h=>by omega,fun hh=>?_⟩;have:=hh.1 x (by simp);omega
  ·rename_i h;split
   ·rename_i h2;obtain ⟨y,hy,hxy⟩:=h2;refine ⟨fun h=>by omega,fun hh=>?_⟩;have:=hh.2.2 y hy x (by simp);omega
   ·rename_i h2;rw [Qjr];constructor
    ·rintro ⟨k1,k2,k3⟩;refine ⟨fun z hz=>?_,List.pairwise_cons.2 ⟨fun z hz=>k3 x rfl z hz,k2⟩,fun y hy z hz=>?_⟩
     ·rcases List.mem_cons.1 hz with rfl|hz
      ·omega
      ·exact k1 z hz
     ·have hyx:y<x:=by
       rcases Int.lt_or_le y x with h|h
       ·exact h
       ·exact absurd ⟨y,hy,h⟩ h2
      rcases List.mem_cons.1 hz with rfl|hz
      ·exact hyx
      ·have:=k3 x rfl z hz;omega
    ·rintro ⟨k1,k2,k3⟩;obtain ⟨k4,k5⟩:=List.pairwise_cons.1 k2;exact ⟨fun z hz=>k1 z (by simp [hz]),k5,fun y hy z hz=>by cases hy;exact k4 z hz⟩
theorem Qsy {al:List Int} {n:Int}:∀ {l:List Qf} {p:Option Qf},Qko al n p l=0↔(∀ x∈l,0≤x.From∧x.From<n∧0≤x.To∧x.To<n∧x.Event∈al)∧l.Pairwise Qm9∧∀ y,p=some y→∀ x∈l,Qm9 y x
 | [],p=>by simp [Qko]
 | x::xs,p=>by
  have tr:∀ a b c:Qf,Qm9 a b→Qm9 b c→Qm9 a c:=fun a b c h k=>by unfold Qm9 at *;omega
  rw [Qko];split
  ·rename_i h;refine ⟨fun h=>by omega,fun hh=>?_⟩;have:=hh.1 x (by simp);omega
  ·rename_i h;split
   ·rename_i h2;refine ⟨fun h=>by omega,fun hh=>?_⟩;exact absurd (hh.1 x (by simp)).2.2.2.2 h2
   ·rename_i hal;split
    ·rename_i h2;obtain ⟨y,hy,hxy⟩:=h2;refine ⟨fun h=>by omega,fun hh=>?_⟩;have:=hh.2.2 y hy x (by simp);unfold Qm9 at this;omega
    ·rename_i h2;rw [Qsy];constructor
     ·rintro ⟨k1,k2,k3⟩;refine ⟨fun z hz=>?_,List.pairwise_cons.2 ⟨fun z hz=>k3 x rfl z hz,k2⟩,fun y hy z hz=>?_⟩
      ·rcases List.mem_cons.1 hz with rfl|hz
       ·exact ⟨by omega,by omega,by omega,by omega,Decidable.not_not.1 hal⟩
       ·exact k1 z hz
      ·have hyx:Qm9 y x:=by
        apply Decidable.byContradiction;intro h;exact h2 ⟨y,hy,by unfold Qm9 at h;omega⟩
       rcases List.mem_cons.1 hz with rfl|hz
       ·exact hyx
       ·exact tr _ _ _ hyx (k3 x rfl z hz)
     ·rintro ⟨k1,k2,k3⟩;obtain ⟨k4,k5⟩:=List.pairwise_cons.1 k2;exact ⟨fun z hz=>k1 z (by simp [hz]),k5,fun y hy z hz=>by cases hy;exact k4 z hz⟩
theorem Q6x {a:Qa}:Qsx a=0↔Right a:=by
 unfold Qsx;constructor
 ·intro h;split at h
  ·rename_i h1;exact absurd h h1
  rename_i h1;split at h
  ·omega
  split at h
  ·omega
  split at h
  ·rename_i h4;exact absurd h h4
  rename_i h4;have q1:=Qjr.1 (Decidable.not_not.1 h1);have q2:=Qjr.1 (Decidable.not_not.1 h4);have q3:=Qsy.1 h;exact ⟨q1.1,q1.2.1,⟨by omega,by omega⟩,q2.1,q2.2.1,q3.1,q3.2.1⟩
 ·intro h;have q1:Qgr 32 none a.zD=0:=Qjr.2 ⟨h.al0,h.al,fun y hy=>by cases hy⟩;have q2:Qgr a.zH none a.zF=0:=Qjr.2 ⟨h.ma0,h.ma,fun y hy=>by cases hy⟩;have q3:Qko a.zD a.zH none a.zG=0:=Qsy.2 ⟨h.ed0,h.ed,fun y hy=>by cases hy⟩;have:=h.st;rw [if_neg (by simp [q1]),if_neg (by omega),if_neg (by omega),if_neg (by simp [q2]),q3]
def outP (a:Qa) (s:Int):List Qf:=a.zG.filter fun x=>x.From==s
def Qlg (a:Qa) (s e:Int):Int:=match a.zG.find? fun x=>x.From==s&&x.Event==e with
 | some x=>x.To
 | none=>-1
section
variable {a:Qa} (h:Right a) (hs:small a)
include h hs
omit h in
theorem Q30 {s e:Int}:Qc3 a s e=some (Qlg a s e):=by
 have hb:a.zG.length<1000000000000:=hs.2.2;unfold Qc3 Qbw;refine (Qkj (len:=a.zG.length) (fun k=>some (match (a.zG.drop k).find? (fun x=>x.From==s&&x.Event==e) with|some x=>x.To|none=>-1)) (by unfold Qbp;omega) ?_ ?_).trans (by simp [Qlg])
 ·intro k i hi ih;rw [if_pos (by omega),Qb3 hi,Qbd (by omega),ih,List.drop_eq_getElem_cons hi];simp only [Option.bind_some,List.find?_cons];cases h1:a.zG[i].From==s<;>cases h2:a.zG[i].Event==e<;>simp [h1,h2]
 ·intro k;simp
end
theorem Q74 {a:Qa} (h:Right a) (s e:Int):Qlg a s e = -1∨0≤Qlg a s e∧Qlg a s e<a.zH∧0≤s∧s<a.zH∧e∈a.zD:=by
 unfold Qlg;split
 ·rename_i x hx;have hm:=List.mem_of_find?_eq_some hx;have hp:=List.find?_some hx;obtain ⟨k1,k2,k3,k4,k5⟩:=h.ed0 x hm;simp at hp;exact .inr ⟨k3,k4,by omega,by omega,hp.2 ▸ k5⟩
 ·exact .inl rfl
theorem Q6y {a:Qa} (h:Right a) {s e:Int}:0≤Qlg a s e↔∃ x∈outP a s,x.Event=e:=by
 unfold Qlg outP;split
 ·rename_i x hx;have hm:=List.mem_of_find?_eq_some hx;have hp:=List.find?_some hx;simp at hp;refine ⟨fun _=>⟨x,by simp [hm,hp.1],hp.2⟩,fun _=>(h.ed0 x hm).2.2.1⟩
 ·rename_i hx;have:=List.find?_eq_none.1 hx;refine ⟨fun h=>by omega,?_⟩;rintro ⟨x,h1,h2⟩;simp at h1;exact absurd (by simp [h1.2,h2]) (this x h1.1)
theorem Qxe {a:Qa} (h:Right a) (s:Int):(outP a s).map (·.Event)=a.zD.filter fun e=>decide (0≤Qlg a s e):=by
 refine Qbai ?_ (h.al.filter _) fun e=>?_
 ·rw [List.pairwise_map];have h1:(outP a s).Pairwise Qm9:=h.ed.filter _;have h2:∀ x∈outP a s,x.From=s:=fun x hx=>by unfold outP at hx;simp at hx;exact hx.2
  exact List.Pairwise.imp_of_mem (fun {x y} hx hy hk=>by have:=h2 x hx;have:=h2 y hy;unfold Qm9 at hk;omega) h1
 ·simp only [List.mem_map,List.mem_filter,decide_eq_true_eq,Q6y h];constructor
  ·rintro ⟨x,hx,rfl⟩;refine ⟨?_,x,hx,rfl⟩;unfold outP at hx;simp at hx;exact (h.ed0 x hx.1).2.2.2.2
  ·rintro ⟨_,x,hx,rfl⟩;exact ⟨x,hx,rfl⟩
theorem Q6z {a:Qa} (h:Right a) {s:Int} {x:Qf} (hx:x∈outP a s):Qlg a s x.Event=x.To:=by
 unfold outP at hx;simp at hx;unfold Qlg;split
 ·rename_i y hy;have hm:=List.mem_of_find?_eq_some hy;have hp:=List.find?_some hy;simp at hp;have:x=y:=by
   rcases Classical.em (x=y) with e|hne
   ·exact e
   ·exfalso;have hk:Qm9 x y∨Qm9 y x:=by
     have:=List.pairwise_iff_getElem.1 h.ed;obtain ⟨i,hi,rfl⟩:=List.getElem_of_mem hx.1;obtain ⟨j,hj,rfl⟩:=List.getElem_of_mem hm;rcases Nat.lt_trichotomy i j with hij|hij|hij
     ·exact .inl (this i j hi hj hij)
     ·subst hij;exact absurd rfl hne
     ·exact .inr (this j i hj hi hij)
    unfold Qm9 at hk;omega
  rw [this]
 ·rename_i hn;exact absurd (by simp [hx.2]) (List.find?_eq_none.1 hn x hx.1)
end Go.Abs
end
section
namespace Go.Abs
open Go
theorem Right.small {a:Qa} (h:Right a):small a∧a.zD.length≤32∧a.zF.length≤4096∧a.zG.length≤131072:=by
 have h1:=Qgl h.al h.al0;have h2:=Qgl h.ma h.ma0;have h3:(a.zG.map fun x=>x.From*32+x.Event).Pairwise (· < ·):=by
  rw [List.pairwise_map];refine List.Pairwise.imp_of_mem (fun {x y} hx hy hk=>?_) h.ed;have:=h.al0 _ (h.ed0 x hx).2.2.2.2;have:=h.al0 _ (h.ed0 y hy).2.2.2.2;unfold Qm9 at hk;omega
 have h4:=Qgl (a:=0) (b:=131072) h3 (by
  intro z hz;obtain ⟨x,hx,rfl⟩:=List.mem_map.1 hz;have:=h.al0 _ (h.ed0 x hx).2.2.2.2;have:=h.ed0 x hx;have:=h.st;omega)
 rw [List.length_map] at h4;have:=h.st;refine ⟨⟨?_,?_,?_⟩,?_,?_,?_⟩<;>(try unfold big)<;>omega
theorem Q75 {a:Qa} (h:Right a):Qgj a=some 0:=by rw [Q9k h.small.1,Q6x.2 h]
theorem Qbaj {α β:Type} {l:List α} {f:α→β} {fuel:Nat} (hl:l.length<big) (hf:l.length<fuel) {F:(List β×Int→Option (List β))→List β×Int→Option (List β)}
  (hF:∀ (k:List β×Int→Option (List β)) (acc:List β) (n:Nat) (h:n<l.length),F k (acc,(n:Int))=(appO acc [f l[n]]).bind fun x=>k (x,IntKind.wrap .i64 ((n:Int)+1)))
  (hlast:∀ (k:List β×Int→Option (List β)) (acc:List β),F k (acc,(l.length:Int))=some acc):Qct F fuel ([],0)=some (l.map f):=by
 have hb:l.length<1000000000000:=hl;refine (Qh4 (len:=l.length) (fun n (acc:List β)=>(acc,(n:Int))) (fun n acc=>acc.length≤n) (fun n acc=>some (acc++(l.drop n).map f)) ?_ ?_ fuel 0 [] (Nat.zero_le _) (by omega) (Nat.le_refl _)).trans (by simp)
 ·intro k n acc hn hi ih;rw [hF k acc n hn,Qck (by simp only [List.length_cons,List.length_nil];unfold lim;omega),Option.bind_some,Qbd (by omega),ih _ (by simp;omega),List.drop_eq_getElem_cons hn];simp only [List.map_cons,List.append_assoc,List.cons_append,List.nil_append]
 ·intro k acc _;rw [hlast];simp
end Go.Abs
end
section
namespace Go.Abs
open Go
def ins (o:List Int) (t:Int):List Int:=if t∈o then o else o++[t]
def Qry (a:Qa) (s:Int):List Int:=(outP a s).map (·.To)
def bfs (a:Qa):Nat→Nat→List Int→List Int
 | 0,_,o=>o
 | fuel+1,i,o=>match o[i]? with
  | some s=>bfs a fuel (i+1) ((Qry a s).foldl ins o)
  | none=>o
def Qna (a:Qa):List Int:=bfs a (a.zH.toNat+1) 0 (if 0<a.zH then [0] else [])
structure Fnd (a:Qa) (o:List Int):Prop where
 nd:o.Nodup
 rg:∀ s∈o,0≤s∧s<a.zH
theorem Fnd.len {a:Qa} {o:List Int} (h:Fnd a o):o.length≤a.zH.toNat:=by
 have hO:Go.Sort.SWO Qge:=⟨fun x=>by simp [Qge],fun x y z h1 h2=>by simp [Qge] at *;omega,fun x y z h1 h2=>by simp [Qge] at *;omega⟩;have hp:=Qpj Qge o;have hs:=Qof hO o;have hn:(Qnw Qge o).Nodup:=(hp.nodup_iff).2 h.nd;have hlt:(Qnw Qge o).Pairwise (· < ·):=by
  have:(Qnw Qge o).Pairwise fun x y=>Qge y x=false∧x≠y:=hs.and hn;exact this.imp fun ⟨h1,h2⟩=>by simp [Qge] at h1;omega
 have:=Qgl hlt (a:=0) (b:=a.zH) fun x hx=>h.rg x (hp.mem_iff.1 hx);rw [Qoe] at this;simpa using this
theorem Q2g {o:List Int} {t x:Int}:x∈ins o t↔x∈o∨x=t:=by
 unfold ins;split
 ·rename_i h;constructor
  ·exact .inl
  ·rintro (h'|rfl)
   ·exact h'
   ·exact h
 ·simp
theorem Qbg1 (o:List Int) (t:Int):o <+: ins o t:=by
 unfold ins;split
 ·exact List.prefix_refl o
 ·exact List.prefix_append o [t]
theorem Fnd.ins {a:Qa} {o:List Int} (h:Fnd a o) {t:Int} (ht:0≤t∧t<a.zH):Fnd a (ins o t):=by
 refine ⟨?_,fun s hs=>?_⟩
 ·unfold Go.Abs.ins;split
  ·exact h.nd
  ·rename_i hn;rw [List.nodup_append];exact ⟨h.nd,by simp,fun x hx y hy=>by simp at hy;subst hy;exact fun e=>hn (e ▸ hx)⟩
 ·rcases Q2g.1 hs with hs|rfl
  ·exact h.rg s hs
  ·exact ht
theorem Quw {a:Qa}:∀ {ts o:List Int},Fnd a o→(∀ t∈ts,0≤t∧t<a.zH)→Fnd a (ts.foldl ins o)∧o <+: ts.foldl ins o∧(∀ t∈ts,t∈ts.foldl ins o)∧∀ x∈ts.foldl ins o,x∈o∨x∈ts
 | [],o,h,_=>⟨h,List.prefix_refl o,by simp,fun x hx=>.inl hx⟩
 | t::ts,o,h,ht=>by
  obtain ⟨h1,h2,h3,h4⟩:=Quw (ts:=ts) (h.ins (ht t (by simp))) fun t ht'=>ht t (by simp [ht']);refine ⟨h1,(Qbg1 o t).trans h2,fun x hx=>?_,fun x hx=>?_⟩
  ·rcases List.mem_cons.1 hx with rfl|hx
   ·exact h2.subset (Q2g.2 (.inr rfl))
   ·exact h3 x hx
  ·rcases h4 x hx with h5|h5
   ·rcases Q2g.1 h5 with h6|rfl
    ·exact .inl h6
    ·exact .inr (by simp)
   ·exact .inr (by simp [h5])
theorem Qxf {a:Qa} (h:Right a) (s:Int):∀ t∈Qry a s,0≤t∧t<a.zH:=by
 intro t ht;unfold Qry outP at ht;obtain ⟨x,hx,rfl⟩:=List.mem_map.1 ht;have:=h.ed0 x ((List.mem_filter.1 hx).1);omega
theorem Qzh {α:Type} {l m:List α} (h:l <+: m) {i:Nat} {x:α} (hx:l[i]? = some x):m[i]? = some x:=by
 obtain ⟨t,rfl⟩:=h;have:=(List.getElem?_eq_some_iff.1 hx).1;rw [List.getElem?_append_left this];exact hx
theorem Q47 {a:Qa} (h:Right a):∀ (fuel i:Nat) (o:List Int),Fnd a o→i≤o.length→a.zH.toNat+1≤fuel+i→(∀ j s,j<i→o[j]? = some s→∀ t∈Qry a s,t∈o) →
  Fnd a (bfs a fuel i o)∧o <+: bfs a fuel i o∧∀ s∈bfs a fuel i o,∀ t∈Qry a s,t∈bfs a fuel i o
 | 0,i,o,hf,hi,hfu,_=>by have:=hf.len;omega
 | fuel+1,i,o,hf,hi,hfu,hc=>by
  unfold bfs;cases hg:o[i]? with
  | none =>
   dsimp only;refine ⟨hf,List.prefix_refl o,fun s hs t ht=>?_⟩;obtain ⟨j,hj⟩:=List.getElem?_of_mem hs;have hlt:=(List.getElem?_eq_some_iff.1 hj).1;exact hc j s (by have:=List.getElem?_eq_none_iff.1 hg;omega) hj t ht
  | some s =>
   dsimp only;obtain ⟨h1,h2,h3,_⟩:=Quw hf (Qxf h s);have hlen:i<o.length:=(List.getElem?_eq_some_iff.1 hg).1;have hle:=h2.length_le;obtain ⟨k1,k2,k3⟩:=Q47 h fuel (i+1) ((Qry a s).foldl ins o) h1 (by omega) (by omega) (fun j s' hj hs' t ht=>by
    by_cases hji:j<i
    ·have hjl:j<o.length:=by omega
     have:o[j]? = some s':=by
      have:=Qzh h2 (List.getElem?_eq_getElem hjl);rw [hs'] at this;rw [List.getElem?_eq_getElem hjl];exact this.symm
     exact h2.subset (hc j s' hji this t ht)
    ·obtain rfl:j=i:=by omega
     have:=Qzh h2 hg;rw [hs'] at this;cases this;exact h3 t ht)
   exact ⟨k1,h2.trans k2,k3⟩
theorem Qve {a:Qa} (h:Right a):Fnd a (Qna a)∧(if 0<a.zH then [0] else []) <+: Qna a∧∀ s∈Qna a,∀ t∈Qry a s,t∈Qna a :=
 Q47 h _ 0 _ ⟨by split<;>simp,fun s hs=>by split at hs<;>simp at hs;subst hs;omega⟩ (Nat.zero_le _) (by omega) fun j s hj=>by omega
def Qwg (m:List Int):Nat→List Int→List Int
 | _,[]=>[]
 | i,s::t=>(if s∈m then [(i:Int)] else [])++Qwg m (i+1) t
def rowP (a:Qa) (F:List Int) (i:Nat) (s:Int):List Qf:=(outP a s).map fun x=>⟨(i:Int),x.Event,(F.idxOf x.To:Int)⟩
def Qwh (a:Qa) (F:List Int):Nat→List Int→List Qf
 | _,[]=>[]
 | i,s::t=>rowP a F i s++Qwh a F (i+1) t
def Qux (a:Qa):Qa:=⟨a.zD,((Qna a).length:Int),Qwg a.zF 0 (Qna a),Qwh a (Qna a) 0 (Qna a)⟩
theorem Quy {m:List Int}:∀ {l:List Int} {i:Nat},∀ x∈Qwg m i l,(i:Int)≤x∧x<(i+l.length:Nat)
 | [],i,x,hx=>by simp [Qwg] at hx
 | s::t,i,x,hx=>by
  simp only [Qwg,List.mem_append] at hx;rcases hx with hx|hx
  ·split at hx<;>simp at hx;subst hx;simp only [List.length_cons];omega
  ·have:=Quy x hx;simp only [List.length_cons];omega
theorem Qyh {m:List Int}:∀ {l:List Int} {i:Nat},(Qwg m i l).Pairwise (· < ·)
 | [],i=>.nil
 | s::t,i=>by
  simp only [Qwg];rw [List.pairwise_append];refine ⟨by split<;>simp,Qyh,fun x hx y hy=>?_⟩;have:=Quy y hy;split at hx<;>simp at hx;omega
theorem Qxg {a:Qa} {F:List Int}:∀ {l:List Int} {i:Nat},∀ x∈Qwh a F i l,(i:Int)≤x.From∧x.From<(i+l.length:Nat)∧∃ s∈l,∃ y∈outP a s,x.Event=y.Event∧x.To=(F.idxOf y.To:Int)
 | [],i,x,hx=>by simp [Qwh] at hx
 | s::t,i,x,hx=>by
  simp only [Qwh,List.mem_append] at hx;rcases hx with hx|hx
  ·obtain ⟨y,hy,rfl⟩:=List.mem_map.1 hx;simp only [List.length_cons];exact ⟨by omega,by omega,s,by simp,y,hy,rfl,rfl⟩
  ·obtain ⟨h1,h2,s',h3,h4⟩:=Qxg x hx;simp only [List.length_cons];exact ⟨by omega,by omega,s',by simp [h3],h4⟩
theorem Qyi {a:Qa} (h:Right a) {F:List Int}:∀ {l:List Int} {i:Nat},(Qwh a F i l).Pairwise Qm9
 | [],i=>.nil
 | s::t,i=>by
  simp only [Qwh];rw [List.pairwise_append];refine ⟨?_,Qyi h,fun x hx y hy=>?_⟩
  ·unfold rowP;rw [List.pairwise_map];have h1:(outP a s).Pairwise Qm9:=h.ed.filter _;have h2:∀ x∈outP a s,x.From=s:=fun x hx=>by unfold outP at hx;simp at hx;exact hx.2
   exact List.Pairwise.imp_of_mem (fun {x y} hx hy hk=>by have:=h2 x hx;have:=h2 y hy;unfold Qm9 at hk;exact .inr ⟨rfl,by show x.Event<y.Event;omega⟩) h1
  ·obtain ⟨z,_,rfl⟩:=List.mem_map.1 hx;have:=(Qxg y hy).1;unfold Qm9;simp only;omega
theorem Q60 {a:Qa} (h:Right a):Right (Qux a):=by
 obtain ⟨h1,h2,h3⟩:=Qve h;have hl:=h1.len;have hst:=h.st;refine ⟨h.al0,h.al,⟨by simp only [Qux];omega,by simp only [Qux];omega⟩,fun x hx=>?_,Qyh,fun x hx=>?_,Qyi h⟩
 ·have:=Quy x hx;simp only [Qux];omega
 ·obtain ⟨k1,k2,s,hs,y,hy,k3,k4⟩:=Qxg x hx;have hy' : y.To∈Qna a:=h3 s hs y.To (List.mem_map.2 ⟨y,hy,rfl⟩);have:=List.idxOf_lt_length_iff.2 hy';simp only [Qux];refine ⟨by omega,by omega,by omega,by omega,?_⟩;rw [k3];unfold outP at hy;exact (h.ed0 y ((List.mem_filter.1 hy).1)).2.2.2.2
end Go.Abs
end
section
namespace Go.Abs
open Go
theorem Q9l {l:List Int} (hl:l.length≤lim):Qfs l=some ⟨l,0,[],[]⟩:=by
 unfold Qfs Qbk;rw [Qck (by simpa using hl)];rfl
theorem Q76 {l:List Int} {v:Int} (hl:l.length<big):Qft l v=some (if v∈l then (l.idxOf v:Int) else -1):=by
 have hb:l.length<1000000000000:=hl;unfold Qft Qdb;refine (Qkj (len:=l.length) (fun k=>some (if v∈l.drop k then ((k+(l.drop k).idxOf v:Nat):Int) else -1)) (by unfold Qbp;omega) ?_ ?_).trans (by simp)
 ·intro k i hi ih;rw [if_pos (by omega),Qb3 hi,Qbd (by omega),ih,List.drop_eq_getElem_cons hi];simp only [Option.bind_some,List.mem_cons,List.idxOf_cons];by_cases h:v=l[i]
  ·simp [← h]
  ·have h' : ¬ l[i]=v:=fun e=>h e.symm;have hbq:(l[i]==v)=false:=by simp [h']
   by_cases h2:v∈l.drop (i+1)<;>simp [h,h2,hbq];omega
 ·intro k;simp
theorem Qz0 {a:Qa} (h:Right a) (s:Int):Qry a s=(a.zD.filter fun e=>decide (0≤Qlg a s e)).map (Qlg a s):=by
 rw [← Qxe h,List.map_map];unfold Qry;exact List.map_congr_left fun x hx=>(Q6z h hx).symm
theorem Q31 {a:Qa} (s:Int):∀ (al o:List Int),al.foldl (fun o e=>if 0≤Qlg a s e then ins o (Qlg a s e) else o) o=((al.filter fun e=>decide (0≤Qlg a s e)).map (Qlg a s)).foldl ins o
 | [],o=>rfl
 | e::al,o=>by
  by_cases hx:0≤Qlg a s e<;>simp [List.filter_cons,hx,Q31 s al]
theorem Q9m {a:Qa} {fuel i:Nat} {o:List Int} (hi:i<o.length):bfs a (fuel+1) i o=bfs a fuel (i+1) ((Qry a o[i]).foldl ins o):=by
 conv=>lhs;unfold bfs
 rw [List.getElem?_eq_getElem hi]
theorem Qbc4 {a:Qa} {fuel:Nat} {o:List Int}:bfs a fuel o.length o=o:=by
 cases fuel with
 | zero=>rfl
 | succ n=>unfold bfs;simp
section
variable {a:Qa} (h:Right a)
include h
theorem Qbak (fuel:Nat) (hfu:1099511627776≤fuel) {s:Int} {o:List Int} {i:Nat} (hf:Fnd a o) (hi:o[i]? = some s) :
  Qct (fun k12 ((out10,k11):(List Int)×Int)=>(if (k11<(a.zD.length:Int)) then ((((getO out10 (i:Int)).bind fun x14=>((getO a.zD k11).bind fun x16=>((Qc3 a x14 x16).bind fun x19=>(((if (x19≥0) then ((Qdw out10 x19).bind fun x22=>some (!x22)) else some false)).bind fun (x23:Bool)=>(if x23 then ((appO out10 [x19]).bind fun x25=>some x25) else some out10)))))).bind fun (out27:List Int)=>k12 (out27,(IntKind.wrap .i64 (k11+1)))) else some out10)) fuel (o,0)=some ((Qry a s).foldl ins o):=by
 have hs:=h.small.1;have hst:=h.st;have hb:a.zD.length<1000000000000:=hs.1;rw [Qz0 h,← Q31];refine (Qh4 (len:=a.zD.length) (fun n (acc:List Int)=>(acc,(n:Int))) (fun n acc=>Fnd a acc∧acc[i]? = some s) (fun n acc=>some ((a.zD.drop n).foldl (fun o e=>if 0≤Qlg a s e then ins o (Qlg a s e) else o) acc)) ?_ ?_ fuel 0 o (Nat.zero_le _) (by omega) ⟨hf,hi⟩).trans (by simp)
 ·intro k n acc hn ⟨k1,k2⟩ ih;have hlen:=k1.len;have hg:getO acc (i:Int)=some s:=by rw [Qjq];exact ⟨by omega,by simpa using k2⟩
  dsimp only;rw [if_pos (by omega),hg,Qb3 hn];simp only [Option.bind_some];rw [Q30 hs,Qbd (by omega)];simp only [Option.bind_some];rw [Qbfn (by unfold big;omega),List.drop_eq_getElem_cons hn,List.foldl_cons];rcases Q74 h s a.zD[n] with hr|hr
  ·rw [hr];simp only [show ¬ ((-1:Int)≥0) from by omega,show ¬ ((0:Int) ≤ -1) from by omega,if_false,Option.bind_some,Bool.false_eq_true];exact ih _ ⟨k1,k2⟩
  ·have hge:Qlg a s a.zD[n]≥0:=hr.1;by_cases hm:Qlg a s a.zD[n]∈acc
   ·simp only [hge,hm,decide_true,Bool.not_true,if_true,Option.bind_some,Bool.false_eq_true,if_false,hr.1,ins];exact ih _ ⟨k1,k2⟩
   ·simp only [hge,hm,decide_false,Bool.not_false,if_true,Option.bind_some,hr.1,ins,if_false];rw [Qck (by simp only [List.length_cons,List.length_nil];unfold lim;omega)];simp only [Option.bind_some];have hi':=k1.ins (t:=Qlg a s a.zD[n]) ⟨hr.1,hr.2.1⟩;unfold ins at hi';rw [if_neg hm] at hi';exact ih _ ⟨hi',Qzh (List.prefix_append acc _) k2⟩
 ·intro k acc _;dsimp only;rw [if_neg (by omega)];simp
theorem Q77:Qhc a=some (Qna a):=by
 have hs:=h.small.1;have hst:=h.st;unfold Qhc Qda;obtain ⟨fuel,hfu,hge⟩ : ∃ f,Qbp=f∧1099511627776≤f:=⟨_,rfl,Nat.le_refl _⟩;rw [hfu];have hloop:∀ o:List Int,Fnd a o→Qct (fun (k8:List Int×Int→Option (List Int)) ((out6,i7):(List Int)×Int)=>(if (i7<(out6.length:Int)) then ((Qct (fun k12 ((out10,k11):(List Int)×Int)=>(if (k11<(a.zD.length:Int)) then ((((getO out10 i7).bind fun x14=>((getO a.zD k11).bind fun x16=>((Qc3 a x14 x16).bind fun x19=>(((if (x19≥0) then ((Qdw out10 x19).bind fun x22=>some (!x22)) else some false)).bind fun (x23:Bool)=>(if x23 then ((appO out10 [x19]).bind fun x25=>some x25) else some out10)))))).bind fun (out27:List Int)=>k12 (out27,(IntKind.wrap .i64 (k11+1)))) else some out10)) fuel (out6,0)).bind fun (out28:List Int)=>k8 (out28,(IntKind.wrap .i64 (i7+1)))) else some out6)) fuel (o,0)=some (bfs a (a.zH.toNat+1) 0 o):=by
  intro o ho;have:=Qdr (F:=fun (k8:List Int×Int→Option (List Int)) ((out6,i7):(List Int)×Int)=>(if (i7<(out6.length:Int)) then ((Qct (fun k12 ((out10,k11):(List Int)×Int)=>(if (k11<(a.zD.length:Int)) then ((((getO out10 i7).bind fun x14=>((getO a.zD k11).bind fun x16=>((Qc3 a x14 x16).bind fun x19=>(((if (x19≥0) then ((Qdw out10 x19).bind fun x22=>some (!x22)) else some false)).bind fun (x23:Bool)=>(if x23 then ((appO out10 [x19]).bind fun x25=>some x25) else some out10)))))).bind fun (out27:List Int)=>k12 (out27,(IntKind.wrap .i64 (k11+1)))) else some out10)) fuel (out6,0)).bind fun (out28:List Int)=>k8 (out28,(IntKind.wrap .i64 (i7+1)))) else some out6))
   (fun x=>∃ i:Nat,x.2=(i:Int)∧i≤x.1.length∧Fnd a x.1) (fun x=>a.zH.toNat+1-x.2.toNat) (fun x r=>r=some (bfs a (a.zH.toNat+1-x.2.toNat) x.2.toNat x.1)) (by
    rintro k ⟨o,i⟩ ⟨i,rfl,hi,hf⟩ ih;replace hi:i≤o.length:=hi;replace hf:Fnd a o:=hf;have hl:=hf.len;dsimp only;by_cases hlt:i<o.length
    ·rw [if_pos (by omega),Qbak h fuel hge hf (List.getElem?_eq_getElem hlt),Option.bind_some,Qbd (by omega)];obtain ⟨q1,q2,_,_⟩:=Quw hf (Qxf h o[i]);have hle:=q2.length_le;rw [ih _ ⟨i+1,rfl,by simp only;omega,q1⟩ (by simp only;omega)];simp only [Int.toNat_natCast];rw [show a.zH.toNat+1-i=(a.zH.toNat+1-(i+1))+1 from by omega,Q9m hlt]
    ·rw [if_neg (by omega)];obtain rfl:i=o.length:=by omega
     simp only [Int.toNat_natCast,Qbc4]) fuel (o,0) ⟨0,rfl,Nat.zero_le _,ho⟩ (by simp only;omega)
  simpa using this
 by_cases h0:0<a.zH
 ·rw [if_pos (by omega),Qck (by simp only [List.length_cons,List.length_nil];unfold lim;omega)];simp only [Option.bind_some];rw [show ([]++[0]:List Int)=[0] from rfl,hloop [0] ⟨by simp,fun s hs=>by simp at hs;subst hs;omega⟩];simp only [Option.bind_some,Qna,if_pos h0]
 ·rw [if_neg (by omega)];simp only [Option.bind_some];rw [hloop [] ⟨by simp,fun s hs=>by simp at hs⟩];simp only [Option.bind_some,Qna,if_neg h0]
theorem Q32 (fuel:Nat) (hfu:1099511627776≤fuel) {F:List Int} (hF:Fnd a F) (hcl:∀ s∈F,∀ t∈Qry a s,t∈F) {s:Int} {i:Nat} (hi:F[i]? = some s) (ms:List Int) (es:List Qf) (hes:es.length≤200000) :
  Qct (fun (k24:Int×List Qf→Option (List Int×List Qf)) ((k22,out23):Int×(List Qf))=>(if (k22<(a.zD.length:Int)) then ((((getO F (i:Int)).bind fun x26=>((getO a.zD k22).bind fun x28=>((Qc3 a x26 x28).bind fun x31=>(if (x31≥0) then ((getO a.zD k22).bind fun x33=>((Qft F x31).bind fun x36=>((appO out23 [(Qf.mk (i:Int) x33 x36)]).bind fun x37=>some x37))) else some out23))))).bind fun (out39:List Qf)=>k24 ((IntKind.wrap .i64 (k22+1)),out39)) else some (ms,out23))) fuel (0,es)=some (ms,es++rowP a F i s):=by
 have hs:=h.small.1;have hst:=h.st;have hal:=h.small.2.1;have hb:a.zD.length<1000000000000:=hs.1;have hFl:=hF.len;have hrow:rowP a F i s=(a.zD.filter fun e=>decide (0≤Qlg a s e)).map fun e=>⟨(i:Int),e,(F.idxOf (Qlg a s e):Int)⟩:=by
  rw [← Qxe h,List.map_map];unfold rowP;exact List.map_congr_left fun x hx=>by simp only [Function.comp];rw [Q6z h hx]
 rw [hrow];refine (Qh4 (len:=a.zD.length) (fun n (acc:List Qf)=>((n:Int),acc)) (fun n acc=>acc.length≤200000+n) (fun n acc=>some (ms,acc++((a.zD.drop n).filter fun e=>decide (0≤Qlg a s e)).map fun e=>⟨(i:Int),e,(F.idxOf (Qlg a s e):Int)⟩)) ?_ ?_ fuel 0 es (Nat.zero_le _) (by omega) (by omega)).trans (by simp)
 ·intro k n acc hn k1 ih;have hg:getO F (i:Int)=some s:=by rw [Qjq];exact ⟨by omega,by simpa using hi⟩
  dsimp only;rw [if_pos (by omega),hg,Qb3 hn];simp only [Option.bind_some];rw [Q30 hs,Qbd (by omega)];simp only [Option.bind_some];rw [List.drop_eq_getElem_cons hn,List.filter_cons];by_cases hr:0≤Qlg a s a.zD[n]
  ·have hm:Qlg a s a.zD[n]∈F:=hcl s (List.mem_of_getElem? hi) _ (by rw [Qz0 h];exact List.mem_map.2 ⟨_,List.mem_filter.2 ⟨List.getElem_mem hn,by simpa using hr⟩,rfl⟩);rw [if_pos hr,Q76 (by unfold big;omega),if_pos hm];simp only [Option.bind_some];rw [Qck (by simp only [List.length_cons,List.length_nil];unfold lim;omega)];simp only [Option.bind_some];rw [ih _ (by simp only [List.length_append,List.length_cons,List.length_nil];omega)];simp only [hr,decide_true,if_true,List.map_cons,List.append_assoc,List.cons_append,List.nil_append]
  ·rw [if_neg (by omega)];simp only [Option.bind_some];rw [ih _ (by omega)];simp only [hr,decide_false,Bool.false_eq_true,if_false]
 ·intro k acc _;dsimp only;rw [if_neg (by omega)];simp
theorem Qbeo {F:List Int} {i:Nat} {s:Int}:(rowP a F i s).length≤32:=by
 have:=h.small.2.1;have h1:(rowP a F i s).length=((outP a s).map (·.Event)).length:=by simp [rowP]
 rw [h1,Qxe h];exact Nat.le_trans (List.length_filter_le _ _) this
theorem Q2h:Qfh a=some (Qux a):=by
 have hs:=h.small.1;have hst:=h.st;have hal:=h.small.2.1;have hb:a.zD.length<1000000000000:=hs.1;obtain ⟨hF,_,hcl⟩:=Qve h;have hFl:=hF.len;unfold Qfh Qce;obtain ⟨fuel,hfu,hge⟩ : ∃ f,Qbp=f∧1099511627776≤f:=⟨_,rfl,Nat.le_refl _⟩;rw [hfu,Q77 h,Option.bind_some,Q9l (by unfold lim;omega),Option.bind_some];unfold Qux;generalize Qna a=F at hF hcl hFl;show Option.bind (Qct _ fuel (((0:Nat):Int),[],[],[],[],[])) _=_;rw [Qh4 (len:=F.length) (R:=List Int×List Int×List Qf×List Int×List Qf) (fun n (acc:List Int×List Qf)=>((n:Int),([]:List Int),([]:List Int),([]:List Qf),acc.1,acc.2)) (fun n acc=>acc.1.length≤n∧acc.2.length≤32*n)
  (fun n acc=>some (([]:List Int),([]:List Int),([]:List Qf),acc.1++Qwg a.zF n (F.drop n),acc.2++Qwh a F n (F.drop n))) ?_ ?_ fuel 0 ([],[]) (Nat.zero_le _) (by omega) ⟨Nat.zero_le _,Nat.zero_le _⟩]
 ·simp
 ·rintro k n ⟨ms,es⟩ hn ⟨k1,k2⟩ ih;replace k1:ms.length≤n:=k1;replace k2:es.length≤32*n:=k2;have hg:=List.getElem?_eq_getElem hn;dsimp only;rw [if_pos (by omega),Qb3 hn];simp only [Option.bind_some];rw [Qbfn hs.2.1];simp only [Option.bind_some];have hrl:=Qbeo h (F:=F) (i:=n) (s:=F[n]);rw [List.drop_eq_getElem_cons hn];simp only [Qwg,Qwh];by_cases hm:F[n]∈a.zF
  ·simp only [hm,decide_true,if_true];rw [Qck (by simp only [List.length_cons,List.length_nil];unfold lim;omega)];simp only [Option.bind_some];have:=Q32 h fuel hge hF hcl hg (ms++[(n:Int)]) es (by omega);rw [Qb3 hn] at this;simp only [Option.bind_some] at this;rw [this];simp only [Option.bind_some];rw [Qbd (by omega),ih (ms++[(n:Int)],es++rowP a F n F[n]) ⟨by simp only [List.length_append,List.length_cons,List.length_nil];omega,by simp only [List.length_append];omega⟩];simp only [List.append_assoc]
  ·simp only [hm,decide_false,Bool.false_eq_true,if_false,Option.bind_some];have:=Q32 h fuel hge hF hcl hg ms es (by omega);rw [Qb3 hn] at this;simp only [Option.bind_some] at this;rw [this];simp only [Option.bind_some];rw [Qbd (by omega),ih (ms,es++rowP a F n F[n]) ⟨by simp only;omega,by simp only [List.length_append];omega⟩];simp only [List.append_assoc,List.nil_append]
 ·rintro k ⟨ms,es⟩ _;dsimp only;rw [if_neg (by omega)];simp [Qwg,Qwh]
end
end Go.Abs
end
section
namespace Go.Abs
open Go
theorem Qbg2 (x y:Int):Qkh x y=some (decide (x<y)):=by
 unfold Qkh Qgd Qpk Qet;simp
theorem Qbep (x:Int):Qi1 x=some false:=by
 unfold Qi1 Qdn;simp
theorem Qbc5 {l:List Int} (h:l.Pairwise (· < ·)) (v:Int):l.Pairwise fun a b=>decide (b<v)=true→decide (a<v)=true :=
 h.imp fun h=>by simp;omega
theorem Qbc6 {l:List Int} {v:Int} (hs:l.Pairwise (· < ·)) (hl:l.length<big):∃ n,Qfg l v=some (n,decide (v∈l)):=by
 have hc:=fun n h=>Q3y (p:=fun x:Int=>decide (x<v)) (Qbc5 hs v) n h;have hcl:(l.filter fun x=>decide (x<v)).length≤l.length:=List.length_filter_le _ _;generalize (l.filter fun x=>decide (x<v)).length=c at hc hcl;have hb:l.length<1000000000000:=hl;unfold Qfg Qcd;obtain ⟨fuel,hfu,hge⟩ : ∃ f,Qbp=f∧1099511627776≤f:=⟨_,rfl,Nat.le_refl _⟩;rw [hfu];have hloop:=Qdr (F:=fun (k5:Int×Int→Option Int) ((i3,j4):Int×Int)=>(if (i3<j4) then ((getO l (IntKind.wrap .i64 (Int.fdiv (IntKind.wrap .u64 (IntKind.wrap .i64 (i3+j4))) (2 ^ (min (Int.toNat 1) (IntKind.bits .u64)))))).bind fun x7=>((Qkh x7 v).bind fun x10=>(if x10 then k5 ((IntKind.wrap .i64 ((IntKind.wrap .i64 (Int.fdiv (IntKind.wrap .u64 (IntKind.wrap .i64 (i3+j4))) (2 ^ (min (Int.toNat 1) (IntKind.bits .u64)))))+1)),j4) else k5 (i3,(IntKind.wrap .i64 (Int.fdiv (IntKind.wrap .u64 (IntKind.wrap .i64 (i3+j4))) (2 ^ (min (Int.toNat 1) (IntKind.bits .u64))))))))) else some i3))
  (fun x=>∃ i j:Nat,x=((i:Int),(j:Int))∧i≤c∧c≤j∧j≤l.length) (fun x=>(x.2-x.1).toNat) (fun _ r=>r=some (c:Int)) (by
   rintro k _ ⟨i,j,rfl,h1,h2,h3⟩ ih;dsimp only;by_cases hij:i<j
   ·rw [if_pos (by omega),Qbid (by omega) (by omega)];have hm:(i+j) / 2<l.length:=by omega
    rw [Qb3 hm];simp only [Option.bind_some];rw [Qbg2];simp only [Option.bind_some];have hcm:=hc ((i+j) / 2) hm;by_cases hlt:l[(i+j) / 2]<v
    ·rw [if_pos (by simpa using hlt),Qbd (by omega)];have:(i+j) / 2<c:=hcm.1 (by simpa using hlt);exact ih _ ⟨_,_,rfl,by omega,h2,h3⟩ (by simp only;omega)
    ·rw [if_neg (by simpa using hlt)];have:¬ (i+j) / 2<c:=fun h=>hlt (by simpa using hcm.2 h);exact ih _ ⟨_,_,rfl,h1,by omega,by omega⟩ (by simp only;omega)
   ·rw [if_neg (by omega)];have:i=c:=by omega
    rw [this]) fuel (0,(l.length:Int)) ⟨0,l.length,rfl,by omega,hcl,Nat.le_refl _⟩ (by simp only;omega)
 rw [hloop];simp only [Option.bind_some];have hmem:v∈l↔∃ h:c<l.length,l[c]=v:=by
  constructor
  ·intro hv;obtain ⟨j,hj,rfl⟩:=List.getElem_of_mem hv;have h1:¬ j<c:=fun h=>by have:=(hc j hj).2 h;simp at this
   have h2:c<l.length:=by omega
   refine ⟨h2,?_⟩;have h3:¬ l[c]<l[j]:=fun h=>by have:=(hc c h2).1 (by simpa using h);omega
   rcases Nat.lt_or_ge c j with h|h
   ·have:=List.pairwise_iff_getElem.1 hs c j h2 hj h;omega
   ·have:c=j:=by omega
    subst this;rfl
  ·rintro ⟨h,rfl⟩;exact List.getElem_mem h
 by_cases hlt:c<l.length
 ·rw [if_pos (by omega),Qb3 hlt];simp only [Option.bind_some];by_cases he:l[c]=v
  ·rw [if_pos (by simpa using he)];exact ⟨_,by rw [decide_eq_true (hmem.2 ⟨hlt,he⟩)]⟩
  ·rw [if_neg (by simpa using he),Qbep];exact ⟨_,by rw [decide_eq_false (fun h=>he (hmem.1 h).2)];rfl⟩
 ·rw [if_neg (by omega)];exact ⟨_,by rw [decide_eq_false (fun h=>hlt (hmem.1 h).1)]⟩
theorem Q0o {l:List Int} (hl:l.length≤lim):Qex l=some l:=by
 unfold Qex Q3;rw [Qck (by simpa using hl)];cases l<;>simp [nilO]
structure Num (a:Qa) (o num:List Int):Prop where
 len:num.length=a.zH.toNat
 at1:∀ s:Nat,s<a.zH.toNat→num[s]? = some (if (s:Int)∈o then (o.idxOf (s:Int):Int) else -1)
theorem Num.get {a:Qa} {o num:List Int} (h:Num a o num) {t:Int} (ht:0≤t∧t<a.zH):getO num t=some (if t∈o then (o.idxOf t:Int) else -1):=by
 rw [Qjq];refine ⟨ht.1,?_⟩;have:=h.at1 t.toNat (by omega)
 rwa [show ((t.toNat:Nat):Int)=t from by omega] at this
theorem Num.set {a:Qa} {o num:List Int} (h:Num a o num) {t:Int} (ht:0≤t∧t<a.zH) (hn:t∉o):∃ num',setO num t (o.length:Int)=some num'∧Num a (o++[t]) num':=by
 refine ⟨num.set t.toNat (o.length:Int),by unfold setO;rw [if_pos ⟨ht.1,by rw [h.len];omega⟩],by rw [List.length_set];exact h.len,fun s hs=>?_⟩;rw [List.getElem?_set];by_cases he:t.toNat=s
 ·subst he;rw [if_pos rfl,if_pos (by rw [h.len];omega),show ((t.toNat:Nat):Int)=t from by omega,if_pos (by simp),List.idxOf_append,if_neg hn];simp
 ·rw [if_neg he,h.at1 s hs];have hne:(s:Int)≠t:=by omega
  by_cases hm:(s:Int)∈o
  ·rw [if_pos hm,if_pos (by simp [hm]),List.idxOf_append,if_pos hm]
  ·rw [if_neg hm,if_neg (by simp [hm,hne])]
section
variable {a:Qa} (h:Right a)
include h
end
end Go.Abs
end
section
namespace Go.Abs
open Go
section
variable {a:Qa} (h:Right a)
include h
omit h in
theorem Q2i {w:List Int} {p:Int→Bool} {f:Int→Option Bool} (hf:∀ x,f x=some (p x)) (hw:w.length<big):Qcg w f=some (w.any p):=by
 have hb:w.length<1000000000000:=hw;unfold Qcg Qw Qgu Qcl;obtain ⟨fuel,hfu,hge⟩ : ∃ f,Qbp=f∧1099511627776≤f:=⟨_,rfl,Nat.le_refl _⟩;rw [hfu];have:=Qkj (F:=fun (k10:Int→Option Int) (x9:Int)=>(if (x9<(w.length:Int)) then ((getO w x9).bind fun x12=>((f x12).bind fun x15=>(if x15 then some x9 else k10 (IntKind.wrap .i64 (x9+1))))) else some (-1))) (len:=w.length) (fuel:=fuel)
  (fun n=>some (if (w.drop n).any p then ((n+(w.drop n).findIdx p:Nat):Int) else -1)) (by omega) (by
   intro k n hn ih;rw [if_pos (by omega),Qb3 hn,Qbd (by omega),ih];simp only [Option.bind_some,hf];rw [List.drop_eq_getElem_cons hn];cases hp:p w[n] with
   | true=>simp only [List.any_cons,hp,Bool.true_or,if_true,List.findIdx_cons,cond_true,Nat.add_zero]
   | false =>
    simp only [List.any_cons,hp,Bool.false_or,List.findIdx_cons,cond_false,Bool.false_eq_true,if_false];rw [show n+1+(w.drop (n+1)).findIdx p=n+((w.drop (n+1)).findIdx p+1) from by omega]) (by intro k;simp)
 rw [this];simp only [Option.bind_some,List.drop_zero,Nat.zero_add];cases w.any p<;>simp
end
end Go.Abs
end
section
namespace Go.Abs
open Go
theorem Q61 {P:Int→Prop}:∀ (ts o:List Int),(∀ s∈o,P s)→(∀ t∈ts,P t)→∀ s∈ts.foldl ins o,P s
 | [],o,h,_=>h
 | t::ts,o,h,ht=>Q61 ts (ins o t) (fun s hs=>by
   rcases Q2g.1 hs with hs|rfl
   ·exact h s hs
   ·exact ht _ (by simp)) fun u hu=>ht u (by simp [hu])
theorem Q62 {a:Qa} {P:Int→Prop} (hP:∀ s,P s→∀ t∈Qry a s,P t):∀ (fuel i:Nat) (o:List Int),(∀ s∈o,P s)→∀ s∈bfs a fuel i o,P s
 | 0,i,o,h=>h
 | fuel+1,i,o,h=>by
  unfold bfs;cases hg:o[i]? with
  | none=>exact h
  | some s=>exact Q62 hP fuel (i+1) _ (Q61 _ _ h (hP s (h s (List.mem_of_getElem? hg))))
structure Like (a b:Qa) (φ:Int→Int):Prop where
 al:b.zD=a.zD
 st:0<b.zH↔0<a.zH
 zero:0<a.zH→φ 0=0
 inj:∀ s∈Qna a,∀ t∈Qna a,φ s=φ t→s=t
 out:∀ s∈Qna a,outP b (φ s)=(outP a s).map fun x=>⟨φ s,x.Event,φ x.To⟩
 ma:∀ s∈Qna a,(φ s∈b.zF↔s∈a.zF)
section
variable {F:List Int} {φ:Int→Int} (inj:∀ s∈F,∀ t∈F,φ s=φ t→s=t)
include inj
end
section
variable {a b:Qa} {φ:Int→Int} (ha:Right a) (hb:Right b) (h:Like a b φ)
include ha h
include hb
end
section
variable {a b:Qa} {φ:Int→Int} (ha:Right a) (hb:Right b) (h:Like a b φ)
include ha h
end
end Go.Abs
end
section
namespace Go.Abs
open Go
theorem Qgc {α β:Type} {o:Option α} {x:α} {K:α→Option β} {r:Option β} (h:o=some x) (h2:K x=r):o.bind K=r:=by rw [h];exact h2
theorem Q33 {X S R α:Type} {F:(X→Option R)→X→Option R} {l:List α} {fuel:Nat} (mk:Nat→S→X) (f:S→α→S) (fin:S→Option R) (I:Nat→S→Prop)
  (step:∀ (k:X→Option R) (n:Nat) (h:n<l.length) (s:S),I n s→I (n+1) (f s l[n])∧F k (mk n s)=k (mk (n+1) (f s l[n]))) (last:∀ (k:X→Option R) (s:S),I l.length s→F k (mk l.length s)=fin s)
  (hf:l.length<fuel) (s0:S) (h0:I 0 s0):Qct F fuel (mk 0 s0)=fin (l.foldl f s0):=by
 have:=Qh4 (F:=F) (len:=l.length) mk I (fun n s=>fin ((l.drop n).foldl f s)) (fun k n s hn hi ih=>by
  obtain ⟨h1,h2⟩:=step k n hn s hi;rw [h2,ih _ h1,List.drop_eq_getElem_cons hn,List.foldl_cons]) (fun k s hi=>by rw [last k s hi];simp) fuel 0 s0 (Nat.zero_le _) (by omega) h0
 simpa using this
theorem Qbg3 {l m:List Int} (hl:l.Pairwise (· < ·)) (hm:m.Pairwise (· < ·)) (h:∀ x,x∈l↔x∈m):l=m:=by
 refine List.Perm.eq_of_pairwise (le:=(· < ·)) (fun a b _ _ h1 h2=>by omega) hl hm ?_;rw [List.perm_ext_iff_of_nodup (hl.imp fun h=>by omega) (hm.imp fun h=>by omega)];exact h
theorem swoI:Go.Sort.SWO Qge:=⟨fun x=>by simp [Qge],fun x y z h1 h2=>by simp [Qge] at *;omega,fun x y z h1 h2=>by simp [Qge] at *;omega⟩
theorem Q63 {l:List Int} (h:l.Nodup):(Qnw Qge l).Pairwise (· < ·)∧∀ x,x∈Qnw Qge l↔x∈l:=by
 have hp:=Qpj Qge l;refine ⟨?_,fun x=>hp.mem_iff⟩;have hs:=Qof swoI l;have hn:=(hp.nodup_iff).2 h;exact (hs.and hn).imp fun ⟨h1,h2⟩=>by simp [Qge] at h1;omega
inductive Rch (a:Qa) (ev fr:List Int):Int→Prop where
 | base {s:Int}:s∈fr→Rch a ev fr s
 | step {x:Qf}:Rch a ev fr x.From→x∈a.zG→x.Event∈ev→Rch a ev fr x.To
def upto (n:Int):List Int:=(List.range n.toNat).map fun (i:Nat)=>(i:Int)
theorem Q9n {n x:Int}:x∈upto n↔0≤x∧x<n:=by
 simp only [upto,List.mem_map,List.mem_range];constructor
 ·rintro ⟨i,hi,rfl⟩;omega
 ·rintro ⟨h1,h2⟩;exact ⟨x.toNat,by omega,by omega⟩
theorem Q64 (n:Int):(upto n).Pairwise (· < ·):=by
 unfold upto;rw [List.pairwise_map];exact List.pairwise_lt_range.imp fun h=>by omega
theorem Q0p (n:Int):(upto n).length=n.toNat:=by simp [upto]
theorem Qbeq {n:Int} {i:Nat} (h:i<n.toNat):(upto n)[i]'(by rw [Q0p];exact h)=(i:Int):=by simp [upto]
open Classical in
noncomputable def Qs5 (a:Qa) (fr ev:List Int):List Int:=(upto a.zH).filter fun s=>decide (Rch a ev fr s)
theorem Q2j (a:Qa) (fr ev:List Int):(Qs5 a fr ev).Pairwise (· < ·):=(Q64 _).filter _
theorem Qzi {a:Qa} {fr ev:List Int} {s:Int}:s∈Qs5 a fr ev↔(0≤s∧s<a.zH)∧Rch a ev fr s:=by
 classical
 simp only [Qs5,List.mem_filter,Q9n,decide_eq_true_eq]
theorem Rch.range {a:Qa} (h:Right a) {ev fr:List Int} (hf:∀ s∈fr,0≤s∧s<a.zH) {s:Int} (hr:Rch a ev fr s):0≤s∧s<a.zH:=by
 induction hr with
 | base hs=>exact hf _ hs
 | step _ hx _ _=>have:=h.ed0 _ hx;exact ⟨this.2.2.1,this.2.2.2.1⟩
theorem Qbc7 {a:Qa} (h:Right a) {fr ev:List Int} (hf:∀ s∈fr,0≤s∧s<a.zH) {s:Int}:s∈Qs5 a fr ev↔Rch a ev fr s:=by
 rw [Qzi];exact ⟨fun h=>h.2,fun hr=>⟨hr.range h hf,hr⟩⟩
theorem Rch.mono {a:Qa} {ev fr fr' : List Int} (hf:∀ s∈fr,Rch a ev fr' s) {s:Int} (hr:Rch a ev fr s):Rch a ev fr' s:=by
 induction hr with
 | base hs=>exact hf _ hs
 | step _ hx he ih=>exact .step ih hx he
theorem Qbc8 {a:Qa} (h:Right a) {fr ev l:List Int} (hf:∀ s∈fr,0≤s∧s<a.zH) (hl:l.Pairwise (· < ·)) (h1:∀ s∈l,Rch a ev fr s) (h2:∀ s∈fr,s∈l)
  (h3:∀ x∈a.zG,x.From∈l→x.Event∈ev→x.To∈l):l=Qs5 a fr ev:=by
 refine Qbg3 hl (Q2j _ _ _) fun x=>?_;rw [Qbc7 h hf];refine ⟨h1 x,fun hr=>?_⟩
 induction hr with
 | base hs=>exact h2 _ hs
 | step _ hx he ih=>exact h3 _ hx ih he
def Qoi (a:Qa) (ev:List Int):Qa:={ a with zG:=a.zG.filter fun x=>decide (x.Event∈ev) }
theorem Q2k {a:Qa} (h:Right a) (ev:List Int):Right (Qoi a ev) :=
 ⟨h.al0,h.al,h.st,h.ma0,h.ma,fun x hx=>h.ed0 x (List.mem_filter.1 hx).1,h.ed.filter _⟩
theorem Qbal (a:Qa) (ev:List Int) (s:Int):Qry (Qoi a ev) s=((outP a s).filter fun x=>decide (x.Event∈ev)).map (·.To):=by
 simp only [Qry,outP,Qoi,List.filter_filter];congr 1;exact List.filter_congr fun x _=>Bool.and_comm _ _
theorem Q9o {a:Qa} {s t:Int}:t∈Qry a s↔∃ x∈a.zG,x.From=s∧x.To=t:=by
 simp only [Qry,outP,List.mem_map,List.mem_filter,beq_iff_eq];constructor
 ·rintro ⟨x,⟨h1,h2⟩,h3⟩;exact ⟨x,h1,h2,h3⟩
 ·rintro ⟨x,h1,h2,h3⟩;exact ⟨x,⟨h1,h2⟩,h3⟩
theorem Q65 {a:Qa} (h:Right a) {ev fr o:List Int} (hf:∀ s∈fr,0≤s∧s<a.zH) (ho:∀ s,s∈o↔s∈fr) (hn:o.Nodup) :
  Fnd (Qoi a ev) (bfs (Qoi a ev) (a.zH.toNat+1) 0 o)∧Qnw Qge (bfs (Qoi a ev) (a.zH.toNat+1) 0 o)=Qs5 a fr ev:=by
 have hr:=Q2k h ev;have hfo:Fnd (Qoi a ev) o:=⟨hn,fun s hs=>hf s ((ho s).1 hs)⟩;obtain ⟨q1,q2,q3⟩:=Q47 hr (a.zH.toNat+1) 0 o hfo (Nat.zero_le _) (by show a.zH.toNat+1≤_;omega) (fun j s hj=>by omega);obtain ⟨r1,r2⟩:=Q63 q1.nd;refine ⟨q1,Qbc8 h hf r1 (fun s hs=>?_) (fun s hs=>?_) (fun x hx hfx hex=>?_)⟩
 ·have hs:=(r2 s).1 hs;refine Q62 (a:=Qoi a ev) (P:=Rch a ev fr) (fun s hs t ht=>?_) _ 0 o (fun s hs=>.base ((ho s).1 hs)) s hs;obtain ⟨x,hx,rfl,rfl⟩:=Q9o.1 ht;obtain ⟨hx,he⟩:=List.mem_filter.1 hx;exact .step hs hx (by simpa using he)
 ·exact (r2 s).2 (q2.subset ((ho s).2 hs))
 ·exact (r2 _).2 (q3 _ ((r2 _).1 hfx) _ (Q9o.2 ⟨x,List.mem_filter.2 ⟨hx,by simpa using hex⟩,rfl,rfl⟩))
theorem Qyj:∀ (ts o:List Int) (x:Int),x∈ts.foldl ins o↔x∈o∨x∈ts
 | [],o,x=>by simp
 | t::ts,o,x=>by
  simp only [List.foldl_cons,Qyj ts,Q2g,List.mem_cons];constructor
  ·rintro ((h|h)|h)
   ·exact .inl h
   ·exact .inr (.inl h)
   ·exact .inr (.inr h)
  ·rintro (h|h|h)
   ·exact .inl (.inl h)
   ·exact .inl (.inr h)
   ·exact .inr h
end Go.Abs
end
section
namespace Go.Abs
open Go
def Qsz (a:Qa) (onto:List Int):List Int:=a.zD.filter fun x=>decide (x∈onto)
def Ql8 (a:Qa) (onto:List Int):List Int:=a.zD.filter fun x=>!decide (x∈onto)
def Q0d (a:Qa):List (List Qf):=(upto a.zH).map (outP a)
def obsP (a:Qa) (onto:List Int):Qn:=⟨Q0d a,Qsz a onto,Ql8 a onto,a.zF⟩
theorem Quz (a:Qa):(Q0d a).length=a.zH.toNat:=by simp [Q0d,Q0p]
theorem Q2l (a:Qa) {s:Nat} (h:s<a.zH.toNat):(Q0d a)[s]? = some (outP a (s:Int)):=by
 simp only [Q0d,upto,List.getElem?_map,List.getElem?_range h,Option.map_some]
theorem Q48 {a:Qa} {s:Int} (h:0≤s∧s<a.zH):getO (Q0d a) s=some (outP a s):=by
 rw [Qjq];refine ⟨h.1,?_⟩;rw [Q2l a (by omega)];congr 2;omega
theorem Qzj (onto:List Int):∀ (l k e:List Int),l.foldl (fun (s:List Int×List Int) x=>if x∈onto then (s.1++[x],s.2) else (s.1,s.2++[x])) (k,e)=(k++l.filter (fun x=>decide (x∈onto)),e++l.filter fun x=>!decide (x∈onto))
 | [],k,e=>by simp
 | x::l,k,e=>by
  rw [List.foldl_cons];by_cases hx:x∈onto
  ·rw [if_pos hx,Qzj onto l];simp [hx]
  ·rw [if_neg hx,Qzj onto l];simp [hx]
theorem Q34 {a:Qa} (h:Right a) {onto:List Int} (ho:onto.length<big):Qd4 a onto=some (obsP a onto):=by
 have hs:=h.small;have hst:=h.st;unfold Qd4 Qy;refine Qgc (x:=List.replicate a.zH.toNat []) (by unfold mkO;rw [if_pos ⟨hst.1,by unfold lim;omega⟩]) ?_;refine Qgc (x:=Q0d a) ?_ ?_
 ·refine (Qh4 (len:=a.zG.length) (fun n (c:List (List Qf))=>((n:Int),c)) (fun n c=>c.length=a.zH.toNat∧∀ s:Nat,s<a.zH.toNat→c[s]? = some ((a.zG.take n).filter fun x=>x.From==(s:Int))) (fun n c=>some (Q0d a)) ?_ ?_ Qbp 0 _ (Nat.zero_le _) (by unfold Qbp;omega) ⟨by simp,fun s hs=>by simp [hs]⟩)
  ·intro k n c hn ⟨i1,i2⟩ ih;have he:=h.ed0 _ (List.getElem_mem hn);dsimp only;rw [if_pos (by omega),Qb3 hn];simp only [Option.bind_some];have hin:inO (Int.toNat a.zH) a.zG[n].From=some ():=by unfold inO;rw [if_pos ⟨he.1,by omega⟩]
   have hto:((a.zG[n].From.toNat:Nat):Int)=a.zG[n].From:=by omega
   have hg:getO c a.zG[n].From=some ((a.zG.take n).filter fun x=>x.From==a.zG[n].From):=by
    rw [Qjq];refine ⟨he.1,?_⟩;rw [i2 _ (by omega),hto]
   have hfl:((a.zG.take n).filter fun x=>x.From==a.zG[n].From).length≤a.zG.length:=Nat.le_trans (List.length_filter_le _ _) (by rw [List.length_take];omega);rw [hin,hg];simp only [Option.bind_some];rw [Qck (by simp only [List.length_cons,List.length_nil];unfold lim;omega)];simp only [Option.bind_some];unfold setO;rw [if_pos ⟨he.1,by omega⟩,Qbd (by omega)];simp only [Option.bind_some];refine ih _ ⟨by simp [i1],fun s hs=>?_⟩;rw [List.getElem?_set,List.take_succ_eq_append_getElem hn,List.filter_append];split
   ·rename_i hss;subst hss;rw [if_pos (by omega),hto];simp
   ·rename_i hss;have:¬ a.zG[n].From=(s:Int):=by omega
    rw [i2 s hs];simp [this]
  ·intro k c ⟨i1,i2⟩;dsimp only;rw [if_neg (by omega)];congr 1;refine List.ext_getElem? fun s=>?_;by_cases hs:s<a.zH.toNat
   ·rw [i2 s hs,Q2l a hs,List.take_length];rfl
   ·rw [List.getElem?_eq_none (by omega),List.getElem?_eq_none (by rw [Quz];omega)]
 ·refine Qgc (x:=([],[],[],[],Qsz a onto,Ql8 a onto)) ?_ ?_
  ·refine (Q33 (l:=a.zD) (fun n (s:List Int×List Int)=>((n:Int),[],[],[],[],s.1,s.2)) (fun (s:List Int×List Int) x=>if x∈onto then (s.1++[x],s.2) else (s.1,s.2++[x])) (fun s=>some ([],[],[],[],s.1,s.2)) (fun n s=>s.1.length≤n∧s.2.length≤n) ?_ ?_ (by unfold Qbp;omega) ([],[]) ⟨by simp,by simp⟩).trans ?_
   ·intro k n hn s ⟨i1,i2⟩;by_cases hx:a.zD[n]∈onto
    ·rw [if_pos hx];refine ⟨⟨by simp;omega,by simp;omega⟩,?_⟩;dsimp only;rw [if_pos (by omega),Qb3 hn];simp only [Option.bind_some];rw [Qpq ho];simp only [Option.bind_some,hx,decide_true,if_true];rw [Qck (by simp only [List.length_cons,List.length_nil];unfold lim;omega),Qbd (by omega)]
     rfl
    ·rw [if_neg hx];refine ⟨⟨by simp;omega,by simp;omega⟩,?_⟩;dsimp only;rw [if_pos (by omega),Qb3 hn];simp only [Option.bind_some];rw [Qpq ho];simp only [Option.bind_some,hx,decide_false,Bool.false_eq_true,if_false];rw [Qck (by simp only [List.length_cons,List.length_nil];unfold lim;omega),Qbd (by omega)]
     rfl
   ·intro k s _;dsimp only;rw [if_neg (by omega)]
   ·rw [Qzj];rfl
  ·dsimp only;unfold lenO;rw [if_pos (by rw [Quz])]
   rfl
structure Seen (n:Nat) (l:List Int) (c:List Bool):Prop where
 len:c.length=n
 at1:∀ s:Nat,s<n→c[s]? = some (decide ((s:Int)∈l))
theorem Seen.start (n:Nat):Seen n [] (List.replicate n false):=⟨by simp,fun s hs=>by simp [hs]⟩
theorem Qbfo {n:Nat} {l:List Int} {c:List Bool} (h:Seen n l c) {x:Int} (hx:0≤x∧x<n) (hl:l.length<big):∃ c',Qbh x c l=some (c',ins l x)∧Seen n (ins l x) c':=by
 have hg:getO c x=some (decide (x∈l)):=by
  rw [Qjq];refine ⟨hx.1,?_⟩;rw [h.at1 _ (by omega)];congr 2;rw [show ((x.toNat:Nat):Int)=x from by omega]
 unfold Qbh Qbn;have hin:inO c.length x=some ():=by unfold inO;rw [if_pos ⟨hx.1,by rw [h.len];omega⟩]
 rw [hin,hg];simp only [Option.bind_some];by_cases hm:x∈l
 ·rw [if_pos (by simp [hm])];exact ⟨c,by simp [ins,hm],by simpa [ins,hm] using h⟩
 ·rw [if_neg (by simp [hm])];unfold setO;rw [if_pos ⟨hx.1,by rw [h.len];omega⟩];simp only [Option.bind_some];rw [Qck (by simp only [List.length_cons,List.length_nil];unfold big at hl;unfold lim;omega)];refine ⟨c.set x.toNat true,by simp [ins,hm],?_⟩;simp only [ins,hm,if_false];refine ⟨by simp [h.len],fun s hs=>?_⟩;rw [List.getElem?_set];split
  ·rename_i e;subst e;rw [if_pos (by rw [h.len];exact hs)];simp;omega
  ·rename_i e;rw [h.at1 s hs];have:¬ (s:Int)=x:=by omega
   simp [this]
theorem Q9p {a:Qa} (h:Right a) {onto fr ev:List Int} (hf:∀ s∈fr,0≤s∧s<a.zH) (hfl:fr.length<big) (hev:ev.length<big) :
  Qdu (obsP a onto) fr ev=some (Qs5 a fr ev):=by
 have hst:=h.st;have hsm:=h.small;have hr:=Q2k h ev;have hlen:((obsP a onto).out_.length:Int)=a.zH:=by show ((Q0d a).length:Int)=_;rw [Quz];omega
 unfold Qdu Q8;rw [hlen];refine Qgc (x:=List.replicate a.zH.toNat false) (by unfold mkO;rw [if_pos ⟨hst.1,by unfold lim;omega⟩]) ?_;have hF0:Fnd (Qoi a ev) (fr.foldl ins []):=(Quw (a:=Qoi a ev) ⟨by simp,by simp⟩ hf).1;have hlo:∀ {o:List Int},Fnd (Qoi a ev) o→o.length≤a.zH.toNat:=fun h=>h.len;obtain ⟨c1,hc1,h1⟩ : ∃ c1,Seen a.zH.toNat (fr.foldl ins []) c1∧Qct (fun (k9:Int×List Int×List Bool→Option (List Int×List Bool)) ((x6,l7,c8):Int×(List Int)×(List Bool))=>(if (x6<(fr.length:Int)) then ((getO fr x6).bind fun x11=>((lenO c8 (Int.toNat a.zH)).bind fun _=>((Qbh x11 c8 l7).bind fun (c14,c15)=>k9 ((IntKind.wrap .i64 (x6+1)),c15,c14)))) else some (l7,c8))) Qbp (0,[],List.replicate a.zH.toNat false)=some (fr.foldl ins [],c1):=by
  have:=Qdr (F:=fun (k9:Int×List Int×List Bool→Option (List Int×List Bool)) ((x6,l7,c8):Int×(List Int)×(List Bool))=>(if (x6<(fr.length:Int)) then ((getO fr x6).bind fun x11=>((lenO c8 (Int.toNat a.zH)).bind fun _=>((Qbh x11 c8 l7).bind fun (c14,c15)=>k9 ((IntKind.wrap .i64 (x6+1)),c15,c14)))) else some (l7,c8)))
   (fun x=>∃ n:Nat,x.1=(n:Int)∧n≤fr.length∧Fnd (Qoi a ev) x.2.1∧Seen a.zH.toNat x.2.1 x.2.2∧(fr.drop n).foldl ins x.2.1=fr.foldl ins []) (fun x=>fr.length-x.1.toNat)
   (fun x r=>∃ c1,Seen a.zH.toNat (fr.foldl ins []) c1∧r=some (fr.foldl ins [],c1)) (by
    rintro k ⟨_,l,c⟩ ⟨n,rfl,hn,hF,hS,he⟩ ih;replace hF:Fnd (Qoi a ev) l:=hF;replace hS:Seen a.zH.toNat l c:=hS;have hll:=hlo hF;dsimp only at he ⊢;by_cases hlt:n<fr.length
    ·rw [if_pos (by omega),Qb3 hlt];simp only [Option.bind_some];have hx:=hf _ (List.getElem_mem hlt);obtain ⟨c',hadd,hS'⟩:=Qbfo hS (x:=fr[n]) ⟨hx.1,by omega⟩ (by unfold big;omega);unfold lenO;rw [if_pos hS.len];simp only [Option.bind_some];rw [hadd];simp only [Option.bind_some];rw [Qbd (by unfold big at hfl;omega)];rw [List.drop_eq_getElem_cons hlt,List.foldl_cons] at he;exact ih _ ⟨n+1,rfl,by omega,hF.ins hx,hS',he⟩ (by simp only;omega)
    ·rw [if_neg (by omega)];have:fr.drop n=[]:=List.drop_eq_nil_of_le (by omega);rw [this] at he;exact ⟨c,by rw [← he];exact hS,by rw [← he];rfl⟩) Qbp (0,[],List.replicate a.zH.toNat false) ⟨0,rfl,by omega,⟨by simp,by simp⟩,Seen.start _,rfl⟩ (by simp only [Int.toNat_zero];unfold Qbp;unfold big at hfl;omega)
  exact this
 refine Qgc h1 ?_;dsimp only;obtain ⟨c2,h2⟩ : ∃ c2,Qct (fun (k22:Int×List Int×List Bool→Option (List Int×List Bool)) ((i19,l20,c21):Int×(List Int)×(List Bool))=>(if (i19<(l20.length:Int)) then ((((getO l20 i19).bind fun x24=>((getO (obsP a onto).out_ x24).bind fun x26=>Qct (fun (k31:Int×List Int×List Bool→Option (List Int×List Bool)) ((x28,l29,c30):Int×(List Int)×(List Bool))=>(if (x28<(x26.length:Int)) then ((((getO x26 x28).bind fun x33=>((Qbr ev x33.Event).bind fun x36=>(if x36 then ((lenO c30 (Int.toNat a.zH)).bind fun _=>((Qbh x33.To c30 l29).bind fun (c39,c40)=>some (c40,c39,x33.From,x33.Event,x33.To))) else some (l29,c30,x33.From,x33.Event,x33.To))))).bind fun ((l42,c43,c44,c45,c46):(List Int)×(List Bool)×Int×Int×Int)=>k31 ((IntKind.wrap .i64 (x28+1)),l42,c43)) else some (l29,c30))) Qbp (0,l20,c21)))).bind fun ((l47,c48):(List Int)×(List Bool))=>k22 ((IntKind.wrap .i64 (i19+1)),l47,c48)) else some (l20,c21))) Qbp (0,fr.foldl ins [],c1)=some (bfs (Qoi a ev) (a.zH.toNat+1) 0 (fr.foldl ins []),c2):=by
  have:=Qdr (F:=fun (k22:Int×List Int×List Bool→Option (List Int×List Bool)) ((i19,l20,c21):Int×(List Int)×(List Bool))=>(if (i19<(l20.length:Int)) then ((((getO l20 i19).bind fun x24=>((getO (obsP a onto).out_ x24).bind fun x26=>Qct (fun (k31:Int×List Int×List Bool→Option (List Int×List Bool)) ((x28,l29,c30):Int×(List Int)×(List Bool))=>(if (x28<(x26.length:Int)) then ((((getO x26 x28).bind fun x33=>((Qbr ev x33.Event).bind fun x36=>(if x36 then ((lenO c30 (Int.toNat a.zH)).bind fun _=>((Qbh x33.To c30 l29).bind fun (c39,c40)=>some (c40,c39,x33.From,x33.Event,x33.To))) else some (l29,c30,x33.From,x33.Event,x33.To))))).bind fun ((l42,c43,c44,c45,c46):(List Int)×(List Bool)×Int×Int×Int)=>k31 ((IntKind.wrap .i64 (x28+1)),l42,c43)) else some (l29,c30))) Qbp (0,l20,c21)))).bind fun ((l47,c48):(List Int)×(List Bool))=>k22 ((IntKind.wrap .i64 (i19+1)),l47,c48)) else some (l20,c21)))
   (fun x=>∃ i:Nat,x.1=(i:Int)∧i≤x.2.1.length∧Fnd (Qoi a ev) x.2.1∧Seen a.zH.toNat x.2.1 x.2.2) (fun x=>a.zH.toNat+1-x.1.toNat)
   (fun x r=>∃ c2,r=some (bfs (Qoi a ev) (a.zH.toNat+1-x.1.toNat) x.1.toNat x.2.1,c2)) (by
    rintro k ⟨_,l,c⟩ ⟨i,rfl,hi,hF,hS⟩ ih;replace hi:i≤l.length:=hi;replace hF:Fnd (Qoi a ev) l:=hF;replace hS:Seen a.zH.toNat l c:=hS;have hll:=hlo hF;dsimp only;by_cases hlt:i<l.length
    ·rw [if_pos (by omega),Qb3 hlt];have hx:=hF.rg _ (List.getElem_mem hlt);have hx:0≤l[i]∧l[i]<a.zH:=hx;simp only [Option.bind_some];rw [show getO (obsP a onto).out_ l[i]=_ from Q48 hx];simp only [Option.bind_some];have hlo2:(outP a l[i]).length≤a.zG.length:=List.length_filter_le _ _;obtain ⟨c',hF',hS',hin⟩ : ∃ c',Fnd (Qoi a ev) ((Qry (Qoi a ev) l[i]).foldl ins l)∧Seen a.zH.toNat ((Qry (Qoi a ev) l[i]).foldl ins l) c'∧Qct (fun (k31:Int×List Int×List Bool→Option (List Int×List Bool)) ((x28,l29,c30):Int×(List Int)×(List Bool))=>(if (x28<((outP a l[i]).length:Int)) then ((((getO (outP a l[i]) x28).bind fun x33=>((Qbr ev x33.Event).bind fun x36=>(if x36 then ((lenO c30 (Int.toNat a.zH)).bind fun _=>((Qbh x33.To c30 l29).bind fun (c39,c40)=>some (c40,c39,x33.From,x33.Event,x33.To))) else some (l29,c30,x33.From,x33.Event,x33.To))))).bind fun ((l42,c43,c44,c45,c46):(List Int)×(List Bool)×Int×Int×Int)=>k31 ((IntKind.wrap .i64 (x28+1)),l42,c43)) else some (l29,c30))) Qbp (0,l,c)=some ((Qry (Qoi a ev) l[i]).foldl ins l,c'):=by
      rw [Qbal];have:=Qdr (F:=fun (k31:Int×List Int×List Bool→Option (List Int×List Bool)) ((x28,l29,c30):Int×(List Int)×(List Bool))=>(if (x28<((outP a l[i]).length:Int)) then ((((getO (outP a l[i]) x28).bind fun x33=>((Qbr ev x33.Event).bind fun x36=>(if x36 then ((lenO c30 (Int.toNat a.zH)).bind fun _=>((Qbh x33.To c30 l29).bind fun (c39,c40)=>some (c40,c39,x33.From,x33.Event,x33.To))) else some (l29,c30,x33.From,x33.Event,x33.To))))).bind fun ((l42,c43,c44,c45,c46):(List Int)×(List Bool)×Int×Int×Int)=>k31 ((IntKind.wrap .i64 (x28+1)),l42,c43)) else some (l29,c30)))
       (fun x=>∃ n:Nat,x.1=(n:Int)∧n≤(outP a l[i]).length∧Fnd (Qoi a ev) x.2.1∧Seen a.zH.toNat x.2.1 x.2.2∧((((outP a l[i]).drop n).filter fun x=>decide (x.Event∈ev)).map (·.To)).foldl ins x.2.1=(((outP a l[i]).filter fun x=>decide (x.Event∈ev)).map (·.To)).foldl ins l) (fun x=>(outP a l[i]).length-x.1.toNat)
       (fun x r=>∃ c1,Fnd (Qoi a ev) ((((outP a l[i]).filter fun x=>decide (x.Event∈ev)).map (·.To)).foldl ins l)∧Seen a.zH.toNat ((((outP a l[i]).filter fun x=>decide (x.Event∈ev)).map (·.To)).foldl ins l) c1∧r=some ((((outP a l[i]).filter fun x=>decide (x.Event∈ev)).map (·.To)).foldl ins l,c1)) (by
        rintro k ⟨_,l2,c2⟩ ⟨n,rfl,hn,hF,hS,he⟩ ih;replace hF:Fnd (Qoi a ev) l2:=hF;replace hS:Seen a.zH.toNat l2 c2:=hS;have hll:=hlo hF;dsimp only at he ⊢;by_cases hlt2:n<(outP a l[i]).length
        ·rw [if_pos (by omega),Qb3 hlt2];simp only [Option.bind_some];rw [Qpq hev];rw [List.drop_eq_getElem_cons hlt2,List.filter_cons] at he;have hed:(outP a l[i])[n]∈a.zG:=(List.mem_filter.1 (List.getElem_mem hlt2)).1;have hto:=(h.ed0 _ hed).2.2;by_cases hx:(outP a l[i])[n].Event∈ev
         ·simp only [Option.bind_some,hx,decide_true,if_true] at he ⊢;obtain ⟨c',hadd,hS'⟩:=Qbfo hS (x:=(outP a l[i])[n].To) ⟨hto.1,by omega⟩ (by unfold big;omega);unfold lenO;rw [if_pos hS.len];simp only [Option.bind_some];rw [hadd];simp only [Option.bind_some];rw [Qbd (by omega)];exact ih _ ⟨n+1,rfl,by omega,hF.ins ⟨hto.1,hto.2.1⟩,hS',he⟩ (by simp only;omega)
         ·simp only [Option.bind_some,hx,decide_false,Bool.false_eq_true,if_false] at he ⊢;rw [Qbd (by omega)];exact ih _ ⟨n+1,rfl,by omega,hF,hS,he⟩ (by simp only;omega)
        ·rw [if_neg (by omega)];have:(outP a l[i]).drop n=[]:=List.drop_eq_nil_of_le (by omega);rw [this] at he;simp only [List.filter_nil,List.map_nil,List.foldl_nil] at he;exact ⟨c2,by rw [← he];exact hF,by rw [← he];exact hS,by rw [← he]⟩) Qbp (0,l,c) ⟨0,rfl,Nat.zero_le _,hF,hS,rfl⟩ (by simp only [Int.toNat_zero];unfold Qbp;omega)
      exact this
     rw [hin];simp only [Option.bind_some];rw [Qbd (by omega)];have hpre:=(Quw hF (Qxf hr l[i])).2.1;obtain ⟨c3,hc3⟩:=ih ((i+1:Nat),_,c') ⟨i+1,rfl,by have:=hpre.length_le;simp only;omega,hF',hS'⟩ (by simp only;omega);refine ⟨c3,hc3.trans ?_⟩;simp only [Int.toNat_natCast];rw [show a.zH.toNat+1-i=(a.zH.toNat+1-(i+1))+1 from by omega,Q9m hlt]
    ·rw [if_neg (by omega)];obtain rfl:i=l.length:=by omega
     exact ⟨c,by simp only [Int.toNat_natCast,Qbc4]⟩) Qbp (0,fr.foldl ins [],c1) ⟨0,rfl,Nat.zero_le _,hF0,hc1⟩ (by simp only [Int.toNat_zero];unfold Qbp;omega)
  simpa using this
 refine Qgc h2 ?_;dsimp only;obtain ⟨q1,q2⟩:=Q65 h (ev:=ev) hf (o:=fr.foldl ins []) (fun s=>by rw [Qyj];simp) hF0.nd;have hql:=hlo q1;unfold Qbgs;rw [if_pos (by unfold lim;omega),q2]
 rfl
end Go.Abs
end
section
namespace Go.Abs
open Go
structure Evs (l:List Int):Prop where
 rg:∀ x∈l,0≤x∧x<5
 so:l.Pairwise (· < ·)
theorem Evs.len {l:List Int} (h:Evs l):l.length≤5:=by have:=Qgl h.so h.rg;simpa using this
def Qber:List Int→Bool
 | []=>true
 | x::xs=>xs.all (fun y=>decide (x<y))&&Qber xs
theorem Q66:∀ {l:List Int},Qber l=true→l.Pairwise (· < ·)
 | [],_=>.nil
 | x::xs,h=>by
  simp only [Qber,Bool.and_eq_true,List.all_eq_true,decide_eq_true_eq] at h;exact List.pairwise_cons.2 ⟨h.1,Q66 h.2⟩
def evB (s:Nat):Bool:=match Qe6 (s:Int) with
 | some l=>Qber l&&l.all fun x=>decide (0≤x)&&decide (x<5)
 | none=>false
theorem Qbg4:(List.range 256).all evB=true:=by kernel_rfl
theorem Qbc9 {s:Int} (h0:0≤s) (h1:s<256):∃ l,Qe6 s=some l∧Evs l:=by
 have:=List.all_eq_true.1 Qbg4 s.toNat (List.mem_range.2 (by omega));unfold evB at this;rw [show ((s.toNat:Nat):Int)=s from by omega] at this;split at this
 ·rename_i l hl;simp only [Bool.and_eq_true,List.all_eq_true,decide_eq_true_eq] at this;exact ⟨l,hl,fun x hx=>this.2 x hx,Q66 this.1⟩
 ·cases this
structure Mks (n:Nat) (ms:List Int):Prop where
 rg:∀ x∈ms,0≤x∧x<n
 so:ms.Pairwise (· < ·)
structure Eds (al:List Int) (N:Int) (i k:Nat) (es:List Qf):Prop where
 rg:∀ x∈es,0≤x.From∧0≤x.To∧x.To<N∧x.Event∈al∧(x.From<i∨x.From=i∧∃ j:Nat,j<k∧al[j]? = some x.Event)
 so:es.Pairwise Qm9
 ln:es.length≤5*i+k
theorem Mks.up {n:Nat} {ms:List Int} (h:Mks n ms):Mks (n+1) ms:=⟨fun x hx=>by have:=h.rg x hx;omega,h.so⟩
theorem Mks.add {n:Nat} {ms:List Int} (h:Mks n ms):Mks (n+1) (ms++[(n:Int)]):=by
 refine ⟨fun x hx=>?_,?_⟩
 ·rcases List.mem_append.1 hx with hx|hx
  ·have:=h.rg x hx;omega
  ·simp at hx;omega
 ·rw [List.pairwise_append];exact ⟨h.so,by simp,fun x hx y hy=>by simp at hy;have:=h.rg x hx;omega⟩
theorem Mks.len {n:Nat} {ms:List Int} (h:Mks n ms):ms.length≤n:=by have:=Qgl h.so h.rg;simpa using this
section
variable {al:List Int} (hal:Evs al) {N:Int} {i k:Nat} {es:List Qf}
theorem Eds.up (h:Eds al N i k es):Eds al N i (k+1) es:=⟨fun x hx=>by
 obtain ⟨h1,h2,h3,h4,h5⟩:=h.rg x hx;refine ⟨h1,h2,h3,h4,?_⟩;rcases h5 with h5|⟨h5,j,h6,h7⟩
 ·exact .inl h5
 ·exact .inr ⟨h5,j,by omega,h7⟩,h.so,by have:=h.ln;omega⟩
theorem Eds.next (h:Eds al N i k es) (hk:k≤5):Eds al N (i+1) 0 es:=⟨fun x hx=>by
 obtain ⟨h1,h2,h3,h4,h5⟩:=h.rg x hx;exact ⟨h1,h2,h3,h4,.inl (by rcases h5 with h5|⟨h5,_⟩<;>omega)⟩,h.so,by have:=h.ln;omega⟩
include hal in
theorem Eds.add (h:Eds al N i k es) (hk:k<al.length) {t:Int} (ht:0≤t∧t<N):Eds al N i (k+1) (es++[⟨(i:Int),al[k],t⟩]):=by
 refine ⟨fun x hx=>?_,?_,by have:=h.ln;simp only [List.length_append,List.length_cons,List.length_nil];omega⟩
 ·rcases List.mem_append.1 hx with hx|hx
  ·exact h.up.rg x hx
  ·simp at hx;subst hx;exact ⟨by simp only;omega,ht.1,ht.2,List.getElem_mem hk,.inr ⟨rfl,k,by omega,List.getElem?_eq_getElem hk⟩⟩
 ·rw [List.pairwise_append];refine ⟨h.so,by simp,fun x hx y hy=>?_⟩;simp at hy;subst hy;obtain ⟨_,_,_,_,h5⟩:=h.rg x hx;rcases h5 with h5|⟨h5,j,h6,h7⟩
  ·exact .inl h5
  ·refine .inr ⟨h5,?_⟩;obtain ⟨h8,h9⟩:=List.getElem?_eq_some_iff.1 h7;rw [← h9];exact List.pairwise_iff_getElem.1 hal.so j k h8 hk h6
end
structure Qbfp (g:Qcw):Prop where
 st:0≤g.zH∧g.zH<256
 tos:∀ x∈[g.To.1.1,g.To.1.2.1,g.To.1.2.2.1,g.To.1.2.2.2.1,g.To.1.2.2.2.2,g.To.2.1.1,g.To.2.1.2.1,g.To.2.1.2.2.1,g.To.2.1.2.2.2.1,g.To.2.1.2.2.2.2,g.To.2.2.1.1,g.To.2.2.1.2.1,g.To.2.2.1.2.2.1,g.To.2.2.1.2.2.2.1,g.To.2.2.1.2.2.2.2,g.To.2.2.2.1.1,g.To.2.2.2.1.2.1,g.To.2.2.2.1.2.2.1,g.To.2.2.2.1.2.2.2.1,g.To.2.2.2.1.2.2.2.2,g.To.2.2.2.2.1,g.To.2.2.2.2.2.1,g.To.2.2.2.2.2.2.1,g.To.2.2.2.2.2.2.2.1,g.To.2.2.2.2.2.2.2.2],0≤x∧x<256
theorem Q9q {al:List Int} (hal:Evs al) (fuel:Nat) (hfu:1099511627776≤fuel) {L:List Int} (hL:L.length=25) (hL2:∀ x∈L,0≤x∧x<256) {N:Int} (hN:1≤N∧N≤5) {i:Nat} (hi:(i:Int)<N) {ms:List Int} {es:List Qf} (hes:Eds al N i 0 es) :
  ∃ es',Eds al N (i+1) 0 es'∧Qct (fun (k25:Int×List Qf→Option (List Int×List Qf)) ((k23,a24):Int×(List Qf))=>(((if (k23<(al.length:Int)) then some (decide (k23<5)) else some false)).bind fun (x27:Bool)=>(if x27 then ((((inO 5 (i:Int)).bind fun _=>((inO 5 k23).bind fun _=>((rowO L (Int.toNat (i:Int)*5+Int.toNat k23*1)).bind fun x31=>((remO .i64 (IntKind.wrap .i64 x31) (IntKind.wrap .i64 (N+2))).bind fun s33=>(if (s33<N) then ((getO al k23).bind fun x36=>((appO a24 [(Qf.mk (i:Int) x36 s33)]).bind fun x38=>some x38)) else some a24)))))).bind fun (a40:List Qf)=>k25 ((IntKind.wrap .i64 (k23+1)),a40)) else some (ms,a24)))) fuel (0,es)=some (ms,es'):=by
 have hl:=hal.len;have:=Qdr (F:=fun (k25:Int×List Qf→Option (List Int×List Qf)) ((k23,a24):Int×(List Qf))=>(((if (k23<(al.length:Int)) then some (decide (k23<5)) else some false)).bind fun (x27:Bool)=>(if x27 then ((((inO 5 (i:Int)).bind fun _=>((inO 5 k23).bind fun _=>((rowO L (Int.toNat (i:Int)*5+Int.toNat k23*1)).bind fun x31=>((remO .i64 (IntKind.wrap .i64 x31) (IntKind.wrap .i64 (N+2))).bind fun s33=>(if (s33<N) then ((getO al k23).bind fun x36=>((appO a24 [(Qf.mk (i:Int) x36 s33)]).bind fun x38=>some x38)) else some a24)))))).bind fun (a40:List Qf)=>k25 ((IntKind.wrap .i64 (k23+1)),a40)) else some (ms,a24))))
  (fun x=>∃ k:Nat,x.1=(k:Int)∧k≤al.length∧Eds al N i k x.2) (fun x=>al.length-x.1.toNat) (fun _ r=>∃ es',r=some (ms,es')∧Eds al N (i+1) 0 es') (by
   rintro kk ⟨k,es⟩ ⟨k,rfl,hk,he⟩ ih;replace he:Eds al N i k es:=he;replace hk:k≤al.length:=hk;dsimp only;by_cases hlt:k<al.length
   ·rw [if_pos (by omega)];simp only [Option.bind_some,show decide ((k:Int)<5)=true from by simp;omega,if_true];rw [show inO 5 (i:Int)=some () from by unfold inO;rw [if_pos (by omega)],show inO 5 (k:Int)=some () from by unfold inO;rw [if_pos (by omega)]];simp only [Option.bind_some,Int.toNat_natCast];have hidx:i*5+k*1<L.length:=by omega
    have hx:=hL2 _ (List.getElem_mem hidx);rw [show rowO L (i*5+k*1)=some L[i*5+k*1] from by unfold rowO;exact List.getElem?_eq_getElem hidx];simp only [Option.bind_some];rw [Qnk (x:=L[i*5+k*1]) (by omega) (by omega),Qnk (x:=N+2) (by omega) (by omega),show remO .i64 L[i*5+k*1] (N+2)=some (L[i*5+k*1].tmod (N+2)) from by unfold remO;rw [if_neg (by omega)]];simp only [Option.bind_some];have hmod:0≤L[i*5+k*1].tmod (N+2):=Int.tmod_nonneg _ hx.1;have hln:=he.ln;by_cases hm:L[i*5+k*1].tmod (N+2)<N
    ·rw [if_pos hm,Qb3 hlt];simp only [Option.bind_some];rw [Qck (by simp only [List.length_cons,List.length_nil];unfold lim;omega)];simp only [Option.bind_some];rw [Qbd (by omega)];exact ih _ ⟨k+1,rfl,hlt,he.add hal hlt ⟨hmod,hm⟩⟩ (by simp only;omega)
    ·rw [if_neg hm];simp only [Option.bind_some];rw [Qbd (by omega)];exact ih _ ⟨k+1,rfl,hlt,he.up⟩ (by simp only;omega)
   ·rw [if_neg (by omega)];exact ⟨es,rfl,he.next (by omega)⟩) fuel (0,es) ⟨0,rfl,Nat.zero_le _,hes⟩ (by simp only;omega)
 obtain ⟨es',h1,h2⟩:=this;exact ⟨es',h2,h1⟩
theorem Q78 {al:List Int} (hal:Evs al):Right ⟨al,0,[],[]⟩ :=
 ⟨fun x hx=>by have:=hal.rg x hx;omega,hal.so,⟨by simp,by simp⟩,by simp,.nil,by simp,.nil⟩
theorem Qbg5 {al:List Int} (hal:Evs al) {g:Qcw} (hg:Qbfp g):∃ m,Right m∧m.zD=al∧Qhq al g=some (Qux m)∧m.zH≤5:=by
 have hl:=hal.len;obtain ⟨hst,hto⟩:=hg;unfold Qhq Qdg;obtain ⟨fuel,hfu,hge⟩ : ∃ f,Qbp=f∧1099511627776≤f:=⟨_,rfl,Nat.le_refl _⟩;rw [hfu,Q9l (by unfold lim;omega)];simp only [Option.bind_some];by_cases h250:g.zH≥250
 ·rw [if_pos h250];exact ⟨⟨al,0,[],[]⟩,Q78 hal,rfl,rfl,by simp⟩
 rw [if_neg h250];have hL:[g.To.1.1,g.To.1.2.1,g.To.1.2.2.1,g.To.1.2.2.2.1,g.To.1.2.2.2.2,g.To.2.1.1,g.To.2.1.2.1,g.To.2.1.2.2.1,g.To.2.1.2.2.2.1,g.To.2.1.2.2.2.2,g.To.2.2.1.1,g.To.2.2.1.2.1,g.To.2.2.1.2.2.1,g.To.2.2.1.2.2.2.1,g.To.2.2.1.2.2.2.2,g.To.2.2.2.1.1,g.To.2.2.2.1.2.1,g.To.2.2.2.1.2.2.1,g.To.2.2.2.1.2.2.2.1,g.To.2.2.2.1.2.2.2.2,g.To.2.2.2.2.1,g.To.2.2.2.2.2.1,g.To.2.2.2.2.2.2.1,g.To.2.2.2.2.2.2.2.1,g.To.2.2.2.2.2.2.2.2].length=25:=rfl;generalize [g.To.1.1,g.To.1.2.1,g.To.1.2.2.1,g.To.1.2.2.2.1,g.To.1.2.2.2.2,g.To.2.1.1,g.To.2.1.2.1,g.To.2.1.2.2.1,g.To.2.1.2.2.2.1,g.To.2.1.2.2.2.2,g.To.2.2.1.1,g.To.2.2.1.2.1,g.To.2.2.1.2.2.1,g.To.2.2.1.2.2.2.1,g.To.2.2.1.2.2.2.2,g.To.2.2.2.1.1,g.To.2.2.2.1.2.1,g.To.2.2.2.1.2.2.1,g.To.2.2.2.1.2.2.2.1,g.To.2.2.2.1.2.2.2.2,g.To.2.2.2.2.1,g.To.2.2.2.2.2.1,g.To.2.2.2.2.2.2.1,g.To.2.2.2.2.2.2.2.1,g.To.2.2.2.2.2.2.2.2]=L at hto hL ⊢;have hmod:0≤g.zH.tmod 5∧g.zH.tmod 5<5:=⟨Int.tmod_nonneg _ hst.1,Int.tmod_lt_of_pos _ (by omega)⟩;have hN:1≤IntKind.wrap .i64 (1+(IntKind.wrap .i64 (Int.tmod g.zH 5)))∧IntKind.wrap .i64 (1+(IntKind.wrap .i64 (Int.tmod g.zH 5)))≤5:=by
  rw [Qnk (x:=g.zH.tmod 5) (by omega) (by omega),Qnk (by omega) (by omega)];omega
 generalize IntKind.wrap .i64 (1+(IntKind.wrap .i64 (Int.tmod g.zH 5)))=N at hN ⊢;have hloop:=Qdr (F:=(fun (k15:Int×List Int×List Int×List Qf×Int×List Int×List Qf→Option (List Int×List Int×List Qf×Int×List Int×List Qf)) ((i8,c9,c10,c11,a12,a13,a14):Int×(List Int)×(List Int)×(List Qf)×Int×(List Int)×(List Qf))=>(if (i8<a12) then ((((((shrO .u8 g.Marks i8).bind fun s17=>(if ((andI .u8 s17 1)==1) then ((appO a13 [i8]).bind fun x20=>some x20) else some a13))).bind fun (a22:List Int)=>Qct (fun k25 ((k23,a24):Int×(List Qf))=>(((if (k23<(al.length:Int)) then some (decide (k23<5)) else some false)).bind fun (x27:Bool)=>(if x27 then ((((inO 5 i8).bind fun _=>((inO 5 k23).bind fun _=>((rowO L (Int.toNat i8*5+Int.toNat k23*1)).bind fun x31=>((remO .i64 (IntKind.wrap .i64 x31) (IntKind.wrap .i64 (a12+2))).bind fun s33=>(if (s33<a12) then ((getO al k23).bind fun x36=>((appO a24 [(Qf.mk i8 x36 s33)]).bind fun x38=>some x38)) else some a24)))))).bind fun (a40:List Qf)=>k25 ((IntKind.wrap .i64 (k23+1)),a40)) else some (a22,a24)))) fuel (0,a14))).bind fun ((a41,a42):(List Int)×(List Qf))=>k15 ((IntKind.wrap .i64 (i8+1)),c9,c10,c11,a12,a41,a42)) else some (c9,c10,c11,a12,a13,a14))))
  (fun x=>∃ (i:Nat) (ms:List Int) (es:List Qf),x=((i:Int),[],[],[],N,ms,es)∧(i:Int)≤N∧Mks i ms∧Eds al N i 0 es) (fun x=>(N-x.1).toNat)
  (fun _ r=>∃ (i:Nat) (ms:List Int) (es:List Qf),r=some ([],[],[],N,ms,es)∧(i:Int)=N∧Mks i ms∧Eds al N i 0 es) (by
   rintro k _ ⟨i,ms,es,rfl,hi,hm,he⟩ ih;dsimp only;by_cases hlt:(i:Int)<N
   ·rw [if_pos hlt,show shrO .u8 g.Marks (i:Int)=some (g.Marks.fdiv (2 ^ (min (Int.toNat (i:Int)) (IntKind.bits .u8)))) from by unfold shrO;rw [if_neg (by omega)]];simp only [Option.bind_some];have hml:=hm.len;by_cases hb:(andI .u8 (g.Marks.fdiv (2 ^ (min (Int.toNat (i:Int)) (IntKind.bits .u8)))) 1==1)=true
    ·rw [if_pos hb,Qck (by simp only [List.length_cons,List.length_nil];unfold lim;omega)];simp only [Option.bind_some];obtain ⟨es',h1,h2⟩:=Q9q hal fuel hge hL hto hN hlt (ms:=ms++[(i:Int)]) he;rw [h2];simp only [Option.bind_some];rw [Qbd (by omega)];exact ih _ ⟨i+1,_,_,rfl,by omega,hm.add,h1⟩ (by simp only;omega)
    ·rw [if_neg hb];simp only [Option.bind_some];obtain ⟨es',h1,h2⟩:=Q9q hal fuel hge hL hto hN hlt (ms:=ms) he;rw [h2];simp only [Option.bind_some];rw [Qbd (by omega)];exact ih _ ⟨i+1,_,_,rfl,by omega,hm.up,h1⟩ (by simp only;omega)
   ·rw [if_neg hlt];exact ⟨i,ms,es,rfl,by omega,hm,he⟩) fuel (0,[],[],[],N,[],[]) ⟨0,[],[],rfl,by omega,⟨by simp,.nil⟩,⟨by simp,.nil,by simp⟩⟩ (by simp only;omega)
 obtain ⟨i,ms,es,h1,h2,h3,h4⟩:=hloop;rw [h1];simp only [Option.bind_some];have hr:Right ⟨al,N,ms,es⟩:=⟨fun x hx=>by have:=hal.rg x hx;omega,hal.so,⟨by simp only;omega,by simp only;omega⟩,fun x hx=>by have:=h3.rg x hx;simp only;omega,h3.so,fun x hx=>by
  obtain ⟨k1,k2,k3,k4,k5⟩:=h4.rg x hx;refine ⟨k1,?_,k2,k3,k4⟩;rcases k5 with k5|⟨_,j,k6,_⟩
  ·simp only;omega
  ·omega,h4.so⟩
 rw [Q2h hr];exact ⟨_,hr,rfl,rfl,by simp only;omega⟩
end Go.Abs
end
section
namespace Go.Abs
open Go
def Qqd (a:Qa) (est:List Int) (e:Int):List Int:=est.flatMap fun s=>((outP a s).filter fun x=>x.Event==e).map (·.To)
noncomputable def Qv6 (a:Qa) (onto est:List Int) (e:Int):List Int:=Qs5 a (Qqd a est e) (Ql8 a onto)
noncomputable def Qwi (a:Qa) (onto:List Int):List Int:=if a.zH=0 then [] else Qs5 a [0] (Ql8 a onto)
noncomputable def estP (a:Qa) (onto obs:List Int):List Int:=obs.foldl (Qv6 a onto) (Qwi a onto)
structure Sts (a:Qa) (l:List Int):Prop where
 rg:∀ s∈l,0≤s∧s<a.zH
 so:l.Pairwise (· < ·)
theorem Sts.len {a:Qa} {l:List Int} (h:Sts a l):l.length≤a.zH.toNat:=by
 have:=Qgl (a:=0) (b:=a.zH) h.so h.rg;omega
theorem Q35 (a:Qa) (fr ev:List Int):Sts a (Qs5 a fr ev):=⟨fun s hs=>(Qzi.1 hs).1,Q2j _ _ _⟩
theorem Q2m (a:Qa) (onto est:List Int) (e:Int):Sts a (Qv6 a onto est e):=Q35 _ _ _
theorem Qzk (a:Qa) (onto:List Int):Sts a (Qwi a onto):=by
 unfold Qwi;split
 ·exact ⟨by simp,by simp⟩
 ·exact Q35 _ _ _
theorem Qbda {a:Qa} {est:List Int} {e t:Int}:t∈Qqd a est e↔∃ x∈a.zG,x.From∈est∧x.Event=e∧x.To=t:=by
 simp only [Qqd,outP,List.mem_flatMap,List.mem_map,List.mem_filter,beq_iff_eq];constructor
 ·rintro ⟨s,hs,x,⟨⟨h1,h2⟩,h3⟩,h4⟩;exact ⟨x,h1,by rw [h2];exact hs,h3,h4⟩
 ·rintro ⟨x,h1,h2,h3,h4⟩;exact ⟨x.From,h2,x,⟨⟨h1,rfl⟩,h3⟩,h4⟩
theorem Q79 {a:Qa} (h:Right a) {est:List Int} {e:Int}:∀ s∈Qqd a est e,0≤s∧s<a.zH:=by
 intro s hs;obtain ⟨x,hx,_,_,rfl⟩:=Qbda.1 hs;exact ⟨(h.ed0 x hx).2.2.1,(h.ed0 x hx).2.2.2.1⟩
theorem Q9r {α β:Type} {f:α→List β} {m:Nat}:∀ {l:List α},(∀ x∈l,(f x).length≤m)→(l.flatMap f).length≤m*l.length
 | [],_=>by simp
 | x::l,h=>by
  have h1:=h x (by simp);have h2:=Q9r (l:=l) fun y hy=>h y (by simp [hy]);simp only [List.flatMap_cons,List.length_append,List.length_cons,Nat.mul_succ];omega
theorem Qbg6 (a:Qa) (s e:Int):((outP a s).filter fun x=>x.Event==e).length≤a.zG.length:=Nat.le_trans (List.length_filter_le _ _) (List.length_filter_le _ _)
theorem Q67 {a:Qa} (h:Right a) {est:List Int} (hl:est.length≤5000) (e:Int):(Qqd a est e).length≤131072*5000:=by
 have:=Q9r (f:=fun s=>((outP a s).filter fun x=>x.Event==e).map (·.To)) (m:=131072) (l:=est) fun s _=>by
  have:=Qbg6 a s e;have:=h.small.2.2.2;rw [List.length_map];omega
 exact Nat.le_trans this (Nat.mul_le_mul_left _ hl)
theorem Q36 {a:Qa} (h:Right a) (onto:List Int):(Ql8 a onto).length<big:=by
 have:=h.small.2.1;have:(Ql8 a onto).length≤a.zD.length:=List.length_filter_le _ _;unfold big;omega
theorem Qbes {a:Qa} (h:Right a) (onto:List Int):(Qsz a onto).length≤32:=by
 have:=h.small.2.1;have:(Qsz a onto).length≤a.zD.length:=List.length_filter_le _ _;omega
theorem Q37 {a:Qa} (h:Right a) {onto est:List Int} (he:∀ s∈est,0≤s∧s<a.zH) (hl:est.length≤5000) (e:Int) :
  Qdc (obsP a onto) est e=some (Qv6 a onto est e):=by
 have hsm:=h.small;have hmax:=Q67 h hl e;unfold Qdc Qx;refine Qgc (x:=Qqd a est e) ?_ ?_
 ·refine (Qh4 (len:=est.length) (fun n (l:List Int)=>(l,(n:Int))) (fun n l=>l=Qqd a (est.take n) e) (fun n l=>some (Qqd a est e)) ?_ ?_ Qbp 0 [] (Nat.zero_le _) (by unfold Qbp;omega) (by simp [Qqd]))
  ·rintro k n l hn rfl ih;have hx:=he _ (List.getElem_mem hn);dsimp only;rw [if_pos (by omega),Qb3 hn];simp only [Option.bind_some];rw [show getO (obsP a onto).out_ est[n]=_ from Q48 hx];simp only [Option.bind_some];have hol:(outP a est[n]).length≤131072:=Nat.le_trans (List.length_filter_le _ _) hsm.2.2.2;have hml:(Qqd a (est.take n) e).length≤131072*5000:=Q67 h (by rw [List.length_take];omega) e;refine Qgc (x:=Qqd a (est.take n) e++((outP a est[n]).filter fun x=>x.Event==e).map (·.To)) ?_ ?_
   ·refine (Qh4 (len:=(outP a est[n]).length) (fun m (l:List Int)=>(l,(m:Int))) (fun m l=>l=Qqd a (est.take n) e++(((outP a est[n]).take m).filter fun x=>x.Event==e).map (·.To)) (fun m l=>some (Qqd a (est.take n) e++((outP a est[n]).filter fun x=>x.Event==e).map (·.To))) ?_ ?_ Qbp 0 _ (Nat.zero_le _) (by unfold Qbp;omega) (by simp))
    ·rintro k m l hm rfl ih;dsimp only;rw [if_pos (by omega),Qb3 hm];simp only [Option.bind_some];have hfl:((((outP a est[n]).take m).filter fun x=>x.Event==e).map (·.To)).length≤131072:=by
      rw [List.length_map];exact Nat.le_trans (List.length_filter_le _ _) (by rw [List.length_take];omega)
     by_cases hx:(outP a est[n])[m].Event=e
     ·rw [if_pos (by simp [hx]),Qck (by rw [List.length_append];simp only [List.length_cons,List.length_nil];unfold lim;omega)];simp only [Option.bind_some];rw [Qbd (by omega)];refine ih _ ?_;rw [List.take_succ_eq_append_getElem hm,List.filter_append,List.map_append,List.append_assoc];simp [hx]
     ·rw [if_neg (by simp [hx])];simp only [Option.bind_some];rw [Qbd (by omega)];refine ih _ ?_;rw [List.take_succ_eq_append_getElem hm,List.filter_append,List.map_append];simp [hx]
    ·rintro k l rfl;dsimp only;rw [if_neg (by omega),List.take_length]
   ·rw [Qbd (by omega)];refine ih _ ?_;rw [List.take_succ_eq_append_getElem hn];simp only [Qqd,List.flatMap_append,List.flatMap_cons,List.flatMap_nil,List.append_nil]
  ·rintro k l rfl;dsimp only;rw [if_neg (by omega),List.take_length]
 ·rw [show (obsP a onto).erased_=Ql8 a onto from rfl,Q9p h (Q79 h) (by unfold big;omega) (Q36 h onto)]
  rfl
theorem Qbet {a:Qa} (h:Right a) (onto:List Int):Qdv (obsP a onto)=some (Qwi a onto):=by
 have hst:=h.st;unfold Qdv Q9;have hlen:((obsP a onto).out_.length:Int)=a.zH:=by show ((Q0d a).length:Int)=_;rw [Quz];omega
 rw [hlen];unfold Qwi;by_cases h0:a.zH=0
 ·rw [if_pos (by simp [h0]),if_pos h0]
 ·rw [if_neg (by simp [h0]),if_neg h0,show (obsP a onto).erased_=Ql8 a onto from rfl,Q9p h (fun s hs=>by simp at hs;subst hs;omega) (by unfold big;simp) (Q36 h onto)]
  rfl
theorem Q2n {a:Qa} (h:Right a) {onto obs:List Int} (hl:obs.length<big):Qc4 (obsP a onto) obs=some (obs.all fun x=>decide (x∈Qsz a onto)):=by
 have hk:=Qbes h onto;unfold Qc4 Qu;rw [Q2i (p:=fun x=>!decide (x∈Qsz a onto)) (fun x=>by
  unfold Qf4 Qbz;rw [show (obsP a onto).kept_=Qsz a onto from rfl,Qpq (by unfold big;omega)];rfl) hl]
 simp only [Option.bind_some];congr 1;rw [List.not_any_eq_all_not];simp
theorem Qz1 {l:List Int} {n:Int} (hl:l.length<big):Qhb l n=some (Qgr n none l):=Qxd hl
theorem Qbdb {a:Qa} (h:small a) {ev:List Int} (hl:ev.length<big):Qd9 a ev=some (if Qsx a=0 then Qgr 32 none ev else Qsx a):=by
 unfold Qd9 Q4;rw [Q9k h];simp only [Option.bind_some];by_cases h0:Qsx a=0
 ·rw [if_neg (by simp [h0]),if_pos h0,Qz1 hl];rfl
 ·rw [if_pos (by simp [h0]),if_neg h0]
theorem Qz2 {a:Qa} (h:Right a) {ev:List Int} (hl:ev.length<big):Qd9 a ev=some (Qgr 32 none ev):=by
 rw [Qbdb h.small.1 hl,if_pos (Q6x.2 h)]
structure EvSet (l:List Int):Prop where
 rg:∀ x∈l,0≤x∧x<32
 so:l.Pairwise (· < ·)
theorem EvSet.err {l:List Int} (h:EvSet l):Qgr 32 none l=0:=Qjr.2 ⟨h.rg,h.so,fun y hy=>by cases hy⟩
theorem EvSet.len {l:List Int} (h:EvSet l):l.length≤32:=by have:=Qgl (a:=0) (b:=32) h.so h.rg;omega
theorem Evs.set {l:List Int} (h:Evs l):EvSet l:=⟨fun x hx=>by have:=h.rg x hx;omega,h.so⟩
theorem Q68 {l:List Int} {N:Nat} (hn:l.Nodup) (hr:∀ x∈l,0≤x∧x<N):l.length≤N:=by
 obtain ⟨h1,h2⟩:=Q63 hn;have:=Qgl (a:=0) (b:=N) h1 fun x hx=>hr x ((h2 x).1 hx);rw [Qoe] at this;omega
end Go.Abs
end
section
namespace Go.Abs
open Go
theorem Qyk {κ β:Type} [DecidableEq κ] {v:β} {k k' : κ}:∀ {m:List (κ×β)},hasM (setM m k v) k'=(decide (k'=k)||hasM m k')
 | []=>by simp only [setM,hasM,List.any_cons,List.any_nil];rw [Bool.eq_iff_iff];simp
 | (q,w)::m=>by
  have ih:=Qyk (v:=v) (k:=k) (k':=k') (m:=m);simp only [setM];by_cases h:k=q
  ·subst h;simp only [beq_self_eq_true,if_true,Qq5];rw [Bool.eq_iff_iff];simp
  ·have:(k==q)=false:=by simp [h]
   simp only [this,Bool.false_eq_true,if_false,Qq5];rw [ih];cases (k'==q)<;>cases decide (k'=k)<;>rfl
theorem Qyl {κ β:Type} [DecidableEq κ] {z v:β} {k k' : κ}:∀ {m:List (κ×β)},getM (setM m k v) k' z=if k'=k then v else getM m k' z
 | []=>by
  simp only [setM,getM];by_cases h:k'=k
  ·subst h;simp
  ·have:(k'==k)=false:=by simp [h]
   simp [this,h]
 | (q,w)::m=>by
  have ih:=Qyl (z:=z) (v:=v) (k:=k) (k':=k') (m:=m);simp only [setM];by_cases h:k=q
  ·subst h;simp only [beq_self_eq_true,if_true,getM];by_cases h2:k'=k
   ·subst h2;simp
   ·have:(k'==k)=false:=by simp [h2]
    simp [this,h2]
  ·have e:(k==q)=false:=by simp [h]
   simp only [e,Bool.false_eq_true,if_false,getM];by_cases h2:k'=q
   ·subst h2;have:¬ k'=k:=fun e=>h e.symm;simp [this]
   ·have:(k'==q)=false:=by simp [h2]
    simp only [this,Bool.false_eq_true,if_false,ih]
structure Qcv where
 state_:Int
 done_:Int
 word_:List Int
 deriving DecidableEq
def Qqe (z:Qcv):Qp:=⟨z.state_,z.done_⟩
def Qbg7 (onto obs:List Int) (done e:Int):Option Int:=if e∈onto then (if done=obs.length∨getO obs done≠some e then none else some (done+1)) else some done
def addN (onto obs:List Int) (x:Qcv) (L:List Qcv) (y:Qf):List Qcv :=
 match Qbg7 onto obs x.done_ y.Event with
 | none=>L
 | some d=>if (L.any fun z=>decide (Qqe z=⟨y.To,d⟩)) then L else L++[⟨y.To,d,x.word_++[y.Event]⟩]
structure Nodes (a:Qa) (n:Nat) (L:List Qcv):Prop where
 rg:∀ z∈L,(0≤z.state_∧z.state_<a.zH)∧0≤z.done_∧z.done_≤n
 nd:(L.map Qqe).Nodup
 wl:∀ (j:Nat) z,L[j]? = some z→z.word_.length≤j
theorem Nodes.len {a:Qa} {n:Nat} {L:List Qcv} (h:Nodes a n L):L.length≤a.zH.toNat*(n+1):=by
 have h1:((L.map Qqe).map fun p=>p.state_*((n:Int)+1)+p.done_).Nodup:=by
  refine List.Pairwise.map _ (S:=fun a b=>a≠b) (fun p q h=>h) ?_;refine List.Pairwise.imp_of_mem (fun {p q} hp hq hne=>?_) h.nd;obtain ⟨z,hz,rfl⟩:=List.mem_map.1 hp;obtain ⟨y,hy,rfl⟩:=List.mem_map.1 hq;have hz:=h.rg z hz;have hy:=h.rg y hy;intro e;refine hne ?_;simp only [Qqe] at e ⊢;have e1:z.state_=y.state_:=by
   rcases Int.lt_trichotomy z.state_ y.state_ with hlt|heq|hgt
   ·exfalso;have:(z.state_+1)*((n:Int)+1)≤y.state_*((n:Int)+1):=Int.mul_le_mul_of_nonneg_right (by omega) (by omega);rw [Int.add_mul] at this;omega
   ·exact heq
   ·exfalso;have:(y.state_+1)*((n:Int)+1)≤z.state_*((n:Int)+1):=Int.mul_le_mul_of_nonneg_right (by omega) (by omega);rw [Int.add_mul] at this;omega
  rw [e1] at e ⊢;have:z.done_=y.done_:=by omega
  rw [this]
 have:=Q68 (N:=a.zH.toNat*(n+1)) h1 fun x hx=>by
  obtain ⟨p,hp,rfl⟩:=List.mem_map.1 hx;obtain ⟨z,hz,rfl⟩:=List.mem_map.1 hp;have hz:=h.rg z hz;simp only [Qqe];have h0:0≤z.state_*((n:Int)+1):=Int.mul_nonneg hz.1.1 (by omega);have h2:(z.state_+1)*((n:Int)+1)≤a.zH*((n:Int)+1):=Int.mul_le_mul_of_nonneg_right (by omega) (by omega);rw [Int.add_mul] at h2;have e:((a.zH.toNat*(n+1):Nat):Int)=a.zH*((n:Int)+1):=by
   rw [Int.natCast_mul,Int.natCast_add,Int.natCast_one,Int.toNat_of_nonneg (by omega)]
  rw [e];omega
 simpa using this
structure KW (L:List Qcv) (c:List (Qp×List Int)):Prop where
 has:∀ p,hasM c p=L.any fun z=>decide (Qqe z=p)
 get:∀ z∈L,getM c (Qqe z) []=z.word_
theorem KW.add {a:Qa} {n:Nat} {L:List Qcv} {c:List (Qp×List Int)} (h:KW L c) (z:Qcv) (hz:(L.any fun y=>decide (Qqe y=Qqe z))=false):KW (L++[z]) (setM c (Qqe z) z.word_):=by
 refine ⟨fun p=>?_,fun y hy=>?_⟩
 ·rw [Qyk,h.has,List.any_append];simp only [List.any_cons,List.any_nil,Bool.or_false];rw [Bool.or_comm];congr 1;exact decide_eq_decide.2 ⟨fun e=>e.symm,fun e=>e.symm⟩
 ·rw [Qyl];rw [List.mem_append,List.mem_singleton] at hy;rcases hy with hy|rfl
  ·have:¬ Qqe y=Qqe z:=fun e=>by
    have:=List.any_eq_false.1 hz y hy;simp [e] at this
   rw [if_neg this,h.get y hy]
  ·rw [if_pos rfl]
theorem Nodes.add {a:Qa} {n:Nat} {L:List Qcv} (h:Nodes a n L) {onto obs:List Int} (ho:obs.length=n) {x:Qcv} {i:Nat} (hx:L[i]? = some x) {y:Qf} (hy:0≤y.To∧y.To<a.zH):Nodes a n (addN onto obs x L y)∧L <+: addN onto obs x L y:=by
 unfold addN;cases hd:Qbg7 onto obs x.done_ y.Event with
 | none=>exact ⟨h,List.prefix_refl L⟩
 | some d =>
  dsimp only;split
  ·exact ⟨h,List.prefix_refl L⟩
  ·rename_i hn;have hn:(L.any fun z=>decide (Qqe z=⟨y.To,d⟩))=false:=by simpa using hn
   have hxm:=h.rg x (List.mem_of_getElem? hx);have hdr:0≤d∧d≤n:=by
    unfold Qbg7 at hd;split at hd
    ·split at hd
     ·cases hd
     ·rename_i hc;cases hd;have:¬ x.done_=obs.length:=fun e=>hc (.inl e);omega
    ·cases hd;exact hxm.2
   refine ⟨⟨fun z hz=>?_,?_,fun j z hz=>?_⟩,List.prefix_append L _⟩
   ·rcases List.mem_append.1 hz with hz|hz
    ·exact h.rg z hz
    ·simp at hz;subst hz;exact ⟨hy,hdr⟩
   ·rw [List.map_append,List.nodup_append];refine ⟨h.nd,by simp,fun p hp q hq e=>?_⟩;simp at hq;subst hq;subst e;obtain ⟨z,hz,hpz⟩:=List.mem_map.1 hp;have:=List.any_eq_false.1 hn z hz;rw [hpz] at this;simp [Qqe] at this
   ·rw [List.getElem?_append] at hz;split at hz
    ·exact h.wl j z hz
    ·rename_i hlt;have hi:=(List.getElem?_eq_some_iff.1 hx).1;have hwl:=h.wl i x hx;have:j-L.length=0:=by
      have:=(List.getElem?_eq_some_iff.1 hz).1;simp at this;omega
     rw [this] at hz;simp at hz;subst hz;simp only [List.length_append,List.length_cons,List.length_nil];omega
end Go.Abs
end
section
namespace Go.Abs
open Go
end Go.Abs
end
section
namespace Go.Abs
open Go
theorem bytes_beq (a b:ByteArray):(a==b)=decide (a=b):=by
 cases a;cases b;rw [Bool.eq_iff_iff];simp only [decide_eq_true_eq,ByteArray.mk.injEq];exact beq_iff_eq (α:=Array UInt8)
theorem Qs6 {x y:Int} (hx:0≤x∧x<256) (hy:0≤y∧y<256) (h:x.toNat.toUInt8=y.toNat.toUInt8):x=y:=by
 have:=congrArg UInt8.toNat h;simp only [Nat.toUInt8,UInt8.toNat_ofNat'] at this;omega
theorem Qz3 {r:Int} (h0:1≤r) (h1:r≤50000) :
  (r≤127∧Lib.encodeRuneZ r=[r])∨(128≤r∧r≤2047∧Lib.encodeRuneZ r=[192+r / 64,128+r % 64])∨(2048≤r∧Lib.encodeRuneZ r=[224+r / 4096,128+r / 64 % 64,128+r % 64]):=by
 by_cases h2:r≤127
 ·exact .inl ⟨h2,Lib.encodeRuneZ_one (by omega) h2⟩
 ·by_cases h3:r≤2047
  ·exact .inr (.inl ⟨by omega,h3,Lib.encodeRuneZ_two (by omega) h3⟩)
  ·exact .inr (.inr ⟨by omega,Lib.encodeRuneZ_three (.inl ⟨by omega,by omega⟩)⟩)
theorem Qbam {r q:Int} (hr:1≤r∧r≤50000) (hq:1≤q∧q≤50000) {s t:List UInt8} (h:Lib.encodeRune r++s=Lib.encodeRune q++t):r=q∧s=t:=by
 unfold Lib.encodeRune at h;rcases Qz3 hr.1 hr.2 with ⟨a1,a2⟩|⟨a0,a1,a2⟩|⟨a1,a2⟩<;>rcases Qz3 hq.1 hq.2 with ⟨b1,b2⟩|⟨b0,b1,b2⟩|⟨b1,b2⟩<;>rw [a2,b2] at h <;>
  simp only [List.map_cons,List.map_nil,List.cons_append,List.nil_append,List.cons.injEq] at h
 ·exact ⟨Qs6 (by omega) (by omega) h.1,h.2⟩
 ·have:=Qs6 (by omega) (by omega) h.1;omega
 ·have:=Qs6 (by omega) (by omega) h.1;omega
 ·have:=Qs6 (by omega) (by omega) h.1;omega
 ·have e1:=Qs6 (by omega) (by omega) h.1;have e2:=Qs6 (by omega) (by omega) h.2.1;exact ⟨by omega,h.2.2⟩
 ·have:=Qs6 (by omega) (by omega) h.1;omega
 ·have:=Qs6 (by omega) (by omega) h.1;omega
 ·have:=Qs6 (by omega) (by omega) h.1;omega
 ·have e1:=Qs6 (by omega) (by omega) h.1;have e2:=Qs6 (by omega) (by omega) h.2.1;have e3:=Qs6 (by omega) (by omega) h.2.2.1;exact ⟨by omega,h.2.2.2⟩
theorem Q69 (r:Int):Lib.encodeRune r≠[]:=by
 unfold Lib.encodeRune Lib.encodeRuneZ;split
 ·simp
 ·split
  ·simp
  ·split
   ·simp
   ·split<;>simp
theorem Q9s:∀ {l m:List Int},(∀ x∈l,0≤x∧x<50000)→(∀ x∈m,0≤x∧x<50000)→(l.flatMap fun x=>Lib.encodeRune (x+1))=(m.flatMap fun x=>Lib.encodeRune (x+1))→l=m
 | [],[],_,_,_=>rfl
 | [],y::m,_,_,h=>by
  simp only [List.flatMap_nil,List.flatMap_cons] at h;exact absurd (List.append_eq_nil_iff.1 h.symm).1 (Q69 _)
 | x::l,[],_,_,h=>by
  simp only [List.flatMap_nil,List.flatMap_cons] at h;exact absurd (List.append_eq_nil_iff.1 h).1 (Q69 _)
 | x::l,y::m,hl,hm,h=>by
  simp only [List.flatMap_cons] at h;have hx:=hl x (by simp);have hy:=hm y (by simp);obtain ⟨h1,h2⟩:=Qbam ⟨by omega,by omega⟩ ⟨by omega,by omega⟩ h;rw [Q9s (fun z hz=>hl z (by simp [hz])) (fun z hz=>hm z (by simp [hz])) h2,show x=y from by omega]
theorem Q49 {l m:List Int} (hl:∀ x∈l,0≤x∧x<50000) (hm:∀ x∈m,0≤x∧x<50000) (h:keyB l=keyB m):l=m:=by
 unfold keyB at h;have h:=congrArg (fun b:ByteArray=>b.data.toList) h;simp only [List.toList_toArray] at h;exact Q9s hl hm h
structure KM (S:List (List Int)) (c:List (ByteArray×Int)):Prop where
 has:∀ n,(∀ x∈n,0≤x∧x<50000)→hasM c (keyB n)=decide (n∈S)
 get:∀ n∈S,getM c (keyB n) 0=(S.idxOf n:Int)
 rg:∀ n∈S,∀ x∈n,0≤x∧x<50000
theorem Q2o {β:Type} {v:β} {k k' : ByteArray}:∀ {m:List (ByteArray×β)},hasM (setM m k v) k'=(decide (k'=k)||hasM m k')
 | []=>by simp [setM,hasM,bytes_beq]
 | (q,w)::m=>by
  have ih:=Q2o (v:=v) (k:=k) (k':=k') (m:=m);simp only [setM];by_cases h:k=q
  ·subst h;simp only [bytes_beq,decide_true,if_true,Qq5];by_cases h2:k'=k<;>simp [h2,bytes_beq]
  ·simp only [bytes_beq,h,decide_false,Bool.false_eq_true,if_false,Qq5];rw [ih];cases decide (k'=q)<;>cases decide (k'=k)<;>rfl
theorem Qym {β:Type} {z v:β} {k k' : ByteArray}:∀ {m:List (ByteArray×β)},getM (setM m k v) k' z=if k'=k then v else getM m k' z
 | []=>by simp [setM,getM,bytes_beq]
 | (q,w)::m=>by
  have ih:=Qym (z:=z) (v:=v) (k:=k) (k':=k') (m:=m);simp only [setM];by_cases h:k=q
  ·subst h;simp only [bytes_beq,decide_true,if_true,getM];by_cases h2:k'=k
   ·subst h2;simp
   ·simp [h2]
  ·simp only [bytes_beq,h,decide_false,Bool.false_eq_true,if_false,getM];by_cases h2:k'=q
   ·subst h2;have:¬ k'=k:=fun e=>h e.symm;simp [this]
   ·simp only [h2,decide_false,Bool.false_eq_true,if_false,ih]
theorem KM.first {n:List Int} (hn:∀ x∈n,0≤x∧x<50000):KM [n] (setM ([]:List (ByteArray×Int)) (keyB n) 0):=by
 refine ⟨fun m hm=>?_,fun m hm=>?_,fun m hm=>?_⟩
 ·rw [Q2o];have:hasM ([]:List (ByteArray×Int)) (keyB m)=false:=rfl;rw [this,Bool.or_false];apply decide_eq_decide.2;rw [List.mem_singleton];exact ⟨fun h=>Q49 hm hn h,fun h=>by rw [h]⟩
 ·rw [List.mem_singleton] at hm;subst hm;rw [Qym,if_pos rfl];simp
 ·rw [List.mem_singleton] at hm;subst hm;exact hn
theorem KM.add {S:List (List Int)} {c:List (ByteArray×Int)} (h:KM S c) {n:List Int} (hn:∀ x∈n,0≤x∧x<50000) (hm:n∉S):KM (S++[n]) (setM c (keyB n) (S.length:Int)):=by
 refine ⟨fun m hm'=>?_,fun m hm'=>?_,fun m hm'=>?_⟩
 ·rw [Q2o,h.has m hm',← Bool.decide_or];apply decide_eq_decide.2;rw [List.mem_append,List.mem_singleton];constructor
  ·rintro (e|e)
   ·exact .inr (Q49 hm' hn e)
   ·exact .inl e
  ·rintro (e|e)
   ·exact .inr e
   ·exact .inl (by rw [e])
 ·rw [Qym];rw [List.mem_append,List.mem_singleton] at hm';rcases hm' with hm'|rfl
  ·rw [if_neg (fun e=>hm (by rw [← Q49 (h.rg m hm') hn e];exact hm')),h.get m hm',List.idxOf_append,if_pos hm']
  ·rw [if_pos rfl,List.idxOf_append,if_neg hm];simp
 ·rw [List.mem_append,List.mem_singleton] at hm';rcases hm' with hm'|rfl
  ·exact h.rg m hm'
  ·exact hn
end Go.Abs
end
section
namespace Go.Abs
open Go
def insL (o:List (List Int)) (t:List Int):List (List Int):=if t∈o then o else o++[t]
noncomputable def Qbg8 (a:Qa) (onto est:List Int) (l:List Int):List (Int×List Int):=l.filterMap fun x=>if Qv6 a onto est x=[] then none else some (x,Qv6 a onto est x)
def Qbdc (S:List (List Int)) (row:List (Int×List Int)):List (List Int):=row.foldl (fun o p=>insL o p.2) S
theorem Qbeu {o:List (List Int)} {t x:List Int}:x∈insL o t↔x∈o∨x=t:=by
 unfold insL;split
 ·rename_i h;exact ⟨.inl,fun e=>e.elim id fun e=>by rw [e];exact h⟩
 ·simp
theorem Qban {o:List (List Int)} (h:o.Nodup) (t:List Int):(insL o t).Nodup:=by
 unfold insL;split
 ·exact h
 ·rename_i hn;rw [List.nodup_append];exact ⟨h,by simp,fun x hx y hy e=>by simp at hy;subst hy;subst e;exact hn hx⟩
theorem Q2p:∀ (row:List (Int×List Int)) {S:List (List Int)},S.Nodup→(Qbdc S row).Nodup
 | [],S,h=>h
 | p::row,S,h=>Q2p row (Qban h p.2)
theorem Q7a:∀ (row:List (Int×List Int)) (S:List (List Int)) (x:List Int),x∈Qbdc S row↔x∈S∨∃ p∈row,p.2=x
 | [],S,x=>by simp [Qbdc]
 | p::row,S,x=>by
  show x∈Qbdc (insL S p.2) row↔_;rw [Q7a row,Qbeu];simp only [List.mem_cons,exists_eq_or_imp];constructor
  ·rintro ((h|h)|h)
   ·exact .inl h
   ·exact .inr (.inl h.symm)
   ·exact .inr (.inr h)
  ·rintro (h|h|h)
   ·exact .inl (.inl h)
   ·exact .inl (.inr h.symm)
   ·exact .inr h
theorem Qbdd {a:Qa} {onto est l:List Int} {p:Int×List Int}:p∈Qbg8 a onto est l↔p.1∈l∧p.2=Qv6 a onto est p.1∧p.2≠[]:=by
 obtain ⟨x,n⟩:=p;simp only [Qbg8,List.mem_filterMap];constructor
 ·rintro ⟨y,hy,h⟩;split at h
  ·cases h
  ·rename_i hne;cases h;exact ⟨hy,rfl,hne⟩
 ·rintro ⟨h1,h2,h3⟩;refine ⟨x,h1,?_⟩;subst h2;rw [if_neg h3]
structure Ests (a:Qa) (S:List (List Int)):Prop where
 nd:S.Nodup
 ok:∀ s∈S,Sts a s∧s≠[]
theorem Ests.grow {a:Qa} {S:List (List Int)} (h:Ests a S) (onto est l:List Int):Ests a (Qbdc S (Qbg8 a onto est l)):=by
 refine ⟨Q2p _ h.nd,fun s hs=>?_⟩;rcases (Q7a _ _ _).1 hs with hs|⟨p,hp,rfl⟩
 ·exact h.ok s hs
 ·obtain ⟨_,h2,h3⟩:=Qbdd.1 hp;exact ⟨by rw [h2];exact Q2m _ _ _ _,h3⟩
theorem Qbev {a:Qa} (h:0<a.zH) (onto:List Int):Qwi a onto≠[]:=by
 unfold Qwi;rw [if_neg (by omega)];intro e;have:(0:Int)∈Qs5 a [0] (Ql8 a onto):=Qzi.2 ⟨by omega,.base (by simp)⟩;rw [e] at this;simp at this
theorem Ests.first {a:Qa} (h:0<a.zH) (onto:List Int):Ests a [Qwi a onto] :=
 ⟨by simp,fun s hs=>by simp at hs;subst hs;exact ⟨Qzk _ _,Qbev h onto⟩⟩
theorem Sts.lt {a:Qa} (h:Right a) {l:List Int} (hl:Sts a l):∀ x∈l,0≤x∧x<50000:=fun x hx=>by
 have:=hl.rg x hx;have:=h.st;omega
end Go.Abs
end
section
namespace Go.Abs
open Go
end Go.Abs
end
section
namespace Go.Abs
open Go
section
variable {a b:Qa} {φ:Int→Int} (ha:Right a) (hb:Right b) (h:Like a b φ)
include ha hb h
end
end Go.Abs
end
section
namespace Go.Abs
open Go
def Qbif (b:Qa) (onto:List Int):Prop:=∀ x∈b.zG,x.Event∉onto→x.To=x.From
section
variable {b:Qa} (hb:Right b) {onto:List Int} (hs:Qbif b onto)
include hb hs
end
end Go.Abs
end
section
namespace Go.Abs
open Go
section
variable {b:Qa} (hb:Right b) {onto:List Int} (hs:Qbif b onto)
include hb hs
end
end Go.Abs
end
section
namespace Go.Abs
open Go
end Go.Abs
end
section
namespace Go.Abs
open Go
end Go.Abs
end
section
namespace Go.Abs
open Go
set_option maxRecDepth 100000
set_option maxHeartbeats 4000000
theorem Qbao:Qjn=some true:=by kernel_rfl
end Go.Abs
end
section
namespace Go.Abs
open Go
theorem Q5a {l:List Int} {v:Int} (hs:l.Pairwise (· < ·)) (hl:l.length<big):Qfe l v=some (decide (v∈l)):=by
 unfold Qfe Qbe;obtain ⟨n,h⟩:=Qbc6 (v:=v) hs hl;rw [h];rfl
abbrev Lab:=Qb
def bitE (ev:List Qd) (e:Int):Int:=match getO ev e with
 | some x=>if 0<x.Fault then 2 ^ (x.Fault-1).toNat else 0
 | none=>0
def toL (ev:List Qd) (x:Lab) (y:Qf):Lab:=⟨y.To,orI .i64 x.Classes (bitE ev y.Event)⟩
def Qu0 (o:List Lab) (t:Lab):List Lab:=if t∈o then o else o++[t]
def Qqv (ev:List Qd) (i:Nat) (x:Lab) (c:List Lab×List Qf) (y:Qf):List Lab×List Qf :=
 (Qu0 c.1 (toL ev x y),c.2++[⟨(i:Int),y.Event,((Qu0 c.1 (toL ev x y)).idxOf (toL ev x y):Int)⟩])
def labs (ev:List Qd) (a:Qa):Nat→List Lab×List Int×List Qf
 | 0=>([⟨0,0⟩],[],[])
 | n+1=>match (labs ev a n).1[n]? with
  | some x=>(((outP a x.State).foldl (Qqv ev n x) ((labs ev a n).1,(labs ev a n).2.2)).1,if x.State∈a.zF then (labs ev a n).2.1++[(n:Int)] else (labs ev a n).2.1,((outP a x.State).foldl (Qqv ev n x) ((labs ev a n).1,(labs ev a n).2.2)).2)
  | none=>labs ev a n
structure Plt (ev:List Qd) (a:Qa):Prop where
 r:Right a
 st:a.zH≤200
 al:∀ x∈a.zD,x<ev.length
 flt:∀ x∈ev,0≤x.Fault∧x.Fault≤4
 chk:Qf3 ev=some 0
 len:ev.length≤32
theorem Qbig:((List.range 16).all fun c=>(List.range 16).all fun b=>decide (0≤orI .i64 (c:Int) (b:Int)∧orI .i64 (c:Int) (b:Int)<16)&&decide (orI .i64 (c:Int) 0=(c:Int)))=true:=by kernel_rfl
theorem Qbih {c b:Int} (hc:0≤c∧c<16) (hb:0≤b∧b<16):(0≤orI .i64 c b∧orI .i64 c b<16)∧orI .i64 c 0=c:=by
 have h:=List.all_eq_true.1 (List.all_eq_true.1 Qbig c.toNat (by simp;omega)) b.toNat (by simp;omega);rw [show ((c.toNat:Nat):Int)=c from by omega,show ((b.toNat:Nat):Int)=b from by omega] at h;simpa using h
theorem Qbfq {ev:List Qd} {a:Qa} (h:Plt ev a) (e:Int):0≤bitE ev e∧bitE ev e<16:=by
 unfold bitE;cases hx:getO ev e with
 | none=>simp
 | some x =>
  have hm:=h.flt x (List.mem_of_getElem? (Qjq.1 hx).2);dsimp only;split
  ·obtain ⟨h1,h2⟩:=hm;have:x.Fault=1∨x.Fault=2∨x.Fault=3∨x.Fault=4:=by omega
   rcases this with e|e|e|e<;>rw [e]<;>decide
  ·simp
theorem Qyn {o:List Lab} {t x:Lab}:x∈Qu0 o t↔x∈o∨x=t:=by
 unfold Qu0;split
 ·rename_i h;exact ⟨.inl,fun e=>e.elim id fun e=>by rw [e];exact h⟩
 ·simp
theorem Qbde (o:List Lab) (t:Lab):o <+: Qu0 o t:=by
 unfold Qu0;split
 ·exact List.prefix_refl o
 ·exact List.prefix_append o _
theorem Qbg9 {o F:List Lab} (h:o <+: F) {t:Lab} (ht:t∈o):F.idxOf t=o.idxOf t:=by
 obtain ⟨r,rfl⟩:=h;rw [List.idxOf_append,if_pos ht]
structure LbI (a:Qa) (S:List Lab):Prop where
 nd:S.Nodup
 ok:∀ x∈S,(0≤x.State∧x.State<a.zH)∧0≤x.Classes∧x.Classes<16
theorem LbI.len {a:Qa} {S:List Lab} (h:LbI a S):S.length≤16*a.zH.toNat:=by
 have hn:(S.map fun x=>x.State*16+x.Classes).Nodup:=by
  refine List.pairwise_map.2 ((List.Pairwise.and_mem.1 h.nd).imp fun {x y} ⟨hx,hy,hne⟩ e=>hne ?_);obtain ⟨p1,p2⟩:=h.ok x hx;obtain ⟨q1,q2⟩:=h.ok y hy;obtain ⟨s,c⟩:=x;obtain ⟨s',c'⟩:=y;simp only [Qb.mk.injEq];dsimp only at *
  omega
 have:=Q68 (N:=16*a.zH.toNat) hn (fun x hx=>by
  obtain ⟨y,hy,rfl⟩:=List.mem_map.1 hx;obtain ⟨p1,p2⟩:=h.ok y hy;omega)
 simpa using this
theorem LbI.add {a:Qa} {S:List Lab} (h:LbI a S) {t:Lab} (ht:(0≤t.State∧t.State<a.zH)∧0≤t.Classes∧t.Classes<16):LbI a (Qu0 S t):=by
 refine ⟨?_,fun x hx=>(Qyn.1 hx).elim (h.ok x) (fun e=>by rw [e];exact ht)⟩;unfold Qu0;split
 ·exact h.nd
 ·rename_i hn;rw [List.nodup_append];exact ⟨h.nd,by simp,fun x hx y hy e=>by simp at hy;subst hy;subst e;exact hn hx⟩
theorem LbI.to {ev:List Qd} {a:Qa} (hp:Plt ev a) {S:List Lab} (h:LbI a S) {x:Lab} (hx:x∈S) {y:Qf} (hy:y∈a.zG):(0≤(toL ev x y).State∧(toL ev x y).State<a.zH)∧0≤(toL ev x y).Classes∧(toL ev x y).Classes<16:=by
 have he:=hp.r.ed0 y hy;exact ⟨⟨he.2.2.1,he.2.2.2.1⟩,(Qbih (h.ok x hx).2 (Qbfq hp y.Event)).1⟩
theorem Q0q {ev:List Qd} {i:Nat} {x:Lab}:∀ (ys:List Qf) (c:List Lab×List Qf),c.1 <+: (ys.foldl (Qqv ev i x) c).1
 | [],c=>List.prefix_refl _
 | y::ys,c=>(Qbde c.1 (toL ev x y)).trans (Q0q ys (Qqv ev i x c y))
theorem Q9t {ev:List Qd} {i:Nat} {x:Lab}:∀ (ys:List Qf) (c:List Lab×List Qf),∀ y∈ys,toL ev x y∈(ys.foldl (Qqv ev i x) c).1
 | [],c,y,hy=>by cases hy
 | z::ys,c,y,hy=>by
  rcases List.mem_cons.1 hy with rfl|hy
  ·exact (Q0q ys (Qqv ev i x c y)).subset (Qyn.2 (.inr rfl))
  ·exact Q9t ys _ y hy
theorem Q9u {ev:List Qd} {i:Nat} {x:Lab}:∀ (ys:List Qf) (c:List Lab×List Qf),
  (ys.foldl (Qqv ev i x) c).2=c.2++ys.map fun y=>⟨(i:Int),y.Event,((ys.foldl (Qqv ev i x) c).1.idxOf (toL ev x y):Int)⟩
 | [],c=>by simp
 | y::ys,c=>by
  rw [List.foldl_cons,Q9u ys,List.map_cons];have h1:((ys.foldl (Qqv ev i x) (Qqv ev i x c y)).1.idxOf (toL ev x y))=(Qu0 c.1 (toL ev x y)).idxOf (toL ev x y):=Qbg9 (Q0q ys (Qqv ev i x c y)) (Qyn.2 (.inr rfl));rw [h1];simp [Qqv]
theorem Q9v {ev:List Qd} {a:Qa} (hp:Plt ev a) {i:Nat} {x:Lab}:∀ (ys:List Qf) (c:List Lab×List Qf),LbI a c.1→x∈c.1→(∀ y∈ys,y∈a.zG)→LbI a (ys.foldl (Qqv ev i x) c).1
 | [],c,h,_,_=>h
 | y::ys,c,h,hx,hy=>Q9v hp ys _ (h.add (h.to hp hx (hy y (by simp)))) (Qyn.2 (.inl hx)) (fun z hz=>hy z (by simp [hz]))
section
variable {ev:List Qd} {a:Qa}
theorem Q7b (n:Nat):(labs ev a n).1 <+: (labs ev a (n+1)).1:=by
 show _ <+: (match (labs ev a n).1[n]? with|some x=>_|none=>_:List Lab×List Int×List Qf).1;split
 ·dsimp only;exact Q0q (outP a _) ((labs ev a n).1,(labs ev a n).2.2)
 ·exact List.prefix_refl _
theorem Q0r (hp:Plt ev a) (h0:0<a.zH):∀ n,LbI a (labs ev a n).1
 | 0=>⟨by simp [labs],fun x hx=>by simp [labs] at hx;subst hx;simp;omega⟩
 | n+1=>by
  have ih:=Q0r hp h0 n;show LbI a (match (labs ev a n).1[n]? with|some x=>_|none=>_:List Lab×List Int×List Qf).1;split
  ·rename_i x hx;exact Q9v hp _ _ ih (List.mem_of_getElem? hx) (fun y hy=>(List.mem_filter.1 hy).1)
  ·exact ih
theorem Qyo (hp:Plt ev a) (h0:0<a.zH) (n:Nat):(labs ev a n).1.length≤3200:=by
 have:=(Q0r hp h0 n).len;have:=hp.st;omega
def LabN (ev:List Qd) (a:Qa) (N:Nat):Prop:=(labs ev a N).1.length=N∧∀ n<N,n<(labs ev a n).1.length
theorem Qbha (hp:Plt ev a) (h0:0<a.zH):∃ N,LabN ev a N:=by
 have key:∀ m,(labs ev a m).1.length≤m→∃ N,LabN ev a N:=by
  intro m
  induction m using Nat.strongRecOn with
  | ind m ih =>
   intro h1;by_cases hex:∃ n,n<m∧(labs ev a n).1.length≤n
   ·obtain ⟨n,hn,h⟩:=hex;exact ih n hn h
   ·have hlt:∀ n<m,n<(labs ev a n).1.length:=fun n hn=>by
     rcases Nat.lt_or_ge n (labs ev a n).1.length with h|h
     ·exact h
     ·exact absurd ⟨n,hn,h⟩ hex
    refine ⟨m,?_,hlt⟩;cases m with
    | zero=>simp [labs] at h1
    | succ k =>
     have:=hlt k (by omega);have:=(Q7b (ev:=ev) (a:=a) k).length_le;omega
 exact key 3200 (Qyo hp h0 _)
theorem LabN.le (hp:Plt ev a) (h0:0<a.zH) {N:Nat} (h:LabN ev a N):N≤3200:=by have:=Qyo hp h0 N;have:=h.1;omega
def labA (ev:List Qd) (a:Qa) (N:Nat):Qa:=⟨a.zD,(N:Int),(labs ev a N).2.1,(labs ev a N).2.2⟩
theorem Q5b {n:Nat} (h:n<(labs ev a n).1.length):∃ x,(labs ev a n).1[n]? = some x∧labs ev a (n+1)=(((outP a x.State).foldl (Qqv ev n x) ((labs ev a n).1,(labs ev a n).2.2)).1,if x.State∈a.zF then (labs ev a n).2.1++[(n:Int)] else (labs ev a n).2.1,((outP a x.State).foldl (Qqv ev n x) ((labs ev a n).1,(labs ev a n).2.2)).2):=by
 refine ⟨_,List.getElem?_eq_getElem h,?_⟩;show (match (labs ev a n).1[n]? with|some x=>_|none=>_:List Lab×List Int×List Qf)=_;rw [List.getElem?_eq_getElem h]
theorem Q9w (h:Right a) (s:Int):(outP a s).Pairwise fun x y=>x.Event<y.Event:=by
 have h1:(outP a s).Pairwise Qm9:=h.ed.filter _;refine (List.Pairwise.and_mem.1 h1).imp fun {x y} ⟨hx,hy,hk⟩=>?_;have e1:x.From=s:=by simpa using (List.mem_filter.1 hx).2
 have e2:y.From=s:=by simpa using (List.mem_filter.1 hy).2
 unfold Qm9 at hk;omega
structure LabI (ev:List Qd) (a:Qa) (n:Nat):Prop where
 mr:∀ x∈(labs ev a n).2.1,0≤x∧x<n
 ms:(labs ev a n).2.1.Pairwise (· < ·)
 er:∀ x∈(labs ev a n).2.2,0≤x.From∧x.From<n∧0≤x.To∧x.To<((labs ev a n).1.length:Nat)∧x.Event∈a.zD
 es:(labs ev a n).2.2.Pairwise Qm9
 el:(labs ev a n).2.2.length≤32*n
theorem Q8a (h:Right a) (s:Int):(outP a s).length≤32:=by
 have h1:=Q9w h s;have h2:((outP a s).map (·.Event)).Pairwise (· < ·):=List.pairwise_map.2 h1;have:=Qgl (a:=0) (b:=32) h2 fun x hx=>by
  obtain ⟨y,hy,rfl⟩:=List.mem_map.1 hx;exact h.al0 _ (h.ed0 y ((List.mem_filter.1 hy).1)).2.2.2.2
 simpa using this
theorem labI (hp:Plt ev a):∀ n,n≤(labs ev a n).1.length→(∀ m<n,m<(labs ev a m).1.length)→LabI ev a n
 | 0,_,_=>⟨by simp [labs],by simp [labs],by simp [labs],by simp [labs],by simp [labs]⟩
 | n+1,_,hlt=>by
  have hn:=hlt n (by omega);have ih:=labI hp n (by omega) (fun m hm=>hlt m (by omega));obtain ⟨x,hx,e⟩:=Q5b hn;have hpre:=Q7b (ev:=ev) (a:=a) n;have hle:=hpre.length_le;have hE:(labs ev a (n+1)).2.2=(labs ev a n).2.2++(outP a x.State).map fun y=>⟨(n:Int),y.Event,((labs ev a (n+1)).1.idxOf (toL ev x y):Int)⟩:=by
   rw [e];exact Q9u _ _
  have hM:(labs ev a (n+1)).2.1=if x.State∈a.zF then (labs ev a n).2.1++[(n:Int)] else (labs ev a n).2.1:=by rw [e]
  have hmem:∀ y∈outP a x.State,toL ev x y∈(labs ev a (n+1)).1:=by rw [e];exact Q9t _ _
  refine ⟨?_,?_,?_,?_,?_⟩
  ·intro z hz;rw [hM] at hz;have:z∈(labs ev a n).2.1∨z=(n:Int):=by split at hz<;>simp_all
   rcases this with h|h
   ·have:=ih.mr z h;omega
   ·omega
  ·rw [hM];split
   ·rw [List.pairwise_append];refine ⟨ih.ms,by simp,fun p hp q hq=>?_⟩;have:=ih.mr p hp;simp at hq;omega
   ·exact ih.ms
  ·intro z hz;rw [hE] at hz;rcases List.mem_append.1 hz with h|h
   ·have:=ih.er z h;exact ⟨this.1,by omega,this.2.2.1,by omega,this.2.2.2.2⟩
   ·obtain ⟨y,hy,rfl⟩:=List.mem_map.1 h;have hi:=List.idxOf_lt_length_iff.2 (hmem y hy);exact ⟨by simp,by simp;omega,by simp,by simp;exact hi,(hp.r.ed0 y ((List.mem_filter.1 hy).1)).2.2.2.2⟩
  ·rw [hE,List.pairwise_append];refine ⟨ih.es,List.pairwise_map.2 ((Q9w hp.r _).imp fun h=>.inr ⟨rfl,h⟩),fun p hp' q hq=>?_⟩;obtain ⟨y,hy,rfl⟩:=List.mem_map.1 hq;have:=ih.er p hp';exact .inl this.2.1
  ·rw [hE,List.length_append,List.length_map];have:=ih.el;have:=Q8a hp.r x.State;omega
theorem LabN.labI (hp:Plt ev a) {N:Nat} (h:LabN ev a N):LabI ev a N:=Go.Abs.labI hp N (by have:=h.1;omega) h.2
theorem Qbap (hp:Plt ev a) (h0:0<a.zH) {N:Nat} (h:LabN ev a N):Right (labA ev a N):=by
 have hi:=h.labI hp;have hl:=h.le hp h0;have he:=hi.er;rw [h.1] at he;exact ⟨hp.r.al0,hp.r.al,⟨by simp [labA],by simp [labA];omega⟩,hi.mr,hi.ms,he,hi.es⟩
end
end Go.Abs
end
